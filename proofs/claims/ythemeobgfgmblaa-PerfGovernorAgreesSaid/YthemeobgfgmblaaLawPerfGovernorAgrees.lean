/- The law PerfGovernorAgrees: its row, out of its pure statement and the walk. -/
import Derived.Test.YthemeobgfgmblaaRows
import Derived.Test.YthemeobgfgmblaaFd
import Derived.Test.YthemeobgfgmblaaFcPerfGovernorAgrees
import Derived.Test.YthemeobgfgmblaaQ
import Derived.WalkKit
import Derived.ProofKit
import Derived.OpenShut
import Derived.ShutString
import Derived.ChangeOld
import Derived.Below
import Derived.SizedLaws
namespace Go.Proofs.Ythemeobgfgmblaa.perfGovernorAgrees
open Go Go.Sx Go.Proofs.Ythemeobgfgmblaa.X
open Go.ChangeShapes Go.WideShapes Go.ChangeAt Go.RowKit
set_option linter.unusedVariables false
theorem own : ownKnob Try.prog.godebug = none := by kernel_rfl
theorem laidOut : laidOutB Try.prog = true := by kernel_rfl
set_option maxRecDepth 100000 in
theorem lifted (os : Os) (started : os.Started) (H : Type) (enc : TypeId × Value → H) :
    ReturnsInHanded {} Try.checked os 10 .any (Rows.perfGovernorAgreesSpec.pre6 enc Try.prog Try.f10 Rows.perfGovernorAgreesRow.domain false) (Rows.perfGovernorAgreesSpec.post enc Try.prog Try.f10 false true false false) := by
  refine returnsInHanded_of_change_sized (C := Try.checked) own started (by kernel_rfl) Try.func10
    (ChangeSpec.witness6 (enc := enc) (C := Try.checked) false ⟨#[], #[.slice none 0 0, .agg #[.int .i64 0, .int .i64 0, .int .i64 0], .slice none 0 0], []⟩ 8 (by kernel_rfl) (by kernel_rfl) (by kernel_rfl) (by kernel_rfl)) ?_
  intro W base args ds gs before hval0 hW hcnd hsz0 _
  have hval : ∀ (j : Nat) t v, Try.f10.params[j]? = some t → args[j]? = some v → Value.okWide Try.prog W .any base t v := hval0
  have hW' := hW
  obtain ⟨p, q, hA0, hV, rfl, hfz, hnd⟩ := hW
  have hA : DataW.TrodAll enc Try.prog W 0 (fun _ => true) true Try.f10.params.toList args.toList ds p := hA0
  rw [Try.params10] at hA hval
  obtain ⟨v0, vs0, d0, ds0, p0, q0, hargs, rfl, rfl, h0, r0⟩ := trodAll_cons hA
  obtain ⟨v1, vs1, d1, ds1, p1, q1, rfl, rfl, rfl, h1, r1⟩ := trodAll_cons r0
  obtain ⟨v2, vs2, d2, ds2, p2, q2, rfl, rfl, rfl, h2, r2⟩ := trodAll_cons r1
  obtain ⟨rfl, rfl, rfl⟩ := trodAll_nil r2
  obtain rfl : args = #[v0, v1, v2] := by cases args; simp_all
  obtain ⟨rfl, rfl⟩ := trodVars_none hV
  have k0 := h0
  have lt0 : ∀ x ∈ p0, x.block < W.heap.size := by obtain ⟨m, hm⟩ := k0; exact DataW.trod_lt m _ _ _ hm
  obtain ⟨a0, ok0, wf0, fs0, len0⟩ := open_rsl ri_25 Try.underlying22 h0 (hval 0 22 v0 rfl rfl)
  have k1 := h1
  have lt1 : ∀ x ∈ p1, x.block < W.heap.size := by obtain ⟨m, hm⟩ := k1; exact DataW.trod_lt m _ _ _ hm
  obtain ⟨a1, rfl, wf1⟩ := open_flat ri_45 Try.underlying45 h1 (hval 1 45 v1 rfl rfl)
  have k2 := h2
  have lt2 : ∀ x ∈ p2, x.block < W.heap.size := by obtain ⟨m, hm⟩ := k2; exact DataW.trod_lt m _ _ _ hm
  obtain ⟨a2, ok2, wf2, fs2, len2⟩ := open_rsl ri_3 Try.underlying52 h2 (hval 2 52 v2 rfl rfl)
  clear hA0 hval0 hsz0
  obtain ⟨k, hp⟩ := purePerfGovernorAgrees a0 a1 a2 (len_le len0) wf0 wf1 (len_le len2) wf2
  refine (law36_PerfGovernorAgrees.calls k a0 a1 a2 v0 v2 (St.refl none_ W) (Sr.arg ok0 fs0 (Sr.arg ok2 fs2 (Sr.nil _ _))) hp).mono fun e W' he => ?_
  obtain ⟨_, rfl, rfl, st⟩ := he
  have bel := st.below
  exact ⟨_, rfl, _, _, _, [], _, [], hW', trodAll_mk1 (shut_bool Try.underlying4 _), (trodAll_cons_mk (Below.trod laidOut (by kernel_rfl) (of_decide_eq_true (by kernel_rfl)) k0 bel lt0) (trodAll_cons_mk (Below.trod laidOut (by kernel_rfl) (of_decide_eq_true (by kernel_rfl)) k1 bel lt1) (trodAll_cons_mk (Below.trod laidOut (by kernel_rfl) (of_decide_eq_true (by kernel_rfl)) k2 bel lt2) trodAll_mk0))), rfl, bel.frame _, fun h => by cases h⟩
theorem over : Rows.perfGovernorAgreesRow.holds Try.pinned (OpenSpec.ofChange Rows.perfGovernorAgreesSpec) :=
  OpenClaim.holds_of_wide 10 Try.f10 rfl rfl rfl rfl rfl rfl rfl ⟨rfl, rfl, rfl, rfl, rfl⟩ rfl rfl rfl rfl rfl (by kernel_rfl) Try.func10 (by kernel_rfl)
    (of_decide_eq_true (by kernel_rfl)) (by unfold Func.isWrapper; first | (rw [if_pos (by decide +kernel)]; kernel_rfl) | (rw [if_neg (by decide +kernel)]; exact ⟨rfl, rfl⟩))
    (fun os started H enc _ => lifted os started H enc)
theorem proved : Rows.PerfGovernorAgreesSaid := over
end Go.Proofs.Ythemeobgfgmblaa.perfGovernorAgrees
namespace Go.Proofs.Ythemeobgfgmblaa
/-- The row, under a short name, for the claim. -/
theorem perfGovernorAgrees_holds : Rows.PerfGovernorAgreesSaid := perfGovernorAgrees.proved
end Go.Proofs.Ythemeobgfgmblaa
