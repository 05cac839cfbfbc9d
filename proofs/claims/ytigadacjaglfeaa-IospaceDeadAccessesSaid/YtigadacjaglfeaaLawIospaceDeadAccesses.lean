/- The law IospaceDeadAccesses: its row, out of its pure statement and the walk. -/
import Derived.Test.YtigadacjaglfeaaRows
import Derived.Test.YtigadacjaglfeaaFd
import Derived.Test.YtigadacjaglfeaaFcIospaceDeadAccesses
import Derived.Test.YtigadacjaglfeaaQ
import Derived.WalkKit
import Derived.ProofKit
import Derived.OpenShut
import Derived.ShutString
import Derived.ChangeOld
import Derived.Below
import Derived.SizedLaws
namespace Go.Proofs.Ytigadacjaglfeaa.iospaceDeadAccesses
open Go Go.Sx Go.Proofs.Ytigadacjaglfeaa.X
open Go.ChangeShapes Go.WideShapes Go.ChangeAt Go.RowKit
set_option linter.unusedVariables false
theorem own : ownKnob Try.prog.godebug = none := by kernel_rfl
theorem laidOut : laidOutB Try.prog = true := by kernel_rfl
set_option maxRecDepth 100000 in
theorem lifted (os : Os) (started : os.Started) (H : Type) (enc : TypeId × Value → H) :
    ReturnsInHanded {} Try.checked os 7 .any (Rows.iospaceDeadAccessesSpec.pre6 enc Try.prog Try.f7 Rows.iospaceDeadAccessesRow.domain false) (Rows.iospaceDeadAccessesSpec.post enc Try.prog Try.f7 false true false false) := by
  refine returnsInHanded_of_change_sized (C := Try.checked) own started (by kernel_rfl) Try.func7
    (ChangeSpec.witness6 (enc := enc) (C := Try.checked) false ⟨#[], #[.slice none 0 0, .agg #[.int .i64 0, .int .i64 0, .int .u64 0, .int .u64 0, .int .i64 0, .int .i64 0, .bool false, .int .u64 0, .bool false]], []⟩ 8 (by kernel_rfl) (by kernel_rfl) (by kernel_rfl) (by kernel_rfl)) ?_
  intro W base args ds gs before hval0 hW hcnd hsz0 _
  have hval : ∀ (j : Nat) t v, Try.f7.params[j]? = some t → args[j]? = some v → Value.okWide Try.prog W .any base t v := hval0
  have hW' := hW
  obtain ⟨p, q, hA0, hV, rfl, hfz, hnd⟩ := hW
  have hA : DataW.TrodAll enc Try.prog W 0 (fun _ => true) true Try.f7.params.toList args.toList ds p := hA0
  rw [Try.params7] at hA hval
  obtain ⟨v0, vs0, d0, ds0, p0, q0, hargs, rfl, rfl, h0, r0⟩ := trodAll_cons hA
  obtain ⟨v1, vs1, d1, ds1, p1, q1, rfl, rfl, rfl, h1, r1⟩ := trodAll_cons r0
  obtain ⟨rfl, rfl, rfl⟩ := trodAll_nil r1
  obtain rfl : args = #[v0, v1] := by cases args; simp_all
  obtain ⟨rfl, rfl⟩ := trodVars_none hV
  have k0 := h0
  have lt0 : ∀ x ∈ p0, x.block < W.heap.size := by obtain ⟨m, hm⟩ := k0; exact DataW.trod_lt m _ _ _ hm
  obtain ⟨a0, ok0, wf0, fs0, len0⟩ := open_rsl ri_43 Try.underlying40 h0 (hval 0 40 v0 rfl rfl)
  have k1 := h1
  have lt1 : ∀ x ∈ p1, x.block < W.heap.size := by obtain ⟨m, hm⟩ := k1; exact DataW.trod_lt m _ _ _ hm
  obtain ⟨a1, rfl, wf1⟩ := open_flat ri_43 Try.underlying43 h1 (hval 1 43 v1 rfl rfl)
  clear hA0 hval0 hsz0
  obtain ⟨k, hp⟩ := pureIospaceDeadAccesses a0 a1 (len_le len0) wf0 wf1
  refine (law09_IospaceDeadAccesses.calls k a0 a1 v0 (St.refl none_ W) (Sr.arg ok0 fs0 (Sr.nil _ _)) hp).mono fun e W' he => ?_
  obtain ⟨_, rfl, rfl, st⟩ := he
  have bel := st.below
  exact ⟨_, rfl, _, _, _, [], _, [], hW', trodAll_mk1 (shut_bool Try.underlying4 _), (trodAll_cons_mk (Below.trod laidOut (by kernel_rfl) (of_decide_eq_true (by kernel_rfl)) k0 bel lt0) (trodAll_cons_mk (Below.trod laidOut (by kernel_rfl) (of_decide_eq_true (by kernel_rfl)) k1 bel lt1) trodAll_mk0)), rfl, bel.frame _, fun h => by cases h⟩
theorem over : Rows.iospaceDeadAccessesRow.holds Try.pinned (OpenSpec.ofChange Rows.iospaceDeadAccessesSpec) :=
  OpenClaim.holds_of_wide 7 Try.f7 rfl rfl rfl rfl rfl rfl rfl ⟨rfl, rfl, rfl, rfl, rfl⟩ rfl rfl rfl rfl rfl (by kernel_rfl) Try.func7 (by kernel_rfl)
    (of_decide_eq_true (by kernel_rfl)) (by unfold Func.isWrapper; first | (rw [if_pos (by decide +kernel)]; kernel_rfl) | (rw [if_neg (by decide +kernel)]; exact ⟨rfl, rfl⟩))
    (fun os started H enc _ => lifted os started H enc)
theorem proved : Rows.IospaceDeadAccessesSaid := over
end Go.Proofs.Ytigadacjaglfeaa.iospaceDeadAccesses
namespace Go.Proofs.Ytigadacjaglfeaa
/-- The row, under a short name, for the claim. -/
theorem iospaceDeadAccesses_holds : Rows.IospaceDeadAccessesSaid := iospaceDeadAccesses.proved
end Go.Proofs.Ytigadacjaglfeaa
