/- The law IospaceMatchesModel: its row, out of its pure statement and the walk. -/
import Derived.Test.YtigadacjaglfeaaRows
import Derived.Test.YtigadacjaglfeaaFd
import Derived.Test.YtigadacjaglfeaaFcIospaceMatchesModel
import Derived.Test.YtigadacjaglfeaaQ
import Derived.WalkKit
import Derived.ProofKit
import Derived.OpenShut
import Derived.ShutString
import Derived.ChangeOld
import Derived.Below
import Derived.SizedLaws
namespace Go.Proofs.Ytigadacjaglfeaa.iospaceMatchesModel
open Go Go.Sx Go.Proofs.Ytigadacjaglfeaa.X
open Go.ChangeShapes Go.WideShapes Go.ChangeAt Go.RowKit
set_option linter.unusedVariables false
theorem own : ownKnob Try.prog.godebug = none := by kernel_rfl
theorem laidOut : laidOutB Try.prog = true := by kernel_rfl
set_option maxRecDepth 100000 in
theorem lifted (os : Os) (started : os.Started) (H : Type) (enc : TypeId × Value → H) :
    ReturnsInHanded {} Try.checked os 6 .any (Rows.iospaceMatchesModelSpec.pre6 enc Try.prog Try.f6 Rows.iospaceMatchesModelRow.domain false) (Rows.iospaceMatchesModelSpec.post enc Try.prog Try.f6 false true false false) := by
  refine returnsInHanded_of_change_sized (C := Try.checked) own started (by kernel_rfl) Try.func6
    (ChangeSpec.witness6 (enc := enc) (C := Try.checked) false ⟨#[], #[.slice none 0 0], []⟩ 8 (by kernel_rfl) (by kernel_rfl) (by kernel_rfl) (by kernel_rfl)) ?_
  intro W base args ds gs before hval0 hW hcnd hsz0 _
  have hval : ∀ (j : Nat) t v, Try.f6.params[j]? = some t → args[j]? = some v → Value.okWide Try.prog W .any base t v := hval0
  have hW' := hW
  obtain ⟨p, q, hA0, hV, rfl, hfz, hnd⟩ := hW
  have hA : DataW.TrodAll enc Try.prog W 0 (fun _ => true) true Try.f6.params.toList args.toList ds p := hA0
  rw [Try.params6] at hA hval
  obtain ⟨v0, vs0, d0, ds0, p0, q0, hargs, rfl, rfl, h0, r0⟩ := trodAll_cons hA
  obtain ⟨rfl, rfl, rfl⟩ := trodAll_nil r0
  obtain rfl : args = #[v0] := by cases args; simp_all
  obtain ⟨rfl, rfl⟩ := trodVars_none hV
  have k0 := h0
  have lt0 : ∀ x ∈ p0, x.block < W.heap.size := by obtain ⟨m, hm⟩ := k0; exact DataW.trod_lt m _ _ _ hm
  obtain ⟨a0, ok0, wf0, fs0, len0⟩ := open_rsl ri_43 Try.underlying40 h0 (hval 0 40 v0 rfl rfl)
  clear hA0 hval0 hsz0
  obtain ⟨k, hp⟩ := pureIospaceMatchesModel a0 (len_le len0) wf0
  refine (law09_IospaceMatchesModel.calls k a0 v0 (St.refl none_ W) (Sr.arg ok0 fs0 (Sr.nil _ _)) hp).mono fun e W' he => ?_
  obtain ⟨_, rfl, rfl, st⟩ := he
  have bel := st.below
  exact ⟨_, rfl, _, _, _, [], _, [], hW', trodAll_mk1 (shut_bool Try.underlying4 _), (trodAll_cons_mk (Below.trod laidOut (by kernel_rfl) (of_decide_eq_true (by kernel_rfl)) k0 bel lt0) trodAll_mk0), rfl, bel.frame _, fun h => by cases h⟩
theorem over : Rows.iospaceMatchesModelRow.holds Try.pinned (OpenSpec.ofChange Rows.iospaceMatchesModelSpec) :=
  OpenClaim.holds_of_wide 6 Try.f6 rfl rfl rfl rfl rfl rfl rfl ⟨rfl, rfl, rfl, rfl, rfl⟩ rfl rfl rfl rfl rfl (by kernel_rfl) Try.func6 (by kernel_rfl)
    (of_decide_eq_true (by kernel_rfl)) (by unfold Func.isWrapper; first | (rw [if_pos (by decide +kernel)]; kernel_rfl) | (rw [if_neg (by decide +kernel)]; exact ⟨rfl, rfl⟩))
    (fun os started H enc _ => lifted os started H enc)
theorem proved : Rows.IospaceMatchesModelSaid := over
end Go.Proofs.Ytigadacjaglfeaa.iospaceMatchesModel
namespace Go.Proofs.Ytigadacjaglfeaa
/-- The row, under a short name, for the claim. -/
theorem iospaceMatchesModel_holds : Rows.IospaceMatchesModelSaid := iospaceMatchesModel.proved
end Go.Proofs.Ytigadacjaglfeaa
