/- Each function of the machine comes to what its pure function says. -/
import Derived.Test.YtannodkbindlbaaFb
namespace Go.Proofs.Ytannodkbindlbaa.X
open Go Go.RowKit Go.Sx
set_option linter.unusedVariables false

set_option maxRecDepth 100000 in
theorem thermal_validActors_1.calls {M : Nat → Prop} {w0 : World} (k : Nat) (a0 : Actor) {r : Bool} (hs : St M w0 w0 []) (hr : Sr M w0 [])
    (h : thermal_validActors_1.f k a0 = some r) : Calls Try.prog 50 #[.agg #[.int .u64 a0.Request, .int .u64 a0.Min, .int .u64 a0.Max]] w0 fun e w => ∃ v, e = .returned v ∧ (.bool r = v ∧ St M w0 w []) := by
  have H := (thermal_validActors_1.f.eq_1 ..).symm.trans h
  clear h
  refine enter Try.func50 rfl Try.ntmps50 rfl (fun a hf => ?_)
  refine seq_reg (fun K2 hK2 => ?_)
  refine stepV hf rfl rfl rfl (er_box (cs := [.int .u64 a0.Request, .int .u64 a0.Min, .int .u64 a0.Max]) hs hf rfl rfl) (fun v w hR a hf => ?_)
  obtain ⟨b1, rfl, hs⟩ := hR
  refine stq hf rfl rfl rfl (ex_assign hf rfl) (fun a hf => ?_)
  refine hK2 _ _ ?_
  refine itt H (fun hc3 H => ?_) (fun hc3 H => ?_)
  · -- a0.Max < a0.Min
    refine seq_reg (fun K4 hK4 => ?_)
    refine stq hf rfl rfl rfl (ex_fieldAddrB fa_69_1 rfl hf rfl) (fun a hf => ?_)
    refine stq hf rfl rfl rfl (ex_load sc_23 hf rfl (bx_cell (hs.get (i := 0) rfl) _ rfl)) (fun a hf => ?_)
    refine stq hf rfl rfl rfl (ex_fieldAddrB fa_69_2 rfl hf rfl) (fun a hf => ?_)
    refine stq hf rfl rfl rfl (ex_load sc_23 hf rfl (bx_cell (hs.get (i := 0) rfl) _ rfl)) (fun a hf => ?_)
    refine stq hf rfl rfl rfl (ex_gtr hf rfl rfl) (fun a hf => ?_)
    refine stq hf rfl rfl rfl (ex_move hf rfl) (fun a hf => ?_)
    replace hf := hf.castB (t := 7) rfl (dec_t hc3)
    replace hf := hf.castB (t := 8) rfl (dec_t hc3)
    refine stepN hf rfl rfl rfl (fun a hf => ?_)
    refine stepN hf rfl rfl rfl (fun a hf => ?_)
    refine stepN hf rfl rfl rfl (fun a hf => ?_)
    refine stq hf rfl rfl rfl (ex_pickT hf rfl rfl) (fun a hf => ?_)
    refine stq hf rfl rfl rfl (ex_assign hf rfl) (fun a hf => ?_)
    refine hK4 _ _ ?_
    refine wp_ret ?_
    have eR := some_eq H; subst eR
    replace hs := hs.keep (.d .nil)
    exact ret1 Try.results50 hf rfl ⟨_, rfl, ⟨rfl, hs⟩⟩
  · -- not a0.Max < a0.Min
    refine seq_reg (fun K5 hK5 => ?_)
    refine stq hf rfl rfl rfl (ex_fieldAddrB fa_69_1 rfl hf rfl) (fun a hf => ?_)
    refine stq hf rfl rfl rfl (ex_load sc_23 hf rfl (bx_cell (hs.get (i := 0) rfl) _ rfl)) (fun a hf => ?_)
    refine stq hf rfl rfl rfl (ex_fieldAddrB fa_69_2 rfl hf rfl) (fun a hf => ?_)
    refine stq hf rfl rfl rfl (ex_load sc_23 hf rfl (bx_cell (hs.get (i := 0) rfl) _ rfl)) (fun a hf => ?_)
    refine stq hf rfl rfl rfl (ex_gtr hf rfl rfl) (fun a hf => ?_)
    refine stq hf rfl rfl rfl (ex_move hf rfl) (fun a hf => ?_)
    replace hf := hf.castB (t := 7) rfl (dec_f hc3)
    replace hf := hf.castB (t := 8) rfl (dec_f hc3)
    refine stq hf rfl rfl rfl (ex_fieldAddrB fa_69_2 rfl hf rfl) (fun a hf => ?_)
    refine stq hf rfl rfl rfl (ex_load sc_23 hf rfl (bx_cell (hs.get (i := 0) rfl) _ rfl)) (fun a hf => ?_)
    refine stq hf rfl rfl rfl (ex_gtr hf rfl rfl) (fun a hf => ?_)
    refine stq hf rfl rfl rfl (ex_pickF hf rfl rfl) (fun a hf => ?_)
    refine stq hf rfl rfl rfl (ex_assign hf rfl) (fun a hf => ?_)
    refine hK5 _ _ ?_
    refine wp_ret ?_
    have eR := some_eq H; subst eR
    replace hs := hs.keep (.d .nil)
    exact ret1 Try.results50 hf rfl ⟨_, rfl, ⟨rfl, hs⟩⟩

set_option maxRecDepth 100000 in
theorem slices_IndexFunc_api_Actor_api_Actor__validActors_1.calls {M : Nat → Prop} {w0 : World} (k : Nat) (a0 : (List Actor)) (v0 : Value) {r : Int} (hs : St M w0 w0 []) (hr : Sr M w0 [rsl K_api_Actor v0 a0])
    (h : slices_IndexFunc_api_Actor_api_Actor__validActors_1.f k a0 = some r) : Calls Try.prog 55 #[v0, .func (.func 50) #[] #[]] w0 fun e w => ∃ v, e = .returned v ∧ (.int .i64 r = v ∧ St M w0 w []) := by
  have H := (slices_IndexFunc_api_Actor_api_Actor__validActors_1.f.eq_1 ..).symm.trans h
  clear h
  refine enter Try.func55 rfl Try.ntmps55 rfl (fun a hf => ?_)
  refine seq_reg (fun K1 hK1 => ?_)
  refine stq hf rfl rfl rfl (ex_assign hf rfl) (fun a hf => ?_)
  refine hK1 _ _ ?_
  refine bnd H (fun x2 H2 HO2 => ?_)
  clear H
  refine seq_cut (fun a w => ∃ (x2s : Unit), x2 = .go x2s ∧ Fr a 19 [] ∧ St M w0 w []) (fun Q2 hJ2 hR2 hX2 => ?_) (fun a w hJ => ?_)
  · replace H := H2
    refine seq_reg (fun K3 hK3 => ?_)
    refine stq hf rfl rfl rfl (ex_move hf rfl) (fun a hf => ?_)
    refine stq hf rfl rfl rfl (ex_lenS Try.underlying60 (rsl_isSl (hr.now hs (i := 0) rfl)) hf rfl) (fun a hf => ?_)
    refine stq hf rfl rfl rfl (ex_move hf rfl) (fun a hf => ?_)
    refine hK3 _ _ ?_
    refine block_k (fun Q4 hN4 hR4 hX4 hY4 => ?_)
    refine loop_k (fun n a w => ∃ (y5 : Int), Fr a 19 [(0, v0), (1, .func (.func 50) #[] #[]), (7, .int .i64 (a0.length : Int)), (8, .int .i64 y5)] ∧ St M w0 w [] ∧ slices_IndexFunc_api_Actor_api_Actor__validActors_1.l1 n a0 y5 = some x2) k ?_ (fun n7 a w hI Q7 hL7 hR7 hX7 => ?_)
    · -- at the start
      exact ⟨0, hf.sub ⟨rfl, rfl, rfl, rfl, trivial⟩, hs, H⟩
    · obtain ⟨y5, hf, hs, H⟩ := hI
      cases n7 with
      | zero => exact absurd H (by rw [slices_IndexFunc_api_Actor_api_Actor__validActors_1.l1.eq_1]; intro h; cases h)
      | succ k7 =>
        replace H := (slices_IndexFunc_api_Actor_api_Actor__validActors_1.l1.eq_2 ..).symm.trans H
        refine seq_reg (fun K8 hK8 => ?_)
        refine stq hf rfl rfl rfl (ex_lss hf rfl rfl) (fun a hf => ?_)
        refine hK8 _ _ ?_
        refine seq_n (fun Q9 hN9 hR9 hX9 => ?_)
        refine itt H (fun hc10 H => ?_) (fun hc10 H => ?_)
        · -- y5 < (a0.length : Int)
          replace hf := hf.castB (t := 9) rfl (dec_t hc10)
          refine cond_T hf rfl ?_
          refine wp_skip ?_
          refine hN9 _ _ ?_
          refine seq_n (fun Q11 hN11 hR11 hX11 => ?_)
          refine block_k (fun Q12 hN12 hR12 hX12 hY12 => ?_)
          refine seq_reg (fun K13 hK13 => ?_)
          refine stq hf rfl rfl rfl (ex_move hf rfl) (fun a hf => ?_)
          refine stq hf rfl rfl rfl (ex_assign hf rfl) (fun a hf => ?_)
          refine hK13 _ _ ?_
          refine ck_some H (fun hc14 H => ?_)
          refine bnd H (fun s15 hs15 H => ?_)
          refine seq_reg (fun K16 hK16 => ?_)
          refine stq hf rfl rfl rfl (ex_move hf rfl) (fun a hf => ?_)
          refine stq hf rfl rfl rfl (ex_move hf rfl) (fun a hf => ?_)
          refine stq hf rfl rfl rfl (ex_move hf rfl) (fun a hf => ?_)
          refine stq hf rfl rfl rfl (ex_indexAddr sa_60 (rsl_isSl (hr.now hs (i := 0) rfl)) hc14.1 hc14.2 hf rfl rfl) (fun a hf => ?_)
          refine stq hf rfl rfl rfl (ex_loadA (cs := [.int .u64 ((gd Actor.zero a0 y5).Request), .int .u64 ((gd Actor.zero a0 y5).Min), .int .u64 ((gd Actor.zero a0 y5).Max)]) ag_69 hf rfl (el_cells (K := K_api_Actor) (rsl_rd (hr.now hs (i := 0) rfl)) hc14.1 hc14.2 rfl)) (fun a hf => ?_)
          refine stepF hf rfl rfl rfl (ex_callV cf_50 hf rfl rfl) (thermal_validActors_1.calls k7 (⟨((gd Actor.zero a0 y5).Request), ((gd Actor.zero a0 y5).Min), ((gd Actor.zero a0 y5).Max)⟩ : Actor) (hs.enter .nil) (Sr.nil _ _) hs15) (fun v w hR a hf => ?_)
          obtain ⟨rfl, hs'⟩ := hR
          replace hs := hs.step .nil hs'
          clear hs'
          refine hK16 _ _ ?_
          refine itt H (fun hc17 H => ?_) (fun hc17 H => ?_)
          · -- s15 = true
            replace hf := hf.castB (t := 16) rfl hc17
            refine cond_T hf rfl ?_
            refine seq_reg (fun K18 hK18 => ?_)
            refine stq hf rfl rfl rfl (ex_move hf rfl) (fun a hf => ?_)
            refine stq hf rfl rfl rfl (ex_assign hf rfl) (fun a hf => ?_)
            refine hK18 _ _ ?_
            refine wp_ret ?_
            refine hR12 _ _ ?_
            refine hR11 _ _ ?_
            refine hR7 _ _ ?_
            refine hR4 _ _ ?_
            have e2 := some_eq H; subst e2; replace H := el_rt HO2
            refine hR2 _ _ ?_
            have eR := some_eq H; subst eR
            exact ret1 Try.results55 hf rfl ⟨_, rfl, ⟨rfl, hs⟩⟩
          · -- not s15 = true
            replace hf := hf.castB (t := 16) rfl (bool_f hc17)
            refine cond_F hf rfl ?_
            refine wp_skip ?_
            refine hN12 _ _ ?_
            refine hN11 _ _ ?_
            refine region_k (fun K19 hK19 => ?_)
            refine stq hf rfl rfl rfl (ex_add hf rfl rfl) (fun a hf => ?_)
            refine stq hf rfl rfl rfl (ex_move hf rfl) (fun a hf => ?_)
            refine hK19 _ _ ?_
            exact hL7 k7 _ _ (Nat.lt_succ_self _) ⟨(IntKind.i64.wrap (y5 + 1)), hf.sub ⟨rfl, rfl, rfl, rfl, trivial⟩, hs, H⟩
        · -- not y5 < (a0.length : Int)
          replace hf := hf.castB (t := 9) rfl (dec_f hc10)
          refine cond_F hf rfl ?_
          refine wp_exit ?_
          refine hX9 0 _ _ ?_
          refine hX7 0 _ _ ?_
          refine hX4 _ _ ?_
          have e2 := some_eq H; subst e2
          exact hJ2 _ _ ⟨_, rfl, hf.sub trivial, hs⟩
  · obtain ⟨x2s, rfl, hf, hs⟩ := hJ
    replace H := el_go HO2
    clear HO2
    refine seq_reg (fun K20 hK20 => ?_)
    refine stq hf rfl rfl rfl (ex_assign hf rfl) (fun a hf => ?_)
    refine hK20 _ _ ?_
    refine wp_ret ?_
    have eR := some_eq H; subst eR
    exact ret1 Try.results55 hf rfl ⟨_, rfl, ⟨rfl, hs⟩⟩

set_option maxRecDepth 100000 in
theorem slices_ContainsFunc_api_Actor_api_Actor__validActors_1.calls {M : Nat → Prop} {w0 : World} (k : Nat) (a0 : (List Actor)) (v0 : Value) {r : Bool} (hs : St M w0 w0 []) (hr : Sr M w0 [rsl K_api_Actor v0 a0])
    (h : slices_ContainsFunc_api_Actor_api_Actor__validActors_1.f k a0 = some r) : Calls Try.prog 49 #[v0, .func (.func 50) #[] #[]] w0 fun e w => ∃ v, e = .returned v ∧ (.bool r = v ∧ St M w0 w []) := by
  have H := (slices_ContainsFunc_api_Actor_api_Actor__validActors_1.f.eq_1 ..).symm.trans h
  clear h
  refine enter Try.func49 rfl Try.ntmps49 rfl (fun a hf => ?_)
  refine seq_reg (fun K1 hK1 => ?_)
  refine stq hf rfl rfl rfl (ex_assign hf rfl) (fun a hf => ?_)
  refine hK1 _ _ ?_
  refine bnd H (fun s2 hs2 H => ?_)
  refine seq_reg (fun K3 hK3 => ?_)
  refine stq hf rfl rfl rfl (ex_move hf rfl) (fun a hf => ?_)
  refine stq hf rfl rfl rfl (ex_move hf rfl) (fun a hf => ?_)
  refine stepF hf rfl rfl rfl (ex_call cf_55 hf rfl) (slices_IndexFunc_api_Actor_api_Actor__validActors_1.calls k a0 v0 (hs.enter .nil) (Sr.old hr hs .nil (i := 0) rfl (fun _ h => h) (fun _ h => h) (Sr.nil _ _)) hs2) (fun v w hR a hf => ?_)
  obtain ⟨rfl, hs'⟩ := hR
  replace hs := hs.step .nil hs'
  clear hs'
  refine stq hf rfl rfl rfl (ex_geq hf rfl rfl) (fun a hf => ?_)
  refine stq hf rfl rfl rfl (ex_assign hf rfl) (fun a hf => ?_)
  refine hK3 _ _ ?_
  refine wp_ret ?_
  have eR := some_eq H; subst eR
  exact ret1 Try.results49 hf rfl ⟨_, rfl, ⟨rfl, hs⟩⟩

set_option maxRecDepth 100000 in
theorem thermal_validActors.calls {M : Nat → Prop} {w0 : World} (k : Nat) (a0 : (List Actor)) (v0 : Value) {r : Bool} (hs : St M w0 w0 []) (hr : Sr M w0 [rsl K_api_Actor v0 a0])
    (h : thermal_validActors.f k a0 = some r) : Calls Try.prog 37 #[v0] w0 fun e w => ∃ v, e = .returned v ∧ (.bool r = v ∧ St M w0 w []) := by
  have H := (thermal_validActors.f.eq_1 ..).symm.trans h
  clear h
  refine enter Try.func37 rfl Try.ntmps37 rfl (fun a hf => ?_)
  refine seq_reg (fun K1 hK1 => ?_)
  refine stq hf rfl rfl rfl (ex_assign hf rfl) (fun a hf => ?_)
  refine hK1 _ _ ?_
  refine itt H (fun hc2 H => ?_) (fun hc2 H => ?_)
  · -- (a0.length : Int) ≤ 32
    refine bnd H (fun s3 hs3 H => ?_)
    refine seq_reg (fun K4 hK4 => ?_)
    refine stq hf rfl rfl rfl (ex_move hf rfl) (fun a hf => ?_)
    refine stq hf rfl rfl rfl (ex_lenS Try.underlying60 (rsl_isSl (hr.now hs (i := 0) rfl)) hf rfl) (fun a hf => ?_)
    refine stq hf rfl rfl rfl (ex_leq hf rfl rfl) (fun a hf => ?_)
    refine stq hf rfl rfl rfl (ex_move hf rfl) (fun a hf => ?_)
    replace hf := hf.castB (t := 5) rfl (dec_t hc2)
    replace hf := hf.castB (t := 6) rfl (dec_t hc2)
    refine stq hf rfl rfl rfl (ex_move hf rfl) (fun a hf => ?_)
    refine stepF hf rfl rfl rfl (ex_call cf_49 hf rfl) (slices_ContainsFunc_api_Actor_api_Actor__validActors_1.calls k a0 v0 (hs.enter .nil) (Sr.old hr hs .nil (i := 0) rfl (fun _ h => h) (fun _ h => h) (Sr.nil _ _)) hs3) (fun v w hR a hf => ?_)
    obtain ⟨rfl, hs'⟩ := hR
    replace hs := hs.step .nil hs'
    clear hs'
    refine stq hf rfl rfl rfl (ex_not hf rfl) (fun a hf => ?_)
    refine stq hf rfl rfl rfl (ex_pickT hf rfl rfl) (fun a hf => ?_)
    refine stq hf rfl rfl rfl (ex_assign hf rfl) (fun a hf => ?_)
    refine hK4 _ _ ?_
    refine wp_ret ?_
    have eR := some_eq H; subst eR
    exact ret1 Try.results37 hf rfl ⟨_, rfl, ⟨rfl, hs⟩⟩
  · -- not (a0.length : Int) ≤ 32
    refine seq_reg (fun K5 hK5 => ?_)
    refine stq hf rfl rfl rfl (ex_move hf rfl) (fun a hf => ?_)
    refine stq hf rfl rfl rfl (ex_lenS Try.underlying60 (rsl_isSl (hr.now hs (i := 0) rfl)) hf rfl) (fun a hf => ?_)
    refine stq hf rfl rfl rfl (ex_leq hf rfl rfl) (fun a hf => ?_)
    refine stq hf rfl rfl rfl (ex_move hf rfl) (fun a hf => ?_)
    replace hf := hf.castB (t := 5) rfl (dec_f hc2)
    replace hf := hf.castB (t := 6) rfl (dec_f hc2)
    refine stepN hf rfl rfl rfl (fun a hf => ?_)
    refine stepN hf rfl rfl rfl (fun a hf => ?_)
    refine stepN hf rfl rfl rfl (fun a hf => ?_)
    refine stq hf rfl rfl rfl (ex_pickF hf rfl rfl) (fun a hf => ?_)
    refine stq hf rfl rfl rfl (ex_assign hf rfl) (fun a hf => ?_)
    refine hK5 _ _ ?_
    refine wp_ret ?_
    have eR := some_eq H; subst eR
    exact ret1 Try.results37 hf rfl ⟨_, rfl, ⟨rfl, hs⟩⟩

set_option maxRecDepth 100000 in
theorem thermal_want.calls {M : Nat → Prop} {w0 : World} (k : Nat) (a0 : Actor) {r : Int} (hs : St M w0 w0 []) (hr : Sr M w0 [])
    (h : thermal_want.f k a0 = some r) : Calls Try.prog 40 #[.agg #[.int .u64 a0.Request, .int .u64 a0.Min, .int .u64 a0.Max]] w0 fun e w => ∃ v, e = .returned v ∧ (.int .u64 r = v ∧ St M w0 w []) := by
  have H := (thermal_want.f.eq_1 ..).symm.trans h
  clear h
  refine enter Try.func40 rfl Try.ntmps40 rfl (fun a hf => ?_)
  refine seq_reg (fun K2 hK2 => ?_)
  refine stepV hf rfl rfl rfl (er_box (cs := [.int .u64 a0.Request, .int .u64 a0.Min, .int .u64 a0.Max]) hs hf rfl rfl) (fun v w hR a hf => ?_)
  obtain ⟨b1, rfl, hs⟩ := hR
  refine stq hf rfl rfl rfl (ex_assign hf rfl) (fun a hf => ?_)
  refine hK2 _ _ ?_
  refine seq_reg (fun K3 hK3 => ?_)
  refine stq hf rfl rfl rfl (ex_fieldAddrB fa_69_0 rfl hf rfl) (fun a hf => ?_)
  refine stq hf rfl rfl rfl (ex_load sc_23 hf rfl (bx_cell (hs.get (i := 0) rfl) _ rfl)) (fun a hf => ?_)
  refine stq hf rfl rfl rfl (ex_fieldAddrB fa_69_1 rfl hf rfl) (fun a hf => ?_)
  refine stq hf rfl rfl rfl (ex_load sc_23 hf rfl (bx_cell (hs.get (i := 0) rfl) _ rfl)) (fun a hf => ?_)
  refine stq hf rfl rfl rfl (ex_max hf rfl rfl) (fun a hf => ?_)
  refine stq hf rfl rfl rfl (ex_fieldAddrB fa_69_2 rfl hf rfl) (fun a hf => ?_)
  refine stq hf rfl rfl rfl (ex_load sc_23 hf rfl (bx_cell (hs.get (i := 0) rfl) _ rfl)) (fun a hf => ?_)
  refine stq hf rfl rfl rfl (ex_min hf rfl rfl) (fun a hf => ?_)
  refine stq hf rfl rfl rfl (ex_assign hf rfl) (fun a hf => ?_)
  refine hK3 _ _ ?_
  refine wp_ret ?_
  have eR := some_eq H; subst eR
  replace hs := hs.keep (.d .nil)
  exact ret1 Try.results40 hf rfl ⟨_, rfl, ⟨rfl, hs⟩⟩

set_option maxRecDepth 100000 in
theorem thermal_share.calls {M : Nat → Prop} {w0 : World} (k : Nat) (a0 : Actor) (a1 : Int) {r : Int} (hs : St M w0 w0 []) (hr : Sr M w0 [])
    (h : thermal_share.f k a0 a1 = some r) : Calls Try.prog 39 #[.agg #[.int .u64 a0.Request, .int .u64 a0.Min, .int .u64 a0.Max], .int .u64 a1] w0 fun e w => ∃ v, e = .returned v ∧ (.int .u64 r = v ∧ St M w0 w []) := by
  have H := (thermal_share.f.eq_1 ..).symm.trans h
  clear h
  refine enter Try.func39 rfl Try.ntmps39 rfl (fun a hf => ?_)
  refine seq_reg (fun K2 hK2 => ?_)
  refine stepV hf rfl rfl rfl (er_box (cs := [.int .u64 a0.Request, .int .u64 a0.Min, .int .u64 a0.Max]) hs hf rfl rfl) (fun v w hR a hf => ?_)
  obtain ⟨b1, rfl, hs⟩ := hR
  refine stq hf rfl rfl rfl (ex_assign hf rfl) (fun a hf => ?_)
  refine hK2 _ _ ?_
  refine seq_n (fun Q3 hN3 hR3 hX3 => ?_)
  refine bnd H (fun s4 hs4 H => ?_)
  refine region_d fol 7 [(1, .int .u64 a1), (2, .pointer (some ⟨b1, 0, none⟩)), (4, .int .u64 0)] [(0, .int .u64 a1), (1, .pointer (some ⟨b1, 1, none⟩)), (2, .int .u64 a0.Min), (3, .int .u64 (mx a1 a0.Min)), (4, .agg #[.int .u64 a0.Request, .int .u64 a0.Min, .int .u64 a0.Max])] [5] (fun w => (bx b1 69 [.int .u64 a0.Request, .int .u64 a0.Min, .int .u64 a0.Max]).ok w ∧ True) (fun w => St M w0 w [bx b1 69 [.int .u64 a0.Request, .int .u64 a0.Min, .int .u64 a0.Max]]) hf ⟨rfl, rfl, rfl, trivial⟩ (by kernel_rfl) (by kernel_rfl) rfl (by decide) ⟨hs.drew.get (i := 0) rfl, trivial⟩ hs.drew (.cons (⟨_, _, rfl, rfl, rfl, rfl, fun a w hR hf => .inl ⟨wanted_yes hf rfl, ex_move hf rfl⟩⟩) (.cons (⟨_, _, rfl, rfl, rfl, rfl, fun a w hR hf => .inl ⟨wanted_yes hf rfl, ex_fieldAddrB fa_69_1 rfl hf rfl⟩⟩) (.cons (⟨_, _, rfl, rfl, rfl, rfl, fun a w hR hf => .inl ⟨wanted_yes hf rfl, ex_load sc_23 hf rfl (bx_cell (hR.1) _ rfl)⟩⟩) (.cons (⟨_, _, rfl, rfl, rfl, rfl, fun a w hR hf => .inl ⟨wanted_yes hf rfl, ex_max hf rfl rfl⟩⟩) (.cons (⟨_, _, rfl, rfl, rfl, rfl, fun a w hR hf => .inl ⟨wanted_yes hf rfl, ex_loadA (cs := [.int .u64 a0.Request, .int .u64 a0.Min, .int .u64 a0.Max]) ag_69 hf rfl (bx_cells (hR.1) rfl)⟩⟩) (.nil)))))) (fun K5 hK5 => ?_)
  refine RW.one 5 (by kernel_rfl) (by kernel_rfl) rfl (fun d hd => by cases hd; rfl) [(9, .agg #[.int .u64 a0.Request, .int .u64 a0.Min, .int .u64 a0.Max])] ⟨rfl, trivial⟩ (fun a w hR hs hf => ⟨wanted_yes hf rfl, ?_⟩)
  refine estep_f (ex_call cf_40 hf rfl) (thermal_want.calls k a0 (hs.enter (.k .nil)) (Sr.nil _ _) hs4) (fun v w hR => ?_)
  obtain ⟨rfl, hs'⟩ := hR
  replace hs := hs.step (.k .nil) hs'
  clear hs'
  refine ⟨[(6, .int .u64 (mn (mx a1 a0.Min) s4))], [(6, .int .u64 (mn (mx a1 a0.Min) s4)), (5, .int .u64 s4), (0, .int .u64 a1), (1, .pointer (some ⟨b1, 1, none⟩)), (2, .int .u64 a0.Min), (3, .int .u64 (mx a1 a0.Min)), (4, .agg #[.int .u64 a0.Request, .int .u64 a0.Min, .int .u64 a0.Max])], [], (fun _ => True), (fun w => St M w0 w [bx b1 69 [.int .u64 a0.Request, .int .u64 a0.Min, .int .u64 a0.Max]]), rfl, rfl, ⟨hs.get (i := 0) rfl, trivial⟩, trivial, hs, (by kernel_rfl), .cons (⟨_, _, rfl, rfl, rfl, rfl, fun a w hR hf => .inl ⟨wanted_yes hf rfl, ex_min hf rfl rfl⟩⟩) (.nil), ?_⟩
  refine RW.zero (by kernel_rfl) (by kernel_rfl) [(4, .int .u64 0), (11, .int .u64 (mn (mx a1 a0.Min) s4))] ⟨rfl, rfl, trivial⟩ (fun a w hR hs hf => ?_)
  refine stq hf rfl rfl rfl (ex_assign hf rfl) (fun a hf => ?_)
  refine hK5 _ _ ?_
  refine hN3 _ _ ?_
  refine wp_ret ?_
  have eR := some_eq H; subst eR
  replace hs := hs.keep (.d .nil)
  exact ret1 Try.results39 hf rfl ⟨_, rfl, ⟨rfl, hs⟩⟩

set_option maxRecDepth 100000 in
theorem thermal_total.calls {M : Nat → Prop} {w0 : World} (k : Nat) (a0 : (List Actor)) (a1 : Int) (v0 : Value) {r : Int} (hs : St M w0 w0 []) (hr : Sr M w0 [rsl K_api_Actor v0 a0])
    (h : thermal_total.f k a0 a1 = some r) : Calls Try.prog 38 #[v0, .int .u64 a1] w0 fun e w => ∃ v, e = .returned v ∧ (.int .u64 r = v ∧ St M w0 w []) := by
  have H := (thermal_total.f.eq_1 ..).symm.trans h
  clear h
  refine enter Try.func38 rfl Try.ntmps38 rfl (fun a hf => ?_)
  refine seq_reg (fun K1 hK1 => ?_)
  refine stq hf rfl rfl rfl (ex_assign hf rfl) (fun a hf => ?_)
  refine hK1 _ _ ?_
  refine seq_reg (fun K2 hK2 => ?_)
  refine stq hf rfl rfl rfl (ex_assign hf rfl) (fun a hf => ?_)
  refine hK2 _ _ ?_
  refine bnd H (fun x3 H3 HO3 => ?_)
  clear H
  refine seq_cut (fun a w => Fr a 21 [(5, .int .u64 x3)] ∧ St M w0 w []) (fun Q3 hJ3 hR3 hX3 => ?_) (fun a w hJ => ?_)
  · replace H := H3
    refine seq_reg (fun K4 hK4 => ?_)
    refine stq hf rfl rfl rfl (ex_move hf rfl) (fun a hf => ?_)
    refine stq hf rfl rfl rfl (ex_lenS Try.underlying60 (rsl_isSl (hr.now hs (i := 0) rfl)) hf rfl) (fun a hf => ?_)
    refine stq hf rfl rfl rfl (ex_move hf rfl) (fun a hf => ?_)
    refine hK4 _ _ ?_
    refine block_k (fun Q5 hN5 hR5 hX5 hY5 => ?_)
    refine loop_k (fun n a w => ∃ (y6 : Int) (y7 : Int), Fr a 21 [(1, .int .u64 a1), (5, .int .u64 y6), (8, v0), (9, .int .i64 (a0.length : Int)), (10, .int .i64 y7)] ∧ St M w0 w [] ∧ thermal_total.l1 n a0 a1 y6 y7 = some x3) k ?_ (fun n9 a w hI Q9 hL9 hR9 hX9 => ?_)
    · -- at the start
      exact ⟨0, 0, hf.sub ⟨rfl, rfl, rfl, rfl, rfl, trivial⟩, hs, H⟩
    · obtain ⟨y6, y7, hf, hs, H⟩ := hI
      cases n9 with
      | zero => exact absurd H (by rw [thermal_total.l1.eq_1]; intro h; cases h)
      | succ k9 =>
        replace H := (thermal_total.l1.eq_2 ..).symm.trans H
        refine seq_reg (fun K10 hK10 => ?_)
        refine stq hf rfl rfl rfl (ex_lss hf rfl rfl) (fun a hf => ?_)
        refine hK10 _ _ ?_
        refine seq_n (fun Q11 hN11 hR11 hX11 => ?_)
        refine itt H (fun hc12 H => ?_) (fun hc12 H => ?_)
        · -- y7 < (a0.length : Int)
          replace hf := hf.castB (t := 11) rfl (dec_t hc12)
          refine cond_T hf rfl ?_
          refine wp_skip ?_
          refine hN11 _ _ ?_
          refine seq_n (fun Q13 hN13 hR13 hX13 => ?_)
          refine block_k (fun Q14 hN14 hR14 hX14 hY14 => ?_)
          refine ck_some H (fun hc15 H => ?_)
          refine seq_reg (fun K17 hK17 => ?_)
          refine stq hf rfl rfl rfl (ex_indexAddr sa_60 (rsl_isSl (hr.now hs (i := 0) rfl)) hc15.1 hc15.2 hf rfl rfl) (fun a hf => ?_)
          refine stq hf rfl rfl rfl (ex_loadA (cs := [.int .u64 ((gd Actor.zero a0 y7).Request), .int .u64 ((gd Actor.zero a0 y7).Min), .int .u64 ((gd Actor.zero a0 y7).Max)]) ag_69 hf rfl (el_cells (K := K_api_Actor) (rsl_rd (hr.now hs (i := 0) rfl)) hc15.1 hc15.2 rfl)) (fun a hf => ?_)
          refine stepV hf rfl rfl rfl (er_alloc hs ti_69 (cs := [.int .u64 0, .int .u64 0, .int .u64 0]) rfl) (fun v w hR a hf => ?_)
          obtain ⟨b16, rfl, hs⟩ := hR
          refine stepS hf rfl rfl (er_storeAB (vs := [.int .u64 ((gd Actor.zero a0 y7).Request), .int .u64 ((gd Actor.zero a0 y7).Min), .int .u64 ((gd Actor.zero a0 y7).Max)]) (cs' := [.int .u64 ((gd Actor.zero a0 y7).Request), .int .u64 ((gd Actor.zero a0 y7).Min), .int .u64 ((gd Actor.zero a0 y7).Max)]) hs (.c .nil) sz_69 hf rfl rfl (all1 rfl (all1 rfl (all1 rfl (all1_nil)))) rfl rfl) (fun w hs => ?_)
          refine hK17 _ _ ?_
          refine bnd H (fun s18 hs18 H => ?_)
          refine region_k (fun K19 hK19 => ?_)
          refine stq hf rfl rfl rfl (ex_move hf rfl) (fun a hf => ?_)
          refine stq hf rfl rfl rfl (ex_loadA (cs := [.int .u64 ((gd Actor.zero a0 y7).Request), .int .u64 ((gd Actor.zero a0 y7).Min), .int .u64 ((gd Actor.zero a0 y7).Max)]) ag_69 hf rfl (bx_cells (hs.get (i := 0) rfl) rfl)) (fun a hf => ?_)
          refine stq hf rfl rfl rfl (ex_move hf rfl) (fun a hf => ?_)
          refine stepF hf rfl rfl rfl (ex_call cf_39 hf rfl) (thermal_share.calls k9 (⟨((gd Actor.zero a0 y7).Request), ((gd Actor.zero a0 y7).Min), ((gd Actor.zero a0 y7).Max)⟩ : Actor) a1 (hs.enter (.k .nil)) (Sr.nil _ _) hs18) (fun v w hR a hf => ?_)
          obtain ⟨rfl, hs'⟩ := hR
          replace hs := hs.step (.k .nil) hs'
          clear hs'
          refine stq hf rfl rfl rfl (ex_add hf rfl rfl) (fun a hf => ?_)
          refine stq hf rfl rfl rfl (ex_assign hf rfl) (fun a hf => ?_)
          refine hK19 _ _ ?_
          refine hN14 _ _ ?_
          refine hN13 _ _ ?_
          refine region_k (fun K20 hK20 => ?_)
          refine stq hf rfl rfl rfl (ex_add hf rfl rfl) (fun a hf => ?_)
          refine stq hf rfl rfl rfl (ex_move hf rfl) (fun a hf => ?_)
          refine hK20 _ _ ?_
          replace hs := hs.keep (.d .nil)
          exact hL9 k9 _ _ (Nat.lt_succ_self _) ⟨(IntKind.u64.wrap (y6 + s18)), (IntKind.i64.wrap (y7 + 1)), hf.sub ⟨rfl, rfl, rfl, rfl, rfl, trivial⟩, hs, H⟩
        · -- not y7 < (a0.length : Int)
          replace hf := hf.castB (t := 11) rfl (dec_f hc12)
          refine cond_F hf rfl ?_
          refine wp_exit ?_
          refine hX11 0 _ _ ?_
          refine hX9 0 _ _ ?_
          refine hX5 _ _ ?_
          have e3 := some_eq H; subst e3
          exact hJ3 _ _ ⟨hf.sub ⟨rfl, trivial⟩, hs⟩
  · obtain ⟨hf, hs⟩ := hJ
    replace H := HO3
    clear HO3
    refine seq_reg (fun K21 hK21 => ?_)
    refine stq hf rfl rfl rfl (ex_move hf rfl) (fun a hf => ?_)
    refine stq hf rfl rfl rfl (ex_assign hf rfl) (fun a hf => ?_)
    refine hK21 _ _ ?_
    refine wp_ret ?_
    have eR := some_eq H; subst eR
    exact ret1 Try.results38 hf rfl ⟨_, rfl, ⟨rfl, hs⟩⟩

set_option maxRecDepth 100000 in
theorem thermal_Allocate.calls {M : Nat → Prop} {w0 : World} (k : Nat) (a0 : Int) (a1 : (List Actor)) (v1 : Value) {r : (List Int) × Int} (hs : St M w0 w0 []) (hr : Sr M w0 [rsl K_api_Actor v1 a1])
    (h : thermal_Allocate.f k a0 a1 = some r) : Calls Try.prog 22 #[.int .u64 a0, v1] w0 fun e w => ∃ v, e = .returned v ∧ (∃ (g0 : Value), .tuple #[g0, .int .i64 r.2] = v ∧ St M w0 w [osl K_uint64 g0 r.1]) := by
  have H := (thermal_Allocate.f.eq_1 ..).symm.trans h
  clear h
  refine enter Try.func22 rfl Try.ntmps22 rfl (fun a hf => ?_)
  refine seq_reg (fun K1 hK1 => ?_)
  refine stq hf rfl rfl rfl (ex_assign hf rfl) (fun a hf => ?_)
  refine stq hf rfl rfl rfl (ex_assign hf rfl) (fun a hf => ?_)
  refine hK1 _ _ ?_
  refine seq_n (fun Q2 hN2 hR2 hX2 => ?_)
  refine block_k (fun Q3 hN3 hR3 hX3 hY3 => ?_)
  refine bnd H (fun s4 hs4 H => ?_)
  refine seq_reg (fun K5 hK5 => ?_)
  refine stq hf rfl rfl rfl (ex_move hf rfl) (fun a hf => ?_)
  refine stepF hf rfl rfl rfl (ex_call cf_37 hf rfl) (thermal_validActors.calls k a1 v1 (hs.enter .nil) (Sr.old hr hs .nil (i := 0) rfl (fun _ h => h) (fun _ h => h) (Sr.nil _ _)) hs4) (fun v w hR a hf => ?_)
  obtain ⟨rfl, hs'⟩ := hR
  replace hs := hs.step .nil hs'
  clear hs'
  refine stq hf rfl rfl rfl (ex_not hf rfl) (fun a hf => ?_)
  refine stq hf rfl rfl rfl (ex_assign hf rfl) (fun a hf => ?_)
  refine hK5 _ _ ?_
  refine itt H (fun hc6 H => ?_) (fun hc6 H => ?_)
  · -- s4 = true
    replace hf := hf.castB (t := 16) rfl hc6
    replace hf := hf.castB (t := 17) rfl (nbool_f hc6)
    replace hf := hf.castB (t := 14) rfl (nbool_f hc6)
    refine cond_F hf rfl ?_
    refine bnd H (fun s7 hs7 H => ?_)
    refine seq_reg (fun K8 hK8 => ?_)
    refine stq hf rfl rfl rfl (ex_move hf rfl) (fun a hf => ?_)
    refine stepF hf rfl rfl rfl (ex_call cf_38 hf rfl) (thermal_total.calls k a1 0 v1 (hs.enter .nil) (Sr.old hr hs .nil (i := 0) rfl (fun _ h => h) (fun _ h => h) (Sr.nil _ _)) hs7) (fun v w hR a hf => ?_)
    obtain ⟨rfl, hs'⟩ := hR
    replace hs := hs.step .nil hs'
    clear hs'
    refine stq hf rfl rfl rfl (ex_move hf rfl) (fun a hf => ?_)
    refine stq hf rfl rfl rfl (ex_gtr hf rfl rfl) (fun a hf => ?_)
    refine stq hf rfl rfl rfl (ex_assign hf rfl) (fun a hf => ?_)
    refine hK8 _ _ ?_
    refine itt H (fun hc9 H => ?_) (fun hc9 H => ?_)
    · -- a0 < s7
      replace hf := hf.castB (t := 22) rfl (dec_t hc9)
      replace hf := hf.castB (t := 18) rfl (dec_t hc9)
      refine cond_T hf rfl ?_
      refine seq_reg (fun K10 hK10 => ?_)
      refine stq hf rfl rfl rfl (ex_assign hf rfl) (fun a hf => ?_)
      refine stq hf rfl rfl rfl (ex_assign hf rfl) (fun a hf => ?_)
      refine hK10 _ _ ?_
      refine wp_ret ?_
      refine hR3 _ _ ?_
      refine hR2 _ _ ?_
      have eR := some_eq H; subst eR
      replace hs := hs.nilS K_uint64
      exact ret2 Try.results22 hf rfl rfl ⟨_, rfl, ⟨(.slice none 0 0), rfl, hs⟩⟩
    · -- not a0 < s7
      replace hf := hf.castB (t := 22) rfl (dec_f hc9)
      replace hf := hf.castB (t := 18) rfl (dec_f hc9)
      refine cond_F hf rfl ?_
      refine wp_skip ?_
      refine hN3 _ _ ?_
      refine hN2 _ _ ?_
      refine seq_reg (fun K11 hK11 => ?_)
      refine stq hf rfl rfl rfl (ex_assign hf rfl) (fun a hf => ?_)
      refine stq hf rfl rfl rfl (ex_assign hf rfl) (fun a hf => ?_)
      refine hK11 _ _ ?_
      refine bnd H (fun x12 H12 HO12 => ?_)
      clear H
      refine seq_cut (fun a w => Fr a 82 [(0, .int .u64 a0), (1, v1), (6, .int .u64 x12), (7, .int .u64 4294967296)] ∧ St M w0 w []) (fun Q12 hJ12 hR12 hX12 => ?_) (fun a w hJ => ?_)
      · replace H := H12
        refine bnd H (fun s13 hs13 H => ?_)
        refine seq_reg (fun K14 hK14 => ?_)
        refine stq hf rfl rfl rfl (ex_move hf rfl) (fun a hf => ?_)
        refine stq hf rfl rfl rfl (ex_move hf rfl) (fun a hf => ?_)
        refine stepF hf rfl rfl rfl (ex_call cf_38 hf rfl) (thermal_total.calls k a1 4294967296 v1 (hs.enter .nil) (Sr.old hr hs .nil (i := 0) rfl (fun _ h => h) (fun _ h => h) (Sr.nil _ _)) hs13) (fun v w hR a hf => ?_)
        obtain ⟨rfl, hs'⟩ := hR
        replace hs := hs.step .nil hs'
        clear hs'
        refine stq hf rfl rfl rfl (ex_move hf rfl) (fun a hf => ?_)
        refine stq hf rfl rfl rfl (ex_leq hf rfl rfl) (fun a hf => ?_)
        refine hK14 _ _ ?_
        refine itt H (fun hc15 H => ?_) (fun hc15 H => ?_)
        · -- s13 ≤ a0
          replace hf := hf.castB (t := 27) rfl (dec_t hc15)
          refine cond_T hf rfl ?_
          refine region_k (fun K16 hK16 => ?_)
          refine stq hf rfl rfl rfl (ex_move hf rfl) (fun a hf => ?_)
          refine stq hf rfl rfl rfl (ex_assign hf rfl) (fun a hf => ?_)
          refine hK16 _ _ ?_
          have e12 := some_eq H; subst e12
          exact hJ12 _ _ ⟨hf.sub ⟨rfl, rfl, rfl, rfl, trivial⟩, hs⟩
        · -- not s13 ≤ a0
          replace hf := hf.castB (t := 27) rfl (dec_f hc15)
          refine cond_F hf rfl ?_
          refine wp_skip ?_
          have e12 := some_eq H; subst e12
          exact hJ12 _ _ ⟨hf.sub ⟨rfl, rfl, rfl, rfl, trivial⟩, hs⟩
      · obtain ⟨hf, hs⟩ := hJ
        replace H := HO12
        clear HO12
        refine bnd H (fun x17 H17 HO17 => ?_)
        clear H
        refine seq_cut (fun a w => Fr a 82 [(0, .int .u64 a0), (1, v1), (6, .int .u64 x17)] ∧ St M w0 w []) (fun Q17 hJ17 hR17 hX17 => ?_) (fun a w hJ => ?_)
        · replace H := H17
          refine block_k (fun Q18 hN18 hR18 hX18 hY18 => ?_)
          refine loop_k (fun n a w => ∃ (y19 : Int) (y20 : Int), Fr a 82 [(0, .int .u64 a0), (1, v1), (6, .int .u64 y19), (7, .int .u64 y20)] ∧ St M w0 w [] ∧ thermal_Allocate.l1 n a1 a0 y19 y20 = some x17) k ?_ (fun n22 a w hI Q22 hL22 hR22 hX22 => ?_)
          · -- at the start
            exact ⟨x12, 4294967296, hf.sub ⟨rfl, rfl, rfl, rfl, trivial⟩, hs, H⟩
          · obtain ⟨y19, y20, hf, hs, H⟩ := hI
            cases n22 with
            | zero => exact absurd H (by rw [thermal_Allocate.l1.eq_1]; intro h; cases h)
            | succ k22 =>
              replace H := (thermal_Allocate.l1.eq_2 ..).symm.trans H
              refine seq_n (fun Q23 hN23 hR23 hX23 => ?_)
              refine seq_reg (fun K24 hK24 => ?_)
              refine stq hf rfl rfl rfl (ex_move hf rfl) (fun a hf => ?_)
              refine stq hf rfl rfl rfl (ex_add hf rfl rfl) (fun a hf => ?_)
              refine stq hf rfl rfl rfl (ex_move hf rfl) (fun a hf => ?_)
              refine stq hf rfl rfl rfl (ex_lss hf rfl rfl) (fun a hf => ?_)
              refine hK24 _ _ ?_
              refine itt H (fun hc25 H => ?_) (fun hc25 H => ?_)
              · -- (IntKind.u64.wrap (y19 + 1)) < y20
                replace hf := hf.castB (t := 32) rfl (dec_t hc25)
                refine cond_T hf rfl ?_
                refine wp_skip ?_
                refine hN23 _ _ ?_
                refine block_k (fun Q26 hN26 hR26 hX26 hY26 => ?_)
                refine seq_reg (fun K27 hK27 => ?_)
                refine stq hf rfl rfl rfl (ex_move hf rfl) (fun a hf => ?_)
                refine stq hf rfl rfl rfl (ex_move hf rfl) (fun a hf => ?_)
                refine stq hf rfl rfl rfl (ex_add hf rfl rfl) (fun a hf => ?_)
                refine stq hf rfl rfl rfl (ex_quo hf rfl rfl (by decide)) (fun a hf => ?_)
                refine stq hf rfl rfl rfl (ex_assign hf rfl) (fun a hf => ?_)
                refine hK27 _ _ ?_
                refine bnd H (fun s28 hs28 H => ?_)
                refine seq_reg (fun K29 hK29 => ?_)
                refine stq hf rfl rfl rfl (ex_move hf rfl) (fun a hf => ?_)
                refine stq hf rfl rfl rfl (ex_move hf rfl) (fun a hf => ?_)
                refine stepF hf rfl rfl rfl (ex_call cf_38 hf rfl) (thermal_total.calls k22 a1 (IntKind.u64.wrap (Int.tdiv (IntKind.u64.wrap (y19 + y20)) 2)) v1 (hs.enter .nil) (Sr.old hr hs .nil (i := 0) rfl (fun _ h => h) (fun _ h => h) (Sr.nil _ _)) hs28) (fun v w hR a hf => ?_)
                obtain ⟨rfl, hs'⟩ := hR
                replace hs := hs.step .nil hs'
                clear hs'
                refine stq hf rfl rfl rfl (ex_move hf rfl) (fun a hf => ?_)
                refine stq hf rfl rfl rfl (ex_leq hf rfl rfl) (fun a hf => ?_)
                refine hK29 _ _ ?_
                refine itt H (fun hc30 H => ?_) (fun hc30 H => ?_)
                · -- s28 ≤ a0
                  replace hf := hf.castB (t := 41) rfl (dec_t hc30)
                  refine cond_T hf rfl ?_
                  refine region_k (fun K31 hK31 => ?_)
                  refine stq hf rfl rfl rfl (ex_move hf rfl) (fun a hf => ?_)
                  refine stq hf rfl rfl rfl (ex_assign hf rfl) (fun a hf => ?_)
                  refine hK31 _ _ ?_
                  refine hN26 _ _ ?_
                  exact hL22 k22 _ _ (Nat.lt_succ_self _) ⟨(IntKind.u64.wrap (Int.tdiv (IntKind.u64.wrap (y19 + y20)) 2)), y20, hf.sub ⟨rfl, rfl, rfl, rfl, trivial⟩, hs, H⟩
                · -- not s28 ≤ a0
                  replace hf := hf.castB (t := 41) rfl (dec_f hc30)
                  refine cond_F hf rfl ?_
                  refine region_k (fun K32 hK32 => ?_)
                  refine stq hf rfl rfl rfl (ex_move hf rfl) (fun a hf => ?_)
                  refine stq hf rfl rfl rfl (ex_assign hf rfl) (fun a hf => ?_)
                  refine hK32 _ _ ?_
                  refine hN26 _ _ ?_
                  exact hL22 k22 _ _ (Nat.lt_succ_self _) ⟨y19, (IntKind.u64.wrap (Int.tdiv (IntKind.u64.wrap (y19 + y20)) 2)), hf.sub ⟨rfl, rfl, rfl, rfl, trivial⟩, hs, H⟩
              · -- not (IntKind.u64.wrap (y19 + 1)) < y20
                replace hf := hf.castB (t := 32) rfl (dec_f hc25)
                refine cond_F hf rfl ?_
                refine wp_exit ?_
                refine hX23 1 _ _ ?_
                refine hX22 1 _ _ ?_
                refine hX18 _ _ ?_
                have e17 := some_eq H; subst e17
                exact hJ17 _ _ ⟨hf.sub ⟨rfl, rfl, rfl, trivial⟩, hs⟩
        · obtain ⟨hf, hs⟩ := hJ
          replace H := HO17
          clear HO17
          refine bnd H (fun s33 hs33 H => ?_)
          refine seq_reg (fun K34 hK34 => ?_)
          refine stq hf rfl rfl rfl (ex_move hf rfl) (fun a hf => ?_)
          refine stq hf rfl rfl rfl (ex_move hf rfl) (fun a hf => ?_)
          refine stq hf rfl rfl rfl (ex_move hf rfl) (fun a hf => ?_)
          refine stepF hf rfl rfl rfl (ex_call cf_38 hf rfl) (thermal_total.calls k a1 x17 v1 (hs.enter .nil) (Sr.old hr hs .nil (i := 0) rfl (fun _ h => h) (fun _ h => h) (Sr.nil _ _)) hs33) (fun v w hR a hf => ?_)
          obtain ⟨rfl, hs'⟩ := hR
          replace hs := hs.step .nil hs'
          clear hs'
          refine stq hf rfl rfl rfl (ex_sub hf rfl rfl) (fun a hf => ?_)
          refine stq hf rfl rfl rfl (ex_assign hf rfl) (fun a hf => ?_)
          refine hK34 _ _ ?_
          refine seq_reg (fun K35 hK35 => ?_)
          refine stq hf rfl rfl rfl (ex_assign hf rfl) (fun a hf => ?_)
          refine hK35 _ _ ?_
          refine bnd H (fun x36 H36 HO36 => ?_)
          clear H
          refine seq_cut (fun a w => ∃ (v37 : Value), Fr a 82 [(10, v37)] ∧ St M w0 w [osl K_uint64 v37 x36]) (fun Q36 hJ36 hR36 hX36 => ?_) (fun a w hJ => ?_)
          · replace H := H36
            refine seq_reg (fun K38 hK38 => ?_)
            refine stq hf rfl rfl rfl (ex_move hf rfl) (fun a hf => ?_)
            refine stq hf rfl rfl rfl (ex_lenS Try.underlying60 (rsl_isSl (hr.now hs (i := 0) rfl)) hf rfl) (fun a hf => ?_)
            refine stq hf rfl rfl rfl (ex_move hf rfl) (fun a hf => ?_)
            refine hK38 _ _ ?_
            refine block_k (fun Q39 hN39 hR39 hX39 hY39 => ?_)
            refine loop_k (fun n a w => ∃ (y41 : Int) (y42 : (List Int)) (y43 : Int) (v40 : Value), Fr a 82 [(6, .int .u64 x17), (9, .int .u64 y41), (10, v40), (49, v1), (50, .int .i64 (a1.length : Int)), (51, .int .i64 y43)] ∧ St M w0 w [osl K_uint64 v40 y42] ∧ thermal_Allocate.l2 n a1 x17 y41 y42 y43 = some x36) k ?_ (fun n45 a w hI Q45 hL45 hR45 hX45 => ?_)
            · -- at the start
              replace hs := hs.nilS K_uint64
              exact ⟨(IntKind.u64.wrap (a0 - s33)), [], 0, (.slice none 0 0), hf.sub ⟨rfl, rfl, rfl, rfl, rfl, rfl, trivial⟩, hs, H⟩
            · obtain ⟨y41, y42, y43, v40, hf, hs, H⟩ := hI
              cases n45 with
              | zero => exact absurd H (by rw [thermal_Allocate.l2.eq_1]; intro h; cases h)
              | succ k45 =>
                replace H := (thermal_Allocate.l2.eq_2 ..).symm.trans H
                refine seq_reg (fun K46 hK46 => ?_)
                refine stq hf rfl rfl rfl (ex_lss hf rfl rfl) (fun a hf => ?_)
                refine hK46 _ _ ?_
                refine seq_n (fun Q47 hN47 hR47 hX47 => ?_)
                refine itt H (fun hc48 H => ?_) (fun hc48 H => ?_)
                · -- y43 < (a1.length : Int)
                  replace hf := hf.castB (t := 52) rfl (dec_t hc48)
                  refine cond_T hf rfl ?_
                  refine wp_skip ?_
                  refine hN47 _ _ ?_
                  refine seq_n (fun Q49 hN49 hR49 hX49 => ?_)
                  refine block_k (fun Q50 hN50 hR50 hX50 hY50 => ?_)
                  refine ck_some H (fun hc51 H => ?_)
                  refine seq_reg (fun K53 hK53 => ?_)
                  refine stq hf rfl rfl rfl (ex_indexAddr sa_60 (rsl_isSl (hr.now hs (i := 0) rfl)) hc51.1 hc51.2 hf rfl rfl) (fun a hf => ?_)
                  refine stq hf rfl rfl rfl (ex_loadA (cs := [.int .u64 ((gd Actor.zero a1 y43).Request), .int .u64 ((gd Actor.zero a1 y43).Min), .int .u64 ((gd Actor.zero a1 y43).Max)]) ag_69 hf rfl (el_cells (K := K_api_Actor) (rsl_rd (hr.now hs (i := 0) rfl)) hc51.1 hc51.2 rfl)) (fun a hf => ?_)
                  refine stepV hf rfl rfl rfl (er_alloc hs ti_69 (cs := [.int .u64 0, .int .u64 0, .int .u64 0]) rfl) (fun v w hR a hf => ?_)
                  obtain ⟨b52, rfl, hs⟩ := hR
                  refine stepS hf rfl rfl (er_storeAB (vs := [.int .u64 ((gd Actor.zero a1 y43).Request), .int .u64 ((gd Actor.zero a1 y43).Min), .int .u64 ((gd Actor.zero a1 y43).Max)]) (cs' := [.int .u64 ((gd Actor.zero a1 y43).Request), .int .u64 ((gd Actor.zero a1 y43).Min), .int .u64 ((gd Actor.zero a1 y43).Max)]) hs (.c (.k .nil)) sz_69 hf rfl rfl (all1 rfl (all1 rfl (all1 rfl (all1_nil)))) rfl rfl) (fun w hs => ?_)
                  refine hK53 _ _ ?_
                  refine bnd H (fun s54 hs54 H => ?_)
                  refine seq_reg (fun K55 hK55 => ?_)
                  refine stq hf rfl rfl rfl (ex_loadA (cs := [.int .u64 ((gd Actor.zero a1 y43).Request), .int .u64 ((gd Actor.zero a1 y43).Min), .int .u64 ((gd Actor.zero a1 y43).Max)]) ag_69 hf rfl (bx_cells (hs.get (i := 0) rfl) rfl)) (fun a hf => ?_)
                  refine stq hf rfl rfl rfl (ex_move hf rfl) (fun a hf => ?_)
                  refine stepF hf rfl rfl rfl (ex_call cf_39 hf rfl) (thermal_share.calls k45 (⟨((gd Actor.zero a1 y43).Request), ((gd Actor.zero a1 y43).Min), ((gd Actor.zero a1 y43).Max)⟩ : Actor) x17 (hs.enter (.k (.k .nil))) (Sr.nil _ _) hs54) (fun v w hR a hf => ?_)
                  obtain ⟨rfl, hs'⟩ := hR
                  replace hs := hs.step (.k (.k .nil)) hs'
                  clear hs'
                  refine stq hf rfl rfl rfl (ex_assign hf rfl) (fun a hf => ?_)
                  refine hK55 _ _ ?_
                  refine bnd H (fun x56 H56 HO56 => ?_)
                  clear H
                  refine seq_cut (fun a w => Fr a 82 [(6, .int .u64 x17), (9, .int .u64 x56.1), (10, v40), (13, .int .u64 x56.2), (49, v1), (50, .int .i64 (a1.length : Int)), (51, .int .i64 y43)] ∧ St M w0 w [osl K_uint64 v40 y42]) (fun Q56 hJ56 hR56 hX56 => ?_) (fun a w hJ => ?_)
                  · replace H := H56
                    refine bnd H (fun x57 H57 HO57 => ?_)
                    clear H
                    refine seq_cut (fun a w => Fr a 82 [(6, .int .u64 x17), (9, .int .u64 y41), (10, v40), (13, .int .u64 s54), (49, v1), (50, .int .i64 (a1.length : Int)), (51, .int .i64 y43), (71, .bool x57)] ∧ St M w0 w [osl K_uint64 v40 y42]) (fun Q57 hJ57 hR57 hX57 => ?_) (fun a w hJ => ?_)
                    · replace H := H57
                      refine itt H (fun hc58 H => ?_) (fun hc58 H => ?_)
                      · -- 0 < y41
                        refine itt H (fun hc59 H => ?_) (fun hc59 H => ?_)
                        · -- ((gd Actor.zero a1 y43).Min) ≤ x17
                          refine bnd H (fun s60 hs60 H => ?_)
                          refine region_k (fun K61 hK61 => ?_)
                          refine stq hf rfl rfl rfl (ex_move hf rfl) (fun a hf => ?_)
                          refine stq hf rfl rfl rfl (ex_gtr hf rfl rfl) (fun a hf => ?_)
                          refine stq hf rfl rfl rfl (ex_move hf rfl) (fun a hf => ?_)
                          replace hf := hf.castB (t := 59) rfl (dec_t hc58)
                          replace hf := hf.castB (t := 60) rfl (dec_t hc58)
                          refine stq hf rfl rfl rfl (ex_fieldAddrB fa_69_1 rfl hf rfl) (fun a hf => ?_)
                          refine stq hf rfl rfl rfl (ex_load sc_23 hf rfl (bx_cell (hs.get (i := 0) rfl) _ rfl)) (fun a hf => ?_)
                          refine stq hf rfl rfl rfl (ex_move hf rfl) (fun a hf => ?_)
                          refine stq hf rfl rfl rfl (ex_leq hf rfl rfl) (fun a hf => ?_)
                          refine stq hf rfl rfl rfl (ex_pickT hf rfl rfl) (fun a hf => ?_)
                          refine stq hf rfl rfl rfl (ex_move hf rfl) (fun a hf => ?_)
                          replace hf := hf.castB (t := 64) rfl (dec_t hc59)
                          replace hf := hf.castB (t := 65) rfl (dec_t hc59)
                          replace hf := hf.castB (t := 66) rfl (dec_t hc59)
                          refine stq hf rfl rfl rfl (ex_move hf rfl) (fun a hf => ?_)
                          refine stq hf rfl rfl rfl (ex_loadA (cs := [.int .u64 ((gd Actor.zero a1 y43).Request), .int .u64 ((gd Actor.zero a1 y43).Min), .int .u64 ((gd Actor.zero a1 y43).Max)]) ag_69 hf rfl (bx_cells (hs.get (i := 0) rfl) rfl)) (fun a hf => ?_)
                          refine stepF hf rfl rfl rfl (ex_call cf_40 hf rfl) (thermal_want.calls k45 (⟨((gd Actor.zero a1 y43).Request), ((gd Actor.zero a1 y43).Min), ((gd Actor.zero a1 y43).Max)⟩ : Actor) (hs.enter (.k (.k .nil))) (Sr.nil _ _) hs60) (fun v w hR a hf => ?_)
                          obtain ⟨rfl, hs'⟩ := hR
                          replace hs := hs.step (.k (.k .nil)) hs'
                          clear hs'
                          refine stq hf rfl rfl rfl (ex_lss hf rfl rfl) (fun a hf => ?_)
                          refine stq hf rfl rfl rfl (ex_pickT hf rfl rfl) (fun a hf => ?_)
                          refine hK61 _ _ ?_
                          replace hs := hs.keep (.d (.k .nil))
                          have e57 := some_eq H; subst e57
                          exact hJ57 _ _ ⟨hf.sub ⟨rfl, rfl, rfl, rfl, rfl, rfl, rfl, rfl, trivial⟩, hs⟩
                        · -- not ((gd Actor.zero a1 y43).Min) ≤ x17
                          refine region_k (fun K62 hK62 => ?_)
                          refine stq hf rfl rfl rfl (ex_move hf rfl) (fun a hf => ?_)
                          refine stq hf rfl rfl rfl (ex_gtr hf rfl rfl) (fun a hf => ?_)
                          refine stq hf rfl rfl rfl (ex_move hf rfl) (fun a hf => ?_)
                          replace hf := hf.castB (t := 59) rfl (dec_t hc58)
                          replace hf := hf.castB (t := 60) rfl (dec_t hc58)
                          refine stq hf rfl rfl rfl (ex_fieldAddrB fa_69_1 rfl hf rfl) (fun a hf => ?_)
                          refine stq hf rfl rfl rfl (ex_load sc_23 hf rfl (bx_cell (hs.get (i := 0) rfl) _ rfl)) (fun a hf => ?_)
                          refine stq hf rfl rfl rfl (ex_move hf rfl) (fun a hf => ?_)
                          refine stq hf rfl rfl rfl (ex_leq hf rfl rfl) (fun a hf => ?_)
                          refine stq hf rfl rfl rfl (ex_pickT hf rfl rfl) (fun a hf => ?_)
                          refine stq hf rfl rfl rfl (ex_move hf rfl) (fun a hf => ?_)
                          replace hf := hf.castB (t := 64) rfl (dec_f hc59)
                          replace hf := hf.castB (t := 65) rfl (dec_f hc59)
                          replace hf := hf.castB (t := 66) rfl (dec_f hc59)
                          refine stepN hf rfl rfl rfl (fun a hf => ?_)
                          refine stepN hf rfl rfl rfl (fun a hf => ?_)
                          refine stepN hf rfl rfl rfl (fun a hf => ?_)
                          refine stepN hf rfl rfl rfl (fun a hf => ?_)
                          refine stq hf rfl rfl rfl (ex_pickF hf rfl rfl) (fun a hf => ?_)
                          refine hK62 _ _ ?_
                          replace hs := hs.keep (.d (.k .nil))
                          have e57 := some_eq H; subst e57
                          exact hJ57 _ _ ⟨hf.sub ⟨rfl, rfl, rfl, rfl, rfl, rfl, rfl, rfl, trivial⟩, hs⟩
                      · -- not 0 < y41
                        refine region_k (fun K63 hK63 => ?_)
                        refine stq hf rfl rfl rfl (ex_move hf rfl) (fun a hf => ?_)
                        refine stq hf rfl rfl rfl (ex_gtr hf rfl rfl) (fun a hf => ?_)
                        refine stq hf rfl rfl rfl (ex_move hf rfl) (fun a hf => ?_)
                        replace hf := hf.castB (t := 59) rfl (dec_f hc58)
                        replace hf := hf.castB (t := 60) rfl (dec_f hc58)
                        refine stepN hf rfl rfl rfl (fun a hf => ?_)
                        refine stepN hf rfl rfl rfl (fun a hf => ?_)
                        refine stepN hf rfl rfl rfl (fun a hf => ?_)
                        refine stepN hf rfl rfl rfl (fun a hf => ?_)
                        refine stq hf rfl rfl rfl (ex_pickF hf rfl rfl) (fun a hf => ?_)
                        refine stq hf rfl rfl rfl (ex_move hf rfl) (fun a hf => ?_)
                        refine stepN hf rfl rfl rfl (fun a hf => ?_)
                        refine stepN hf rfl rfl rfl (fun a hf => ?_)
                        refine stepN hf rfl rfl rfl (fun a hf => ?_)
                        refine stepN hf rfl rfl rfl (fun a hf => ?_)
                        refine stq hf rfl rfl rfl (ex_pickF hf rfl rfl) (fun a hf => ?_)
                        refine hK63 _ _ ?_
                        replace hs := hs.keep (.d (.k .nil))
                        have e57 := some_eq H; subst e57
                        exact hJ57 _ _ ⟨hf.sub ⟨rfl, rfl, rfl, rfl, rfl, rfl, rfl, rfl, trivial⟩, hs⟩
                    · obtain ⟨hf, hs⟩ := hJ
                      replace H := HO57
                      clear HO57
                      refine itt H (fun hc64 H => ?_) (fun hc64 H => ?_)
                      · -- x57 = true
                        replace hf := hf.castB (t := 71) rfl hc64
                        refine cond_T hf rfl ?_
                        refine seq_reg (fun K65 hK65 => ?_)
                        refine stq hf rfl rfl rfl (ex_move hf rfl) (fun a hf => ?_)
                        refine stq hf rfl rfl rfl (ex_add hf rfl rfl) (fun a hf => ?_)
                        refine stq hf rfl rfl rfl (ex_assign hf rfl) (fun a hf => ?_)
                        refine hK65 _ _ ?_
                        refine region_k (fun K66 hK66 => ?_)
                        refine stq hf rfl rfl rfl (ex_move hf rfl) (fun a hf => ?_)
                        refine stq hf rfl rfl rfl (ex_sub hf rfl rfl) (fun a hf => ?_)
                        refine stq hf rfl rfl rfl (ex_assign hf rfl) (fun a hf => ?_)
                        refine hK66 _ _ ?_
                        have e56 := some_eq H; subst e56
                        exact hJ56 _ _ ⟨hf.sub ⟨rfl, rfl, rfl, rfl, rfl, rfl, rfl, trivial⟩, hs⟩
                      · -- not x57 = true
                        replace hf := hf.castB (t := 71) rfl (bool_f hc64)
                        refine cond_F hf rfl ?_
                        refine wp_skip ?_
                        have e56 := some_eq H; subst e56
                        exact hJ56 _ _ ⟨hf.sub ⟨rfl, rfl, rfl, rfl, rfl, rfl, rfl, trivial⟩, hs⟩
                  · obtain ⟨hf, hs⟩ := hJ
                    replace H := HO56
                    clear HO56
                    refine ck_some H (fun hc68 H => ?_)
                    refine region_k (fun K70 hK70 => ?_)
                    refine stq hf rfl rfl rfl (ex_move hf rfl) (fun a hf => ?_)
                    refine stq hf rfl rfl rfl (ex_move hf rfl) (fun a hf => ?_)
                    refine stepV hf rfl rfl rfl (er_buildSlice (K := K_uint64) (xs := [x56.2]) hs Try.underlying62 ep_23 rfl rfl hf rfl (.cons rfl .nil) rfl rfl) (fun v67 w hs a hf => ?_)
                    refine stepV hf rfl rfl rfl (er_append (K := K_uint64) hs (.k (.c .nil)) (osl_rsl _ (hs.get (i := 0) rfl)) rfl Try.underlying62 ep_23 hc68 rfl hf rfl rfl) (fun v69 w hs a hf => ?_)
                    refine stq hf rfl rfl rfl (ex_assign hf rfl) (fun a hf => ?_)
                    refine hK70 _ _ ?_
                    refine hN50 _ _ ?_
                    refine hN49 _ _ ?_
                    refine region_k (fun K71 hK71 => ?_)
                    refine stq hf rfl rfl rfl (ex_add hf rfl rfl) (fun a hf => ?_)
                    refine stq hf rfl rfl rfl (ex_move hf rfl) (fun a hf => ?_)
                    refine hK71 _ _ ?_
                    replace hs := hs.keep (.k (.d .nil))
                    exact hL45 k45 _ _ (Nat.lt_succ_self _) ⟨x56.1, (y42 ++ [x56.2]), (IntKind.i64.wrap (y43 + 1)), v69, hf.sub ⟨rfl, rfl, rfl, rfl, rfl, rfl, trivial⟩, hs, H⟩
                · -- not y43 < (a1.length : Int)
                  replace hf := hf.castB (t := 52) rfl (dec_f hc48)
                  refine cond_F hf rfl ?_
                  refine wp_exit ?_
                  refine hX47 3 _ _ ?_
                  refine hX45 3 _ _ ?_
                  refine hX39 _ _ ?_
                  have e36 := some_eq H; subst e36
                  exact hJ36 _ _ ⟨v40, hf.sub ⟨rfl, trivial⟩, hs⟩
          · obtain ⟨v37, hf, hs⟩ := hJ
            replace H := HO36
            clear HO36
            refine seq_reg (fun K72 hK72 => ?_)
            refine stq hf rfl rfl rfl (ex_move hf rfl) (fun a hf => ?_)
            refine stq hf rfl rfl rfl (ex_assign hf rfl) (fun a hf => ?_)
            refine stq hf rfl rfl rfl (ex_assign hf rfl) (fun a hf => ?_)
            refine hK72 _ _ ?_
            refine wp_ret ?_
            have eR := some_eq H; subst eR
            exact ret2 Try.results22 hf rfl rfl ⟨_, rfl, ⟨v37, rfl, hs⟩⟩
  · -- not s4 = true
    replace hf := hf.castB (t := 16) rfl (bool_f hc6)
    replace hf := hf.castB (t := 17) rfl (nbool_t hc6)
    replace hf := hf.castB (t := 14) rfl (nbool_t hc6)
    refine cond_T hf rfl ?_
    refine seq_reg (fun K73 hK73 => ?_)
    refine stq hf rfl rfl rfl (ex_assign hf rfl) (fun a hf => ?_)
    refine stq hf rfl rfl rfl (ex_assign hf rfl) (fun a hf => ?_)
    refine hK73 _ _ ?_
    refine wp_ret ?_
    refine hR3 _ _ ?_
    refine hR2 _ _ ?_
    have eR := some_eq H; subst eR
    replace hs := hs.nilS K_uint64
    exact ret2 Try.results22 hf rfl rfl ⟨_, rfl, ⟨(.slice none 0 0), rfl, hs⟩⟩

set_option maxRecDepth 100000 in
theorem thermal_CheckTrips.calls {M : Nat → Prop} {w0 : World} (k : Nat) (a0 : (List Trip)) (v0 : Value) {r : Int} (hs : St M w0 w0 []) (hr : Sr M w0 [rsl K_api_Trip v0 a0])
    (h : thermal_CheckTrips.f k a0 = some r) : Calls Try.prog 27 #[v0] w0 fun e w => ∃ v, e = .returned v ∧ (.int .i64 r = v ∧ St M w0 w []) := by
  have H := (thermal_CheckTrips.f.eq_1 ..).symm.trans h
  clear h
  refine enter Try.func27 rfl Try.ntmps27 rfl (fun a hf => ?_)
  refine seq_reg (fun K1 hK1 => ?_)
  refine stq hf rfl rfl rfl (ex_assign hf rfl) (fun a hf => ?_)
  refine hK1 _ _ ?_
  refine seq_n (fun Q2 hN2 hR2 hX2 => ?_)
  refine seq_reg (fun K3 hK3 => ?_)
  refine stq hf rfl rfl rfl (ex_move hf rfl) (fun a hf => ?_)
  refine stq hf rfl rfl rfl (ex_lenS Try.underlying56 (rsl_isSl (hr.now hs (i := 0) rfl)) hf rfl) (fun a hf => ?_)
  refine stq hf rfl rfl rfl (ex_gtr hf rfl rfl) (fun a hf => ?_)
  refine hK3 _ _ ?_
  refine itt H (fun hc4 H => ?_) (fun hc4 H => ?_)
  · -- 12 < (a0.length : Int)
    replace hf := hf.castB (t := 7) rfl (dec_t hc4)
    refine cond_T hf rfl ?_
    refine seq_reg (fun K5 hK5 => ?_)
    refine stq hf rfl rfl rfl (ex_assign hf rfl) (fun a hf => ?_)
    refine hK5 _ _ ?_
    refine wp_ret ?_
    refine hR2 _ _ ?_
    have eR := some_eq H; subst eR
    exact ret1 Try.results27 hf rfl ⟨_, rfl, ⟨rfl, hs⟩⟩
  · -- not 12 < (a0.length : Int)
    replace hf := hf.castB (t := 7) rfl (dec_f hc4)
    refine cond_F hf rfl ?_
    refine wp_skip ?_
    refine hN2 _ _ ?_
    refine bnd H (fun x6 H6 HO6 => ?_)
    clear H
    refine seq_cut (fun a w => ∃ (x6s : Unit), x6 = .go x6s ∧ Fr a 43 [] ∧ St M w0 w []) (fun Q6 hJ6 hR6 hX6 => ?_) (fun a w hJ => ?_)
    · replace H := H6
      refine seq_reg (fun K7 hK7 => ?_)
      refine stq hf rfl rfl rfl (ex_move hf rfl) (fun a hf => ?_)
      refine stq hf rfl rfl rfl (ex_lenS Try.underlying56 (rsl_isSl (hr.now hs (i := 0) rfl)) hf rfl) (fun a hf => ?_)
      refine stq hf rfl rfl rfl (ex_move hf rfl) (fun a hf => ?_)
      refine hK7 _ _ ?_
      refine block_k (fun Q8 hN8 hR8 hX8 hY8 => ?_)
      refine loop_k (fun n a w => ∃ (y9 : Int), Fr a 43 [(8, v0), (9, .int .i64 (a0.length : Int)), (10, .int .i64 y9)] ∧ St M w0 w [] ∧ thermal_CheckTrips.l1 n a0 y9 = some x6) k ?_ (fun n11 a w hI Q11 hL11 hR11 hX11 => ?_)
      · -- at the start
        exact ⟨0, hf.sub ⟨rfl, rfl, rfl, trivial⟩, hs, H⟩
      · obtain ⟨y9, hf, hs, H⟩ := hI
        cases n11 with
        | zero => exact absurd H (by rw [thermal_CheckTrips.l1.eq_1]; intro h; cases h)
        | succ k11 =>
          replace H := (thermal_CheckTrips.l1.eq_2 ..).symm.trans H
          refine seq_reg (fun K12 hK12 => ?_)
          refine stq hf rfl rfl rfl (ex_lss hf rfl rfl) (fun a hf => ?_)
          refine hK12 _ _ ?_
          refine seq_n (fun Q13 hN13 hR13 hX13 => ?_)
          refine itt H (fun hc14 H => ?_) (fun hc14 H => ?_)
          · -- y9 < (a0.length : Int)
            replace hf := hf.castB (t := 11) rfl (dec_t hc14)
            refine cond_T hf rfl ?_
            refine wp_skip ?_
            refine hN13 _ _ ?_
            refine seq_n (fun Q15 hN15 hR15 hX15 => ?_)
            refine block_k (fun Q16 hN16 hR16 hX16 hY16 => ?_)
            refine ck_some H (fun hc17 H => ?_)
            refine seq_reg (fun K19 hK19 => ?_)
            refine stq hf rfl rfl rfl (ex_indexAddr sa_56 (rsl_isSl (hr.now hs (i := 0) rfl)) hc17.1 hc17.2 hf rfl rfl) (fun a hf => ?_)
            refine stq hf rfl rfl rfl (ex_loadA (cs := [.int .i64 ((gd Trip.zero a0 y9).Kind), .int .i64 ((gd Trip.zero a0 y9).Temperature), .int .i64 ((gd Trip.zero a0 y9).Hysteresis)]) ag_55 hf rfl (el_cells (K := K_api_Trip) (rsl_rd (hr.now hs (i := 0) rfl)) hc17.1 hc17.2 rfl)) (fun a hf => ?_)
            refine stepV hf rfl rfl rfl (er_alloc hs ti_55 (cs := [.int .i64 0, .int .i64 0, .int .i64 0]) rfl) (fun v w hR a hf => ?_)
            obtain ⟨b18, rfl, hs⟩ := hR
            refine stepS hf rfl rfl (er_storeAB (vs := [.int .i64 ((gd Trip.zero a0 y9).Kind), .int .i64 ((gd Trip.zero a0 y9).Temperature), .int .i64 ((gd Trip.zero a0 y9).Hysteresis)]) (cs' := [.int .i64 ((gd Trip.zero a0 y9).Kind), .int .i64 ((gd Trip.zero a0 y9).Temperature), .int .i64 ((gd Trip.zero a0 y9).Hysteresis)]) hs (.c .nil) sz_55 hf rfl rfl (all1 rfl (all1 rfl (all1 rfl (all1_nil)))) rfl rfl) (fun w hs => ?_)
            refine hK19 _ _ ?_
            refine bnd H (fun x20 H20 HO20 => ?_)
            clear H
            refine seq_cut (fun a w => Fr a 43 [(8, v0), (9, .int .i64 (a0.length : Int)), (10, .int .i64 y9), (41, .bool x20)] ∧ St M w0 w []) (fun Q20 hJ20 hR20 hX20 => ?_) (fun a w hJ => ?_)
            · replace H := H20
              refine itt H (fun hc21 H => ?_) (fun hc21 H => ?_)
              · -- ((gd Trip.zero a0 y9).Kind) < 1
                refine region_k (fun K22 hK22 => ?_)
                refine stq hf rfl rfl rfl (ex_fieldAddrB fa_55_0 rfl hf rfl) (fun a hf => ?_)
                refine stq hf rfl rfl rfl (ex_load sc_3 hf rfl (bx_cell (hs.get (i := 0) rfl) _ rfl)) (fun a hf => ?_)
                refine stq hf rfl rfl rfl (ex_lss hf rfl rfl) (fun a hf => ?_)
                refine stq hf rfl rfl rfl (ex_move hf rfl) (fun a hf => ?_)
                replace hf := hf.castB (t := 16) rfl (dec_t hc21)
                replace hf := hf.castB (t := 17) rfl (dec_t hc21)
                refine stepN hf rfl rfl rfl (fun a hf => ?_)
                refine stepN hf rfl rfl rfl (fun a hf => ?_)
                refine stepN hf rfl rfl rfl (fun a hf => ?_)
                refine stq hf rfl rfl rfl (ex_pickT hf rfl rfl) (fun a hf => ?_)
                refine stq hf rfl rfl rfl (ex_move hf rfl) (fun a hf => ?_)
                refine stepN hf rfl rfl rfl (fun a hf => ?_)
                refine stepN hf rfl rfl rfl (fun a hf => ?_)
                refine stepN hf rfl rfl rfl (fun a hf => ?_)
                refine stq hf rfl rfl rfl (ex_pickT hf rfl rfl) (fun a hf => ?_)
                refine stq hf rfl rfl rfl (ex_move hf rfl) (fun a hf => ?_)
                refine stepN hf rfl rfl rfl (fun a hf => ?_)
                refine stepN hf rfl rfl rfl (fun a hf => ?_)
                refine stepN hf rfl rfl rfl (fun a hf => ?_)
                refine stq hf rfl rfl rfl (ex_pickT hf rfl rfl) (fun a hf => ?_)
                refine stq hf rfl rfl rfl (ex_move hf rfl) (fun a hf => ?_)
                refine stepN hf rfl rfl rfl (fun a hf => ?_)
                refine stepN hf rfl rfl rfl (fun a hf => ?_)
                refine stepN hf rfl rfl rfl (fun a hf => ?_)
                refine stq hf rfl rfl rfl (ex_pickT hf rfl rfl) (fun a hf => ?_)
                refine stq hf rfl rfl rfl (ex_move hf rfl) (fun a hf => ?_)
                refine stepN hf rfl rfl rfl (fun a hf => ?_)
                refine stepN hf rfl rfl rfl (fun a hf => ?_)
                refine stepN hf rfl rfl rfl (fun a hf => ?_)
                refine stq hf rfl rfl rfl (ex_pickT hf rfl rfl) (fun a hf => ?_)
                refine hK22 _ _ ?_
                replace hs := hs.keep (.d .nil)
                have e20 := some_eq H; subst e20
                exact hJ20 _ _ ⟨hf.sub ⟨rfl, rfl, rfl, rfl, trivial⟩, hs⟩
              · -- not ((gd Trip.zero a0 y9).Kind) < 1
                refine itt H (fun hc23 H => ?_) (fun hc23 H => ?_)
                · -- 3 < ((gd Trip.zero a0 y9).Kind)
                  refine region_k (fun K24 hK24 => ?_)
                  refine stq hf rfl rfl rfl (ex_fieldAddrB fa_55_0 rfl hf rfl) (fun a hf => ?_)
                  refine stq hf rfl rfl rfl (ex_load sc_3 hf rfl (bx_cell (hs.get (i := 0) rfl) _ rfl)) (fun a hf => ?_)
                  refine stq hf rfl rfl rfl (ex_lss hf rfl rfl) (fun a hf => ?_)
                  refine stq hf rfl rfl rfl (ex_move hf rfl) (fun a hf => ?_)
                  replace hf := hf.castB (t := 16) rfl (dec_f hc21)
                  replace hf := hf.castB (t := 17) rfl (dec_f hc21)
                  refine stq hf rfl rfl rfl (ex_fieldAddrB fa_55_0 rfl hf rfl) (fun a hf => ?_)
                  refine stq hf rfl rfl rfl (ex_load sc_3 hf rfl (bx_cell (hs.get (i := 0) rfl) _ rfl)) (fun a hf => ?_)
                  refine stq hf rfl rfl rfl (ex_gtr hf rfl rfl) (fun a hf => ?_)
                  refine stq hf rfl rfl rfl (ex_pickF hf rfl rfl) (fun a hf => ?_)
                  refine stq hf rfl rfl rfl (ex_move hf rfl) (fun a hf => ?_)
                  replace hf := hf.castB (t := 20) rfl (dec_t hc23)
                  replace hf := hf.castB (t := 21) rfl (dec_t hc23)
                  replace hf := hf.castB (t := 22) rfl (dec_t hc23)
                  refine stepN hf rfl rfl rfl (fun a hf => ?_)
                  refine stepN hf rfl rfl rfl (fun a hf => ?_)
                  refine stepN hf rfl rfl rfl (fun a hf => ?_)
                  refine stq hf rfl rfl rfl (ex_pickT hf rfl rfl) (fun a hf => ?_)
                  refine stq hf rfl rfl rfl (ex_move hf rfl) (fun a hf => ?_)
                  refine stepN hf rfl rfl rfl (fun a hf => ?_)
                  refine stepN hf rfl rfl rfl (fun a hf => ?_)
                  refine stepN hf rfl rfl rfl (fun a hf => ?_)
                  refine stq hf rfl rfl rfl (ex_pickT hf rfl rfl) (fun a hf => ?_)
                  refine stq hf rfl rfl rfl (ex_move hf rfl) (fun a hf => ?_)
                  refine stepN hf rfl rfl rfl (fun a hf => ?_)
                  refine stepN hf rfl rfl rfl (fun a hf => ?_)
                  refine stepN hf rfl rfl rfl (fun a hf => ?_)
                  refine stq hf rfl rfl rfl (ex_pickT hf rfl rfl) (fun a hf => ?_)
                  refine stq hf rfl rfl rfl (ex_move hf rfl) (fun a hf => ?_)
                  refine stepN hf rfl rfl rfl (fun a hf => ?_)
                  refine stepN hf rfl rfl rfl (fun a hf => ?_)
                  refine stepN hf rfl rfl rfl (fun a hf => ?_)
                  refine stq hf rfl rfl rfl (ex_pickT hf rfl rfl) (fun a hf => ?_)
                  refine hK24 _ _ ?_
                  replace hs := hs.keep (.d .nil)
                  have e20 := some_eq H; subst e20
                  exact hJ20 _ _ ⟨hf.sub ⟨rfl, rfl, rfl, rfl, trivial⟩, hs⟩
                · -- not 3 < ((gd Trip.zero a0 y9).Kind)
                  refine itt H (fun hc25 H => ?_) (fun hc25 H => ?_)
                  · -- ((gd Trip.zero a0 y9).Temperature) < (-67108864)
                    refine region_k (fun K26 hK26 => ?_)
                    refine stq hf rfl rfl rfl (ex_fieldAddrB fa_55_0 rfl hf rfl) (fun a hf => ?_)
                    refine stq hf rfl rfl rfl (ex_load sc_3 hf rfl (bx_cell (hs.get (i := 0) rfl) _ rfl)) (fun a hf => ?_)
                    refine stq hf rfl rfl rfl (ex_lss hf rfl rfl) (fun a hf => ?_)
                    refine stq hf rfl rfl rfl (ex_move hf rfl) (fun a hf => ?_)
                    replace hf := hf.castB (t := 16) rfl (dec_f hc21)
                    replace hf := hf.castB (t := 17) rfl (dec_f hc21)
                    refine stq hf rfl rfl rfl (ex_fieldAddrB fa_55_0 rfl hf rfl) (fun a hf => ?_)
                    refine stq hf rfl rfl rfl (ex_load sc_3 hf rfl (bx_cell (hs.get (i := 0) rfl) _ rfl)) (fun a hf => ?_)
                    refine stq hf rfl rfl rfl (ex_gtr hf rfl rfl) (fun a hf => ?_)
                    refine stq hf rfl rfl rfl (ex_pickF hf rfl rfl) (fun a hf => ?_)
                    refine stq hf rfl rfl rfl (ex_move hf rfl) (fun a hf => ?_)
                    replace hf := hf.castB (t := 20) rfl (dec_f hc23)
                    replace hf := hf.castB (t := 21) rfl (dec_f hc23)
                    replace hf := hf.castB (t := 22) rfl (dec_f hc23)
                    refine stq hf rfl rfl rfl (ex_fieldAddrB fa_55_1 rfl hf rfl) (fun a hf => ?_)
                    refine stq hf rfl rfl rfl (ex_load sc_2 hf rfl (bx_cell (hs.get (i := 0) rfl) _ rfl)) (fun a hf => ?_)
                    refine stq hf rfl rfl rfl (ex_lss hf rfl rfl) (fun a hf => ?_)
                    refine stq hf rfl rfl rfl (ex_pickF hf rfl rfl) (fun a hf => ?_)
                    refine stq hf rfl rfl rfl (ex_move hf rfl) (fun a hf => ?_)
                    replace hf := hf.castB (t := 25) rfl (dec_t hc25)
                    replace hf := hf.castB (t := 26) rfl (dec_t hc25)
                    replace hf := hf.castB (t := 27) rfl (dec_t hc25)
                    refine stepN hf rfl rfl rfl (fun a hf => ?_)
                    refine stepN hf rfl rfl rfl (fun a hf => ?_)
                    refine stepN hf rfl rfl rfl (fun a hf => ?_)
                    refine stq hf rfl rfl rfl (ex_pickT hf rfl rfl) (fun a hf => ?_)
                    refine stq hf rfl rfl rfl (ex_move hf rfl) (fun a hf => ?_)
                    refine stepN hf rfl rfl rfl (fun a hf => ?_)
                    refine stepN hf rfl rfl rfl (fun a hf => ?_)
                    refine stepN hf rfl rfl rfl (fun a hf => ?_)
                    refine stq hf rfl rfl rfl (ex_pickT hf rfl rfl) (fun a hf => ?_)
                    refine stq hf rfl rfl rfl (ex_move hf rfl) (fun a hf => ?_)
                    refine stepN hf rfl rfl rfl (fun a hf => ?_)
                    refine stepN hf rfl rfl rfl (fun a hf => ?_)
                    refine stepN hf rfl rfl rfl (fun a hf => ?_)
                    refine stq hf rfl rfl rfl (ex_pickT hf rfl rfl) (fun a hf => ?_)
                    refine hK26 _ _ ?_
                    replace hs := hs.keep (.d .nil)
                    have e20 := some_eq H; subst e20
                    exact hJ20 _ _ ⟨hf.sub ⟨rfl, rfl, rfl, rfl, trivial⟩, hs⟩
                  · -- not ((gd Trip.zero a0 y9).Temperature) < (-67108864)
                    refine itt H (fun hc27 H => ?_) (fun hc27 H => ?_)
                    · -- 67108864 < ((gd Trip.zero a0 y9).Temperature)
                      refine region_k (fun K28 hK28 => ?_)
                      refine stq hf rfl rfl rfl (ex_fieldAddrB fa_55_0 rfl hf rfl) (fun a hf => ?_)
                      refine stq hf rfl rfl rfl (ex_load sc_3 hf rfl (bx_cell (hs.get (i := 0) rfl) _ rfl)) (fun a hf => ?_)
                      refine stq hf rfl rfl rfl (ex_lss hf rfl rfl) (fun a hf => ?_)
                      refine stq hf rfl rfl rfl (ex_move hf rfl) (fun a hf => ?_)
                      replace hf := hf.castB (t := 16) rfl (dec_f hc21)
                      replace hf := hf.castB (t := 17) rfl (dec_f hc21)
                      refine stq hf rfl rfl rfl (ex_fieldAddrB fa_55_0 rfl hf rfl) (fun a hf => ?_)
                      refine stq hf rfl rfl rfl (ex_load sc_3 hf rfl (bx_cell (hs.get (i := 0) rfl) _ rfl)) (fun a hf => ?_)
                      refine stq hf rfl rfl rfl (ex_gtr hf rfl rfl) (fun a hf => ?_)
                      refine stq hf rfl rfl rfl (ex_pickF hf rfl rfl) (fun a hf => ?_)
                      refine stq hf rfl rfl rfl (ex_move hf rfl) (fun a hf => ?_)
                      replace hf := hf.castB (t := 20) rfl (dec_f hc23)
                      replace hf := hf.castB (t := 21) rfl (dec_f hc23)
                      replace hf := hf.castB (t := 22) rfl (dec_f hc23)
                      refine stq hf rfl rfl rfl (ex_fieldAddrB fa_55_1 rfl hf rfl) (fun a hf => ?_)
                      refine stq hf rfl rfl rfl (ex_load sc_2 hf rfl (bx_cell (hs.get (i := 0) rfl) _ rfl)) (fun a hf => ?_)
                      refine stq hf rfl rfl rfl (ex_lss hf rfl rfl) (fun a hf => ?_)
                      refine stq hf rfl rfl rfl (ex_pickF hf rfl rfl) (fun a hf => ?_)
                      refine stq hf rfl rfl rfl (ex_move hf rfl) (fun a hf => ?_)
                      replace hf := hf.castB (t := 25) rfl (dec_f hc25)
                      replace hf := hf.castB (t := 26) rfl (dec_f hc25)
                      replace hf := hf.castB (t := 27) rfl (dec_f hc25)
                      refine stq hf rfl rfl rfl (ex_fieldAddrB fa_55_1 rfl hf rfl) (fun a hf => ?_)
                      refine stq hf rfl rfl rfl (ex_load sc_2 hf rfl (bx_cell (hs.get (i := 0) rfl) _ rfl)) (fun a hf => ?_)
                      refine stq hf rfl rfl rfl (ex_gtr hf rfl rfl) (fun a hf => ?_)
                      refine stq hf rfl rfl rfl (ex_pickF hf rfl rfl) (fun a hf => ?_)
                      refine stq hf rfl rfl rfl (ex_move hf rfl) (fun a hf => ?_)
                      replace hf := hf.castB (t := 30) rfl (dec_t hc27)
                      replace hf := hf.castB (t := 31) rfl (dec_t hc27)
                      replace hf := hf.castB (t := 32) rfl (dec_t hc27)
                      refine stepN hf rfl rfl rfl (fun a hf => ?_)
                      refine stepN hf rfl rfl rfl (fun a hf => ?_)
                      refine stepN hf rfl rfl rfl (fun a hf => ?_)
                      refine stq hf rfl rfl rfl (ex_pickT hf rfl rfl) (fun a hf => ?_)
                      refine stq hf rfl rfl rfl (ex_move hf rfl) (fun a hf => ?_)
                      refine stepN hf rfl rfl rfl (fun a hf => ?_)
                      refine stepN hf rfl rfl rfl (fun a hf => ?_)
                      refine stepN hf rfl rfl rfl (fun a hf => ?_)
                      refine stq hf rfl rfl rfl (ex_pickT hf rfl rfl) (fun a hf => ?_)
                      refine hK28 _ _ ?_
                      replace hs := hs.keep (.d .nil)
                      have e20 := some_eq H; subst e20
                      exact hJ20 _ _ ⟨hf.sub ⟨rfl, rfl, rfl, rfl, trivial⟩, hs⟩
                    · -- not 67108864 < ((gd Trip.zero a0 y9).Temperature)
                      refine itt H (fun hc29 H => ?_) (fun hc29 H => ?_)
                      · -- ((gd Trip.zero a0 y9).Hysteresis) < 0
                        refine region_k (fun K30 hK30 => ?_)
                        refine stq hf rfl rfl rfl (ex_fieldAddrB fa_55_0 rfl hf rfl) (fun a hf => ?_)
                        refine stq hf rfl rfl rfl (ex_load sc_3 hf rfl (bx_cell (hs.get (i := 0) rfl) _ rfl)) (fun a hf => ?_)
                        refine stq hf rfl rfl rfl (ex_lss hf rfl rfl) (fun a hf => ?_)
                        refine stq hf rfl rfl rfl (ex_move hf rfl) (fun a hf => ?_)
                        replace hf := hf.castB (t := 16) rfl (dec_f hc21)
                        replace hf := hf.castB (t := 17) rfl (dec_f hc21)
                        refine stq hf rfl rfl rfl (ex_fieldAddrB fa_55_0 rfl hf rfl) (fun a hf => ?_)
                        refine stq hf rfl rfl rfl (ex_load sc_3 hf rfl (bx_cell (hs.get (i := 0) rfl) _ rfl)) (fun a hf => ?_)
                        refine stq hf rfl rfl rfl (ex_gtr hf rfl rfl) (fun a hf => ?_)
                        refine stq hf rfl rfl rfl (ex_pickF hf rfl rfl) (fun a hf => ?_)
                        refine stq hf rfl rfl rfl (ex_move hf rfl) (fun a hf => ?_)
                        replace hf := hf.castB (t := 20) rfl (dec_f hc23)
                        replace hf := hf.castB (t := 21) rfl (dec_f hc23)
                        replace hf := hf.castB (t := 22) rfl (dec_f hc23)
                        refine stq hf rfl rfl rfl (ex_fieldAddrB fa_55_1 rfl hf rfl) (fun a hf => ?_)
                        refine stq hf rfl rfl rfl (ex_load sc_2 hf rfl (bx_cell (hs.get (i := 0) rfl) _ rfl)) (fun a hf => ?_)
                        refine stq hf rfl rfl rfl (ex_lss hf rfl rfl) (fun a hf => ?_)
                        refine stq hf rfl rfl rfl (ex_pickF hf rfl rfl) (fun a hf => ?_)
                        refine stq hf rfl rfl rfl (ex_move hf rfl) (fun a hf => ?_)
                        replace hf := hf.castB (t := 25) rfl (dec_f hc25)
                        replace hf := hf.castB (t := 26) rfl (dec_f hc25)
                        replace hf := hf.castB (t := 27) rfl (dec_f hc25)
                        refine stq hf rfl rfl rfl (ex_fieldAddrB fa_55_1 rfl hf rfl) (fun a hf => ?_)
                        refine stq hf rfl rfl rfl (ex_load sc_2 hf rfl (bx_cell (hs.get (i := 0) rfl) _ rfl)) (fun a hf => ?_)
                        refine stq hf rfl rfl rfl (ex_gtr hf rfl rfl) (fun a hf => ?_)
                        refine stq hf rfl rfl rfl (ex_pickF hf rfl rfl) (fun a hf => ?_)
                        refine stq hf rfl rfl rfl (ex_move hf rfl) (fun a hf => ?_)
                        replace hf := hf.castB (t := 30) rfl (dec_f hc27)
                        replace hf := hf.castB (t := 31) rfl (dec_f hc27)
                        replace hf := hf.castB (t := 32) rfl (dec_f hc27)
                        refine stq hf rfl rfl rfl (ex_fieldAddrB fa_55_2 rfl hf rfl) (fun a hf => ?_)
                        refine stq hf rfl rfl rfl (ex_load sc_2 hf rfl (bx_cell (hs.get (i := 0) rfl) _ rfl)) (fun a hf => ?_)
                        refine stq hf rfl rfl rfl (ex_lss hf rfl rfl) (fun a hf => ?_)
                        refine stq hf rfl rfl rfl (ex_pickF hf rfl rfl) (fun a hf => ?_)
                        refine stq hf rfl rfl rfl (ex_move hf rfl) (fun a hf => ?_)
                        replace hf := hf.castB (t := 35) rfl (dec_t hc29)
                        replace hf := hf.castB (t := 36) rfl (dec_t hc29)
                        replace hf := hf.castB (t := 37) rfl (dec_t hc29)
                        refine stepN hf rfl rfl rfl (fun a hf => ?_)
                        refine stepN hf rfl rfl rfl (fun a hf => ?_)
                        refine stepN hf rfl rfl rfl (fun a hf => ?_)
                        refine stq hf rfl rfl rfl (ex_pickT hf rfl rfl) (fun a hf => ?_)
                        refine hK30 _ _ ?_
                        replace hs := hs.keep (.d .nil)
                        have e20 := some_eq H; subst e20
                        exact hJ20 _ _ ⟨hf.sub ⟨rfl, rfl, rfl, rfl, trivial⟩, hs⟩
                      · -- not ((gd Trip.zero a0 y9).Hysteresis) < 0
                        refine region_k (fun K31 hK31 => ?_)
                        refine stq hf rfl rfl rfl (ex_fieldAddrB fa_55_0 rfl hf rfl) (fun a hf => ?_)
                        refine stq hf rfl rfl rfl (ex_load sc_3 hf rfl (bx_cell (hs.get (i := 0) rfl) _ rfl)) (fun a hf => ?_)
                        refine stq hf rfl rfl rfl (ex_lss hf rfl rfl) (fun a hf => ?_)
                        refine stq hf rfl rfl rfl (ex_move hf rfl) (fun a hf => ?_)
                        replace hf := hf.castB (t := 16) rfl (dec_f hc21)
                        replace hf := hf.castB (t := 17) rfl (dec_f hc21)
                        refine stq hf rfl rfl rfl (ex_fieldAddrB fa_55_0 rfl hf rfl) (fun a hf => ?_)
                        refine stq hf rfl rfl rfl (ex_load sc_3 hf rfl (bx_cell (hs.get (i := 0) rfl) _ rfl)) (fun a hf => ?_)
                        refine stq hf rfl rfl rfl (ex_gtr hf rfl rfl) (fun a hf => ?_)
                        refine stq hf rfl rfl rfl (ex_pickF hf rfl rfl) (fun a hf => ?_)
                        refine stq hf rfl rfl rfl (ex_move hf rfl) (fun a hf => ?_)
                        replace hf := hf.castB (t := 20) rfl (dec_f hc23)
                        replace hf := hf.castB (t := 21) rfl (dec_f hc23)
                        replace hf := hf.castB (t := 22) rfl (dec_f hc23)
                        refine stq hf rfl rfl rfl (ex_fieldAddrB fa_55_1 rfl hf rfl) (fun a hf => ?_)
                        refine stq hf rfl rfl rfl (ex_load sc_2 hf rfl (bx_cell (hs.get (i := 0) rfl) _ rfl)) (fun a hf => ?_)
                        refine stq hf rfl rfl rfl (ex_lss hf rfl rfl) (fun a hf => ?_)
                        refine stq hf rfl rfl rfl (ex_pickF hf rfl rfl) (fun a hf => ?_)
                        refine stq hf rfl rfl rfl (ex_move hf rfl) (fun a hf => ?_)
                        replace hf := hf.castB (t := 25) rfl (dec_f hc25)
                        replace hf := hf.castB (t := 26) rfl (dec_f hc25)
                        replace hf := hf.castB (t := 27) rfl (dec_f hc25)
                        refine stq hf rfl rfl rfl (ex_fieldAddrB fa_55_1 rfl hf rfl) (fun a hf => ?_)
                        refine stq hf rfl rfl rfl (ex_load sc_2 hf rfl (bx_cell (hs.get (i := 0) rfl) _ rfl)) (fun a hf => ?_)
                        refine stq hf rfl rfl rfl (ex_gtr hf rfl rfl) (fun a hf => ?_)
                        refine stq hf rfl rfl rfl (ex_pickF hf rfl rfl) (fun a hf => ?_)
                        refine stq hf rfl rfl rfl (ex_move hf rfl) (fun a hf => ?_)
                        replace hf := hf.castB (t := 30) rfl (dec_f hc27)
                        replace hf := hf.castB (t := 31) rfl (dec_f hc27)
                        replace hf := hf.castB (t := 32) rfl (dec_f hc27)
                        refine stq hf rfl rfl rfl (ex_fieldAddrB fa_55_2 rfl hf rfl) (fun a hf => ?_)
                        refine stq hf rfl rfl rfl (ex_load sc_2 hf rfl (bx_cell (hs.get (i := 0) rfl) _ rfl)) (fun a hf => ?_)
                        refine stq hf rfl rfl rfl (ex_lss hf rfl rfl) (fun a hf => ?_)
                        refine stq hf rfl rfl rfl (ex_pickF hf rfl rfl) (fun a hf => ?_)
                        refine stq hf rfl rfl rfl (ex_move hf rfl) (fun a hf => ?_)
                        replace hf := hf.castB (t := 35) rfl (dec_f hc29)
                        replace hf := hf.castB (t := 36) rfl (dec_f hc29)
                        replace hf := hf.castB (t := 37) rfl (dec_f hc29)
                        refine stq hf rfl rfl rfl (ex_fieldAddrB fa_55_2 rfl hf rfl) (fun a hf => ?_)
                        refine stq hf rfl rfl rfl (ex_load sc_2 hf rfl (bx_cell (hs.get (i := 0) rfl) _ rfl)) (fun a hf => ?_)
                        refine stq hf rfl rfl rfl (ex_gtr hf rfl rfl) (fun a hf => ?_)
                        refine stq hf rfl rfl rfl (ex_pickF hf rfl rfl) (fun a hf => ?_)
                        refine hK31 _ _ ?_
                        replace hs := hs.keep (.d .nil)
                        have e20 := some_eq H; subst e20
                        exact hJ20 _ _ ⟨hf.sub ⟨rfl, rfl, rfl, rfl, trivial⟩, hs⟩
            · obtain ⟨hf, hs⟩ := hJ
              replace H := HO20
              clear HO20
              refine itt H (fun hc32 H => ?_) (fun hc32 H => ?_)
              · -- x20 = true
                replace hf := hf.castB (t := 41) rfl hc32
                refine cond_T hf rfl ?_
                refine seq_reg (fun K33 hK33 => ?_)
                refine stq hf rfl rfl rfl (ex_assign hf rfl) (fun a hf => ?_)
                refine hK33 _ _ ?_
                refine wp_ret ?_
                refine hR16 _ _ ?_
                refine hR15 _ _ ?_
                refine hR11 _ _ ?_
                refine hR8 _ _ ?_
                have e6 := some_eq H; subst e6; replace H := el_rt HO6
                refine hR6 _ _ ?_
                have eR := some_eq H; subst eR
                exact ret1 Try.results27 hf rfl ⟨_, rfl, ⟨rfl, hs⟩⟩
              · -- not x20 = true
                replace hf := hf.castB (t := 41) rfl (bool_f hc32)
                refine cond_F hf rfl ?_
                refine wp_skip ?_
                refine hN16 _ _ ?_
                refine hN15 _ _ ?_
                refine region_k (fun K34 hK34 => ?_)
                refine stq hf rfl rfl rfl (ex_add hf rfl rfl) (fun a hf => ?_)
                refine stq hf rfl rfl rfl (ex_move hf rfl) (fun a hf => ?_)
                refine hK34 _ _ ?_
                exact hL11 k11 _ _ (Nat.lt_succ_self _) ⟨(IntKind.i64.wrap (y9 + 1)), hf.sub ⟨rfl, rfl, rfl, trivial⟩, hs, H⟩
          · -- not y9 < (a0.length : Int)
            replace hf := hf.castB (t := 11) rfl (dec_f hc14)
            refine cond_F hf rfl ?_
            refine wp_exit ?_
            refine hX13 0 _ _ ?_
            refine hX11 0 _ _ ?_
            refine hX8 _ _ ?_
            have e6 := some_eq H; subst e6
            exact hJ6 _ _ ⟨_, rfl, hf.sub trivial, hs⟩
    · obtain ⟨x6s, rfl, hf, hs⟩ := hJ
      replace H := el_go HO6
      clear HO6
      refine seq_reg (fun K35 hK35 => ?_)
      refine stq hf rfl rfl rfl (ex_assign hf rfl) (fun a hf => ?_)
      refine hK35 _ _ ?_
      refine wp_ret ?_
      have eR := some_eq H; subst eR
      exact ret1 Try.results27 hf rfl ⟨_, rfl, ⟨rfl, hs⟩⟩

set_option maxRecDepth 100000 in
theorem slices_Clone_api_Trip_api_Trip.calls {M : Nat → Prop} {w0 : World} (k : Nat) (a0 : (List Trip)) (v0 : Value) {r : (List Trip)} (hs : St M w0 w0 []) (hr : Sr M w0 [rsl K_api_Trip v0 a0])
    (h : slices_Clone_api_Trip_api_Trip.f k a0 = some r) : Calls Try.prog 35 #[v0] w0 fun e w => ∃ v, e = .returned v ∧ (∃ (g0 : Value), g0 = v ∧ St M w0 w [osl K_api_Trip g0 r]) := by
  have H := (slices_Clone_api_Trip_api_Trip.f.eq_1 ..).symm.trans h
  clear h
  refine enter Try.func35 rfl Try.ntmps35 rfl (fun a hf => ?_)
  refine seq_reg (fun K1 hK1 => ?_)
  refine stq hf rfl rfl rfl (ex_assign hf rfl) (fun a hf => ?_)
  refine hK1 _ _ ?_
  refine seq_n (fun Q2 hN2 hR2 hX2 => ?_)
  refine seq_reg (fun K3 hK3 => ?_)
  refine stq hf rfl rfl rfl (ex_move hf rfl) (fun a hf => ?_)
  refine stq hf rfl rfl rfl (ex_eqnil Try.underlying56 (rsl_isSl (hr.now hs (i := 0) rfl)) hf rfl rfl) (fun a hf => ?_)
  refine hK3 _ _ ?_
  by_cases hc4 : (isNil v0) = true
  · -- nil
    have hz5 : a0 = [] := isNil_nil (rsl_isSl (hr.now hs (i := 0) rfl)) hc4
    replace H : (some ([] : List Trip)) = some r := by simpa [ck, hz5] using H
    replace hf := hf.castB (t := 4) rfl hc4
    refine cond_T hf rfl ?_
    refine seq_reg (fun K6 hK6 => ?_)
    refine stq hf rfl rfl rfl (ex_assign hf rfl) (fun a hf => ?_)
    refine hK6 _ _ ?_
    refine wp_ret ?_
    refine hR2 _ _ ?_
    have eR := some_eq H; subst eR
    replace hs := hs.nilS K_api_Trip
    exact ret1 Try.results35 hf rfl ⟨_, rfl, ⟨(.slice none 0 0), rfl, hs⟩⟩
  · -- not nil
    replace hf := hf.castB (t := 4) rfl (bool_f hc4)
    refine cond_F hf rfl ?_
    refine wp_skip ?_
    refine hN2 _ _ ?_
    refine ck_some H (fun hc8 H => ?_)
    refine seq_reg (fun K10 hK10 => ?_)
    refine stepV hf rfl rfl rfl (er_buildSlice (K := K_api_Trip) (xs := ([] : List Trip)) hs Try.underlying56 ep_55 rfl rfl hf rfl .nil rfl rfl) (fun v7 w hs a hf => ?_)
    refine stq hf rfl rfl rfl (ex_move hf rfl) (fun a hf => ?_)
    refine stepV hf rfl rfl rfl (er_append (K := K_api_Trip) hs (.c .nil) (hr.now hs (i := 0) rfl) rfl Try.underlying56 ep_55 hc8 rfl hf rfl rfl) (fun v9 w hs a hf => ?_)
    refine stq hf rfl rfl rfl (ex_assign hf rfl) (fun a hf => ?_)
    refine hK10 _ _ ?_
    refine wp_ret ?_
    have eR := some_eq H; subst eR
    exact ret1 Try.results35 hf rfl ⟨_, rfl, ⟨v9, rfl, hs⟩⟩

set_option maxRecDepth 100000 in
theorem thermal_NewZone.calls {M : Nat → Prop} {w0 : World} (k : Nat) (a0 : (List Trip)) (a1 : Int) (v0 : Value) {r : (Option ((List Trip) × (List Bool) × Int × Int)) × Int} (hs : St M w0 w0 []) (hr : Sr M w0 [rsl K_api_Trip v0 a0])
    (h : thermal_NewZone.f k a0 a1 = some r) : Calls Try.prog 19 #[v0, .int .i64 a1] w0 fun e w => ∃ v, e = .returned v ∧ ((r.1 = none ∧ .tuple #[.pointer none, .int .i64 r.2] = v ∧ St M w0 w []) ∨ (∃ c, r.1 = some c ∧ ∃ (g0 : Nat) (g1 : Value) (g2 : Value), .tuple #[.pointer (some ⟨g0, 0, none⟩), .int .i64 r.2] = v ∧ St M w0 w [bx g0 95 [g1, g2, .int .i64 c.2.2.1, .int .i64 c.2.2.2], osl K_api_Trip g1 c.1, osl K_bool g2 c.2.1])) := by
  have H := (thermal_NewZone.f.eq_1 ..).symm.trans h
  clear h
  refine enter Try.func19 rfl Try.ntmps19 rfl (fun a hf => ?_)
  refine seq_reg (fun K1 hK1 => ?_)
  refine stq hf rfl rfl rfl (ex_assign hf rfl) (fun a hf => ?_)
  refine stq hf rfl rfl rfl (ex_assign hf rfl) (fun a hf => ?_)
  refine hK1 _ _ ?_
  refine seq_n (fun Q2 hN2 hR2 hX2 => ?_)
  refine bnd H (fun x3 H3 HO3 => ?_)
  clear H
  refine seq_cut (fun a w => Fr a 25 [(0, v0), (1, .int .i64 a1), (16, .bool x3)] ∧ St M w0 w []) (fun Q3 hJ3 hR3 hX3 => ?_) (fun a w hJ => ?_)
  · replace H := H3
    refine bnd H (fun s4 hs4 H => ?_)
    refine itt H (fun hc5 H => ?_) (fun hc5 H => ?_)
    · -- s4 = 0
      refine itt H (fun hc6 H => ?_) (fun hc6 H => ?_)
      · -- a1 < 0
        refine region_k (fun K7 hK7 => ?_)
        refine stq hf rfl rfl rfl (ex_move hf rfl) (fun a hf => ?_)
        refine stepF hf rfl rfl rfl (ex_call cf_27 hf rfl) (thermal_CheckTrips.calls k a0 v0 (hs.enter .nil) (Sr.old hr hs .nil (i := 0) rfl (fun _ h => h) (fun _ h => h) (Sr.nil _ _)) hs4) (fun v w hR a hf => ?_)
        obtain ⟨rfl, hs'⟩ := hR
        replace hs := hs.step .nil hs'
        clear hs'
        refine stq hf rfl rfl rfl (ex_neq hf rfl rfl) (fun a hf => ?_)
        refine stq hf rfl rfl rfl (ex_move hf rfl) (fun a hf => ?_)
        replace hf := hf.castB (t := 8) rfl (ndec_f hc5)
        replace hf := hf.castB (t := 9) rfl (ndec_f hc5)
        refine stq hf rfl rfl rfl (ex_move hf rfl) (fun a hf => ?_)
        refine stq hf rfl rfl rfl (ex_lss hf rfl rfl) (fun a hf => ?_)
        refine stq hf rfl rfl rfl (ex_pickF hf rfl rfl) (fun a hf => ?_)
        refine stq hf rfl rfl rfl (ex_move hf rfl) (fun a hf => ?_)
        replace hf := hf.castB (t := 11) rfl (dec_t hc6)
        replace hf := hf.castB (t := 12) rfl (dec_t hc6)
        replace hf := hf.castB (t := 13) rfl (dec_t hc6)
        refine stepN hf rfl rfl rfl (fun a hf => ?_)
        refine stepN hf rfl rfl rfl (fun a hf => ?_)
        refine stq hf rfl rfl rfl (ex_pickT hf rfl rfl) (fun a hf => ?_)
        refine hK7 _ _ ?_
        have e3 := some_eq H; subst e3
        exact hJ3 _ _ ⟨hf.sub ⟨rfl, rfl, rfl, trivial⟩, hs⟩
      · -- not a1 < 0
        refine region_k (fun K8 hK8 => ?_)
        refine stq hf rfl rfl rfl (ex_move hf rfl) (fun a hf => ?_)
        refine stepF hf rfl rfl rfl (ex_call cf_27 hf rfl) (thermal_CheckTrips.calls k a0 v0 (hs.enter .nil) (Sr.old hr hs .nil (i := 0) rfl (fun _ h => h) (fun _ h => h) (Sr.nil _ _)) hs4) (fun v w hR a hf => ?_)
        obtain ⟨rfl, hs'⟩ := hR
        replace hs := hs.step .nil hs'
        clear hs'
        refine stq hf rfl rfl rfl (ex_neq hf rfl rfl) (fun a hf => ?_)
        refine stq hf rfl rfl rfl (ex_move hf rfl) (fun a hf => ?_)
        replace hf := hf.castB (t := 8) rfl (ndec_f hc5)
        replace hf := hf.castB (t := 9) rfl (ndec_f hc5)
        refine stq hf rfl rfl rfl (ex_move hf rfl) (fun a hf => ?_)
        refine stq hf rfl rfl rfl (ex_lss hf rfl rfl) (fun a hf => ?_)
        refine stq hf rfl rfl rfl (ex_pickF hf rfl rfl) (fun a hf => ?_)
        refine stq hf rfl rfl rfl (ex_move hf rfl) (fun a hf => ?_)
        replace hf := hf.castB (t := 11) rfl (dec_f hc6)
        replace hf := hf.castB (t := 12) rfl (dec_f hc6)
        replace hf := hf.castB (t := 13) rfl (dec_f hc6)
        refine stq hf rfl rfl rfl (ex_move hf rfl) (fun a hf => ?_)
        refine stq hf rfl rfl rfl (ex_gtr hf rfl rfl) (fun a hf => ?_)
        refine stq hf rfl rfl rfl (ex_pickF hf rfl rfl) (fun a hf => ?_)
        refine hK8 _ _ ?_
        have e3 := some_eq H; subst e3
        exact hJ3 _ _ ⟨hf.sub ⟨rfl, rfl, rfl, trivial⟩, hs⟩
    · -- not s4 = 0
      refine region_k (fun K9 hK9 => ?_)
      refine stq hf rfl rfl rfl (ex_move hf rfl) (fun a hf => ?_)
      refine stepF hf rfl rfl rfl (ex_call cf_27 hf rfl) (thermal_CheckTrips.calls k a0 v0 (hs.enter .nil) (Sr.old hr hs .nil (i := 0) rfl (fun _ h => h) (fun _ h => h) (Sr.nil _ _)) hs4) (fun v w hR a hf => ?_)
      obtain ⟨rfl, hs'⟩ := hR
      replace hs := hs.step .nil hs'
      clear hs'
      refine stq hf rfl rfl rfl (ex_neq hf rfl rfl) (fun a hf => ?_)
      refine stq hf rfl rfl rfl (ex_move hf rfl) (fun a hf => ?_)
      replace hf := hf.castB (t := 8) rfl (ndec_t hc5)
      replace hf := hf.castB (t := 9) rfl (ndec_t hc5)
      refine stepN hf rfl rfl rfl (fun a hf => ?_)
      refine stepN hf rfl rfl rfl (fun a hf => ?_)
      refine stq hf rfl rfl rfl (ex_pickT hf rfl rfl) (fun a hf => ?_)
      refine stq hf rfl rfl rfl (ex_move hf rfl) (fun a hf => ?_)
      refine stepN hf rfl rfl rfl (fun a hf => ?_)
      refine stepN hf rfl rfl rfl (fun a hf => ?_)
      refine stq hf rfl rfl rfl (ex_pickT hf rfl rfl) (fun a hf => ?_)
      refine hK9 _ _ ?_
      have e3 := some_eq H; subst e3
      exact hJ3 _ _ ⟨hf.sub ⟨rfl, rfl, rfl, trivial⟩, hs⟩
  · obtain ⟨hf, hs⟩ := hJ
    replace H := HO3
    clear HO3
    refine itt H (fun hc10 H => ?_) (fun hc10 H => ?_)
    · -- x3 = true
      replace hf := hf.castB (t := 16) rfl hc10
      refine cond_T hf rfl ?_
      refine seq_reg (fun K11 hK11 => ?_)
      refine stq hf rfl rfl rfl (ex_assign hf rfl) (fun a hf => ?_)
      refine stq hf rfl rfl rfl (ex_assign hf rfl) (fun a hf => ?_)
      refine hK11 _ _ ?_
      refine wp_ret ?_
      refine hR2 _ _ ?_
      have eR := some_eq H; subst eR
      exact ret2 Try.results19 hf rfl rfl ⟨_, rfl, .inl ⟨rfl, rfl, hs⟩⟩
    · -- not x3 = true
      replace hf := hf.castB (t := 16) rfl (bool_f hc10)
      refine cond_F hf rfl ?_
      refine wp_skip ?_
      refine hN2 _ _ ?_
      refine seq_n (fun Q12 hN12 hR12 hX12 => ?_)
      refine bnd H (fun s13 hs13 H => ?_)
      refine ck_some H (fun hc15 H => ?_)
      refine wp_cut (fun a w => ∃ (b18 : Nat) (v19 : Value) (v20 : Value), Fr a 25 [(4, .pointer (some ⟨b18, 0, none⟩)), (5, .int .i64 0)] ∧ St M w0 w [bx b18 95 [v19, v20, .int .i64 a1, .int .i64 0], osl K_api_Trip v19 s13, osl K_bool v20 (List.replicate (a0.length : Int).toNat false)]) (fun Q21 hJ21 => ?_) (fun a w hJ => ?_)
      · -- in each order
        refine region_d fol 8 [(0, v0), (1, .int .i64 a1)] [(0, v0), (2, v0), (3, .int .i64 (a0.length : Int)), (5, .int .i64 a1)] [1, 4, 7] (fun w => (rsl K_api_Trip v0 a0).ok w ∧ True) (fun w => St M w0 w []) hf ⟨rfl, rfl, trivial⟩ (by kernel_rfl) (by kernel_rfl) rfl (by decide) ⟨hr.now hs.drew (i := 0) rfl, trivial⟩ hs.drew (.cons (⟨_, _, rfl, rfl, rfl, rfl, fun a w hR hf => .inl ⟨wanted_yes hf rfl, ex_move hf rfl⟩⟩) (.cons (⟨_, _, rfl, rfl, rfl, rfl, fun a w hR hf => .inl ⟨wanted_yes hf rfl, ex_move hf rfl⟩⟩) (.cons (⟨_, _, rfl, rfl, rfl, rfl, fun a w hR hf => .inl ⟨wanted_yes hf rfl, ex_lenS Try.underlying56 (rsl_isSl hR.1) hf rfl⟩⟩) (.cons (⟨_, _, rfl, rfl, rfl, rfl, fun a w hR hf => .inl ⟨wanted_yes hf rfl, ex_move hf rfl⟩⟩) (.nil))))) (fun K22 hK22 => ?_)
        refine RW.fork [1, 4] (by kernel_rfl) (by kernel_rfl) ⟨?_, ?_, trivial⟩
        · -- first 1
          refine RWe.mk 1 rfl (fun d hd => by cases hd; rfl) [(17, v0)] ⟨rfl, trivial⟩ (fun a w hR hs hf => ⟨wanted_yes hf rfl, ?_⟩)
          refine estep_f (ex_call cf_35 hf rfl) (slices_Clone_api_Trip_api_Trip.calls k a0 v0 (hs.enter .nil) (Sr.old hr hs .nil (i := 0) rfl (fun _ h => h) (fun _ h => h) (Sr.nil _ _)) hs13) (fun v w hR => ?_)
          obtain ⟨v23, rfl, hs'⟩ := hR
          replace hs := hs.step .nil hs'
          clear hs'
          refine ⟨[], [(1, v23), (0, v0), (2, v0), (3, .int .i64 (a0.length : Int)), (5, .int .i64 a1)], [4, 7], (fun _ => True), (fun w => St M w0 w [osl K_api_Trip v23 s13]), rfl, rfl, ⟨hr.now hs (i := 0) rfl, trivial⟩, trivial, hs, (by kernel_rfl), .nil, ?_⟩
          refine RW.one 4 (by kernel_rfl) (by kernel_rfl) rfl (fun d hd => by cases hd; rfl) [(20, .int .i64 (a0.length : Int))] ⟨rfl, trivial⟩ (fun a w hR hs hf => ⟨wanted_yes hf rfl, ?_⟩)
          refine estep_v (er_makeSlice (K := K_bool) hs Try.underlying93 ep_4 hc15.1 hc15.2 rfl hf rfl rfl) (fun v24 w hs => ?_)
          refine ⟨[(6, .agg #[v23, v24, .int .i64 a1, .int .i64 0])], [(6, .agg #[v23, v24, .int .i64 a1, .int .i64 0]), (4, v24), (1, v23), (0, v0), (2, v0), (3, .int .i64 (a0.length : Int)), (5, .int .i64 a1)], [7], (fun w => (osl K_api_Trip v23 s13).ok w ∧ (osl K_bool v24 (List.replicate (a0.length : Int).toNat false)).ok w ∧ True), (fun w => St M w0 w [osl K_bool v24 (List.replicate (a0.length : Int).toNat false), osl K_api_Trip v23 s13]), rfl, rfl, ⟨⟨hr.now hs (i := 0) rfl, trivial⟩, trivial⟩, ⟨hs.get (i := 1) rfl, hs.get (i := 0) rfl, trivial⟩, hs, (by kernel_rfl), .cons (⟨_, _, rfl, rfl, rfl, rfl, fun a w hR hf => .inl ⟨wanted_yes hf rfl, ex_build (cs := [v23, v24, .int .i64 a1, .int .i64 0]) bt_95 hf rfl (.cons (CL.one (IsSl.one (rsl_isSl (osl_rsl _ hR.2.1)))) (.cons (CL.one (IsSl.one (rsl_isSl (osl_rsl _ hR.2.2.1)))) (.cons rfl .nil))) rfl⟩⟩) (.nil), ?_⟩
          refine RW.one 7 (by kernel_rfl) (by kernel_rfl) rfl (fun d hd => by cases hd; rfl) [(23, .agg #[v23, v24, .int .i64 a1, .int .i64 0])] ⟨rfl, trivial⟩ (fun a w hR hs hf => ⟨wanted_yes hf rfl, ?_⟩)
          refine estep_v (er_box (cs := [v23, v24, .int .i64 a1, .int .i64 0]) hs hf rfl rfl) (fun v w hR => ?_)
          obtain ⟨b25, rfl, hs⟩ := hR
          refine ⟨[], [(7, .pointer (some ⟨b25, 0, none⟩)), (6, .agg #[v23, v24, .int .i64 a1, .int .i64 0]), (4, v24), (1, v23), (0, v0), (2, v0), (3, .int .i64 (a0.length : Int)), (5, .int .i64 a1)], [], (fun _ => True), (fun w => St M w0 w [bx b25 95 [v23, v24, .int .i64 a1, .int .i64 0], osl K_bool v24 (List.replicate (a0.length : Int).toNat false), osl K_api_Trip v23 s13]), rfl, rfl, ⟨⟨⟨hr.now hs (i := 0) rfl, trivial⟩, trivial⟩, ⟨hs.get (i := 2) rfl, hs.get (i := 1) rfl, trivial⟩⟩, trivial, hs, (by kernel_rfl), .nil, ?_⟩
          refine RW.zero (by kernel_rfl) (by kernel_rfl) [(24, .pointer (some ⟨b25, 0, none⟩))] ⟨rfl, trivial⟩ (fun a w hR hs hf => ?_)
          refine stq hf rfl rfl rfl (ex_assign hf rfl) (fun a hf => ?_)
          refine stq hf rfl rfl rfl (ex_assign hf rfl) (fun a hf => ?_)
          refine hK22 _ _ ?_
          replace hs := hs.pick (.k (.c (.k .nil)))
          replace hs := hs.pick (.k (.k (.c .nil)))
          replace hs := hs.pick (.k (.k (.c .nil)))
          exact hJ21 _ _ ⟨b25, v23, v24, hf.sub ⟨rfl, rfl, trivial⟩, hs⟩
        · -- first 4
          refine RWe.mk 4 rfl (fun d hd => by cases hd; rfl) [(20, .int .i64 (a0.length : Int))] ⟨rfl, trivial⟩ (fun a w hR hs hf => ⟨wanted_yes hf rfl, ?_⟩)
          refine estep_v (er_makeSlice (K := K_bool) hs Try.underlying93 ep_4 hc15.1 hc15.2 rfl hf rfl rfl) (fun v26 w hs => ?_)
          refine ⟨[], [(4, v26), (0, v0), (2, v0), (3, .int .i64 (a0.length : Int)), (5, .int .i64 a1)], [1, 7], (fun _ => True), (fun w => St M w0 w [osl K_bool v26 (List.replicate (a0.length : Int).toNat false)]), rfl, rfl, ⟨hr.now hs (i := 0) rfl, trivial⟩, trivial, hs, (by kernel_rfl), .nil, ?_⟩
          refine RW.one 1 (by kernel_rfl) (by kernel_rfl) rfl (fun d hd => by cases hd; rfl) [(17, v0)] ⟨rfl, trivial⟩ (fun a w hR hs hf => ⟨wanted_yes hf rfl, ?_⟩)
          refine estep_f (ex_call cf_35 hf rfl) (slices_Clone_api_Trip_api_Trip.calls k a0 v0 (hs.enter (.k .nil)) (Sr.old hr hs (.k .nil) (i := 0) rfl (fun _ h => h) (fun _ h => h) (Sr.nil _ _)) hs13) (fun v w hR => ?_)
          obtain ⟨v27, rfl, hs'⟩ := hR
          replace hs := hs.step (.k .nil) hs'
          clear hs'
          refine ⟨[(6, .agg #[v27, v26, .int .i64 a1, .int .i64 0])], [(6, .agg #[v27, v26, .int .i64 a1, .int .i64 0]), (1, v27), (4, v26), (0, v0), (2, v0), (3, .int .i64 (a0.length : Int)), (5, .int .i64 a1)], [7], (fun w => (osl K_api_Trip v27 s13).ok w ∧ (osl K_bool v26 (List.replicate (a0.length : Int).toNat false)).ok w ∧ True), (fun w => St M w0 w [osl K_api_Trip v27 s13, osl K_bool v26 (List.replicate (a0.length : Int).toNat false)]), rfl, rfl, ⟨⟨hr.now hs (i := 0) rfl, trivial⟩, trivial⟩, ⟨hs.get (i := 0) rfl, hs.get (i := 1) rfl, trivial⟩, hs, (by kernel_rfl), .cons (⟨_, _, rfl, rfl, rfl, rfl, fun a w hR hf => .inl ⟨wanted_yes hf rfl, ex_build (cs := [v27, v26, .int .i64 a1, .int .i64 0]) bt_95 hf rfl (.cons (CL.one (IsSl.one (rsl_isSl (osl_rsl _ hR.2.1)))) (.cons (CL.one (IsSl.one (rsl_isSl (osl_rsl _ hR.2.2.1)))) (.cons rfl .nil))) rfl⟩⟩) (.nil), ?_⟩
          refine RW.one 7 (by kernel_rfl) (by kernel_rfl) rfl (fun d hd => by cases hd; rfl) [(23, .agg #[v27, v26, .int .i64 a1, .int .i64 0])] ⟨rfl, trivial⟩ (fun a w hR hs hf => ⟨wanted_yes hf rfl, ?_⟩)
          refine estep_v (er_box (cs := [v27, v26, .int .i64 a1, .int .i64 0]) hs hf rfl rfl) (fun v w hR => ?_)
          obtain ⟨b28, rfl, hs⟩ := hR
          refine ⟨[], [(7, .pointer (some ⟨b28, 0, none⟩)), (6, .agg #[v27, v26, .int .i64 a1, .int .i64 0]), (1, v27), (4, v26), (0, v0), (2, v0), (3, .int .i64 (a0.length : Int)), (5, .int .i64 a1)], [], (fun _ => True), (fun w => St M w0 w [bx b28 95 [v27, v26, .int .i64 a1, .int .i64 0], osl K_api_Trip v27 s13, osl K_bool v26 (List.replicate (a0.length : Int).toNat false)]), rfl, rfl, ⟨⟨⟨hr.now hs (i := 0) rfl, trivial⟩, trivial⟩, ⟨hs.get (i := 1) rfl, hs.get (i := 2) rfl, trivial⟩⟩, trivial, hs, (by kernel_rfl), .nil, ?_⟩
          refine RW.zero (by kernel_rfl) (by kernel_rfl) [(24, .pointer (some ⟨b28, 0, none⟩))] ⟨rfl, trivial⟩ (fun a w hR hs hf => ?_)
          refine stq hf rfl rfl rfl (ex_assign hf rfl) (fun a hf => ?_)
          refine stq hf rfl rfl rfl (ex_assign hf rfl) (fun a hf => ?_)
          refine hK22 _ _ ?_
          exact hJ21 _ _ ⟨b28, v27, v26, hf.sub ⟨rfl, rfl, trivial⟩, hs⟩
      · obtain ⟨b18, v19, v20, hf, hs⟩ := hJ
        refine hN12 _ _ ?_
        refine wp_ret ?_
        have eR := some_eq H; subst eR
        exact ret2 Try.results19 hf rfl rfl ⟨_, rfl, .inr ⟨_, rfl, b18, v19, v20, rfl, hs⟩⟩

set_option maxRecDepth 100000 in
theorem help_Equal_uint64.calls {M : Nat → Prop} {w0 : World} (k : Nat) (a0 : (List Int)) (a1 : (List Int)) (v0 : Value) (v1 : Value) {r : Bool} (hs : St M w0 w0 []) (hr : Sr M w0 [rsl K_uint64 v0 a0, rsl K_uint64 v1 a1])
    (h : help_Equal_uint64.f k a0 a1 = some r) : Calls Try.prog 26 #[v0, v1] w0 fun e w => ∃ v, e = .returned v ∧ (.bool r = v ∧ St M w0 w []) := by
  have H := (help_Equal_uint64.f.eq_1 ..).symm.trans h
  clear h
  refine enter Try.func26 rfl Try.ntmps26 rfl (fun a hf => ?_)
  refine seq_reg (fun K1 hK1 => ?_)
  refine stq hf rfl rfl rfl (ex_assign hf rfl) (fun a hf => ?_)
  refine hK1 _ _ ?_
  refine seq_n (fun Q2 hN2 hR2 hX2 => ?_)
  refine seq_reg (fun K3 hK3 => ?_)
  refine stq hf rfl rfl rfl (ex_move hf rfl) (fun a hf => ?_)
  refine stq hf rfl rfl rfl (ex_lenS Try.underlying62 (rsl_isSl (hr.now hs (i := 0) rfl)) hf rfl) (fun a hf => ?_)
  refine stq hf rfl rfl rfl (ex_move hf rfl) (fun a hf => ?_)
  refine stq hf rfl rfl rfl (ex_lenS Try.underlying62 (rsl_isSl (hr.now hs (i := 1) rfl)) hf rfl) (fun a hf => ?_)
  refine stq hf rfl rfl rfl (ex_neq hf rfl rfl) (fun a hf => ?_)
  refine hK3 _ _ ?_
  refine itt H (fun hc4 H => ?_) (fun hc4 H => ?_)
  · -- (a0.length : Int) = (a1.length : Int)
    replace hf := hf.castB (t := 10) rfl (ndec_f hc4)
    refine cond_F hf rfl ?_
    refine wp_skip ?_
    refine hN2 _ _ ?_
    refine bnd H (fun x5 H5 HO5 => ?_)
    clear H
    refine seq_cut (fun a w => ∃ (x5s : Unit), x5 = .go x5s ∧ Fr a 26 [] ∧ St M w0 w []) (fun Q5 hJ5 hR5 hX5 => ?_) (fun a w hJ => ?_)
    · replace H := H5
      refine seq_reg (fun K6 hK6 => ?_)
      refine stq hf rfl rfl rfl (ex_assign hf rfl) (fun a hf => ?_)
      refine hK6 _ _ ?_
      refine block_k (fun Q7 hN7 hR7 hX7 hY7 => ?_)
      refine loop_k (fun n a w => ∃ (y8 : Int), Fr a 26 [(0, v0), (1, v1), (5, .int .i64 y8)] ∧ St M w0 w [] ∧ help_Equal_uint64.l1 n a0 a1 y8 = some x5) k ?_ (fun n10 a w hI Q10 hL10 hR10 hX10 => ?_)
      · -- at the start
        exact ⟨0, hf.sub ⟨rfl, rfl, rfl, trivial⟩, hs, H⟩
      · obtain ⟨y8, hf, hs, H⟩ := hI
        cases n10 with
        | zero => exact absurd H (by rw [help_Equal_uint64.l1.eq_1]; intro h; cases h)
        | succ k10 =>
          replace H := (help_Equal_uint64.l1.eq_2 ..).symm.trans H
          refine seq_n (fun Q11 hN11 hR11 hX11 => ?_)
          refine seq_reg (fun K12 hK12 => ?_)
          refine stq hf rfl rfl rfl (ex_move hf rfl) (fun a hf => ?_)
          refine stq hf rfl rfl rfl (ex_move hf rfl) (fun a hf => ?_)
          refine stq hf rfl rfl rfl (ex_lenS Try.underlying62 (rsl_isSl (hr.now hs (i := 0) rfl)) hf rfl) (fun a hf => ?_)
          refine stq hf rfl rfl rfl (ex_lss hf rfl rfl) (fun a hf => ?_)
          refine hK12 _ _ ?_
          refine itt H (fun hc13 H => ?_) (fun hc13 H => ?_)
          · -- y8 < (a0.length : Int)
            replace hf := hf.castB (t := 14) rfl (dec_t hc13)
            refine cond_T hf rfl ?_
            refine wp_skip ?_
            refine hN11 _ _ ?_
            refine seq_n (fun Q14 hN14 hR14 hX14 => ?_)
            refine block_k (fun Q15 hN15 hR15 hX15 hY15 => ?_)
            refine seq_n (fun Q16 hN16 hR16 hX16 => ?_)
            refine ck_some H (fun hc17 H => ?_)
            refine ck_some H (fun hc18 H => ?_)
            refine region_d fol 9 [(0, v0), (1, v1), (5, .int .i64 y8)] [(0, v0), (1, .int .i64 y8), (2, .pointer (some (sla v0 (y8.toNat * 1)))), (3, .int .u64 (gd 0 a0 y8)), (4, v1), (5, .int .i64 y8), (6, .pointer (some (sla v1 (y8.toNat * 1)))), (7, .int .u64 (gd 0 a1 y8)), (8, .bool (!decide ((gd 0 a0 y8) = (gd 0 a1 y8))))] [] (fun w => (rsl K_uint64 v0 a0).ok w ∧ (rsl K_uint64 v1 a1).ok w ∧ True) (fun w => St M w0 w []) hf ⟨rfl, rfl, rfl, trivial⟩ (by kernel_rfl) (by kernel_rfl) rfl (by decide) ⟨hr.now hs.drew (i := 0) rfl, hr.now hs.drew (i := 1) rfl, trivial⟩ hs.drew (.cons (⟨_, _, rfl, rfl, rfl, rfl, fun a w hR hf => .inl ⟨wanted_yes hf rfl, ex_move hf rfl⟩⟩) (.cons (⟨_, _, rfl, rfl, rfl, rfl, fun a w hR hf => .inl ⟨wanted_yes hf rfl, ex_move hf rfl⟩⟩) (.cons (⟨_, _, rfl, rfl, rfl, rfl, fun a w hR hf => .inl ⟨wanted_yes hf rfl, ex_indexAddr sa_62 (rsl_isSl hR.1) hc17.1 hc17.2 hf rfl rfl⟩⟩) (.cons (⟨_, _, rfl, rfl, rfl, rfl, fun a w hR hf => .inl ⟨wanted_yes hf rfl, ex_load sc_23 hf rfl (el_cell (K := K_uint64) (f := 0) (rsl_rd hR.1) hc17.1 hc17.2 rfl)⟩⟩) (.cons (⟨_, _, rfl, rfl, rfl, rfl, fun a w hR hf => .inl ⟨wanted_yes hf rfl, ex_move hf rfl⟩⟩) (.cons (⟨_, _, rfl, rfl, rfl, rfl, fun a w hR hf => .inl ⟨wanted_yes hf rfl, ex_move hf rfl⟩⟩) (.cons (⟨_, _, rfl, rfl, rfl, rfl, fun a w hR hf => .inl ⟨wanted_yes hf rfl, ex_indexAddr sa_62 (rsl_isSl hR.2.1) hc18.1 hc18.2 hf rfl rfl⟩⟩) (.cons (⟨_, _, rfl, rfl, rfl, rfl, fun a w hR hf => .inl ⟨wanted_yes hf rfl, ex_load sc_23 hf rfl (el_cell (K := K_uint64) (f := 0) (rsl_rd hR.2.1) hc18.1 hc18.2 rfl)⟩⟩) (.cons (⟨_, _, rfl, rfl, rfl, rfl, fun a w hR hf => .inl ⟨wanted_yes hf rfl, ex_neq hf rfl rfl⟩⟩) (.nil)))))))))) (fun K19 hK19 => ?_)
            refine RW.zero (by kernel_rfl) (by kernel_rfl) [(0, v0), (1, v1), (5, .int .i64 y8), (25, .bool (!decide ((gd 0 a0 y8) = (gd 0 a1 y8))))] ⟨rfl, rfl, rfl, rfl, trivial⟩ (fun a w hR hs hf => ?_)
            refine hK19 _ _ ?_
            refine hN16 _ _ ?_
            refine itt H (fun hc20 H => ?_) (fun hc20 H => ?_)
            · -- (gd 0 a0 y8) = (gd 0 a1 y8)
              replace hf := hf.castB (t := 25) rfl (ndec_f hc20)
              refine cond_F hf rfl ?_
              refine wp_skip ?_
              refine hN15 _ _ ?_
              refine hN14 _ _ ?_
              refine region_k (fun K21 hK21 => ?_)
              refine stq hf rfl rfl rfl (ex_move hf rfl) (fun a hf => ?_)
              refine stq hf rfl rfl rfl (ex_add hf rfl rfl) (fun a hf => ?_)
              refine stq hf rfl rfl rfl (ex_assign hf rfl) (fun a hf => ?_)
              refine hK21 _ _ ?_
              exact hL10 k10 _ _ (Nat.lt_succ_self _) ⟨(IntKind.i64.wrap (y8 + 1)), hf.sub ⟨rfl, rfl, rfl, trivial⟩, hs, H⟩
            · -- not (gd 0 a0 y8) = (gd 0 a1 y8)
              replace hf := hf.castB (t := 25) rfl (ndec_t hc20)
              refine cond_T hf rfl ?_
              refine seq_reg (fun K22 hK22 => ?_)
              refine stq hf rfl rfl rfl (ex_assign hf rfl) (fun a hf => ?_)
              refine hK22 _ _ ?_
              refine wp_ret ?_
              refine hR15 _ _ ?_
              refine hR14 _ _ ?_
              refine hR10 _ _ ?_
              refine hR7 _ _ ?_
              have e5 := some_eq H; subst e5; replace H := el_rt HO5
              refine hR5 _ _ ?_
              have eR := some_eq H; subst eR
              exact ret1 Try.results26 hf rfl ⟨_, rfl, ⟨rfl, hs⟩⟩
          · -- not y8 < (a0.length : Int)
            replace hf := hf.castB (t := 14) rfl (dec_f hc13)
            refine cond_F hf rfl ?_
            refine wp_exit ?_
            refine hX11 0 _ _ ?_
            refine hX10 0 _ _ ?_
            refine hX7 _ _ ?_
            have e5 := some_eq H; subst e5
            exact hJ5 _ _ ⟨_, rfl, hf.sub trivial, hs⟩
    · obtain ⟨x5s, rfl, hf, hs⟩ := hJ
      replace H := el_go HO5
      clear HO5
      refine seq_reg (fun K23 hK23 => ?_)
      refine stq hf rfl rfl rfl (ex_assign hf rfl) (fun a hf => ?_)
      refine hK23 _ _ ?_
      refine wp_ret ?_
      have eR := some_eq H; subst eR
      exact ret1 Try.results26 hf rfl ⟨_, rfl, ⟨rfl, hs⟩⟩
  · -- not (a0.length : Int) = (a1.length : Int)
    replace hf := hf.castB (t := 10) rfl (ndec_t hc4)
    refine cond_T hf rfl ?_
    refine seq_reg (fun K24 hK24 => ?_)
    refine stq hf rfl rfl rfl (ex_assign hf rfl) (fun a hf => ?_)
    refine hK24 _ _ ?_
    refine wp_ret ?_
    refine hR2 _ _ ?_
    have eR := some_eq H; subst eR
    exact ret1 Try.results26 hf rfl ⟨_, rfl, ⟨rfl, hs⟩⟩

set_option maxRecDepth 100000 in
theorem thermal_Zone_any.calls {M : Nat → Prop} {w0 : World} (k : Nat) (a0_trips : (List Trip)) (a0_active : (List Bool)) (a0_levels : Int) (a0_level : Int) (a1 : Int) (b0 : Nat) (v0_trips : Value) (v0_active : Value) {r : Bool} (hs : St M w0 w0 []) (hr : Sr M w0 [bx b0 95 [v0_trips, v0_active, .int .i64 a0_levels, .int .i64 a0_level], rsl K_api_Trip v0_trips a0_trips, rsl K_bool v0_active a0_active])
    (h : thermal_Zone_any.f k a0_trips a0_active a0_levels a0_level a1 = some r) : Calls Try.prog 36 #[.pointer (some ⟨b0, 0, none⟩), .int .i64 a1] w0 fun e w => ∃ v, e = .returned v ∧ (.bool r = v ∧ St M w0 w []) := by
  have H := (thermal_Zone_any.f.eq_1 ..).symm.trans h
  clear h
  refine enter Try.func36 rfl Try.ntmps36 rfl (fun a hf => ?_)
  refine seq_reg (fun K1 hK1 => ?_)
  refine stq hf rfl rfl rfl (ex_assign hf rfl) (fun a hf => ?_)
  refine hK1 _ _ ?_
  refine bnd H (fun x2 H2 HO2 => ?_)
  clear H
  refine seq_cut (fun a w => ∃ (x2s : Unit), x2 = .go x2s ∧ Fr a 31 [] ∧ St M w0 w []) (fun Q2 hJ2 hR2 hX2 => ?_) (fun a w hJ => ?_)
  · replace H := H2
    refine seq_reg (fun K3 hK3 => ?_)
    refine stq hf rfl rfl rfl (ex_move hf rfl) (fun a hf => ?_)
    refine stq hf rfl rfl rfl (ex_nilCheck hf rfl) (fun a hf => ?_)
    refine stq hf rfl rfl rfl (ex_fieldAddrB fa_95_0 rfl hf rfl) (fun a hf => ?_)
    refine stq hf rfl rfl rfl (ex_load sc_56 hf rfl (bx_cell (hr.now hs (i := 0) rfl) _ rfl)) (fun a hf => ?_)
    refine stq hf rfl rfl rfl (ex_lenS Try.underlying56 (rsl_isSl (hr.now hs (i := 1) rfl)) hf rfl) (fun a hf => ?_)
    refine stq hf rfl rfl rfl (ex_move hf rfl) (fun a hf => ?_)
    refine hK3 _ _ ?_
    refine block_k (fun Q4 hN4 hR4 hX4 hY4 => ?_)
    refine loop_k (fun n a w => ∃ (y5 : Int), Fr a 31 [(0, .pointer (some ⟨b0, 0, none⟩)), (1, .int .i64 a1), (10, v0_trips), (11, .int .i64 (a0_trips.length : Int)), (12, .int .i64 y5)] ∧ St M w0 w [] ∧ thermal_Zone_any.l1 n a0_trips a1 a0_active y5 = some x2) k ?_ (fun n7 a w hI Q7 hL7 hR7 hX7 => ?_)
    · -- at the start
      exact ⟨0, hf.sub ⟨rfl, rfl, rfl, rfl, rfl, trivial⟩, hs, H⟩
    · obtain ⟨y5, hf, hs, H⟩ := hI
      cases n7 with
      | zero => exact absurd H (by rw [thermal_Zone_any.l1.eq_1]; intro h; cases h)
      | succ k7 =>
        replace H := (thermal_Zone_any.l1.eq_2 ..).symm.trans H
        refine seq_reg (fun K8 hK8 => ?_)
        refine stq hf rfl rfl rfl (ex_lss hf rfl rfl) (fun a hf => ?_)
        refine hK8 _ _ ?_
        refine seq_n (fun Q9 hN9 hR9 hX9 => ?_)
        refine itt H (fun hc10 H => ?_) (fun hc10 H => ?_)
        · -- y5 < (a0_trips.length : Int)
          replace hf := hf.castB (t := 13) rfl (dec_t hc10)
          refine cond_T hf rfl ?_
          refine wp_skip ?_
          refine hN9 _ _ ?_
          refine seq_n (fun Q11 hN11 hR11 hX11 => ?_)
          refine block_k (fun Q12 hN12 hR12 hX12 hY12 => ?_)
          refine ck_some H (fun hc13 H => ?_)
          refine seq_reg (fun K15 hK15 => ?_)
          refine stq hf rfl rfl rfl (ex_move hf rfl) (fun a hf => ?_)
          refine stq hf rfl rfl rfl (ex_indexAddr sa_56 (rsl_isSl (hr.now hs (i := 1) rfl)) hc13.1 hc13.2 hf rfl rfl) (fun a hf => ?_)
          refine stq hf rfl rfl rfl (ex_loadA (cs := [.int .i64 ((gd Trip.zero a0_trips y5).Kind), .int .i64 ((gd Trip.zero a0_trips y5).Temperature), .int .i64 ((gd Trip.zero a0_trips y5).Hysteresis)]) ag_55 hf rfl (el_cells (K := K_api_Trip) (rsl_rd (hr.now hs (i := 1) rfl)) hc13.1 hc13.2 rfl)) (fun a hf => ?_)
          refine stepV hf rfl rfl rfl (er_alloc hs ti_55 (cs := [.int .i64 0, .int .i64 0, .int .i64 0]) rfl) (fun v w hR a hf => ?_)
          obtain ⟨b14, rfl, hs⟩ := hR
          refine stq hf rfl rfl rfl (ex_assign hf rfl) (fun a hf => ?_)
          refine stepS hf rfl rfl (er_storeAB (vs := [.int .i64 ((gd Trip.zero a0_trips y5).Kind), .int .i64 ((gd Trip.zero a0_trips y5).Temperature), .int .i64 ((gd Trip.zero a0_trips y5).Hysteresis)]) (cs' := [.int .i64 ((gd Trip.zero a0_trips y5).Kind), .int .i64 ((gd Trip.zero a0_trips y5).Temperature), .int .i64 ((gd Trip.zero a0_trips y5).Hysteresis)]) hs (.c .nil) sz_55 hf rfl rfl (all1 rfl (all1 rfl (all1 rfl (all1_nil)))) rfl rfl) (fun w hs => ?_)
          refine hK15 _ _ ?_
          refine bnd H (fun x16 H16 HO16 => ?_)
          clear H
          refine seq_cut (fun a w => Fr a 31 [(0, .pointer (some ⟨b0, 0, none⟩)), (1, .int .i64 a1), (10, v0_trips), (11, .int .i64 (a0_trips.length : Int)), (12, .int .i64 y5), (29, .bool x16)] ∧ St M w0 w []) (fun Q16 hJ16 hR16 hX16 => ?_) (fun a w hJ => ?_)
          · replace H := H16
            refine itt H (fun hc17 H => ?_) (fun hc17 H => ?_)
            · -- ((gd Trip.zero a0_trips y5).Kind) = a1
              refine ck_some H (fun hc18 H => ?_)
              refine region_k (fun K19 hK19 => ?_)
              refine stq hf rfl rfl rfl (ex_fieldAddrB fa_55_0 rfl hf rfl) (fun a hf => ?_)
              refine stq hf rfl rfl rfl (ex_load sc_3 hf rfl (bx_cell (hs.get (i := 0) rfl) _ rfl)) (fun a hf => ?_)
              refine stq hf rfl rfl rfl (ex_move hf rfl) (fun a hf => ?_)
              refine stq hf rfl rfl rfl (ex_eql hf rfl rfl) (fun a hf => ?_)
              refine stq hf rfl rfl rfl (ex_move hf rfl) (fun a hf => ?_)
              replace hf := hf.castB (t := 20) rfl (dec_t hc17)
              replace hf := hf.castB (t := 21) rfl (dec_t hc17)
              refine stq hf rfl rfl rfl (ex_move hf rfl) (fun a hf => ?_)
              refine stq hf rfl rfl rfl (ex_nilCheck hf rfl) (fun a hf => ?_)
              refine stq hf rfl rfl rfl (ex_fieldAddrB fa_95_1 rfl hf rfl) (fun a hf => ?_)
              refine stq hf rfl rfl rfl (ex_load sc_93 hf rfl (bx_cell (hr.now hs (i := 0) rfl) _ rfl)) (fun a hf => ?_)
              refine stq hf rfl rfl rfl (ex_move hf rfl) (fun a hf => ?_)
              refine stq hf rfl rfl rfl (ex_indexAddr sa_93 (rsl_isSl (hr.now hs (i := 2) rfl)) hc18.1 hc18.2 hf rfl rfl) (fun a hf => ?_)
              refine stq hf rfl rfl rfl (ex_load sc_4 hf rfl (el_cell (K := K_bool) (f := 0) (rsl_rd (hr.now hs (i := 2) rfl)) hc18.1 hc18.2 rfl)) (fun a hf => ?_)
              refine stq hf rfl rfl rfl (ex_pickT hf rfl rfl) (fun a hf => ?_)
              refine hK19 _ _ ?_
              replace hs := hs.keep (.d .nil)
              have e16 := some_eq H; subst e16
              exact hJ16 _ _ ⟨hf.sub ⟨rfl, rfl, rfl, rfl, rfl, rfl, trivial⟩, hs⟩
            · -- not ((gd Trip.zero a0_trips y5).Kind) = a1
              refine region_k (fun K20 hK20 => ?_)
              refine stq hf rfl rfl rfl (ex_fieldAddrB fa_55_0 rfl hf rfl) (fun a hf => ?_)
              refine stq hf rfl rfl rfl (ex_load sc_3 hf rfl (bx_cell (hs.get (i := 0) rfl) _ rfl)) (fun a hf => ?_)
              refine stq hf rfl rfl rfl (ex_move hf rfl) (fun a hf => ?_)
              refine stq hf rfl rfl rfl (ex_eql hf rfl rfl) (fun a hf => ?_)
              refine stq hf rfl rfl rfl (ex_move hf rfl) (fun a hf => ?_)
              replace hf := hf.castB (t := 20) rfl (dec_f hc17)
              replace hf := hf.castB (t := 21) rfl (dec_f hc17)
              refine stepN hf rfl rfl rfl (fun a hf => ?_)
              refine stepN hf rfl rfl rfl (fun a hf => ?_)
              refine stepN hf rfl rfl rfl (fun a hf => ?_)
              refine stepN hf rfl rfl rfl (fun a hf => ?_)
              refine stepN hf rfl rfl rfl (fun a hf => ?_)
              refine stepN hf rfl rfl rfl (fun a hf => ?_)
              refine stepN hf rfl rfl rfl (fun a hf => ?_)
              refine stq hf rfl rfl rfl (ex_pickF hf rfl rfl) (fun a hf => ?_)
              refine hK20 _ _ ?_
              replace hs := hs.keep (.d .nil)
              have e16 := some_eq H; subst e16
              exact hJ16 _ _ ⟨hf.sub ⟨rfl, rfl, rfl, rfl, rfl, rfl, trivial⟩, hs⟩
          · obtain ⟨hf, hs⟩ := hJ
            replace H := HO16
            clear HO16
            refine itt H (fun hc21 H => ?_) (fun hc21 H => ?_)
            · -- x16 = true
              replace hf := hf.castB (t := 29) rfl hc21
              refine cond_T hf rfl ?_
              refine seq_reg (fun K22 hK22 => ?_)
              refine stq hf rfl rfl rfl (ex_assign hf rfl) (fun a hf => ?_)
              refine hK22 _ _ ?_
              refine wp_ret ?_
              refine hR12 _ _ ?_
              refine hR11 _ _ ?_
              refine hR7 _ _ ?_
              refine hR4 _ _ ?_
              have e2 := some_eq H; subst e2; replace H := el_rt HO2
              refine hR2 _ _ ?_
              have eR := some_eq H; subst eR
              exact ret1 Try.results36 hf rfl ⟨_, rfl, ⟨rfl, hs⟩⟩
            · -- not x16 = true
              replace hf := hf.castB (t := 29) rfl (bool_f hc21)
              refine cond_F hf rfl ?_
              refine wp_skip ?_
              refine hN12 _ _ ?_
              refine hN11 _ _ ?_
              refine region_k (fun K23 hK23 => ?_)
              refine stq hf rfl rfl rfl (ex_add hf rfl rfl) (fun a hf => ?_)
              refine stq hf rfl rfl rfl (ex_move hf rfl) (fun a hf => ?_)
              refine hK23 _ _ ?_
              exact hL7 k7 _ _ (Nat.lt_succ_self _) ⟨(IntKind.i64.wrap (y5 + 1)), hf.sub ⟨rfl, rfl, rfl, rfl, rfl, trivial⟩, hs, H⟩
        · -- not y5 < (a0_trips.length : Int)
          replace hf := hf.castB (t := 13) rfl (dec_f hc10)
          refine cond_F hf rfl ?_
          refine wp_exit ?_
          refine hX9 0 _ _ ?_
          refine hX7 0 _ _ ?_
          refine hX4 _ _ ?_
          have e2 := some_eq H; subst e2
          exact hJ2 _ _ ⟨_, rfl, hf.sub trivial, hs⟩
  · obtain ⟨x2s, rfl, hf, hs⟩ := hJ
    replace H := el_go HO2
    clear HO2
    refine seq_reg (fun K24 hK24 => ?_)
    refine stq hf rfl rfl rfl (ex_assign hf rfl) (fun a hf => ?_)
    refine hK24 _ _ ?_
    refine wp_ret ?_
    have eR := some_eq H; subst eR
    exact ret1 Try.results36 hf rfl ⟨_, rfl, ⟨rfl, hs⟩⟩

set_option maxRecDepth 100000 in
theorem thermal_Zone_Update.calls {M : Nat → Prop} {w0 : World} (k : Nat) (a0_trips : (List Trip)) (a0_active : (List Bool)) (a0_levels : Int) (a0_level : Int) (a1 : Int) (b0 : Nat) (v0_trips : Value) (v0_active : Value) {r : Int × (List Bool) × Int × Bool × Int} (hs : St M w0 w0 [bx b0 95 [v0_trips, v0_active, .int .i64 a0_levels, .int .i64 a0_level], osl K_bool v0_active a0_active]) (hr : Sr M w0 [rsl K_api_Trip v0_trips a0_trips])
    (h : thermal_Zone_Update.f k a0_trips a0_active a0_levels a0_level a1 = some r) : Calls Try.prog 20 #[.pointer (some ⟨b0, 0, none⟩), .int .i64 a1] w0 fun e w => ∃ v, e = .returned v ∧ (∃ (g0 : Value), .tuple #[.int .i64 r.2.2.1, .bool r.2.2.2.1, .int .i64 r.2.2.2.2] = v ∧ St M w0 w [bx b0 95 [v0_trips, g0, .int .i64 a0_levels, .int .i64 r.1], osl K_bool g0 r.2.1]) := by
  have H := (thermal_Zone_Update.f.eq_1 ..).symm.trans h
  clear h
  refine enter Try.func20 rfl Try.ntmps20 rfl (fun a hf => ?_)
  refine seq_reg (fun K1 hK1 => ?_)
  refine stq hf rfl rfl rfl (ex_assign hf rfl) (fun a hf => ?_)
  refine stq hf rfl rfl rfl (ex_assign hf rfl) (fun a hf => ?_)
  refine stq hf rfl rfl rfl (ex_assign hf rfl) (fun a hf => ?_)
  refine hK1 _ _ ?_
  refine seq_n (fun Q2 hN2 hR2 hX2 => ?_)
  refine bnd H (fun x3 H3 HO3 => ?_)
  clear H
  refine seq_cut (fun a w => Fr a 81 [(0, .pointer (some ⟨b0, 0, none⟩)), (1, .int .i64 a1), (14, .bool x3)] ∧ St M w0 w [bx b0 95 [v0_trips, v0_active, .int .i64 a0_levels, .int .i64 a0_level], osl K_bool v0_active a0_active]) (fun Q3 hJ3 hR3 hX3 => ?_) (fun a w hJ => ?_)
  · replace H := H3
    refine itt H (fun hc4 H => ?_) (fun hc4 H => ?_)
    · -- a1 < (-134217728)
      refine region_k (fun K5 hK5 => ?_)
      refine stq hf rfl rfl rfl (ex_move hf rfl) (fun a hf => ?_)
      refine stq hf rfl rfl rfl (ex_lss hf rfl rfl) (fun a hf => ?_)
      refine stq hf rfl rfl rfl (ex_move hf rfl) (fun a hf => ?_)
      replace hf := hf.castB (t := 10) rfl (dec_t hc4)
      replace hf := hf.castB (t := 11) rfl (dec_t hc4)
      refine stepN hf rfl rfl rfl (fun a hf => ?_)
      refine stepN hf rfl rfl rfl (fun a hf => ?_)
      refine stq hf rfl rfl rfl (ex_pickT hf rfl rfl) (fun a hf => ?_)
      refine hK5 _ _ ?_
      have e3 := some_eq H; subst e3
      exact hJ3 _ _ ⟨hf.sub ⟨rfl, rfl, rfl, trivial⟩, hs⟩
    · -- not a1 < (-134217728)
      refine region_k (fun K6 hK6 => ?_)
      refine stq hf rfl rfl rfl (ex_move hf rfl) (fun a hf => ?_)
      refine stq hf rfl rfl rfl (ex_lss hf rfl rfl) (fun a hf => ?_)
      refine stq hf rfl rfl rfl (ex_move hf rfl) (fun a hf => ?_)
      replace hf := hf.castB (t := 10) rfl (dec_f hc4)
      replace hf := hf.castB (t := 11) rfl (dec_f hc4)
      refine stq hf rfl rfl rfl (ex_move hf rfl) (fun a hf => ?_)
      refine stq hf rfl rfl rfl (ex_gtr hf rfl rfl) (fun a hf => ?_)
      refine stq hf rfl rfl rfl (ex_pickF hf rfl rfl) (fun a hf => ?_)
      refine hK6 _ _ ?_
      have e3 := some_eq H; subst e3
      exact hJ3 _ _ ⟨hf.sub ⟨rfl, rfl, rfl, trivial⟩, hs⟩
  · obtain ⟨hf, hs⟩ := hJ
    replace H := HO3
    clear HO3
    refine itt H (fun hc7 H => ?_) (fun hc7 H => ?_)
    · -- x3 = true
      replace hf := hf.castB (t := 14) rfl hc7
      refine cond_T hf rfl ?_
      refine seq_reg (fun K8 hK8 => ?_)
      refine stq hf rfl rfl rfl (ex_assign hf rfl) (fun a hf => ?_)
      refine stq hf rfl rfl rfl (ex_assign hf rfl) (fun a hf => ?_)
      refine stq hf rfl rfl rfl (ex_assign hf rfl) (fun a hf => ?_)
      refine hK8 _ _ ?_
      refine wp_ret ?_
      refine hR2 _ _ ?_
      have eR := some_eq H; subst eR
      exact ret3 Try.results20 hf rfl rfl rfl ⟨_, rfl, ⟨v0_active, rfl, hs⟩⟩
    · -- not x3 = true
      replace hf := hf.castB (t := 14) rfl (bool_f hc7)
      refine cond_F hf rfl ?_
      refine wp_skip ?_
      refine hN2 _ _ ?_
      refine bnd H (fun x9 H9 HO9 => ?_)
      clear H
      refine seq_cut (fun a w => Fr a 81 [(0, .pointer (some ⟨b0, 0, none⟩))] ∧ St M w0 w [bx b0 95 [v0_trips, v0_active, .int .i64 a0_levels, .int .i64 a0_level], osl K_bool v0_active x9]) (fun Q9 hJ9 hR9 hX9 => ?_) (fun a w hJ => ?_)
      · replace H := H9
        refine seq_reg (fun K10 hK10 => ?_)
        refine stq hf rfl rfl rfl (ex_move hf rfl) (fun a hf => ?_)
        refine stq hf rfl rfl rfl (ex_nilCheck hf rfl) (fun a hf => ?_)
        refine stq hf rfl rfl rfl (ex_fieldAddrB fa_95_0 rfl hf rfl) (fun a hf => ?_)
        refine stq hf rfl rfl rfl (ex_load sc_56 hf rfl (bx_cell (hs.get (i := 0) rfl) _ rfl)) (fun a hf => ?_)
        refine stq hf rfl rfl rfl (ex_lenS Try.underlying56 (rsl_isSl (hr.now hs (i := 0) rfl)) hf rfl) (fun a hf => ?_)
        refine stq hf rfl rfl rfl (ex_move hf rfl) (fun a hf => ?_)
        refine hK10 _ _ ?_
        refine block_k (fun Q11 hN11 hR11 hX11 hY11 => ?_)
        refine loop_k (fun n a w => ∃ (y12 : (List Bool)) (y13 : Int), Fr a 81 [(0, .pointer (some ⟨b0, 0, none⟩)), (1, .int .i64 a1), (18, v0_trips), (19, .int .i64 (a0_trips.length : Int)), (20, .int .i64 y13)] ∧ St M w0 w [bx b0 95 [v0_trips, v0_active, .int .i64 a0_levels, .int .i64 a0_level], osl K_bool v0_active y12] ∧ thermal_Zone_Update.l1 n a0_trips a1 y12 y13 = some x9) k ?_ (fun n15 a w hI Q15 hL15 hR15 hX15 => ?_)
        · -- at the start
          exact ⟨a0_active, 0, hf.sub ⟨rfl, rfl, rfl, rfl, rfl, trivial⟩, hs, H⟩
        · obtain ⟨y12, y13, hf, hs, H⟩ := hI
          cases n15 with
          | zero => exact absurd H (by rw [thermal_Zone_Update.l1.eq_1]; intro h; cases h)
          | succ k15 =>
            replace H := (thermal_Zone_Update.l1.eq_2 ..).symm.trans H
            refine seq_reg (fun K16 hK16 => ?_)
            refine stq hf rfl rfl rfl (ex_lss hf rfl rfl) (fun a hf => ?_)
            refine hK16 _ _ ?_
            refine seq_n (fun Q17 hN17 hR17 hX17 => ?_)
            refine itt H (fun hc18 H => ?_) (fun hc18 H => ?_)
            · -- y13 < (a0_trips.length : Int)
              replace hf := hf.castB (t := 21) rfl (dec_t hc18)
              refine cond_T hf rfl ?_
              refine wp_skip ?_
              refine hN17 _ _ ?_
              refine bnd H (fun x19 H19 HO19 => ?_)
              clear H
              refine seq_cut (fun a w => Fr a 81 [(0, .pointer (some ⟨b0, 0, none⟩)), (1, .int .i64 a1), (18, v0_trips), (19, .int .i64 (a0_trips.length : Int)), (20, .int .i64 y13)] ∧ St M w0 w [bx b0 95 [v0_trips, v0_active, .int .i64 a0_levels, .int .i64 a0_level], osl K_bool v0_active x19]) (fun Q19 hJ19 hR19 hX19 => ?_) (fun a w hJ => ?_)
              · replace H := H19
                refine block_k (fun Q20 hN20 hR20 hX20 hY20 => ?_)
                refine ck_some H (fun hc21 H => ?_)
                refine seq_reg (fun K23 hK23 => ?_)
                refine stq hf rfl rfl rfl (ex_move hf rfl) (fun a hf => ?_)
                refine stq hf rfl rfl rfl (ex_indexAddr sa_56 (rsl_isSl (hr.now hs (i := 0) rfl)) hc21.1 hc21.2 hf rfl rfl) (fun a hf => ?_)
                refine stq hf rfl rfl rfl (ex_loadA (cs := [.int .i64 ((gd Trip.zero a0_trips y13).Kind), .int .i64 ((gd Trip.zero a0_trips y13).Temperature), .int .i64 ((gd Trip.zero a0_trips y13).Hysteresis)]) ag_55 hf rfl (el_cells (K := K_api_Trip) (rsl_rd (hr.now hs (i := 0) rfl)) hc21.1 hc21.2 rfl)) (fun a hf => ?_)
                refine stepV hf rfl rfl rfl (er_alloc hs ti_55 (cs := [.int .i64 0, .int .i64 0, .int .i64 0]) rfl) (fun v w hR a hf => ?_)
                obtain ⟨b22, rfl, hs⟩ := hR
                refine stq hf rfl rfl rfl (ex_assign hf rfl) (fun a hf => ?_)
                refine stepS hf rfl rfl (er_storeAB (vs := [.int .i64 ((gd Trip.zero a0_trips y13).Kind), .int .i64 ((gd Trip.zero a0_trips y13).Temperature), .int .i64 ((gd Trip.zero a0_trips y13).Hysteresis)]) (cs' := [.int .i64 ((gd Trip.zero a0_trips y13).Kind), .int .i64 ((gd Trip.zero a0_trips y13).Temperature), .int .i64 ((gd Trip.zero a0_trips y13).Hysteresis)]) hs (.c (.k (.k .nil))) sz_55 hf rfl rfl (all1 rfl (all1 rfl (all1 rfl (all1_nil)))) rfl rfl) (fun w hs => ?_)
                refine hK23 _ _ ?_
                refine block_k (fun Q24 hN24 hR24 hX24 hY24 => ?_)
                refine seq_reg (fun K25 hK25 => ?_)
                refine stq hf rfl rfl rfl (ex_move hf rfl) (fun a hf => ?_)
                refine stq hf rfl rfl rfl (ex_fieldAddrB fa_55_1 rfl hf rfl) (fun a hf => ?_)
                refine stq hf rfl rfl rfl (ex_load sc_2 hf rfl (bx_cell (hs.get (i := 0) rfl) _ rfl)) (fun a hf => ?_)
                refine stq hf rfl rfl rfl (ex_geq hf rfl rfl) (fun a hf => ?_)
                refine stq hf rfl rfl rfl (ex_assign hf rfl) (fun a hf => ?_)
                refine hK25 _ _ ?_
                refine itt H (fun hc26 H => ?_) (fun hc26 H => ?_)
                · -- ((gd Trip.zero a0_trips y13).Temperature) ≤ a1
                  replace hf := hf.castB (t := 29) rfl (dec_t hc26)
                  replace hf := hf.castB (t := 25) rfl (dec_t hc26)
                  refine cond_T hf rfl ?_
                  refine ck_some H (fun hc27 H => ?_)
                  refine region_k (fun K28 hK28 => ?_)
                  refine stq hf rfl rfl rfl (ex_move hf rfl) (fun a hf => ?_)
                  refine stq hf rfl rfl rfl (ex_nilCheck hf rfl) (fun a hf => ?_)
                  refine stq hf rfl rfl rfl (ex_fieldAddrB fa_95_1 rfl hf rfl) (fun a hf => ?_)
                  refine stq hf rfl rfl rfl (ex_load sc_93 hf rfl (bx_cell (hs.get (i := 1) rfl) _ rfl)) (fun a hf => ?_)
                  refine stq hf rfl rfl rfl (ex_move hf rfl) (fun a hf => ?_)
                  refine stq hf rfl rfl rfl (ex_indexAddr sa_93 (rsl_isSl (osl_rsl _ (hs.get (i := 2) rfl))) hc27.1 hc27.2 hf rfl rfl) (fun a hf => ?_)
                  refine stepS hf rfl rfl (er_storeE (K := K_bool) (f := 0) (x' := true) hs (.k (.k (.c .nil))) hc27.1 hc27.2 hf rfl rfl rfl sz_4 rfl rfl) (fun w hs => ?_)
                  refine hK28 _ _ ?_
                  refine hN24 _ _ ?_
                  refine hN20 _ _ ?_
                  replace hs := hs.keep (.k (.d (.k .nil)))
                  replace hs := hs.pick (.k (.c .nil))
                  have e19 := some_eq H; subst e19
                  exact hJ19 _ _ ⟨hf.sub ⟨rfl, rfl, rfl, rfl, rfl, trivial⟩, hs⟩
                · -- not ((gd Trip.zero a0_trips y13).Temperature) ≤ a1
                  replace hf := hf.castB (t := 29) rfl (dec_f hc26)
                  replace hf := hf.castB (t := 25) rfl (dec_f hc26)
                  refine cond_F hf rfl ?_
                  refine seq_reg (fun K29 hK29 => ?_)
                  refine stq hf rfl rfl rfl (ex_move hf rfl) (fun a hf => ?_)
                  refine stq hf rfl rfl rfl (ex_fieldAddrB fa_55_1 rfl hf rfl) (fun a hf => ?_)
                  refine stq hf rfl rfl rfl (ex_load sc_2 hf rfl (bx_cell (hs.get (i := 0) rfl) _ rfl)) (fun a hf => ?_)
                  refine stq hf rfl rfl rfl (ex_fieldAddrB fa_55_2 rfl hf rfl) (fun a hf => ?_)
                  refine stq hf rfl rfl rfl (ex_load sc_2 hf rfl (bx_cell (hs.get (i := 0) rfl) _ rfl)) (fun a hf => ?_)
                  refine stq hf rfl rfl rfl (ex_sub hf rfl rfl) (fun a hf => ?_)
                  refine stq hf rfl rfl rfl (ex_lss hf rfl rfl) (fun a hf => ?_)
                  refine stq hf rfl rfl rfl (ex_assign hf rfl) (fun a hf => ?_)
                  refine hK29 _ _ ?_
                  refine itt H (fun hc30 H => ?_) (fun hc30 H => ?_)
                  · -- a1 < (IntKind.i64.wrap (((gd Trip.zero a0_trips y13).Tempera
                    replace hf := hf.castB (t := 43) rfl (dec_t hc30)
                    replace hf := hf.castB (t := 36) rfl (dec_t hc30)
                    refine cond_T hf rfl ?_
                    refine ck_some H (fun hc31 H => ?_)
                    refine region_k (fun K32 hK32 => ?_)
                    refine stq hf rfl rfl rfl (ex_move hf rfl) (fun a hf => ?_)
                    refine stq hf rfl rfl rfl (ex_nilCheck hf rfl) (fun a hf => ?_)
                    refine stq hf rfl rfl rfl (ex_fieldAddrB fa_95_1 rfl hf rfl) (fun a hf => ?_)
                    refine stq hf rfl rfl rfl (ex_load sc_93 hf rfl (bx_cell (hs.get (i := 1) rfl) _ rfl)) (fun a hf => ?_)
                    refine stq hf rfl rfl rfl (ex_move hf rfl) (fun a hf => ?_)
                    refine stq hf rfl rfl rfl (ex_indexAddr sa_93 (rsl_isSl (osl_rsl _ (hs.get (i := 2) rfl))) hc31.1 hc31.2 hf rfl rfl) (fun a hf => ?_)
                    refine stepS hf rfl rfl (er_storeE (K := K_bool) (f := 0) (x' := false) hs (.k (.k (.c .nil))) hc31.1 hc31.2 hf rfl rfl rfl sz_4 rfl rfl) (fun w hs => ?_)
                    refine hK32 _ _ ?_
                    refine hN24 _ _ ?_
                    refine hN20 _ _ ?_
                    replace hs := hs.keep (.k (.d (.k .nil)))
                    replace hs := hs.pick (.k (.c .nil))
                    have e19 := some_eq H; subst e19
                    exact hJ19 _ _ ⟨hf.sub ⟨rfl, rfl, rfl, rfl, rfl, trivial⟩, hs⟩
                  · -- not a1 < (IntKind.i64.wrap (((gd Trip.zero a0_trips y13).Tempera
                    replace hf := hf.castB (t := 43) rfl (dec_f hc30)
                    replace hf := hf.castB (t := 36) rfl (dec_f hc30)
                    refine cond_F hf rfl ?_
                    refine wp_skip ?_
                    refine hN24 _ _ ?_
                    refine hN20 _ _ ?_
                    replace hs := hs.keep (.d (.k (.k .nil)))
                    have e19 := some_eq H; subst e19
                    exact hJ19 _ _ ⟨hf.sub ⟨rfl, rfl, rfl, rfl, rfl, trivial⟩, hs⟩
              · obtain ⟨hf, hs⟩ := hJ
                replace H := HO19
                clear HO19
                refine region_k (fun K33 hK33 => ?_)
                refine stq hf rfl rfl rfl (ex_add hf rfl rfl) (fun a hf => ?_)
                refine stq hf rfl rfl rfl (ex_move hf rfl) (fun a hf => ?_)
                refine hK33 _ _ ?_
                exact hL15 k15 _ _ (Nat.lt_succ_self _) ⟨x19, (IntKind.i64.wrap (y13 + 1)), hf.sub ⟨rfl, rfl, rfl, rfl, rfl, trivial⟩, hs, H⟩
            · -- not y13 < (a0_trips.length : Int)
              replace hf := hf.castB (t := 21) rfl (dec_f hc18)
              refine cond_F hf rfl ?_
              refine wp_exit ?_
              refine hX17 0 _ _ ?_
              refine hX15 0 _ _ ?_
              refine hX11 _ _ ?_
              have e9 := some_eq H; subst e9
              exact hJ9 _ _ ⟨hf.sub ⟨rfl, trivial⟩, hs⟩
      · obtain ⟨hf, hs⟩ := hJ
        replace H := HO9
        clear HO9
        refine bnd H (fun x34 H34 HO34 => ?_)
        clear H
        refine seq_cut (fun a w => Fr a 81 [(0, .pointer (some ⟨b0, 0, none⟩))] ∧ St M w0 w [bx b0 95 [v0_trips, v0_active, .int .i64 a0_levels, .int .i64 x34], osl K_bool v0_active x9]) (fun Q34 hJ34 hR34 hX34 => ?_) (fun a w hJ => ?_)
        · replace H := H34
          refine bnd H (fun s35 hs35 H => ?_)
          refine seq_reg (fun K36 hK36 => ?_)
          refine stq hf rfl rfl rfl (ex_move hf rfl) (fun a hf => ?_)
          refine stepF hf rfl rfl rfl (ex_call cf_36 hf rfl) (thermal_Zone_any.calls k a0_trips x9 a0_levels a0_level 2 b0 v0_trips v0_active (hs.enter (.k (.k .nil))) (Sr.own hs (.k (.k .nil)) (i := 0) rfl (fun _ h => h) (fun _ h => h) (Sr.old hr hs (.k (.k .nil)) (i := 0) rfl (fun _ h => h) (fun _ h => h) (Sr.own hs (.k (.k .nil)) (i := 1) rfl osl_rsl (fun _ h => h.1) (Sr.nil _ _)))) hs35) (fun v w hR a hf => ?_)
          obtain ⟨rfl, hs'⟩ := hR
          replace hs := hs.step (.k (.k .nil)) hs'
          clear hs'
          refine hK36 _ _ ?_
          refine itt H (fun hc37 H => ?_) (fun hc37 H => ?_)
          · -- s35 = true
            replace hf := hf.castB (t := 52) rfl hc37
            refine cond_T hf rfl ?_
            refine region_d fol 11 [(0, .pointer (some ⟨b0, 0, none⟩))] [(0, .pointer (some ⟨b0, 0, none⟩)), (1, .pointer (some ⟨b0, 0, none⟩)), (2, .pointer (some ⟨b0, 0, none⟩)), (3, .pointer (some ⟨b0, 3, none⟩)), (4, .int .i64 a0_level), (5, .int .i64 (IntKind.i64.wrap (a0_level + 1))), (6, .pointer (some ⟨b0, 0, none⟩)), (7, .pointer (some ⟨b0, 0, none⟩)), (8, .pointer (some ⟨b0, 2, none⟩)), (9, .int .i64 a0_levels), (10, .int .i64 (mn (IntKind.i64.wrap (a0_level + 1)) a0_levels))] [] (fun w => (bx b0 95 [v0_trips, v0_active, .int .i64 a0_levels, .int .i64 a0_level]).ok w ∧ True) (fun w => St M w0 w [bx b0 95 [v0_trips, v0_active, .int .i64 a0_levels, .int .i64 a0_level], osl K_bool v0_active x9]) hf ⟨rfl, trivial⟩ (by kernel_rfl) (by kernel_rfl) rfl (by decide) ⟨hs.drew.get (i := 0) rfl, trivial⟩ hs.drew (.cons (⟨_, _, rfl, rfl, rfl, rfl, fun a w hR hf => .inl ⟨wanted_yes hf rfl, ex_move hf rfl⟩⟩) (.cons (⟨_, _, rfl, rfl, rfl, rfl, fun a w hR hf => .inl ⟨wanted_yes hf rfl, ex_move hf rfl⟩⟩) (.cons (⟨_, _, rfl, rfl, rfl, rfl, fun a w hR hf => .inl ⟨wanted_yes hf rfl, ex_nilCheck hf rfl⟩⟩) (.cons (⟨_, _, rfl, rfl, rfl, rfl, fun a w hR hf => .inl ⟨wanted_yes hf rfl, ex_fieldAddrB fa_95_3 rfl hf rfl⟩⟩) (.cons (⟨_, _, rfl, rfl, rfl, rfl, fun a w hR hf => .inl ⟨wanted_yes hf rfl, ex_load sc_3 hf rfl (bx_cell (hR.1) _ rfl)⟩⟩) (.cons (⟨_, _, rfl, rfl, rfl, rfl, fun a w hR hf => .inl ⟨wanted_yes hf rfl, ex_add hf rfl rfl⟩⟩) (.cons (⟨_, _, rfl, rfl, rfl, rfl, fun a w hR hf => .inl ⟨wanted_yes hf rfl, ex_move hf rfl⟩⟩) (.cons (⟨_, _, rfl, rfl, rfl, rfl, fun a w hR hf => .inl ⟨wanted_yes hf rfl, ex_nilCheck hf rfl⟩⟩) (.cons (⟨_, _, rfl, rfl, rfl, rfl, fun a w hR hf => .inl ⟨wanted_yes hf rfl, ex_fieldAddrB fa_95_2 rfl hf rfl⟩⟩) (.cons (⟨_, _, rfl, rfl, rfl, rfl, fun a w hR hf => .inl ⟨wanted_yes hf rfl, ex_load sc_3 hf rfl (bx_cell (hR.1) _ rfl)⟩⟩) (.cons (⟨_, _, rfl, rfl, rfl, rfl, fun a w hR hf => .inl ⟨wanted_yes hf rfl, ex_min hf rfl rfl⟩⟩) (.nil)))))))))))) (fun K38 hK38 => ?_)
            refine RW.zero (by kernel_rfl) (by kernel_rfl) [(0, .pointer (some ⟨b0, 0, none⟩)), (53, .pointer (some ⟨b0, 0, none⟩)), (63, .int .i64 (mn (IntKind.i64.wrap (a0_level + 1)) a0_levels))] ⟨rfl, rfl, rfl, trivial⟩ (fun a w hR hs hf => ?_)
            refine stq hf rfl rfl rfl (ex_nilCheck hf rfl) (fun a hf => ?_)
            refine stq hf rfl rfl rfl (ex_fieldAddrB fa_95_3 rfl hf rfl) (fun a hf => ?_)
            refine stepS hf rfl rfl (er_storeB hs (.c (.k .nil)) hf rfl rfl rfl sz_3 rfl) (fun w hs => ?_)
            refine hK38 _ _ ?_
            have e34 := some_eq H; subst e34
            exact hJ34 _ _ ⟨hf.sub ⟨rfl, trivial⟩, hs⟩
          · -- not s35 = true
            replace hf := hf.castB (t := 52) rfl (bool_f hc37)
            refine cond_F hf rfl ?_
            refine region_k (fun K39 hK39 => ?_)
            refine stq hf rfl rfl rfl (ex_move hf rfl) (fun a hf => ?_)
            refine stq hf rfl rfl rfl (ex_move hf rfl) (fun a hf => ?_)
            refine stq hf rfl rfl rfl (ex_nilCheck hf rfl) (fun a hf => ?_)
            refine stq hf rfl rfl rfl (ex_fieldAddrB fa_95_3 rfl hf rfl) (fun a hf => ?_)
            refine stq hf rfl rfl rfl (ex_load sc_3 hf rfl (bx_cell (hs.get (i := 0) rfl) _ rfl)) (fun a hf => ?_)
            refine stq hf rfl rfl rfl (ex_sub hf rfl rfl) (fun a hf => ?_)
            refine stq hf rfl rfl rfl (ex_max hf rfl rfl) (fun a hf => ?_)
            refine stq hf rfl rfl rfl (ex_nilCheck hf rfl) (fun a hf => ?_)
            refine stq hf rfl rfl rfl (ex_fieldAddrB fa_95_3 rfl hf rfl) (fun a hf => ?_)
            refine stepS hf rfl rfl (er_storeB hs (.c (.k .nil)) hf rfl rfl rfl sz_3 rfl) (fun w hs => ?_)
            refine hK39 _ _ ?_
            have e34 := some_eq H; subst e34
            exact hJ34 _ _ ⟨hf.sub ⟨rfl, trivial⟩, hs⟩
        · obtain ⟨hf, hs⟩ := hJ
          replace H := HO34
          clear HO34
          refine seq_n (fun Q40 hN40 hR40 hX40 => ?_)
          refine bnd H (fun s41 hs41 H => ?_)
          refine region_d fol 7 [(0, .pointer (some ⟨b0, 0, none⟩))] [(0, .pointer (some ⟨b0, 0, none⟩)), (1, .pointer (some ⟨b0, 0, none⟩)), (2, .pointer (some ⟨b0, 3, none⟩)), (3, .int .i64 x34), (4, .pointer (some ⟨b0, 0, none⟩))] [5] (fun w => (bx b0 95 [v0_trips, v0_active, .int .i64 a0_levels, .int .i64 x34]).ok w ∧ True) (fun w => St M w0 w [bx b0 95 [v0_trips, v0_active, .int .i64 a0_levels, .int .i64 x34], osl K_bool v0_active x9]) hf ⟨rfl, trivial⟩ (by kernel_rfl) (by kernel_rfl) rfl (by decide) ⟨hs.drew.get (i := 0) rfl, trivial⟩ hs.drew (.cons (⟨_, _, rfl, rfl, rfl, rfl, fun a w hR hf => .inl ⟨wanted_yes hf rfl, ex_move hf rfl⟩⟩) (.cons (⟨_, _, rfl, rfl, rfl, rfl, fun a w hR hf => .inl ⟨wanted_yes hf rfl, ex_nilCheck hf rfl⟩⟩) (.cons (⟨_, _, rfl, rfl, rfl, rfl, fun a w hR hf => .inl ⟨wanted_yes hf rfl, ex_fieldAddrB fa_95_3 rfl hf rfl⟩⟩) (.cons (⟨_, _, rfl, rfl, rfl, rfl, fun a w hR hf => .inl ⟨wanted_yes hf rfl, ex_load sc_3 hf rfl (bx_cell (hR.1) _ rfl)⟩⟩) (.cons (⟨_, _, rfl, rfl, rfl, rfl, fun a w hR hf => .inl ⟨wanted_yes hf rfl, ex_move hf rfl⟩⟩) (.nil)))))) (fun K42 hK42 => ?_)
          refine RW.one 5 (by kernel_rfl) (by kernel_rfl) rfl (fun d hd => by cases hd; rfl) [(79, .pointer (some ⟨b0, 0, none⟩))] ⟨rfl, trivial⟩ (fun a w hR hs hf => ⟨wanted_yes hf rfl, ?_⟩)
          refine estep_f (ex_call cf_36 hf rfl) (thermal_Zone_any.calls k a0_trips x9 a0_levels x34 3 b0 v0_trips v0_active (hs.enter (.k (.k .nil))) (Sr.own hs (.k (.k .nil)) (i := 0) rfl (fun _ h => h) (fun _ h => h) (Sr.old hr hs (.k (.k .nil)) (i := 0) rfl (fun _ h => h) (fun _ h => h) (Sr.own hs (.k (.k .nil)) (i := 1) rfl osl_rsl (fun _ h => h.1) (Sr.nil _ _)))) hs41) (fun v w hR => ?_)
          obtain ⟨rfl, hs'⟩ := hR
          replace hs := hs.step (.k (.k .nil)) hs'
          clear hs'
          refine ⟨[(6, .int .i64 x34)], [(6, .int .i64 x34), (5, .bool s41), (0, .pointer (some ⟨b0, 0, none⟩)), (1, .pointer (some ⟨b0, 0, none⟩)), (2, .pointer (some ⟨b0, 3, none⟩)), (3, .int .i64 x34), (4, .pointer (some ⟨b0, 0, none⟩))], [], (fun _ => True), (fun w => St M w0 w [bx b0 95 [v0_trips, v0_active, .int .i64 a0_levels, .int .i64 x34], osl K_bool v0_active x9]), rfl, rfl, ⟨hs.get (i := 0) rfl, trivial⟩, trivial, hs, (by kernel_rfl), .cons (⟨_, _, rfl, rfl, rfl, rfl, fun a w hR hf => .inl ⟨wanted_yes hf rfl, ex_assign hf rfl⟩⟩) (.nil), ?_⟩
          refine RW.zero (by kernel_rfl) (by kernel_rfl) [(4, .int .i64 x34), (80, .bool s41)] ⟨rfl, rfl, trivial⟩ (fun a w hR hs hf => ?_)
          refine stq hf rfl rfl rfl (ex_assign hf rfl) (fun a hf => ?_)
          refine stq hf rfl rfl rfl (ex_assign hf rfl) (fun a hf => ?_)
          refine hK42 _ _ ?_
          refine hN40 _ _ ?_
          refine wp_ret ?_
          have eR := some_eq H; subst eR
          exact ret3 Try.results20 hf rfl rfl rfl ⟨_, rfl, ⟨v0_active, rfl, hs⟩⟩

end Go.Proofs.Ytannodkbindlbaa.X
