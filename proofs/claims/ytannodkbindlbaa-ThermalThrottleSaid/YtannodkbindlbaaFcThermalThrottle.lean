/- Each function of the machine comes to what its pure function says. -/
import Derived.Test.YtannodkbindlbaaFc2
import Derived.Test.YtannodkbindlbaaFc3
import Derived.Test.YtannodkbindlbaaFb
namespace Go.Proofs.Ytannodkbindlbaa.X
open Go Go.RowKit Go.Sx
set_option linter.unusedVariables false

set_option maxRecDepth 100000 in
theorem law39_ThermalThrottle.calls {M : Nat → Prop} {w0 : World} (k : Nat) (a0 : (List OperatingPoint)) (a1 : Int) (v0 : Value) {r : Bool} (hs : St M w0 w0 []) (hr : Sr M w0 [rsl K_api_OperatingPoint v0 a0])
    (h : law39_ThermalThrottle.f k a0 a1 = some r) : Calls Try.prog 3 #[v0, .int .u64 a1] w0 fun e w => ∃ v, e = .returned v ∧ (.bool r = v ∧ St M w0 w []) := by
  have H := (law39_ThermalThrottle.f.eq_1 ..).symm.trans h
  clear h
  refine enter Try.func3 rfl Try.ntmps3 rfl (fun a hf => ?_)
  refine seq_reg (fun K1 hK1 => ?_)
  refine stq hf rfl rfl rfl (ex_assign hf rfl) (fun a hf => ?_)
  refine hK1 _ _ ?_
  refine seq_n (fun Q2 hN2 hR2 hX2 => ?_)
  refine seq_reg (fun K3 hK3 => ?_)
  refine stq hf rfl rfl rfl (ex_move hf rfl) (fun a hf => ?_)
  refine stq hf rfl rfl rfl (ex_lenS Try.underlying22 (rsl_isSl (hr.now hs (i := 0) rfl)) hf rfl) (fun a hf => ?_)
  refine stq hf rfl rfl rfl (ex_gtr hf rfl rfl) (fun a hf => ?_)
  refine hK3 _ _ ?_
  refine itt H (fun hc4 H => ?_) (fun hc4 H => ?_)
  · -- 20 < (a0.length : Int)
    replace hf := hf.castB (t := 15) rfl (dec_t hc4)
    refine cond_T hf rfl ?_
    refine bnd H (fun s5 hs5 H => ?_)
    refine seq_reg (fun K6 hK6 => ?_)
    refine stepF hf rfl rfl rfl (ex_call cf_9 hf rfl) (law39_awake.calls k (hs.enter .nil) (Sr.nil _ _) hs5) (fun v w hR a hf => ?_)
    obtain ⟨rfl, hs'⟩ := hR
    replace hs := hs.step .nil hs'
    clear hs'
    refine stq hf rfl rfl rfl (ex_assign hf rfl) (fun a hf => ?_)
    refine hK6 _ _ ?_
    refine wp_ret ?_
    refine hR2 _ _ ?_
    have eR := some_eq H; subst eR
    exact ret1 Try.results3 hf rfl ⟨_, rfl, ⟨rfl, hs⟩⟩
  · -- not 20 < (a0.length : Int)
    replace hf := hf.castB (t := 15) rfl (dec_f hc4)
    refine cond_F hf rfl ?_
    refine wp_skip ?_
    refine hN2 _ _ ?_
    refine bnd H (fun s7 hs7 H => ?_)
    refine seq_reg (fun K9 hK9 => ?_)
    refine stq hf rfl rfl rfl (ex_move hf rfl) (fun a hf => ?_)
    refine stepF hf rfl rfl rfl (ex_call cf_10 hf rfl) (law36_Table.calls k a0 v0 (hs.enter .nil) (Sr.old hr hs .nil (i := 0) rfl (fun _ h => h) (fun _ h => h) (Sr.nil _ _)) hs7) (fun v w hR a hf => ?_)
    obtain ⟨v8, rfl, hs'⟩ := hR
    replace hs := hs.step .nil hs'
    clear hs'
    refine stq hf rfl rfl rfl (ex_assign hf rfl) (fun a hf => ?_)
    refine hK9 _ _ ?_
    refine seq_reg (fun K10 hK10 => ?_)
    refine stq hf rfl rfl rfl (ex_move hf rfl) (fun a hf => ?_)
    refine stq hf rfl rfl rfl (ex_rem hf rfl rfl (by decide)) (fun a hf => ?_)
    refine stq hf rfl rfl rfl (ex_assign hf rfl) (fun a hf => ?_)
    refine hK10 _ _ ?_
    refine bnd H (fun s11 hs11 H => ?_)
    refine seq_reg (fun K12 hK12 => ?_)
    refine stq hf rfl rfl rfl (ex_move hf rfl) (fun a hf => ?_)
    refine stq hf rfl rfl rfl (ex_move hf rfl) (fun a hf => ?_)
    refine stepF hf rfl rfl rfl (ex_call cf_11 hf rfl) (thermal_Throttle.calls k a0 a1 v0 (hs.enter (.k .nil)) (Sr.old hr hs (.k .nil) (i := 0) rfl (fun _ h => h) (fun _ h => h) (Sr.nil _ _)) hs11) (fun v w hR a hf => ?_)
    obtain ⟨rfl, hs'⟩ := hR
    replace hs := hs.step (.k .nil) hs'
    clear hs'
    refine stq hf rfl rfl rfl (ex_move hf rfl) (fun a hf => ?_)
    refine stq hf rfl rfl rfl (ex_extract hf rfl rfl) (fun a hf => ?_)
    refine stq hf rfl rfl rfl (ex_extract hf rfl rfl) (fun a hf => ?_)
    refine stq hf rfl rfl rfl (ex_assign hf rfl) (fun a hf => ?_)
    refine stq hf rfl rfl rfl (ex_assign hf rfl) (fun a hf => ?_)
    refine hK12 _ _ ?_
    refine bnd H (fun s13 hs13 H => ?_)
    refine seq_reg (fun K14 hK14 => ?_)
    refine stq hf rfl rfl rfl (ex_move hf rfl) (fun a hf => ?_)
    refine stq hf rfl rfl rfl (ex_move hf rfl) (fun a hf => ?_)
    refine stepF hf rfl rfl rfl (ex_call cf_12 hf rfl) (ref39_Throttle.calls k a0 a1 v0 (hs.enter (.k .nil)) (Sr.old hr hs (.k .nil) (i := 0) rfl (fun _ h => h) (fun _ h => h) (Sr.nil _ _)) hs13) (fun v w hR a hf => ?_)
    obtain ⟨rfl, hs'⟩ := hR
    replace hs := hs.step (.k .nil) hs'
    clear hs'
    refine stq hf rfl rfl rfl (ex_move hf rfl) (fun a hf => ?_)
    refine stq hf rfl rfl rfl (ex_extract hf rfl rfl) (fun a hf => ?_)
    refine stq hf rfl rfl rfl (ex_extract hf rfl rfl) (fun a hf => ?_)
    refine stq hf rfl rfl rfl (ex_assign hf rfl) (fun a hf => ?_)
    refine stq hf rfl rfl rfl (ex_assign hf rfl) (fun a hf => ?_)
    refine hK14 _ _ ?_
    refine bnd H (fun s15 hs15 H => ?_)
    refine seq_reg (fun K16 hK16 => ?_)
    refine stq hf rfl rfl rfl (ex_move hf rfl) (fun a hf => ?_)
    refine stq hf rfl rfl rfl (ex_move hf rfl) (fun a hf => ?_)
    refine stepF hf rfl rfl rfl (ex_call cf_11 hf rfl) (thermal_Throttle.calls k s7 (Int.tmod a1 250) v8 (hs.enter (.k .nil)) (Sr.own hs (.k .nil) (i := 0) rfl osl_rsl (fun _ h => h.1) (Sr.nil _ _)) hs15) (fun v w hR a hf => ?_)
    obtain ⟨rfl, hs'⟩ := hR
    replace hs := hs.step (.k .nil) hs'
    clear hs'
    refine stq hf rfl rfl rfl (ex_move hf rfl) (fun a hf => ?_)
    refine stq hf rfl rfl rfl (ex_extract hf rfl rfl) (fun a hf => ?_)
    refine stq hf rfl rfl rfl (ex_extract hf rfl rfl) (fun a hf => ?_)
    refine stq hf rfl rfl rfl (ex_assign hf rfl) (fun a hf => ?_)
    refine stq hf rfl rfl rfl (ex_assign hf rfl) (fun a hf => ?_)
    refine hK16 _ _ ?_
    refine seq_n (fun Q17 hN17 hR17 hX17 => ?_)
    refine bnd H (fun x18 H18 HO18 => ?_)
    clear H
    refine seq_cut (fun a w => Fr a 99 [(5, v8), (6, .int .u64 (Int.tmod a1 250)), (11, .int .i64 s15.1), (12, .int .i64 s15.2), (46, .bool x18)] ∧ St M w0 w [osl K_api_OperatingPoint v8 s7]) (fun Q18 hJ18 hR18 hX18 => ?_) (fun a w hJ => ?_)
    · replace H := H18
      refine itt H (fun hc19 H => ?_) (fun hc19 H => ?_)
      · -- s11.1 = s13.1
        refine region_k (fun K20 hK20 => ?_)
        refine stq hf rfl rfl rfl (ex_move hf rfl) (fun a hf => ?_)
        refine stq hf rfl rfl rfl (ex_move hf rfl) (fun a hf => ?_)
        refine stq hf rfl rfl rfl (ex_neq hf rfl rfl) (fun a hf => ?_)
        refine stq hf rfl rfl rfl (ex_move hf rfl) (fun a hf => ?_)
        replace hf := hf.castB (t := 41) rfl (ndec_f hc19)
        replace hf := hf.castB (t := 42) rfl (ndec_f hc19)
        refine stq hf rfl rfl rfl (ex_move hf rfl) (fun a hf => ?_)
        refine stq hf rfl rfl rfl (ex_move hf rfl) (fun a hf => ?_)
        refine stq hf rfl rfl rfl (ex_neq hf rfl rfl) (fun a hf => ?_)
        refine stq hf rfl rfl rfl (ex_pickF hf rfl rfl) (fun a hf => ?_)
        refine hK20 _ _ ?_
        have e18 := some_eq H; subst e18
        exact hJ18 _ _ ⟨hf.sub ⟨rfl, rfl, rfl, rfl, rfl, trivial⟩, hs⟩
      · -- not s11.1 = s13.1
        refine region_k (fun K21 hK21 => ?_)
        refine stq hf rfl rfl rfl (ex_move hf rfl) (fun a hf => ?_)
        refine stq hf rfl rfl rfl (ex_move hf rfl) (fun a hf => ?_)
        refine stq hf rfl rfl rfl (ex_neq hf rfl rfl) (fun a hf => ?_)
        refine stq hf rfl rfl rfl (ex_move hf rfl) (fun a hf => ?_)
        replace hf := hf.castB (t := 41) rfl (ndec_t hc19)
        replace hf := hf.castB (t := 42) rfl (ndec_t hc19)
        refine stepN hf rfl rfl rfl (fun a hf => ?_)
        refine stepN hf rfl rfl rfl (fun a hf => ?_)
        refine stepN hf rfl rfl rfl (fun a hf => ?_)
        refine stq hf rfl rfl rfl (ex_pickT hf rfl rfl) (fun a hf => ?_)
        refine hK21 _ _ ?_
        have e18 := some_eq H; subst e18
        exact hJ18 _ _ ⟨hf.sub ⟨rfl, rfl, rfl, rfl, rfl, trivial⟩, hs⟩
    · obtain ⟨hf, hs⟩ := hJ
      replace H := HO18
      clear HO18
      refine itt H (fun hc22 H => ?_) (fun hc22 H => ?_)
      · -- x18 = true
        replace hf := hf.castB (t := 46) rfl hc22
        refine cond_T hf rfl ?_
        refine seq_reg (fun K23 hK23 => ?_)
        refine stq hf rfl rfl rfl (ex_assign hf rfl) (fun a hf => ?_)
        refine hK23 _ _ ?_
        refine wp_ret ?_
        refine hR17 _ _ ?_
        have eR := some_eq H; subst eR
        replace hs := hs.keep (.d .nil)
        exact ret1 Try.results3 hf rfl ⟨_, rfl, ⟨rfl, hs⟩⟩
      · -- not x18 = true
        replace hf := hf.castB (t := 46) rfl (bool_f hc22)
        refine cond_F hf rfl ?_
        refine wp_skip ?_
        refine hN17 _ _ ?_
        refine seq_n (fun Q24 hN24 hR24 hX24 => ?_)
        refine seq_reg (fun K25 hK25 => ?_)
        refine stq hf rfl rfl rfl (ex_move hf rfl) (fun a hf => ?_)
        refine stq hf rfl rfl rfl (ex_neq hf rfl rfl) (fun a hf => ?_)
        refine hK25 _ _ ?_
        refine itt H (fun hc26 H => ?_) (fun hc26 H => ?_)
        · -- s15.2 = 0
          replace hf := hf.castB (t := 48) rfl (ndec_f hc26)
          refine cond_F hf rfl ?_
          refine wp_skip ?_
          refine hN24 _ _ ?_
          refine itt H (fun hc27 H => ?_) (fun hc27 H => ?_)
          · -- 0 ≤ s15.1
            refine itt H (fun hc28 H => ?_) (fun hc28 H => ?_)
            · -- s15.1 < (s7.length : Int)
              refine ck_some H (fun hc29 H => ?_)
              refine itt H (fun hc30 H => ?_) (fun hc30 H => ?_)
              · -- ((gd OperatingPoint.zero s7 s15.1).Power) ≤ (Int.tmod a1 250
                refine itt H (fun hc31 H => ?_) (fun hc31 H => ?_)
                · -- s15.1 = (IntKind.i64.wrap ((s7.length : Int) - 1))
                  refine bnd H (fun s32 hs32 H => ?_)
                  refine seq_reg (fun K33 hK33 => ?_)
                  refine stq hf rfl rfl rfl (ex_move hf rfl) (fun a hf => ?_)
                  refine stq hf rfl rfl rfl (ex_geq hf rfl rfl) (fun a hf => ?_)
                  refine stq hf rfl rfl rfl (ex_move hf rfl) (fun a hf => ?_)
                  replace hf := hf.castB (t := 63) rfl (dec_t hc27)
                  replace hf := hf.castB (t := 64) rfl (dec_t hc27)
                  refine stq hf rfl rfl rfl (ex_move hf rfl) (fun a hf => ?_)
                  refine stq hf rfl rfl rfl (ex_move hf rfl) (fun a hf => ?_)
                  refine stq hf rfl rfl rfl (ex_lenS Try.underlying22 (rsl_isSl (osl_rsl _ (hs.get (i := 0) rfl))) hf rfl) (fun a hf => ?_)
                  refine stq hf rfl rfl rfl (ex_lss hf rfl rfl) (fun a hf => ?_)
                  refine stq hf rfl rfl rfl (ex_pickT hf rfl rfl) (fun a hf => ?_)
                  refine stq hf rfl rfl rfl (ex_move hf rfl) (fun a hf => ?_)
                  replace hf := hf.castB (t := 68) rfl (dec_t hc28)
                  replace hf := hf.castB (t := 69) rfl (dec_t hc28)
                  replace hf := hf.castB (t := 70) rfl (dec_t hc28)
                  refine stq hf rfl rfl rfl (ex_move hf rfl) (fun a hf => ?_)
                  refine stq hf rfl rfl rfl (ex_move hf rfl) (fun a hf => ?_)
                  refine stq hf rfl rfl rfl (ex_indexAddr sa_22 (rsl_isSl (osl_rsl _ (hs.get (i := 0) rfl))) hc29.1 hc29.2 hf rfl rfl) (fun a hf => ?_)
                  refine stq hf rfl rfl rfl (ex_fieldAddrS fa_30_2 rfl hf rfl) (fun a hf => ?_)
                  refine stq hf rfl rfl rfl (ex_load sc_23 hf rfl (el_cell (K := K_api_OperatingPoint) (f := 2) (rsl_rd (osl_rsl _ (hs.get (i := 0) rfl))) hc29.1 hc29.2 rfl)) (fun a hf => ?_)
                  refine stq hf rfl rfl rfl (ex_move hf rfl) (fun a hf => ?_)
                  refine stq hf rfl rfl rfl (ex_leq hf rfl rfl) (fun a hf => ?_)
                  refine stq hf rfl rfl rfl (ex_pickT hf rfl rfl) (fun a hf => ?_)
                  refine stq hf rfl rfl rfl (ex_move hf rfl) (fun a hf => ?_)
                  replace hf := hf.castB (t := 77) rfl (dec_t hc30)
                  replace hf := hf.castB (t := 78) rfl (dec_t hc30)
                  replace hf := hf.castB (t := 79) rfl (dec_t hc30)
                  refine stq hf rfl rfl rfl (ex_move hf rfl) (fun a hf => ?_)
                  refine stq hf rfl rfl rfl (ex_move hf rfl) (fun a hf => ?_)
                  refine stq hf rfl rfl rfl (ex_lenS Try.underlying22 (rsl_isSl (osl_rsl _ (hs.get (i := 0) rfl))) hf rfl) (fun a hf => ?_)
                  refine stq hf rfl rfl rfl (ex_sub hf rfl rfl) (fun a hf => ?_)
                  refine stq hf rfl rfl rfl (ex_eql hf rfl rfl) (fun a hf => ?_)
                  refine stq hf rfl rfl rfl (ex_move hf rfl) (fun a hf => ?_)
                  replace hf := hf.castB (t := 84) rfl (dec_t hc31)
                  replace hf := hf.castB (t := 85) rfl (dec_t hc31)
                  refine stepN hf rfl rfl rfl (fun a hf => ?_)
                  refine stepN hf rfl rfl rfl (fun a hf => ?_)
                  refine stepN hf rfl rfl rfl (fun a hf => ?_)
                  refine stepN hf rfl rfl rfl (fun a hf => ?_)
                  refine stepN hf rfl rfl rfl (fun a hf => ?_)
                  refine stepN hf rfl rfl rfl (fun a hf => ?_)
                  refine stepN hf rfl rfl rfl (fun a hf => ?_)
                  refine stepN hf rfl rfl rfl (fun a hf => ?_)
                  refine stq hf rfl rfl rfl (ex_pickT hf rfl rfl) (fun a hf => ?_)
                  refine stq hf rfl rfl rfl (ex_pickT hf rfl rfl) (fun a hf => ?_)
                  refine stq hf rfl rfl rfl (ex_move hf rfl) (fun a hf => ?_)
                  refine stepF hf rfl rfl rfl (ex_call cf_9 hf rfl) (law39_awake.calls k (hs.enter (.k .nil)) (Sr.nil _ _) hs32) (fun v w hR a hf => ?_)
                  obtain ⟨rfl, hs'⟩ := hR
                  replace hs := hs.step (.k .nil) hs'
                  clear hs'
                  refine stq hf rfl rfl rfl (ex_pickT hf rfl rfl) (fun a hf => ?_)
                  refine stq hf rfl rfl rfl (ex_assign hf rfl) (fun a hf => ?_)
                  refine hK33 _ _ ?_
                  refine wp_ret ?_
                  have eR := some_eq H; subst eR
                  replace hs := hs.keep (.d .nil)
                  exact ret1 Try.results3 hf rfl ⟨_, rfl, ⟨rfl, hs⟩⟩
                · -- not s15.1 = (IntKind.i64.wrap ((s7.length : Int) - 1))
                  refine ck_some H (fun hc34 H => ?_)
                  refine itt H (fun hc35 H => ?_) (fun hc35 H => ?_)
                  · -- (Int.tmod a1 250) < ((gd OperatingPoint.zero s7 (IntKind.i64
                    refine bnd H (fun s36 hs36 H => ?_)
                    refine seq_reg (fun K37 hK37 => ?_)
                    refine stq hf rfl rfl rfl (ex_move hf rfl) (fun a hf => ?_)
                    refine stq hf rfl rfl rfl (ex_geq hf rfl rfl) (fun a hf => ?_)
                    refine stq hf rfl rfl rfl (ex_move hf rfl) (fun a hf => ?_)
                    replace hf := hf.castB (t := 63) rfl (dec_t hc27)
                    replace hf := hf.castB (t := 64) rfl (dec_t hc27)
                    refine stq hf rfl rfl rfl (ex_move hf rfl) (fun a hf => ?_)
                    refine stq hf rfl rfl rfl (ex_move hf rfl) (fun a hf => ?_)
                    refine stq hf rfl rfl rfl (ex_lenS Try.underlying22 (rsl_isSl (osl_rsl _ (hs.get (i := 0) rfl))) hf rfl) (fun a hf => ?_)
                    refine stq hf rfl rfl rfl (ex_lss hf rfl rfl) (fun a hf => ?_)
                    refine stq hf rfl rfl rfl (ex_pickT hf rfl rfl) (fun a hf => ?_)
                    refine stq hf rfl rfl rfl (ex_move hf rfl) (fun a hf => ?_)
                    replace hf := hf.castB (t := 68) rfl (dec_t hc28)
                    replace hf := hf.castB (t := 69) rfl (dec_t hc28)
                    replace hf := hf.castB (t := 70) rfl (dec_t hc28)
                    refine stq hf rfl rfl rfl (ex_move hf rfl) (fun a hf => ?_)
                    refine stq hf rfl rfl rfl (ex_move hf rfl) (fun a hf => ?_)
                    refine stq hf rfl rfl rfl (ex_indexAddr sa_22 (rsl_isSl (osl_rsl _ (hs.get (i := 0) rfl))) hc29.1 hc29.2 hf rfl rfl) (fun a hf => ?_)
                    refine stq hf rfl rfl rfl (ex_fieldAddrS fa_30_2 rfl hf rfl) (fun a hf => ?_)
                    refine stq hf rfl rfl rfl (ex_load sc_23 hf rfl (el_cell (K := K_api_OperatingPoint) (f := 2) (rsl_rd (osl_rsl _ (hs.get (i := 0) rfl))) hc29.1 hc29.2 rfl)) (fun a hf => ?_)
                    refine stq hf rfl rfl rfl (ex_move hf rfl) (fun a hf => ?_)
                    refine stq hf rfl rfl rfl (ex_leq hf rfl rfl) (fun a hf => ?_)
                    refine stq hf rfl rfl rfl (ex_pickT hf rfl rfl) (fun a hf => ?_)
                    refine stq hf rfl rfl rfl (ex_move hf rfl) (fun a hf => ?_)
                    replace hf := hf.castB (t := 77) rfl (dec_t hc30)
                    replace hf := hf.castB (t := 78) rfl (dec_t hc30)
                    replace hf := hf.castB (t := 79) rfl (dec_t hc30)
                    refine stq hf rfl rfl rfl (ex_move hf rfl) (fun a hf => ?_)
                    refine stq hf rfl rfl rfl (ex_move hf rfl) (fun a hf => ?_)
                    refine stq hf rfl rfl rfl (ex_lenS Try.underlying22 (rsl_isSl (osl_rsl _ (hs.get (i := 0) rfl))) hf rfl) (fun a hf => ?_)
                    refine stq hf rfl rfl rfl (ex_sub hf rfl rfl) (fun a hf => ?_)
                    refine stq hf rfl rfl rfl (ex_eql hf rfl rfl) (fun a hf => ?_)
                    refine stq hf rfl rfl rfl (ex_move hf rfl) (fun a hf => ?_)
                    replace hf := hf.castB (t := 84) rfl (dec_f hc31)
                    replace hf := hf.castB (t := 85) rfl (dec_f hc31)
                    refine stq hf rfl rfl rfl (ex_move hf rfl) (fun a hf => ?_)
                    refine stq hf rfl rfl rfl (ex_move hf rfl) (fun a hf => ?_)
                    refine stq hf rfl rfl rfl (ex_add hf rfl rfl) (fun a hf => ?_)
                    refine stq hf rfl rfl rfl (ex_indexAddr sa_22 (rsl_isSl (osl_rsl _ (hs.get (i := 0) rfl))) hc34.1 hc34.2 hf rfl rfl) (fun a hf => ?_)
                    refine stq hf rfl rfl rfl (ex_fieldAddrS fa_30_2 rfl hf rfl) (fun a hf => ?_)
                    refine stq hf rfl rfl rfl (ex_load sc_23 hf rfl (el_cell (K := K_api_OperatingPoint) (f := 2) (rsl_rd (osl_rsl _ (hs.get (i := 0) rfl))) hc34.1 hc34.2 rfl)) (fun a hf => ?_)
                    refine stq hf rfl rfl rfl (ex_move hf rfl) (fun a hf => ?_)
                    refine stq hf rfl rfl rfl (ex_gtr hf rfl rfl) (fun a hf => ?_)
                    refine stq hf rfl rfl rfl (ex_pickF hf rfl rfl) (fun a hf => ?_)
                    refine stq hf rfl rfl rfl (ex_pickT hf rfl rfl) (fun a hf => ?_)
                    refine stq hf rfl rfl rfl (ex_move hf rfl) (fun a hf => ?_)
                    replace hf := hf.castB (t := 93) rfl (dec_t hc35)
                    replace hf := hf.castB (t := 94) rfl (dec_t hc35)
                    replace hf := hf.castB (t := 95) rfl (dec_t hc35)
                    replace hf := hf.castB (t := 96) rfl (dec_t hc35)
                    refine stepF hf rfl rfl rfl (ex_call cf_9 hf rfl) (law39_awake.calls k (hs.enter (.k .nil)) (Sr.nil _ _) hs36) (fun v w hR a hf => ?_)
                    obtain ⟨rfl, hs'⟩ := hR
                    replace hs := hs.step (.k .nil) hs'
                    clear hs'
                    refine stq hf rfl rfl rfl (ex_pickT hf rfl rfl) (fun a hf => ?_)
                    refine stq hf rfl rfl rfl (ex_assign hf rfl) (fun a hf => ?_)
                    refine hK37 _ _ ?_
                    refine wp_ret ?_
                    have eR := some_eq H; subst eR
                    replace hs := hs.keep (.d .nil)
                    exact ret1 Try.results3 hf rfl ⟨_, rfl, ⟨rfl, hs⟩⟩
                  · -- not (Int.tmod a1 250) < ((gd OperatingPoint.zero s7 (IntKind.i64
                    refine seq_reg (fun K38 hK38 => ?_)
                    refine stq hf rfl rfl rfl (ex_move hf rfl) (fun a hf => ?_)
                    refine stq hf rfl rfl rfl (ex_geq hf rfl rfl) (fun a hf => ?_)
                    refine stq hf rfl rfl rfl (ex_move hf rfl) (fun a hf => ?_)
                    replace hf := hf.castB (t := 63) rfl (dec_t hc27)
                    replace hf := hf.castB (t := 64) rfl (dec_t hc27)
                    refine stq hf rfl rfl rfl (ex_move hf rfl) (fun a hf => ?_)
                    refine stq hf rfl rfl rfl (ex_move hf rfl) (fun a hf => ?_)
                    refine stq hf rfl rfl rfl (ex_lenS Try.underlying22 (rsl_isSl (osl_rsl _ (hs.get (i := 0) rfl))) hf rfl) (fun a hf => ?_)
                    refine stq hf rfl rfl rfl (ex_lss hf rfl rfl) (fun a hf => ?_)
                    refine stq hf rfl rfl rfl (ex_pickT hf rfl rfl) (fun a hf => ?_)
                    refine stq hf rfl rfl rfl (ex_move hf rfl) (fun a hf => ?_)
                    replace hf := hf.castB (t := 68) rfl (dec_t hc28)
                    replace hf := hf.castB (t := 69) rfl (dec_t hc28)
                    replace hf := hf.castB (t := 70) rfl (dec_t hc28)
                    refine stq hf rfl rfl rfl (ex_move hf rfl) (fun a hf => ?_)
                    refine stq hf rfl rfl rfl (ex_move hf rfl) (fun a hf => ?_)
                    refine stq hf rfl rfl rfl (ex_indexAddr sa_22 (rsl_isSl (osl_rsl _ (hs.get (i := 0) rfl))) hc29.1 hc29.2 hf rfl rfl) (fun a hf => ?_)
                    refine stq hf rfl rfl rfl (ex_fieldAddrS fa_30_2 rfl hf rfl) (fun a hf => ?_)
                    refine stq hf rfl rfl rfl (ex_load sc_23 hf rfl (el_cell (K := K_api_OperatingPoint) (f := 2) (rsl_rd (osl_rsl _ (hs.get (i := 0) rfl))) hc29.1 hc29.2 rfl)) (fun a hf => ?_)
                    refine stq hf rfl rfl rfl (ex_move hf rfl) (fun a hf => ?_)
                    refine stq hf rfl rfl rfl (ex_leq hf rfl rfl) (fun a hf => ?_)
                    refine stq hf rfl rfl rfl (ex_pickT hf rfl rfl) (fun a hf => ?_)
                    refine stq hf rfl rfl rfl (ex_move hf rfl) (fun a hf => ?_)
                    replace hf := hf.castB (t := 77) rfl (dec_t hc30)
                    replace hf := hf.castB (t := 78) rfl (dec_t hc30)
                    replace hf := hf.castB (t := 79) rfl (dec_t hc30)
                    refine stq hf rfl rfl rfl (ex_move hf rfl) (fun a hf => ?_)
                    refine stq hf rfl rfl rfl (ex_move hf rfl) (fun a hf => ?_)
                    refine stq hf rfl rfl rfl (ex_lenS Try.underlying22 (rsl_isSl (osl_rsl _ (hs.get (i := 0) rfl))) hf rfl) (fun a hf => ?_)
                    refine stq hf rfl rfl rfl (ex_sub hf rfl rfl) (fun a hf => ?_)
                    refine stq hf rfl rfl rfl (ex_eql hf rfl rfl) (fun a hf => ?_)
                    refine stq hf rfl rfl rfl (ex_move hf rfl) (fun a hf => ?_)
                    replace hf := hf.castB (t := 84) rfl (dec_f hc31)
                    replace hf := hf.castB (t := 85) rfl (dec_f hc31)
                    refine stq hf rfl rfl rfl (ex_move hf rfl) (fun a hf => ?_)
                    refine stq hf rfl rfl rfl (ex_move hf rfl) (fun a hf => ?_)
                    refine stq hf rfl rfl rfl (ex_add hf rfl rfl) (fun a hf => ?_)
                    refine stq hf rfl rfl rfl (ex_indexAddr sa_22 (rsl_isSl (osl_rsl _ (hs.get (i := 0) rfl))) hc34.1 hc34.2 hf rfl rfl) (fun a hf => ?_)
                    refine stq hf rfl rfl rfl (ex_fieldAddrS fa_30_2 rfl hf rfl) (fun a hf => ?_)
                    refine stq hf rfl rfl rfl (ex_load sc_23 hf rfl (el_cell (K := K_api_OperatingPoint) (f := 2) (rsl_rd (osl_rsl _ (hs.get (i := 0) rfl))) hc34.1 hc34.2 rfl)) (fun a hf => ?_)
                    refine stq hf rfl rfl rfl (ex_move hf rfl) (fun a hf => ?_)
                    refine stq hf rfl rfl rfl (ex_gtr hf rfl rfl) (fun a hf => ?_)
                    refine stq hf rfl rfl rfl (ex_pickF hf rfl rfl) (fun a hf => ?_)
                    refine stq hf rfl rfl rfl (ex_pickT hf rfl rfl) (fun a hf => ?_)
                    refine stq hf rfl rfl rfl (ex_move hf rfl) (fun a hf => ?_)
                    replace hf := hf.castB (t := 93) rfl (dec_f hc35)
                    replace hf := hf.castB (t := 94) rfl (dec_f hc35)
                    replace hf := hf.castB (t := 95) rfl (dec_f hc35)
                    replace hf := hf.castB (t := 96) rfl (dec_f hc35)
                    refine stepN hf rfl rfl rfl (fun a hf => ?_)
                    refine stq hf rfl rfl rfl (ex_pickF hf rfl rfl) (fun a hf => ?_)
                    refine stq hf rfl rfl rfl (ex_assign hf rfl) (fun a hf => ?_)
                    refine hK38 _ _ ?_
                    refine wp_ret ?_
                    have eR := some_eq H; subst eR
                    replace hs := hs.keep (.d .nil)
                    exact ret1 Try.results3 hf rfl ⟨_, rfl, ⟨rfl, hs⟩⟩
              · -- not ((gd OperatingPoint.zero s7 s15.1).Power) ≤ (Int.tmod a1 250
                refine seq_reg (fun K39 hK39 => ?_)
                refine stq hf rfl rfl rfl (ex_move hf rfl) (fun a hf => ?_)
                refine stq hf rfl rfl rfl (ex_geq hf rfl rfl) (fun a hf => ?_)
                refine stq hf rfl rfl rfl (ex_move hf rfl) (fun a hf => ?_)
                replace hf := hf.castB (t := 63) rfl (dec_t hc27)
                replace hf := hf.castB (t := 64) rfl (dec_t hc27)
                refine stq hf rfl rfl rfl (ex_move hf rfl) (fun a hf => ?_)
                refine stq hf rfl rfl rfl (ex_move hf rfl) (fun a hf => ?_)
                refine stq hf rfl rfl rfl (ex_lenS Try.underlying22 (rsl_isSl (osl_rsl _ (hs.get (i := 0) rfl))) hf rfl) (fun a hf => ?_)
                refine stq hf rfl rfl rfl (ex_lss hf rfl rfl) (fun a hf => ?_)
                refine stq hf rfl rfl rfl (ex_pickT hf rfl rfl) (fun a hf => ?_)
                refine stq hf rfl rfl rfl (ex_move hf rfl) (fun a hf => ?_)
                replace hf := hf.castB (t := 68) rfl (dec_t hc28)
                replace hf := hf.castB (t := 69) rfl (dec_t hc28)
                replace hf := hf.castB (t := 70) rfl (dec_t hc28)
                refine stq hf rfl rfl rfl (ex_move hf rfl) (fun a hf => ?_)
                refine stq hf rfl rfl rfl (ex_move hf rfl) (fun a hf => ?_)
                refine stq hf rfl rfl rfl (ex_indexAddr sa_22 (rsl_isSl (osl_rsl _ (hs.get (i := 0) rfl))) hc29.1 hc29.2 hf rfl rfl) (fun a hf => ?_)
                refine stq hf rfl rfl rfl (ex_fieldAddrS fa_30_2 rfl hf rfl) (fun a hf => ?_)
                refine stq hf rfl rfl rfl (ex_load sc_23 hf rfl (el_cell (K := K_api_OperatingPoint) (f := 2) (rsl_rd (osl_rsl _ (hs.get (i := 0) rfl))) hc29.1 hc29.2 rfl)) (fun a hf => ?_)
                refine stq hf rfl rfl rfl (ex_move hf rfl) (fun a hf => ?_)
                refine stq hf rfl rfl rfl (ex_leq hf rfl rfl) (fun a hf => ?_)
                refine stq hf rfl rfl rfl (ex_pickT hf rfl rfl) (fun a hf => ?_)
                refine stq hf rfl rfl rfl (ex_move hf rfl) (fun a hf => ?_)
                replace hf := hf.castB (t := 77) rfl (dec_f hc30)
                replace hf := hf.castB (t := 78) rfl (dec_f hc30)
                replace hf := hf.castB (t := 79) rfl (dec_f hc30)
                refine stepN hf rfl rfl rfl (fun a hf => ?_)
                refine stepN hf rfl rfl rfl (fun a hf => ?_)
                refine stepN hf rfl rfl rfl (fun a hf => ?_)
                refine stepN hf rfl rfl rfl (fun a hf => ?_)
                refine stepN hf rfl rfl rfl (fun a hf => ?_)
                refine stepN hf rfl rfl rfl (fun a hf => ?_)
                refine stepN hf rfl rfl rfl (fun a hf => ?_)
                refine stepN hf rfl rfl rfl (fun a hf => ?_)
                refine stepN hf rfl rfl rfl (fun a hf => ?_)
                refine stepN hf rfl rfl rfl (fun a hf => ?_)
                refine stepN hf rfl rfl rfl (fun a hf => ?_)
                refine stepN hf rfl rfl rfl (fun a hf => ?_)
                refine stepN hf rfl rfl rfl (fun a hf => ?_)
                refine stepN hf rfl rfl rfl (fun a hf => ?_)
                refine stepN hf rfl rfl rfl (fun a hf => ?_)
                refine stq hf rfl rfl rfl (ex_pickF hf rfl rfl) (fun a hf => ?_)
                refine stq hf rfl rfl rfl (ex_move hf rfl) (fun a hf => ?_)
                refine stepN hf rfl rfl rfl (fun a hf => ?_)
                refine stq hf rfl rfl rfl (ex_pickF hf rfl rfl) (fun a hf => ?_)
                refine stq hf rfl rfl rfl (ex_assign hf rfl) (fun a hf => ?_)
                refine hK39 _ _ ?_
                refine wp_ret ?_
                have eR := some_eq H; subst eR
                replace hs := hs.keep (.d .nil)
                exact ret1 Try.results3 hf rfl ⟨_, rfl, ⟨rfl, hs⟩⟩
            · -- not s15.1 < (s7.length : Int)
              refine seq_reg (fun K40 hK40 => ?_)
              refine stq hf rfl rfl rfl (ex_move hf rfl) (fun a hf => ?_)
              refine stq hf rfl rfl rfl (ex_geq hf rfl rfl) (fun a hf => ?_)
              refine stq hf rfl rfl rfl (ex_move hf rfl) (fun a hf => ?_)
              replace hf := hf.castB (t := 63) rfl (dec_t hc27)
              replace hf := hf.castB (t := 64) rfl (dec_t hc27)
              refine stq hf rfl rfl rfl (ex_move hf rfl) (fun a hf => ?_)
              refine stq hf rfl rfl rfl (ex_move hf rfl) (fun a hf => ?_)
              refine stq hf rfl rfl rfl (ex_lenS Try.underlying22 (rsl_isSl (osl_rsl _ (hs.get (i := 0) rfl))) hf rfl) (fun a hf => ?_)
              refine stq hf rfl rfl rfl (ex_lss hf rfl rfl) (fun a hf => ?_)
              refine stq hf rfl rfl rfl (ex_pickT hf rfl rfl) (fun a hf => ?_)
              refine stq hf rfl rfl rfl (ex_move hf rfl) (fun a hf => ?_)
              replace hf := hf.castB (t := 68) rfl (dec_f hc28)
              replace hf := hf.castB (t := 69) rfl (dec_f hc28)
              replace hf := hf.castB (t := 70) rfl (dec_f hc28)
              refine stepN hf rfl rfl rfl (fun a hf => ?_)
              refine stepN hf rfl rfl rfl (fun a hf => ?_)
              refine stepN hf rfl rfl rfl (fun a hf => ?_)
              refine stepN hf rfl rfl rfl (fun a hf => ?_)
              refine stepN hf rfl rfl rfl (fun a hf => ?_)
              refine stepN hf rfl rfl rfl (fun a hf => ?_)
              refine stepN hf rfl rfl rfl (fun a hf => ?_)
              refine stq hf rfl rfl rfl (ex_pickF hf rfl rfl) (fun a hf => ?_)
              refine stq hf rfl rfl rfl (ex_move hf rfl) (fun a hf => ?_)
              refine stepN hf rfl rfl rfl (fun a hf => ?_)
              refine stepN hf rfl rfl rfl (fun a hf => ?_)
              refine stepN hf rfl rfl rfl (fun a hf => ?_)
              refine stepN hf rfl rfl rfl (fun a hf => ?_)
              refine stepN hf rfl rfl rfl (fun a hf => ?_)
              refine stepN hf rfl rfl rfl (fun a hf => ?_)
              refine stepN hf rfl rfl rfl (fun a hf => ?_)
              refine stepN hf rfl rfl rfl (fun a hf => ?_)
              refine stepN hf rfl rfl rfl (fun a hf => ?_)
              refine stepN hf rfl rfl rfl (fun a hf => ?_)
              refine stepN hf rfl rfl rfl (fun a hf => ?_)
              refine stepN hf rfl rfl rfl (fun a hf => ?_)
              refine stepN hf rfl rfl rfl (fun a hf => ?_)
              refine stepN hf rfl rfl rfl (fun a hf => ?_)
              refine stepN hf rfl rfl rfl (fun a hf => ?_)
              refine stq hf rfl rfl rfl (ex_pickF hf rfl rfl) (fun a hf => ?_)
              refine stq hf rfl rfl rfl (ex_move hf rfl) (fun a hf => ?_)
              refine stepN hf rfl rfl rfl (fun a hf => ?_)
              refine stq hf rfl rfl rfl (ex_pickF hf rfl rfl) (fun a hf => ?_)
              refine stq hf rfl rfl rfl (ex_assign hf rfl) (fun a hf => ?_)
              refine hK40 _ _ ?_
              refine wp_ret ?_
              have eR := some_eq H; subst eR
              replace hs := hs.keep (.d .nil)
              exact ret1 Try.results3 hf rfl ⟨_, rfl, ⟨rfl, hs⟩⟩
          · -- not 0 ≤ s15.1
            refine seq_reg (fun K41 hK41 => ?_)
            refine stq hf rfl rfl rfl (ex_move hf rfl) (fun a hf => ?_)
            refine stq hf rfl rfl rfl (ex_geq hf rfl rfl) (fun a hf => ?_)
            refine stq hf rfl rfl rfl (ex_move hf rfl) (fun a hf => ?_)
            replace hf := hf.castB (t := 63) rfl (dec_f hc27)
            replace hf := hf.castB (t := 64) rfl (dec_f hc27)
            refine stepN hf rfl rfl rfl (fun a hf => ?_)
            refine stepN hf rfl rfl rfl (fun a hf => ?_)
            refine stepN hf rfl rfl rfl (fun a hf => ?_)
            refine stepN hf rfl rfl rfl (fun a hf => ?_)
            refine stq hf rfl rfl rfl (ex_pickF hf rfl rfl) (fun a hf => ?_)
            refine stq hf rfl rfl rfl (ex_move hf rfl) (fun a hf => ?_)
            refine stepN hf rfl rfl rfl (fun a hf => ?_)
            refine stepN hf rfl rfl rfl (fun a hf => ?_)
            refine stepN hf rfl rfl rfl (fun a hf => ?_)
            refine stepN hf rfl rfl rfl (fun a hf => ?_)
            refine stepN hf rfl rfl rfl (fun a hf => ?_)
            refine stepN hf rfl rfl rfl (fun a hf => ?_)
            refine stepN hf rfl rfl rfl (fun a hf => ?_)
            refine stq hf rfl rfl rfl (ex_pickF hf rfl rfl) (fun a hf => ?_)
            refine stq hf rfl rfl rfl (ex_move hf rfl) (fun a hf => ?_)
            refine stepN hf rfl rfl rfl (fun a hf => ?_)
            refine stepN hf rfl rfl rfl (fun a hf => ?_)
            refine stepN hf rfl rfl rfl (fun a hf => ?_)
            refine stepN hf rfl rfl rfl (fun a hf => ?_)
            refine stepN hf rfl rfl rfl (fun a hf => ?_)
            refine stepN hf rfl rfl rfl (fun a hf => ?_)
            refine stepN hf rfl rfl rfl (fun a hf => ?_)
            refine stepN hf rfl rfl rfl (fun a hf => ?_)
            refine stepN hf rfl rfl rfl (fun a hf => ?_)
            refine stepN hf rfl rfl rfl (fun a hf => ?_)
            refine stepN hf rfl rfl rfl (fun a hf => ?_)
            refine stepN hf rfl rfl rfl (fun a hf => ?_)
            refine stepN hf rfl rfl rfl (fun a hf => ?_)
            refine stepN hf rfl rfl rfl (fun a hf => ?_)
            refine stepN hf rfl rfl rfl (fun a hf => ?_)
            refine stq hf rfl rfl rfl (ex_pickF hf rfl rfl) (fun a hf => ?_)
            refine stq hf rfl rfl rfl (ex_move hf rfl) (fun a hf => ?_)
            refine stepN hf rfl rfl rfl (fun a hf => ?_)
            refine stq hf rfl rfl rfl (ex_pickF hf rfl rfl) (fun a hf => ?_)
            refine stq hf rfl rfl rfl (ex_assign hf rfl) (fun a hf => ?_)
            refine hK41 _ _ ?_
            refine wp_ret ?_
            have eR := some_eq H; subst eR
            replace hs := hs.keep (.d .nil)
            exact ret1 Try.results3 hf rfl ⟨_, rfl, ⟨rfl, hs⟩⟩
        · -- not s15.2 = 0
          replace hf := hf.castB (t := 48) rfl (ndec_t hc26)
          refine cond_T hf rfl ?_
          refine itt H (fun hc42 H => ?_) (fun hc42 H => ?_)
          · -- s15.2 = 6
            refine ck_some H (fun hc43 H => ?_)
            refine itt H (fun hc44 H => ?_) (fun hc44 H => ?_)
            · -- (Int.tmod a1 250) < ((gd OperatingPoint.zero s7 0).Power)
              refine bnd H (fun s45 hs45 H => ?_)
              refine seq_reg (fun K46 hK46 => ?_)
              refine stq hf rfl rfl rfl (ex_move hf rfl) (fun a hf => ?_)
              refine stq hf rfl rfl rfl (ex_eql hf rfl rfl) (fun a hf => ?_)
              refine stq hf rfl rfl rfl (ex_move hf rfl) (fun a hf => ?_)
              replace hf := hf.castB (t := 50) rfl (dec_t hc42)
              replace hf := hf.castB (t := 51) rfl (dec_t hc42)
              refine stq hf rfl rfl rfl (ex_move hf rfl) (fun a hf => ?_)
              refine stq hf rfl rfl rfl (ex_indexAddr sa_22 (rsl_isSl (osl_rsl _ (hs.get (i := 0) rfl))) hc43.1 hc43.2 hf rfl rfl) (fun a hf => ?_)
              refine stq hf rfl rfl rfl (ex_fieldAddrS fa_30_2 rfl hf rfl) (fun a hf => ?_)
              refine stq hf rfl rfl rfl (ex_load sc_23 hf rfl (el_cell (K := K_api_OperatingPoint) (f := 2) (rsl_rd (osl_rsl _ (hs.get (i := 0) rfl))) hc43.1 hc43.2 rfl)) (fun a hf => ?_)
              refine stq hf rfl rfl rfl (ex_move hf rfl) (fun a hf => ?_)
              refine stq hf rfl rfl rfl (ex_gtr hf rfl rfl) (fun a hf => ?_)
              refine stq hf rfl rfl rfl (ex_pickT hf rfl rfl) (fun a hf => ?_)
              refine stq hf rfl rfl rfl (ex_move hf rfl) (fun a hf => ?_)
              replace hf := hf.castB (t := 57) rfl (dec_t hc44)
              replace hf := hf.castB (t := 58) rfl (dec_t hc44)
              replace hf := hf.castB (t := 59) rfl (dec_t hc44)
              refine stepF hf rfl rfl rfl (ex_call cf_9 hf rfl) (law39_awake.calls k (hs.enter (.k .nil)) (Sr.nil _ _) hs45) (fun v w hR a hf => ?_)
              obtain ⟨rfl, hs'⟩ := hR
              replace hs := hs.step (.k .nil) hs'
              clear hs'
              refine stq hf rfl rfl rfl (ex_pickT hf rfl rfl) (fun a hf => ?_)
              refine stq hf rfl rfl rfl (ex_assign hf rfl) (fun a hf => ?_)
              refine hK46 _ _ ?_
              refine wp_ret ?_
              refine hR24 _ _ ?_
              have eR := some_eq H; subst eR
              replace hs := hs.keep (.d .nil)
              exact ret1 Try.results3 hf rfl ⟨_, rfl, ⟨rfl, hs⟩⟩
            · -- not (Int.tmod a1 250) < ((gd OperatingPoint.zero s7 0).Power)
              refine seq_reg (fun K47 hK47 => ?_)
              refine stq hf rfl rfl rfl (ex_move hf rfl) (fun a hf => ?_)
              refine stq hf rfl rfl rfl (ex_eql hf rfl rfl) (fun a hf => ?_)
              refine stq hf rfl rfl rfl (ex_move hf rfl) (fun a hf => ?_)
              replace hf := hf.castB (t := 50) rfl (dec_t hc42)
              replace hf := hf.castB (t := 51) rfl (dec_t hc42)
              refine stq hf rfl rfl rfl (ex_move hf rfl) (fun a hf => ?_)
              refine stq hf rfl rfl rfl (ex_indexAddr sa_22 (rsl_isSl (osl_rsl _ (hs.get (i := 0) rfl))) hc43.1 hc43.2 hf rfl rfl) (fun a hf => ?_)
              refine stq hf rfl rfl rfl (ex_fieldAddrS fa_30_2 rfl hf rfl) (fun a hf => ?_)
              refine stq hf rfl rfl rfl (ex_load sc_23 hf rfl (el_cell (K := K_api_OperatingPoint) (f := 2) (rsl_rd (osl_rsl _ (hs.get (i := 0) rfl))) hc43.1 hc43.2 rfl)) (fun a hf => ?_)
              refine stq hf rfl rfl rfl (ex_move hf rfl) (fun a hf => ?_)
              refine stq hf rfl rfl rfl (ex_gtr hf rfl rfl) (fun a hf => ?_)
              refine stq hf rfl rfl rfl (ex_pickT hf rfl rfl) (fun a hf => ?_)
              refine stq hf rfl rfl rfl (ex_move hf rfl) (fun a hf => ?_)
              replace hf := hf.castB (t := 57) rfl (dec_f hc44)
              replace hf := hf.castB (t := 58) rfl (dec_f hc44)
              replace hf := hf.castB (t := 59) rfl (dec_f hc44)
              refine stepN hf rfl rfl rfl (fun a hf => ?_)
              refine stq hf rfl rfl rfl (ex_pickF hf rfl rfl) (fun a hf => ?_)
              refine stq hf rfl rfl rfl (ex_assign hf rfl) (fun a hf => ?_)
              refine hK47 _ _ ?_
              refine wp_ret ?_
              refine hR24 _ _ ?_
              have eR := some_eq H; subst eR
              replace hs := hs.keep (.d .nil)
              exact ret1 Try.results3 hf rfl ⟨_, rfl, ⟨rfl, hs⟩⟩
          · -- not s15.2 = 6
            refine seq_reg (fun K48 hK48 => ?_)
            refine stq hf rfl rfl rfl (ex_move hf rfl) (fun a hf => ?_)
            refine stq hf rfl rfl rfl (ex_eql hf rfl rfl) (fun a hf => ?_)
            refine stq hf rfl rfl rfl (ex_move hf rfl) (fun a hf => ?_)
            replace hf := hf.castB (t := 50) rfl (dec_f hc42)
            replace hf := hf.castB (t := 51) rfl (dec_f hc42)
            refine stepN hf rfl rfl rfl (fun a hf => ?_)
            refine stepN hf rfl rfl rfl (fun a hf => ?_)
            refine stepN hf rfl rfl rfl (fun a hf => ?_)
            refine stepN hf rfl rfl rfl (fun a hf => ?_)
            refine stepN hf rfl rfl rfl (fun a hf => ?_)
            refine stepN hf rfl rfl rfl (fun a hf => ?_)
            refine stq hf rfl rfl rfl (ex_pickF hf rfl rfl) (fun a hf => ?_)
            refine stq hf rfl rfl rfl (ex_move hf rfl) (fun a hf => ?_)
            refine stepN hf rfl rfl rfl (fun a hf => ?_)
            refine stq hf rfl rfl rfl (ex_pickF hf rfl rfl) (fun a hf => ?_)
            refine stq hf rfl rfl rfl (ex_assign hf rfl) (fun a hf => ?_)
            refine hK48 _ _ ?_
            refine wp_ret ?_
            refine hR24 _ _ ?_
            have eR := some_eq H; subst eR
            replace hs := hs.keep (.d .nil)
            exact ret1 Try.results3 hf rfl ⟨_, rfl, ⟨rfl, hs⟩⟩

end Go.Proofs.Ytannodkbindlbaa.X
