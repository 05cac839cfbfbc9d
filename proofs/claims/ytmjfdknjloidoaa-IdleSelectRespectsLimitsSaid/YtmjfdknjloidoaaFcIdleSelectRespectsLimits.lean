/- Each function of the machine comes to what its pure function says. -/
import Derived.Test.YtmjfdknjloidoaaFc1
import Derived.Test.YtmjfdknjloidoaaFb
namespace Go.Proofs.Ytmjfdknjloidoaa.X
open Go Go.RowKit Go.Sx
set_option linter.unusedVariables false

set_option maxRecDepth 100000 in
theorem law37_IdleSelectRespectsLimits.calls {M : Nat → Prop} {w0 : World} (k : Nat) (a0 : (List IdleState)) (a1 : Int) (a2 : Int) (v0 : Value) {r : Bool} (hs : St M w0 w0 []) (hr : Sr M w0 [rsl K_api_IdleState v0 a0])
    (h : law37_IdleSelectRespectsLimits.f k a0 a1 a2 = some r) : Calls Try.prog 5 #[v0, .int .u64 a1, .int .u64 a2] w0 fun e w => ∃ v, e = .returned v ∧ (.bool r = v ∧ St M w0 w []) := by
  have H := (law37_IdleSelectRespectsLimits.f.eq_1 ..).symm.trans h
  clear h
  refine enter Try.func5 rfl Try.ntmps5 rfl (fun a hf => ?_)
  refine seq_reg (fun K1 hK1 => ?_)
  refine stq hf rfl rfl rfl (ex_assign hf rfl) (fun a hf => ?_)
  refine hK1 _ _ ?_
  refine seq_n (fun Q2 hN2 hR2 hX2 => ?_)
  refine seq_reg (fun K3 hK3 => ?_)
  refine stq hf rfl rfl rfl (ex_move hf rfl) (fun a hf => ?_)
  refine stq hf rfl rfl rfl (ex_lenS Try.underlying22 (rsl_isSl (hr.now hs (i := 0) rfl)) hf rfl) (fun a hf => ?_)
  refine stq hf rfl rfl rfl (ex_gtr hf rfl rfl) (fun a hf => ?_)
  refine hK3 _ _ ?_
  refine itt H (fun hc4 H => ?_) (fun hc4 H => ?_)
  · -- 20 < (a0.length : Int)
    replace hf := hf.castB (t := 15) rfl (dec_t hc4)
    refine cond_T hf rfl ?_
    refine bnd H (fun s5 hs5 H => ?_)
    refine seq_reg (fun K6 hK6 => ?_)
    refine stepF hf rfl rfl rfl (ex_call cf_13 hf rfl) (law37_awake.calls k (hs.enter .nil) (Sr.nil _ _) hs5) (fun v w hR a hf => ?_)
    obtain ⟨rfl, hs'⟩ := hR
    replace hs := hs.step .nil hs'
    clear hs'
    refine stq hf rfl rfl rfl (ex_assign hf rfl) (fun a hf => ?_)
    refine hK6 _ _ ?_
    refine wp_ret ?_
    refine hR2 _ _ ?_
    have eR := some_eq H; subst eR
    exact ret1 Try.results5 hf rfl ⟨_, rfl, ⟨rfl, hs⟩⟩
  · -- not 20 < (a0.length : Int)
    replace hf := hf.castB (t := 15) rfl (dec_f hc4)
    refine cond_F hf rfl ?_
    refine wp_skip ?_
    refine hN2 _ _ ?_
    refine bnd H (fun s7 hs7 H => ?_)
    refine seq_reg (fun K9 hK9 => ?_)
    refine stq hf rfl rfl rfl (ex_move hf rfl) (fun a hf => ?_)
    refine stepF hf rfl rfl rfl (ex_call cf_14 hf rfl) (law37_States.calls k a0 v0 (hs.enter .nil) (Sr.old hr hs .nil (i := 0) rfl (fun _ h => h) (fun _ h => h) (Sr.nil _ _)) hs7) (fun v w hR a hf => ?_)
    obtain ⟨v8, rfl, hs'⟩ := hR
    replace hs := hs.step .nil hs'
    clear hs'
    refine stq hf rfl rfl rfl (ex_assign hf rfl) (fun a hf => ?_)
    refine hK9 _ _ ?_
    refine seq_reg (fun K10 hK10 => ?_)
    refine stq hf rfl rfl rfl (ex_move hf rfl) (fun a hf => ?_)
    refine stq hf rfl rfl rfl (ex_rem hf rfl rfl (by decide)) (fun a hf => ?_)
    refine stq hf rfl rfl rfl (ex_move hf rfl) (fun a hf => ?_)
    refine stq hf rfl rfl rfl (ex_rem hf rfl rfl (by decide)) (fun a hf => ?_)
    refine stq hf rfl rfl rfl (ex_assign hf rfl) (fun a hf => ?_)
    refine stq hf rfl rfl rfl (ex_assign hf rfl) (fun a hf => ?_)
    refine hK10 _ _ ?_
    refine bnd H (fun s11 hs11 H => ?_)
    refine seq_reg (fun K12 hK12 => ?_)
    refine stq hf rfl rfl rfl (ex_move hf rfl) (fun a hf => ?_)
    refine stq hf rfl rfl rfl (ex_move hf rfl) (fun a hf => ?_)
    refine stq hf rfl rfl rfl (ex_move hf rfl) (fun a hf => ?_)
    refine stepF hf rfl rfl rfl (ex_call cf_16 hf rfl) (idle_Select.calls k s7 (Int.tmod a1 1500) (Int.tmod a2 300) v8 (hs.enter (.k .nil)) (Sr.own hs (.k .nil) (i := 0) rfl osl_rsl (fun _ h => h.1) (Sr.nil _ _)) hs11) (fun v w hR a hf => ?_)
    obtain ⟨rfl, hs'⟩ := hR
    replace hs := hs.step (.k .nil) hs'
    clear hs'
    refine stq hf rfl rfl rfl (ex_move hf rfl) (fun a hf => ?_)
    refine stq hf rfl rfl rfl (ex_extract hf rfl rfl) (fun a hf => ?_)
    refine stq hf rfl rfl rfl (ex_extract hf rfl rfl) (fun a hf => ?_)
    refine stq hf rfl rfl rfl (ex_assign hf rfl) (fun a hf => ?_)
    refine stq hf rfl rfl rfl (ex_assign hf rfl) (fun a hf => ?_)
    refine hK12 _ _ ?_
    refine seq_n (fun Q13 hN13 hR13 hX13 => ?_)
    refine bnd H (fun x14 H14 HO14 => ?_)
    clear H
    refine seq_cut (fun a w => Fr a 85 [(7, v8), (8, .int .u64 (Int.tmod a1 1500)), (9, .int .u64 (Int.tmod a2 300)), (10, .int .i64 s11.1), (59, .bool x14)] ∧ St M w0 w [osl K_api_IdleState v8 s7]) (fun Q14 hJ14 hR14 hX14 => ?_) (fun a w hJ => ?_)
    · replace H := H14
      refine itt H (fun hc15 H => ?_) (fun hc15 H => ?_)
      · -- s11.2 = 0
        refine itt H (fun hc16 H => ?_) (fun hc16 H => ?_)
        · -- s11.1 < 0
          refine region_k (fun K17 hK17 => ?_)
          refine stq hf rfl rfl rfl (ex_move hf rfl) (fun a hf => ?_)
          refine stq hf rfl rfl rfl (ex_neq hf rfl rfl) (fun a hf => ?_)
          refine stq hf rfl rfl rfl (ex_move hf rfl) (fun a hf => ?_)
          replace hf := hf.castB (t := 31) rfl (ndec_f hc15)
          replace hf := hf.castB (t := 32) rfl (ndec_f hc15)
          refine stq hf rfl rfl rfl (ex_move hf rfl) (fun a hf => ?_)
          refine stq hf rfl rfl rfl (ex_lss hf rfl rfl) (fun a hf => ?_)
          refine stq hf rfl rfl rfl (ex_pickF hf rfl rfl) (fun a hf => ?_)
          refine stq hf rfl rfl rfl (ex_move hf rfl) (fun a hf => ?_)
          replace hf := hf.castB (t := 34) rfl (dec_t hc16)
          replace hf := hf.castB (t := 35) rfl (dec_t hc16)
          replace hf := hf.castB (t := 36) rfl (dec_t hc16)
          refine stepN hf rfl rfl rfl (fun a hf => ?_)
          refine stepN hf rfl rfl rfl (fun a hf => ?_)
          refine stepN hf rfl rfl rfl (fun a hf => ?_)
          refine stepN hf rfl rfl rfl (fun a hf => ?_)
          refine stq hf rfl rfl rfl (ex_pickT hf rfl rfl) (fun a hf => ?_)
          refine stq hf rfl rfl rfl (ex_move hf rfl) (fun a hf => ?_)
          refine stepN hf rfl rfl rfl (fun a hf => ?_)
          refine stepN hf rfl rfl rfl (fun a hf => ?_)
          refine stepN hf rfl rfl rfl (fun a hf => ?_)
          refine stepN hf rfl rfl rfl (fun a hf => ?_)
          refine stepN hf rfl rfl rfl (fun a hf => ?_)
          refine stepN hf rfl rfl rfl (fun a hf => ?_)
          refine stepN hf rfl rfl rfl (fun a hf => ?_)
          refine stq hf rfl rfl rfl (ex_pickT hf rfl rfl) (fun a hf => ?_)
          refine stq hf rfl rfl rfl (ex_move hf rfl) (fun a hf => ?_)
          refine stepN hf rfl rfl rfl (fun a hf => ?_)
          refine stepN hf rfl rfl rfl (fun a hf => ?_)
          refine stepN hf rfl rfl rfl (fun a hf => ?_)
          refine stepN hf rfl rfl rfl (fun a hf => ?_)
          refine stepN hf rfl rfl rfl (fun a hf => ?_)
          refine stepN hf rfl rfl rfl (fun a hf => ?_)
          refine stepN hf rfl rfl rfl (fun a hf => ?_)
          refine stq hf rfl rfl rfl (ex_pickT hf rfl rfl) (fun a hf => ?_)
          refine hK17 _ _ ?_
          have e14 := some_eq H; subst e14
          exact hJ14 _ _ ⟨hf.sub ⟨rfl, rfl, rfl, rfl, rfl, trivial⟩, hs⟩
        · -- not s11.1 < 0
          refine itt H (fun hc18 H => ?_) (fun hc18 H => ?_)
          · -- (s7.length : Int) ≤ s11.1
            refine region_k (fun K19 hK19 => ?_)
            refine stq hf rfl rfl rfl (ex_move hf rfl) (fun a hf => ?_)
            refine stq hf rfl rfl rfl (ex_neq hf rfl rfl) (fun a hf => ?_)
            refine stq hf rfl rfl rfl (ex_move hf rfl) (fun a hf => ?_)
            replace hf := hf.castB (t := 31) rfl (ndec_f hc15)
            replace hf := hf.castB (t := 32) rfl (ndec_f hc15)
            refine stq hf rfl rfl rfl (ex_move hf rfl) (fun a hf => ?_)
            refine stq hf rfl rfl rfl (ex_lss hf rfl rfl) (fun a hf => ?_)
            refine stq hf rfl rfl rfl (ex_pickF hf rfl rfl) (fun a hf => ?_)
            refine stq hf rfl rfl rfl (ex_move hf rfl) (fun a hf => ?_)
            replace hf := hf.castB (t := 34) rfl (dec_f hc16)
            replace hf := hf.castB (t := 35) rfl (dec_f hc16)
            replace hf := hf.castB (t := 36) rfl (dec_f hc16)
            refine stq hf rfl rfl rfl (ex_move hf rfl) (fun a hf => ?_)
            refine stq hf rfl rfl rfl (ex_move hf rfl) (fun a hf => ?_)
            refine stq hf rfl rfl rfl (ex_lenS Try.underlying22 (rsl_isSl (osl_rsl _ (hs.get (i := 0) rfl))) hf rfl) (fun a hf => ?_)
            refine stq hf rfl rfl rfl (ex_geq hf rfl rfl) (fun a hf => ?_)
            refine stq hf rfl rfl rfl (ex_pickF hf rfl rfl) (fun a hf => ?_)
            refine stq hf rfl rfl rfl (ex_move hf rfl) (fun a hf => ?_)
            replace hf := hf.castB (t := 40) rfl (dec_t hc18)
            replace hf := hf.castB (t := 41) rfl (dec_t hc18)
            replace hf := hf.castB (t := 42) rfl (dec_t hc18)
            refine stepN hf rfl rfl rfl (fun a hf => ?_)
            refine stepN hf rfl rfl rfl (fun a hf => ?_)
            refine stepN hf rfl rfl rfl (fun a hf => ?_)
            refine stepN hf rfl rfl rfl (fun a hf => ?_)
            refine stepN hf rfl rfl rfl (fun a hf => ?_)
            refine stepN hf rfl rfl rfl (fun a hf => ?_)
            refine stepN hf rfl rfl rfl (fun a hf => ?_)
            refine stq hf rfl rfl rfl (ex_pickT hf rfl rfl) (fun a hf => ?_)
            refine stq hf rfl rfl rfl (ex_move hf rfl) (fun a hf => ?_)
            refine stepN hf rfl rfl rfl (fun a hf => ?_)
            refine stepN hf rfl rfl rfl (fun a hf => ?_)
            refine stepN hf rfl rfl rfl (fun a hf => ?_)
            refine stepN hf rfl rfl rfl (fun a hf => ?_)
            refine stepN hf rfl rfl rfl (fun a hf => ?_)
            refine stepN hf rfl rfl rfl (fun a hf => ?_)
            refine stepN hf rfl rfl rfl (fun a hf => ?_)
            refine stq hf rfl rfl rfl (ex_pickT hf rfl rfl) (fun a hf => ?_)
            refine hK19 _ _ ?_
            have e14 := some_eq H; subst e14
            exact hJ14 _ _ ⟨hf.sub ⟨rfl, rfl, rfl, rfl, rfl, trivial⟩, hs⟩
          · -- not (s7.length : Int) ≤ s11.1
            refine ck_some H (fun hc20 H => ?_)
            refine itt H (fun hc21 H => ?_) (fun hc21 H => ?_)
            · -- (Int.tmod a2 300) < ((gd IdleState.zero s7 s11.1).Latency)
              refine region_k (fun K22 hK22 => ?_)
              refine stq hf rfl rfl rfl (ex_move hf rfl) (fun a hf => ?_)
              refine stq hf rfl rfl rfl (ex_neq hf rfl rfl) (fun a hf => ?_)
              refine stq hf rfl rfl rfl (ex_move hf rfl) (fun a hf => ?_)
              replace hf := hf.castB (t := 31) rfl (ndec_f hc15)
              replace hf := hf.castB (t := 32) rfl (ndec_f hc15)
              refine stq hf rfl rfl rfl (ex_move hf rfl) (fun a hf => ?_)
              refine stq hf rfl rfl rfl (ex_lss hf rfl rfl) (fun a hf => ?_)
              refine stq hf rfl rfl rfl (ex_pickF hf rfl rfl) (fun a hf => ?_)
              refine stq hf rfl rfl rfl (ex_move hf rfl) (fun a hf => ?_)
              replace hf := hf.castB (t := 34) rfl (dec_f hc16)
              replace hf := hf.castB (t := 35) rfl (dec_f hc16)
              replace hf := hf.castB (t := 36) rfl (dec_f hc16)
              refine stq hf rfl rfl rfl (ex_move hf rfl) (fun a hf => ?_)
              refine stq hf rfl rfl rfl (ex_move hf rfl) (fun a hf => ?_)
              refine stq hf rfl rfl rfl (ex_lenS Try.underlying22 (rsl_isSl (osl_rsl _ (hs.get (i := 0) rfl))) hf rfl) (fun a hf => ?_)
              refine stq hf rfl rfl rfl (ex_geq hf rfl rfl) (fun a hf => ?_)
              refine stq hf rfl rfl rfl (ex_pickF hf rfl rfl) (fun a hf => ?_)
              refine stq hf rfl rfl rfl (ex_move hf rfl) (fun a hf => ?_)
              replace hf := hf.castB (t := 40) rfl (dec_f hc18)
              replace hf := hf.castB (t := 41) rfl (dec_f hc18)
              replace hf := hf.castB (t := 42) rfl (dec_f hc18)
              refine stq hf rfl rfl rfl (ex_move hf rfl) (fun a hf => ?_)
              refine stq hf rfl rfl rfl (ex_move hf rfl) (fun a hf => ?_)
              refine stq hf rfl rfl rfl (ex_indexAddr sa_22 (rsl_isSl (osl_rsl _ (hs.get (i := 0) rfl))) hc20.1 hc20.2 hf rfl rfl) (fun a hf => ?_)
              refine stq hf rfl rfl rfl (ex_fieldAddrS fa_25_0 rfl hf rfl) (fun a hf => ?_)
              refine stq hf rfl rfl rfl (ex_load sc_23 hf rfl (el_cell (K := K_api_IdleState) (f := 0) (rsl_rd (osl_rsl _ (hs.get (i := 0) rfl))) hc20.1 hc20.2 rfl)) (fun a hf => ?_)
              refine stq hf rfl rfl rfl (ex_move hf rfl) (fun a hf => ?_)
              refine stq hf rfl rfl rfl (ex_gtr hf rfl rfl) (fun a hf => ?_)
              refine stq hf rfl rfl rfl (ex_pickF hf rfl rfl) (fun a hf => ?_)
              refine stq hf rfl rfl rfl (ex_move hf rfl) (fun a hf => ?_)
              replace hf := hf.castB (t := 49) rfl (dec_t hc21)
              replace hf := hf.castB (t := 50) rfl (dec_t hc21)
              replace hf := hf.castB (t := 51) rfl (dec_t hc21)
              refine stepN hf rfl rfl rfl (fun a hf => ?_)
              refine stepN hf rfl rfl rfl (fun a hf => ?_)
              refine stepN hf rfl rfl rfl (fun a hf => ?_)
              refine stepN hf rfl rfl rfl (fun a hf => ?_)
              refine stepN hf rfl rfl rfl (fun a hf => ?_)
              refine stepN hf rfl rfl rfl (fun a hf => ?_)
              refine stepN hf rfl rfl rfl (fun a hf => ?_)
              refine stq hf rfl rfl rfl (ex_pickT hf rfl rfl) (fun a hf => ?_)
              refine hK22 _ _ ?_
              have e14 := some_eq H; subst e14
              exact hJ14 _ _ ⟨hf.sub ⟨rfl, rfl, rfl, rfl, rfl, trivial⟩, hs⟩
            · -- not (Int.tmod a2 300) < ((gd IdleState.zero s7 s11.1).Latency)
              refine region_k (fun K23 hK23 => ?_)
              refine stq hf rfl rfl rfl (ex_move hf rfl) (fun a hf => ?_)
              refine stq hf rfl rfl rfl (ex_neq hf rfl rfl) (fun a hf => ?_)
              refine stq hf rfl rfl rfl (ex_move hf rfl) (fun a hf => ?_)
              replace hf := hf.castB (t := 31) rfl (ndec_f hc15)
              replace hf := hf.castB (t := 32) rfl (ndec_f hc15)
              refine stq hf rfl rfl rfl (ex_move hf rfl) (fun a hf => ?_)
              refine stq hf rfl rfl rfl (ex_lss hf rfl rfl) (fun a hf => ?_)
              refine stq hf rfl rfl rfl (ex_pickF hf rfl rfl) (fun a hf => ?_)
              refine stq hf rfl rfl rfl (ex_move hf rfl) (fun a hf => ?_)
              replace hf := hf.castB (t := 34) rfl (dec_f hc16)
              replace hf := hf.castB (t := 35) rfl (dec_f hc16)
              replace hf := hf.castB (t := 36) rfl (dec_f hc16)
              refine stq hf rfl rfl rfl (ex_move hf rfl) (fun a hf => ?_)
              refine stq hf rfl rfl rfl (ex_move hf rfl) (fun a hf => ?_)
              refine stq hf rfl rfl rfl (ex_lenS Try.underlying22 (rsl_isSl (osl_rsl _ (hs.get (i := 0) rfl))) hf rfl) (fun a hf => ?_)
              refine stq hf rfl rfl rfl (ex_geq hf rfl rfl) (fun a hf => ?_)
              refine stq hf rfl rfl rfl (ex_pickF hf rfl rfl) (fun a hf => ?_)
              refine stq hf rfl rfl rfl (ex_move hf rfl) (fun a hf => ?_)
              replace hf := hf.castB (t := 40) rfl (dec_f hc18)
              replace hf := hf.castB (t := 41) rfl (dec_f hc18)
              replace hf := hf.castB (t := 42) rfl (dec_f hc18)
              refine stq hf rfl rfl rfl (ex_move hf rfl) (fun a hf => ?_)
              refine stq hf rfl rfl rfl (ex_move hf rfl) (fun a hf => ?_)
              refine stq hf rfl rfl rfl (ex_indexAddr sa_22 (rsl_isSl (osl_rsl _ (hs.get (i := 0) rfl))) hc20.1 hc20.2 hf rfl rfl) (fun a hf => ?_)
              refine stq hf rfl rfl rfl (ex_fieldAddrS fa_25_0 rfl hf rfl) (fun a hf => ?_)
              refine stq hf rfl rfl rfl (ex_load sc_23 hf rfl (el_cell (K := K_api_IdleState) (f := 0) (rsl_rd (osl_rsl _ (hs.get (i := 0) rfl))) hc20.1 hc20.2 rfl)) (fun a hf => ?_)
              refine stq hf rfl rfl rfl (ex_move hf rfl) (fun a hf => ?_)
              refine stq hf rfl rfl rfl (ex_gtr hf rfl rfl) (fun a hf => ?_)
              refine stq hf rfl rfl rfl (ex_pickF hf rfl rfl) (fun a hf => ?_)
              refine stq hf rfl rfl rfl (ex_move hf rfl) (fun a hf => ?_)
              replace hf := hf.castB (t := 49) rfl (dec_f hc21)
              replace hf := hf.castB (t := 50) rfl (dec_f hc21)
              replace hf := hf.castB (t := 51) rfl (dec_f hc21)
              refine stq hf rfl rfl rfl (ex_move hf rfl) (fun a hf => ?_)
              refine stq hf rfl rfl rfl (ex_move hf rfl) (fun a hf => ?_)
              refine stq hf rfl rfl rfl (ex_indexAddr sa_22 (rsl_isSl (osl_rsl _ (hs.get (i := 0) rfl))) hc20.1 hc20.2 hf rfl rfl) (fun a hf => ?_)
              refine stq hf rfl rfl rfl (ex_fieldAddrS fa_25_1 rfl hf rfl) (fun a hf => ?_)
              refine stq hf rfl rfl rfl (ex_load sc_23 hf rfl (el_cell (K := K_api_IdleState) (f := 1) (rsl_rd (osl_rsl _ (hs.get (i := 0) rfl))) hc20.1 hc20.2 rfl)) (fun a hf => ?_)
              refine stq hf rfl rfl rfl (ex_move hf rfl) (fun a hf => ?_)
              refine stq hf rfl rfl rfl (ex_gtr hf rfl rfl) (fun a hf => ?_)
              refine stq hf rfl rfl rfl (ex_pickF hf rfl rfl) (fun a hf => ?_)
              refine hK23 _ _ ?_
              have e14 := some_eq H; subst e14
              exact hJ14 _ _ ⟨hf.sub ⟨rfl, rfl, rfl, rfl, rfl, trivial⟩, hs⟩
      · -- not s11.2 = 0
        refine region_k (fun K24 hK24 => ?_)
        refine stq hf rfl rfl rfl (ex_move hf rfl) (fun a hf => ?_)
        refine stq hf rfl rfl rfl (ex_neq hf rfl rfl) (fun a hf => ?_)
        refine stq hf rfl rfl rfl (ex_move hf rfl) (fun a hf => ?_)
        replace hf := hf.castB (t := 31) rfl (ndec_t hc15)
        replace hf := hf.castB (t := 32) rfl (ndec_t hc15)
        refine stepN hf rfl rfl rfl (fun a hf => ?_)
        refine stepN hf rfl rfl rfl (fun a hf => ?_)
        refine stq hf rfl rfl rfl (ex_pickT hf rfl rfl) (fun a hf => ?_)
        refine stq hf rfl rfl rfl (ex_move hf rfl) (fun a hf => ?_)
        refine stepN hf rfl rfl rfl (fun a hf => ?_)
        refine stepN hf rfl rfl rfl (fun a hf => ?_)
        refine stepN hf rfl rfl rfl (fun a hf => ?_)
        refine stepN hf rfl rfl rfl (fun a hf => ?_)
        refine stq hf rfl rfl rfl (ex_pickT hf rfl rfl) (fun a hf => ?_)
        refine stq hf rfl rfl rfl (ex_move hf rfl) (fun a hf => ?_)
        refine stepN hf rfl rfl rfl (fun a hf => ?_)
        refine stepN hf rfl rfl rfl (fun a hf => ?_)
        refine stepN hf rfl rfl rfl (fun a hf => ?_)
        refine stepN hf rfl rfl rfl (fun a hf => ?_)
        refine stepN hf rfl rfl rfl (fun a hf => ?_)
        refine stepN hf rfl rfl rfl (fun a hf => ?_)
        refine stepN hf rfl rfl rfl (fun a hf => ?_)
        refine stq hf rfl rfl rfl (ex_pickT hf rfl rfl) (fun a hf => ?_)
        refine stq hf rfl rfl rfl (ex_move hf rfl) (fun a hf => ?_)
        refine stepN hf rfl rfl rfl (fun a hf => ?_)
        refine stepN hf rfl rfl rfl (fun a hf => ?_)
        refine stepN hf rfl rfl rfl (fun a hf => ?_)
        refine stepN hf rfl rfl rfl (fun a hf => ?_)
        refine stepN hf rfl rfl rfl (fun a hf => ?_)
        refine stepN hf rfl rfl rfl (fun a hf => ?_)
        refine stepN hf rfl rfl rfl (fun a hf => ?_)
        refine stq hf rfl rfl rfl (ex_pickT hf rfl rfl) (fun a hf => ?_)
        refine hK24 _ _ ?_
        have e14 := some_eq H; subst e14
        exact hJ14 _ _ ⟨hf.sub ⟨rfl, rfl, rfl, rfl, rfl, trivial⟩, hs⟩
    · obtain ⟨hf, hs⟩ := hJ
      replace H := HO14
      clear HO14
      refine itt H (fun hc25 H => ?_) (fun hc25 H => ?_)
      · -- x14 = true
        replace hf := hf.castB (t := 59) rfl hc25
        refine cond_T hf rfl ?_
        refine seq_reg (fun K26 hK26 => ?_)
        refine stq hf rfl rfl rfl (ex_assign hf rfl) (fun a hf => ?_)
        refine hK26 _ _ ?_
        refine wp_ret ?_
        refine hR13 _ _ ?_
        have eR := some_eq H; subst eR
        replace hs := hs.keep (.d .nil)
        exact ret1 Try.results5 hf rfl ⟨_, rfl, ⟨rfl, hs⟩⟩
      · -- not x14 = true
        replace hf := hf.castB (t := 59) rfl (bool_f hc25)
        refine cond_F hf rfl ?_
        refine wp_skip ?_
        refine hN13 _ _ ?_
        refine bnd H (fun x27 H27 HO27 => ?_)
        clear H
        refine seq_cut (fun a w => ∃ (x27s : Unit), x27 = .go x27s ∧ Fr a 85 [] ∧ St M w0 w []) (fun Q27 hJ27 hR27 hX27 => ?_) (fun a w hJ => ?_)
        · replace H := H27
          refine seq_reg (fun K28 hK28 => ?_)
          refine stq hf rfl rfl rfl (ex_move hf rfl) (fun a hf => ?_)
          refine stq hf rfl rfl rfl (ex_add hf rfl rfl) (fun a hf => ?_)
          refine stq hf rfl rfl rfl (ex_assign hf rfl) (fun a hf => ?_)
          refine hK28 _ _ ?_
          refine block_k (fun Q29 hN29 hR29 hX29 hY29 => ?_)
          refine loop_k (fun n a w => ∃ (y30 : Int), Fr a 85 [(7, v8), (8, .int .u64 (Int.tmod a1 1500)), (9, .int .u64 (Int.tmod a2 300)), (12, .int .i64 y30)] ∧ St M w0 w [osl K_api_IdleState v8 s7] ∧ law37_IdleSelectRespectsLimits.l1 n s7 a2 a1 y30 = some x27) k ?_ (fun n32 a w hI Q32 hL32 hR32 hX32 => ?_)
          · -- at the start
            exact ⟨(IntKind.i64.wrap (s11.1 + 1)), hf.sub ⟨rfl, rfl, rfl, rfl, trivial⟩, hs, H⟩
          · obtain ⟨y30, hf, hs, H⟩ := hI
            cases n32 with
            | zero => exact absurd H (by rw [law37_IdleSelectRespectsLimits.l1.eq_1]; intro h; cases h)
            | succ k32 =>
              replace H := (law37_IdleSelectRespectsLimits.l1.eq_2 ..).symm.trans H
              refine seq_n (fun Q33 hN33 hR33 hX33 => ?_)
              refine seq_reg (fun K34 hK34 => ?_)
              refine stq hf rfl rfl rfl (ex_move hf rfl) (fun a hf => ?_)
              refine stq hf rfl rfl rfl (ex_move hf rfl) (fun a hf => ?_)
              refine stq hf rfl rfl rfl (ex_lenS Try.underlying22 (rsl_isSl (osl_rsl _ (hs.get (i := 0) rfl))) hf rfl) (fun a hf => ?_)
              refine stq hf rfl rfl rfl (ex_lss hf rfl rfl) (fun a hf => ?_)
              refine hK34 _ _ ?_
              refine itt H (fun hc35 H => ?_) (fun hc35 H => ?_)
              · -- y30 < (s7.length : Int)
                replace hf := hf.castB (t := 65) rfl (dec_t hc35)
                refine cond_T hf rfl ?_
                refine wp_skip ?_
                refine hN33 _ _ ?_
                refine seq_n (fun Q36 hN36 hR36 hX36 => ?_)
                refine block_k (fun Q37 hN37 hR37 hX37 hY37 => ?_)
                refine bnd H (fun x38 H38 HO38 => ?_)
                clear H
                refine seq_cut (fun a w => Fr a 85 [(7, v8), (8, .int .u64 (Int.tmod a1 1500)), (9, .int .u64 (Int.tmod a2 300)), (12, .int .i64 y30), (83, .bool x38)] ∧ St M w0 w [osl K_api_IdleState v8 s7]) (fun Q38 hJ38 hR38 hX38 => ?_) (fun a w hJ => ?_)
                · replace H := H38
                  refine ck_some H (fun hc39 H => ?_)
                  refine itt H (fun hc40 H => ?_) (fun hc40 H => ?_)
                  · -- ((gd IdleState.zero s7 y30).Latency) ≤ (Int.tmod a2 300)
                    refine region_k (fun K41 hK41 => ?_)
                    refine stq hf rfl rfl rfl (ex_move hf rfl) (fun a hf => ?_)
                    refine stq hf rfl rfl rfl (ex_move hf rfl) (fun a hf => ?_)
                    refine stq hf rfl rfl rfl (ex_indexAddr sa_22 (rsl_isSl (osl_rsl _ (hs.get (i := 0) rfl))) hc39.1 hc39.2 hf rfl rfl) (fun a hf => ?_)
                    refine stq hf rfl rfl rfl (ex_fieldAddrS fa_25_0 rfl hf rfl) (fun a hf => ?_)
                    refine stq hf rfl rfl rfl (ex_load sc_23 hf rfl (el_cell (K := K_api_IdleState) (f := 0) (rsl_rd (osl_rsl _ (hs.get (i := 0) rfl))) hc39.1 hc39.2 rfl)) (fun a hf => ?_)
                    refine stq hf rfl rfl rfl (ex_move hf rfl) (fun a hf => ?_)
                    refine stq hf rfl rfl rfl (ex_leq hf rfl rfl) (fun a hf => ?_)
                    refine stq hf rfl rfl rfl (ex_move hf rfl) (fun a hf => ?_)
                    replace hf := hf.castB (t := 74) rfl (dec_t hc40)
                    replace hf := hf.castB (t := 75) rfl (dec_t hc40)
                    refine stq hf rfl rfl rfl (ex_move hf rfl) (fun a hf => ?_)
                    refine stq hf rfl rfl rfl (ex_move hf rfl) (fun a hf => ?_)
                    refine stq hf rfl rfl rfl (ex_indexAddr sa_22 (rsl_isSl (osl_rsl _ (hs.get (i := 0) rfl))) hc39.1 hc39.2 hf rfl rfl) (fun a hf => ?_)
                    refine stq hf rfl rfl rfl (ex_fieldAddrS fa_25_1 rfl hf rfl) (fun a hf => ?_)
                    refine stq hf rfl rfl rfl (ex_load sc_23 hf rfl (el_cell (K := K_api_IdleState) (f := 1) (rsl_rd (osl_rsl _ (hs.get (i := 0) rfl))) hc39.1 hc39.2 rfl)) (fun a hf => ?_)
                    refine stq hf rfl rfl rfl (ex_move hf rfl) (fun a hf => ?_)
                    refine stq hf rfl rfl rfl (ex_leq hf rfl rfl) (fun a hf => ?_)
                    refine stq hf rfl rfl rfl (ex_pickT hf rfl rfl) (fun a hf => ?_)
                    refine hK41 _ _ ?_
                    have e38 := some_eq H; subst e38
                    exact hJ38 _ _ ⟨hf.sub ⟨rfl, rfl, rfl, rfl, rfl, trivial⟩, hs⟩
                  · -- not ((gd IdleState.zero s7 y30).Latency) ≤ (Int.tmod a2 300)
                    refine region_k (fun K42 hK42 => ?_)
                    refine stq hf rfl rfl rfl (ex_move hf rfl) (fun a hf => ?_)
                    refine stq hf rfl rfl rfl (ex_move hf rfl) (fun a hf => ?_)
                    refine stq hf rfl rfl rfl (ex_indexAddr sa_22 (rsl_isSl (osl_rsl _ (hs.get (i := 0) rfl))) hc39.1 hc39.2 hf rfl rfl) (fun a hf => ?_)
                    refine stq hf rfl rfl rfl (ex_fieldAddrS fa_25_0 rfl hf rfl) (fun a hf => ?_)
                    refine stq hf rfl rfl rfl (ex_load sc_23 hf rfl (el_cell (K := K_api_IdleState) (f := 0) (rsl_rd (osl_rsl _ (hs.get (i := 0) rfl))) hc39.1 hc39.2 rfl)) (fun a hf => ?_)
                    refine stq hf rfl rfl rfl (ex_move hf rfl) (fun a hf => ?_)
                    refine stq hf rfl rfl rfl (ex_leq hf rfl rfl) (fun a hf => ?_)
                    refine stq hf rfl rfl rfl (ex_move hf rfl) (fun a hf => ?_)
                    replace hf := hf.castB (t := 74) rfl (dec_f hc40)
                    replace hf := hf.castB (t := 75) rfl (dec_f hc40)
                    refine stepN hf rfl rfl rfl (fun a hf => ?_)
                    refine stepN hf rfl rfl rfl (fun a hf => ?_)
                    refine stepN hf rfl rfl rfl (fun a hf => ?_)
                    refine stepN hf rfl rfl rfl (fun a hf => ?_)
                    refine stepN hf rfl rfl rfl (fun a hf => ?_)
                    refine stepN hf rfl rfl rfl (fun a hf => ?_)
                    refine stepN hf rfl rfl rfl (fun a hf => ?_)
                    refine stq hf rfl rfl rfl (ex_pickF hf rfl rfl) (fun a hf => ?_)
                    refine hK42 _ _ ?_
                    have e38 := some_eq H; subst e38
                    exact hJ38 _ _ ⟨hf.sub ⟨rfl, rfl, rfl, rfl, rfl, trivial⟩, hs⟩
                · obtain ⟨hf, hs⟩ := hJ
                  replace H := HO38
                  clear HO38
                  refine itt H (fun hc43 H => ?_) (fun hc43 H => ?_)
                  · -- x38 = true
                    replace hf := hf.castB (t := 83) rfl hc43
                    refine cond_T hf rfl ?_
                    refine seq_reg (fun K44 hK44 => ?_)
                    refine stq hf rfl rfl rfl (ex_assign hf rfl) (fun a hf => ?_)
                    refine hK44 _ _ ?_
                    refine wp_ret ?_
                    refine hR37 _ _ ?_
                    refine hR36 _ _ ?_
                    refine hR32 _ _ ?_
                    refine hR29 _ _ ?_
                    have e27 := some_eq H; subst e27; replace H := el_rt HO27
                    refine hR27 _ _ ?_
                    have eR := some_eq H; subst eR
                    replace hs := hs.keep (.d .nil)
                    exact ret1 Try.results5 hf rfl ⟨_, rfl, ⟨rfl, hs⟩⟩
                  · -- not x38 = true
                    replace hf := hf.castB (t := 83) rfl (bool_f hc43)
                    refine cond_F hf rfl ?_
                    refine wp_skip ?_
                    refine hN37 _ _ ?_
                    refine hN36 _ _ ?_
                    refine region_k (fun K45 hK45 => ?_)
                    refine stq hf rfl rfl rfl (ex_move hf rfl) (fun a hf => ?_)
                    refine stq hf rfl rfl rfl (ex_add hf rfl rfl) (fun a hf => ?_)
                    refine stq hf rfl rfl rfl (ex_assign hf rfl) (fun a hf => ?_)
                    refine hK45 _ _ ?_
                    exact hL32 k32 _ _ (Nat.lt_succ_self _) ⟨(IntKind.i64.wrap (y30 + 1)), hf.sub ⟨rfl, rfl, rfl, rfl, trivial⟩, hs, H⟩
              · -- not y30 < (s7.length : Int)
                replace hf := hf.castB (t := 65) rfl (dec_f hc35)
                refine cond_F hf rfl ?_
                refine wp_exit ?_
                refine hX33 0 _ _ ?_
                refine hX32 0 _ _ ?_
                refine hX29 _ _ ?_
                replace hs := hs.keep (.d .nil)
                have e27 := some_eq H; subst e27
                exact hJ27 _ _ ⟨_, rfl, hf.sub trivial, hs⟩
        · obtain ⟨x27s, rfl, hf, hs⟩ := hJ
          replace H := el_go HO27
          clear HO27
          refine bnd H (fun s46 hs46 H => ?_)
          refine seq_reg (fun K47 hK47 => ?_)
          refine stepF hf rfl rfl rfl (ex_call cf_13 hf rfl) (law37_awake.calls k (hs.enter .nil) (Sr.nil _ _) hs46) (fun v w hR a hf => ?_)
          obtain ⟨rfl, hs'⟩ := hR
          replace hs := hs.step .nil hs'
          clear hs'
          refine stq hf rfl rfl rfl (ex_assign hf rfl) (fun a hf => ?_)
          refine hK47 _ _ ?_
          refine wp_ret ?_
          have eR := some_eq H; subst eR
          exact ret1 Try.results5 hf rfl ⟨_, rfl, ⟨rfl, hs⟩⟩

end Go.Proofs.Ytmjfdknjloidoaa.X
