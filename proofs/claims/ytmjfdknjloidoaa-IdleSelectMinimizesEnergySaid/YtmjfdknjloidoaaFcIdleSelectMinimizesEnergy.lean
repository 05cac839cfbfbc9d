/- Each function of the machine comes to what its pure function says. -/
import Derived.Test.YtmjfdknjloidoaaFc1
import Derived.Test.YtmjfdknjloidoaaFb
namespace Go.Proofs.Ytmjfdknjloidoaa.X
open Go Go.RowKit Go.Sx
set_option linter.unusedVariables false

set_option maxRecDepth 100000 in
theorem law37_IdleSelectMinimizesEnergy.calls {M : Nat → Prop} {w0 : World} (k : Nat) (a0 : (List IdleState)) (a1 : Int) (a2 : Int) (v0 : Value) {r : Bool} (hs : St M w0 w0 []) (hr : Sr M w0 [rsl K_api_IdleState v0 a0])
    (h : law37_IdleSelectMinimizesEnergy.f k a0 a1 a2 = some r) : Calls Try.prog 6 #[v0, .int .u64 a1, .int .u64 a2] w0 fun e w => ∃ v, e = .returned v ∧ (.bool r = v ∧ St M w0 w []) := by
  have H := (law37_IdleSelectMinimizesEnergy.f.eq_1 ..).symm.trans h
  clear h
  refine enter Try.func6 rfl Try.ntmps6 rfl (fun a hf => ?_)
  refine seq_reg (fun K1 hK1 => ?_)
  refine stq hf rfl rfl rfl (ex_assign hf rfl) (fun a hf => ?_)
  refine hK1 _ _ ?_
  refine seq_n (fun Q2 hN2 hR2 hX2 => ?_)
  refine seq_reg (fun K3 hK3 => ?_)
  refine stq hf rfl rfl rfl (ex_move hf rfl) (fun a hf => ?_)
  refine stq hf rfl rfl rfl (ex_lenS Try.underlying22 (rsl_isSl (hr.now hs (i := 0) rfl)) hf rfl) (fun a hf => ?_)
  refine stq hf rfl rfl rfl (ex_gtr hf rfl rfl) (fun a hf => ?_)
  refine hK3 _ _ ?_
  refine itt H (fun hc4 H => ?_) (fun hc4 H => ?_)
  · -- 20 < (a0.length : Int)
    replace hf := hf.castB (t := 19) rfl (dec_t hc4)
    refine cond_T hf rfl ?_
    refine bnd H (fun s5 hs5 H => ?_)
    refine seq_reg (fun K6 hK6 => ?_)
    refine stepF hf rfl rfl rfl (ex_call cf_13 hf rfl) (law37_awake.calls k (hs.enter .nil) (Sr.nil _ _) hs5) (fun v w hR a hf => ?_)
    obtain ⟨rfl, hs'⟩ := hR
    replace hs := hs.step .nil hs'
    clear hs'
    refine stq hf rfl rfl rfl (ex_assign hf rfl) (fun a hf => ?_)
    refine hK6 _ _ ?_
    refine wp_ret ?_
    refine hR2 _ _ ?_
    have eR := some_eq H; subst eR
    exact ret1 Try.results6 hf rfl ⟨_, rfl, ⟨rfl, hs⟩⟩
  · -- not 20 < (a0.length : Int)
    replace hf := hf.castB (t := 19) rfl (dec_f hc4)
    refine cond_F hf rfl ?_
    refine wp_skip ?_
    refine hN2 _ _ ?_
    refine bnd H (fun s7 hs7 H => ?_)
    refine seq_reg (fun K9 hK9 => ?_)
    refine stq hf rfl rfl rfl (ex_move hf rfl) (fun a hf => ?_)
    refine stepF hf rfl rfl rfl (ex_call cf_14 hf rfl) (law37_States.calls k a0 v0 (hs.enter .nil) (Sr.old hr hs .nil (i := 0) rfl (fun _ h => h) (fun _ h => h) (Sr.nil _ _)) hs7) (fun v w hR a hf => ?_)
    obtain ⟨v8, rfl, hs'⟩ := hR
    replace hs := hs.step .nil hs'
    clear hs'
    refine stq hf rfl rfl rfl (ex_assign hf rfl) (fun a hf => ?_)
    refine hK9 _ _ ?_
    refine seq_reg (fun K10 hK10 => ?_)
    refine stq hf rfl rfl rfl (ex_move hf rfl) (fun a hf => ?_)
    refine stq hf rfl rfl rfl (ex_rem hf rfl rfl (by decide)) (fun a hf => ?_)
    refine stq hf rfl rfl rfl (ex_move hf rfl) (fun a hf => ?_)
    refine stq hf rfl rfl rfl (ex_rem hf rfl rfl (by decide)) (fun a hf => ?_)
    refine stq hf rfl rfl rfl (ex_assign hf rfl) (fun a hf => ?_)
    refine stq hf rfl rfl rfl (ex_assign hf rfl) (fun a hf => ?_)
    refine hK10 _ _ ?_
    refine bnd H (fun s11 hs11 H => ?_)
    refine seq_reg (fun K12 hK12 => ?_)
    refine stq hf rfl rfl rfl (ex_move hf rfl) (fun a hf => ?_)
    refine stq hf rfl rfl rfl (ex_move hf rfl) (fun a hf => ?_)
    refine stq hf rfl rfl rfl (ex_move hf rfl) (fun a hf => ?_)
    refine stepF hf rfl rfl rfl (ex_call cf_16 hf rfl) (idle_Select.calls k s7 (Int.tmod a1 1500) (Int.tmod a2 300) v8 (hs.enter (.k .nil)) (Sr.own hs (.k .nil) (i := 0) rfl osl_rsl (fun _ h => h.1) (Sr.nil _ _)) hs11) (fun v w hR a hf => ?_)
    obtain ⟨rfl, hs'⟩ := hR
    replace hs := hs.step (.k .nil) hs'
    clear hs'
    refine stq hf rfl rfl rfl (ex_move hf rfl) (fun a hf => ?_)
    refine stq hf rfl rfl rfl (ex_extract hf rfl rfl) (fun a hf => ?_)
    refine stq hf rfl rfl rfl (ex_extract hf rfl rfl) (fun a hf => ?_)
    refine stq hf rfl rfl rfl (ex_assign hf rfl) (fun a hf => ?_)
    refine stq hf rfl rfl rfl (ex_assign hf rfl) (fun a hf => ?_)
    refine hK12 _ _ ?_
    refine bnd H (fun s13 hs13 H => ?_)
    refine seq_reg (fun K14 hK14 => ?_)
    refine stq hf rfl rfl rfl (ex_move hf rfl) (fun a hf => ?_)
    refine stq hf rfl rfl rfl (ex_move hf rfl) (fun a hf => ?_)
    refine stq hf rfl rfl rfl (ex_move hf rfl) (fun a hf => ?_)
    refine stepF hf rfl rfl rfl (ex_call cf_20 hf rfl) (idle_Energy.calls k s7 s11.1 (Int.tmod a1 1500) v8 (hs.enter (.k .nil)) (Sr.own hs (.k .nil) (i := 0) rfl osl_rsl (fun _ h => h.1) (Sr.nil _ _)) hs13) (fun v w hR a hf => ?_)
    obtain ⟨rfl, hs'⟩ := hR
    replace hs := hs.step (.k .nil) hs'
    clear hs'
    refine stq hf rfl rfl rfl (ex_move hf rfl) (fun a hf => ?_)
    refine stq hf rfl rfl rfl (ex_extract hf rfl rfl) (fun a hf => ?_)
    refine stq hf rfl rfl rfl (ex_extract hf rfl rfl) (fun a hf => ?_)
    refine stq hf rfl rfl rfl (ex_assign hf rfl) (fun a hf => ?_)
    refine stq hf rfl rfl rfl (ex_assign hf rfl) (fun a hf => ?_)
    refine hK14 _ _ ?_
    refine seq_n (fun Q15 hN15 hR15 hX15 => ?_)
    refine bnd H (fun x16 H16 HO16 => ?_)
    clear H
    refine seq_cut (fun a w => Fr a 77 [(7, v8), (8, .int .u64 (Int.tmod a1 1500)), (9, .int .u64 (Int.tmod a2 300)), (12, .int .u64 s13.1), (46, .bool x16)] ∧ St M w0 w [osl K_api_IdleState v8 s7]) (fun Q16 hJ16 hR16 hX16 => ?_) (fun a w hJ => ?_)
    · replace H := H16
      refine itt H (fun hc17 H => ?_) (fun hc17 H => ?_)
      · -- s11.2 = 0
        refine region_k (fun K18 hK18 => ?_)
        refine stq hf rfl rfl rfl (ex_move hf rfl) (fun a hf => ?_)
        refine stq hf rfl rfl rfl (ex_neq hf rfl rfl) (fun a hf => ?_)
        refine stq hf rfl rfl rfl (ex_move hf rfl) (fun a hf => ?_)
        replace hf := hf.castB (t := 42) rfl (ndec_f hc17)
        replace hf := hf.castB (t := 43) rfl (ndec_f hc17)
        refine stq hf rfl rfl rfl (ex_move hf rfl) (fun a hf => ?_)
        refine stq hf rfl rfl rfl (ex_neq hf rfl rfl) (fun a hf => ?_)
        refine stq hf rfl rfl rfl (ex_pickF hf rfl rfl) (fun a hf => ?_)
        refine hK18 _ _ ?_
        have e16 := some_eq H; subst e16
        exact hJ16 _ _ ⟨hf.sub ⟨rfl, rfl, rfl, rfl, rfl, trivial⟩, hs⟩
      · -- not s11.2 = 0
        refine region_k (fun K19 hK19 => ?_)
        refine stq hf rfl rfl rfl (ex_move hf rfl) (fun a hf => ?_)
        refine stq hf rfl rfl rfl (ex_neq hf rfl rfl) (fun a hf => ?_)
        refine stq hf rfl rfl rfl (ex_move hf rfl) (fun a hf => ?_)
        replace hf := hf.castB (t := 42) rfl (ndec_t hc17)
        replace hf := hf.castB (t := 43) rfl (ndec_t hc17)
        refine stepN hf rfl rfl rfl (fun a hf => ?_)
        refine stepN hf rfl rfl rfl (fun a hf => ?_)
        refine stq hf rfl rfl rfl (ex_pickT hf rfl rfl) (fun a hf => ?_)
        refine hK19 _ _ ?_
        have e16 := some_eq H; subst e16
        exact hJ16 _ _ ⟨hf.sub ⟨rfl, rfl, rfl, rfl, rfl, trivial⟩, hs⟩
    · obtain ⟨hf, hs⟩ := hJ
      replace H := HO16
      clear HO16
      refine itt H (fun hc20 H => ?_) (fun hc20 H => ?_)
      · -- x16 = true
        replace hf := hf.castB (t := 46) rfl hc20
        refine cond_T hf rfl ?_
        refine seq_reg (fun K21 hK21 => ?_)
        refine stq hf rfl rfl rfl (ex_assign hf rfl) (fun a hf => ?_)
        refine hK21 _ _ ?_
        refine wp_ret ?_
        refine hR15 _ _ ?_
        have eR := some_eq H; subst eR
        replace hs := hs.keep (.d .nil)
        exact ret1 Try.results6 hf rfl ⟨_, rfl, ⟨rfl, hs⟩⟩
      · -- not x16 = true
        replace hf := hf.castB (t := 46) rfl (bool_f hc20)
        refine cond_F hf rfl ?_
        refine wp_skip ?_
        refine hN15 _ _ ?_
        refine bnd H (fun x22 H22 HO22 => ?_)
        clear H
        refine seq_cut (fun a w => ∃ (x22s : Unit), x22 = .go x22s ∧ Fr a 77 [] ∧ St M w0 w []) (fun Q22 hJ22 hR22 hX22 => ?_) (fun a w hJ => ?_)
        · replace H := H22
          refine seq_reg (fun K23 hK23 => ?_)
          refine stq hf rfl rfl rfl (ex_assign hf rfl) (fun a hf => ?_)
          refine hK23 _ _ ?_
          refine block_k (fun Q24 hN24 hR24 hX24 hY24 => ?_)
          refine loop_k (fun n a w => ∃ (y25 : Int), Fr a 77 [(7, v8), (8, .int .u64 (Int.tmod a1 1500)), (9, .int .u64 (Int.tmod a2 300)), (12, .int .u64 s13.1), (14, .int .i64 y25)] ∧ St M w0 w [osl K_api_IdleState v8 s7] ∧ law37_IdleSelectMinimizesEnergy.l1 n s7 a1 a2 s13 y25 = some x22) k ?_ (fun n27 a w hI Q27 hL27 hR27 hX27 => ?_)
          · -- at the start
            exact ⟨0, hf.sub ⟨rfl, rfl, rfl, rfl, rfl, trivial⟩, hs, H⟩
          · obtain ⟨y25, hf, hs, H⟩ := hI
            cases n27 with
            | zero => exact absurd H (by rw [law37_IdleSelectMinimizesEnergy.l1.eq_1]; intro h; cases h)
            | succ k27 =>
              replace H := (law37_IdleSelectMinimizesEnergy.l1.eq_2 ..).symm.trans H
              refine seq_n (fun Q28 hN28 hR28 hX28 => ?_)
              refine seq_reg (fun K29 hK29 => ?_)
              refine stq hf rfl rfl rfl (ex_move hf rfl) (fun a hf => ?_)
              refine stq hf rfl rfl rfl (ex_move hf rfl) (fun a hf => ?_)
              refine stq hf rfl rfl rfl (ex_lenS Try.underlying22 (rsl_isSl (osl_rsl _ (hs.get (i := 0) rfl))) hf rfl) (fun a hf => ?_)
              refine stq hf rfl rfl rfl (ex_lss hf rfl rfl) (fun a hf => ?_)
              refine hK29 _ _ ?_
              refine itt H (fun hc30 H => ?_) (fun hc30 H => ?_)
              · -- y25 < (s7.length : Int)
                replace hf := hf.castB (t := 50) rfl (dec_t hc30)
                refine cond_T hf rfl ?_
                refine wp_skip ?_
                refine hN28 _ _ ?_
                refine seq_n (fun Q31 hN31 hR31 hX31 => ?_)
                refine block_k (fun Q32 hN32 hR32 hX32 hY32 => ?_)
                refine bnd H (fun s33 hs33 H => ?_)
                refine seq_reg (fun K34 hK34 => ?_)
                refine stq hf rfl rfl rfl (ex_move hf rfl) (fun a hf => ?_)
                refine stq hf rfl rfl rfl (ex_move hf rfl) (fun a hf => ?_)
                refine stq hf rfl rfl rfl (ex_move hf rfl) (fun a hf => ?_)
                refine stepF hf rfl rfl rfl (ex_call cf_20 hf rfl) (idle_Energy.calls k27 s7 y25 (Int.tmod a1 1500) v8 (hs.enter (.k .nil)) (Sr.own hs (.k .nil) (i := 0) rfl osl_rsl (fun _ h => h.1) (Sr.nil _ _)) hs33) (fun v w hR a hf => ?_)
                obtain ⟨rfl, hs'⟩ := hR
                replace hs := hs.step (.k .nil) hs'
                clear hs'
                refine stq hf rfl rfl rfl (ex_move hf rfl) (fun a hf => ?_)
                refine stq hf rfl rfl rfl (ex_extract hf rfl rfl) (fun a hf => ?_)
                refine stq hf rfl rfl rfl (ex_extract hf rfl rfl) (fun a hf => ?_)
                refine stq hf rfl rfl rfl (ex_assign hf rfl) (fun a hf => ?_)
                refine stq hf rfl rfl rfl (ex_assign hf rfl) (fun a hf => ?_)
                refine hK34 _ _ ?_
                refine bnd H (fun x35 H35 HO35 => ?_)
                clear H
                refine seq_cut (fun a w => Fr a 77 [(7, v8), (8, .int .u64 (Int.tmod a1 1500)), (9, .int .u64 (Int.tmod a2 300)), (12, .int .u64 s13.1), (14, .int .i64 y25), (75, .bool x35)] ∧ St M w0 w [osl K_api_IdleState v8 s7]) (fun Q35 hJ35 hR35 hX35 => ?_) (fun a w hJ => ?_)
                · replace H := H35
                  refine itt H (fun hc36 H => ?_) (fun hc36 H => ?_)
                  · -- s33.2 = 0
                    refine ck_some H (fun hc37 H => ?_)
                    refine itt H (fun hc38 H => ?_) (fun hc38 H => ?_)
                    · -- ((gd IdleState.zero s7 y25).Latency) ≤ (Int.tmod a2 300)
                      refine region_k (fun K39 hK39 => ?_)
                      refine stq hf rfl rfl rfl (ex_move hf rfl) (fun a hf => ?_)
                      refine stq hf rfl rfl rfl (ex_neq hf rfl rfl) (fun a hf => ?_)
                      refine stq hf rfl rfl rfl (ex_move hf rfl) (fun a hf => ?_)
                      replace hf := hf.castB (t := 61) rfl (ndec_f hc36)
                      replace hf := hf.castB (t := 62) rfl (ndec_f hc36)
                      refine stq hf rfl rfl rfl (ex_move hf rfl) (fun a hf => ?_)
                      refine stq hf rfl rfl rfl (ex_move hf rfl) (fun a hf => ?_)
                      refine stq hf rfl rfl rfl (ex_indexAddr sa_22 (rsl_isSl (osl_rsl _ (hs.get (i := 0) rfl))) hc37.1 hc37.2 hf rfl rfl) (fun a hf => ?_)
                      refine stq hf rfl rfl rfl (ex_fieldAddrS fa_25_0 rfl hf rfl) (fun a hf => ?_)
                      refine stq hf rfl rfl rfl (ex_load sc_23 hf rfl (el_cell (K := K_api_IdleState) (f := 0) (rsl_rd (osl_rsl _ (hs.get (i := 0) rfl))) hc37.1 hc37.2 rfl)) (fun a hf => ?_)
                      refine stq hf rfl rfl rfl (ex_move hf rfl) (fun a hf => ?_)
                      refine stq hf rfl rfl rfl (ex_leq hf rfl rfl) (fun a hf => ?_)
                      refine stq hf rfl rfl rfl (ex_move hf rfl) (fun a hf => ?_)
                      replace hf := hf.castB (t := 69) rfl (dec_t hc38)
                      replace hf := hf.castB (t := 70) rfl (dec_t hc38)
                      refine stq hf rfl rfl rfl (ex_move hf rfl) (fun a hf => ?_)
                      refine stq hf rfl rfl rfl (ex_move hf rfl) (fun a hf => ?_)
                      refine stq hf rfl rfl rfl (ex_lss hf rfl rfl) (fun a hf => ?_)
                      refine stq hf rfl rfl rfl (ex_pickT hf rfl rfl) (fun a hf => ?_)
                      refine stq hf rfl rfl rfl (ex_pickF hf rfl rfl) (fun a hf => ?_)
                      refine hK39 _ _ ?_
                      have e35 := some_eq H; subst e35
                      exact hJ35 _ _ ⟨hf.sub ⟨rfl, rfl, rfl, rfl, rfl, rfl, trivial⟩, hs⟩
                    · -- not ((gd IdleState.zero s7 y25).Latency) ≤ (Int.tmod a2 300)
                      refine region_k (fun K40 hK40 => ?_)
                      refine stq hf rfl rfl rfl (ex_move hf rfl) (fun a hf => ?_)
                      refine stq hf rfl rfl rfl (ex_neq hf rfl rfl) (fun a hf => ?_)
                      refine stq hf rfl rfl rfl (ex_move hf rfl) (fun a hf => ?_)
                      replace hf := hf.castB (t := 61) rfl (ndec_f hc36)
                      replace hf := hf.castB (t := 62) rfl (ndec_f hc36)
                      refine stq hf rfl rfl rfl (ex_move hf rfl) (fun a hf => ?_)
                      refine stq hf rfl rfl rfl (ex_move hf rfl) (fun a hf => ?_)
                      refine stq hf rfl rfl rfl (ex_indexAddr sa_22 (rsl_isSl (osl_rsl _ (hs.get (i := 0) rfl))) hc37.1 hc37.2 hf rfl rfl) (fun a hf => ?_)
                      refine stq hf rfl rfl rfl (ex_fieldAddrS fa_25_0 rfl hf rfl) (fun a hf => ?_)
                      refine stq hf rfl rfl rfl (ex_load sc_23 hf rfl (el_cell (K := K_api_IdleState) (f := 0) (rsl_rd (osl_rsl _ (hs.get (i := 0) rfl))) hc37.1 hc37.2 rfl)) (fun a hf => ?_)
                      refine stq hf rfl rfl rfl (ex_move hf rfl) (fun a hf => ?_)
                      refine stq hf rfl rfl rfl (ex_leq hf rfl rfl) (fun a hf => ?_)
                      refine stq hf rfl rfl rfl (ex_move hf rfl) (fun a hf => ?_)
                      replace hf := hf.castB (t := 69) rfl (dec_f hc38)
                      replace hf := hf.castB (t := 70) rfl (dec_f hc38)
                      refine stepN hf rfl rfl rfl (fun a hf => ?_)
                      refine stepN hf rfl rfl rfl (fun a hf => ?_)
                      refine stepN hf rfl rfl rfl (fun a hf => ?_)
                      refine stq hf rfl rfl rfl (ex_pickF hf rfl rfl) (fun a hf => ?_)
                      refine stq hf rfl rfl rfl (ex_pickF hf rfl rfl) (fun a hf => ?_)
                      refine hK40 _ _ ?_
                      have e35 := some_eq H; subst e35
                      exact hJ35 _ _ ⟨hf.sub ⟨rfl, rfl, rfl, rfl, rfl, rfl, trivial⟩, hs⟩
                  · -- not s33.2 = 0
                    refine region_k (fun K41 hK41 => ?_)
                    refine stq hf rfl rfl rfl (ex_move hf rfl) (fun a hf => ?_)
                    refine stq hf rfl rfl rfl (ex_neq hf rfl rfl) (fun a hf => ?_)
                    refine stq hf rfl rfl rfl (ex_move hf rfl) (fun a hf => ?_)
                    replace hf := hf.castB (t := 61) rfl (ndec_t hc36)
                    replace hf := hf.castB (t := 62) rfl (ndec_t hc36)
                    refine stepN hf rfl rfl rfl (fun a hf => ?_)
                    refine stepN hf rfl rfl rfl (fun a hf => ?_)
                    refine stepN hf rfl rfl rfl (fun a hf => ?_)
                    refine stepN hf rfl rfl rfl (fun a hf => ?_)
                    refine stepN hf rfl rfl rfl (fun a hf => ?_)
                    refine stepN hf rfl rfl rfl (fun a hf => ?_)
                    refine stepN hf rfl rfl rfl (fun a hf => ?_)
                    refine stepN hf rfl rfl rfl (fun a hf => ?_)
                    refine stepN hf rfl rfl rfl (fun a hf => ?_)
                    refine stepN hf rfl rfl rfl (fun a hf => ?_)
                    refine stepN hf rfl rfl rfl (fun a hf => ?_)
                    refine stepN hf rfl rfl rfl (fun a hf => ?_)
                    refine stq hf rfl rfl rfl (ex_pickT hf rfl rfl) (fun a hf => ?_)
                    refine hK41 _ _ ?_
                    have e35 := some_eq H; subst e35
                    exact hJ35 _ _ ⟨hf.sub ⟨rfl, rfl, rfl, rfl, rfl, rfl, trivial⟩, hs⟩
                · obtain ⟨hf, hs⟩ := hJ
                  replace H := HO35
                  clear HO35
                  refine itt H (fun hc42 H => ?_) (fun hc42 H => ?_)
                  · -- x35 = true
                    replace hf := hf.castB (t := 75) rfl hc42
                    refine cond_T hf rfl ?_
                    refine seq_reg (fun K43 hK43 => ?_)
                    refine stq hf rfl rfl rfl (ex_assign hf rfl) (fun a hf => ?_)
                    refine hK43 _ _ ?_
                    refine wp_ret ?_
                    refine hR32 _ _ ?_
                    refine hR31 _ _ ?_
                    refine hR27 _ _ ?_
                    refine hR24 _ _ ?_
                    have e22 := some_eq H; subst e22; replace H := el_rt HO22
                    refine hR22 _ _ ?_
                    have eR := some_eq H; subst eR
                    replace hs := hs.keep (.d .nil)
                    exact ret1 Try.results6 hf rfl ⟨_, rfl, ⟨rfl, hs⟩⟩
                  · -- not x35 = true
                    replace hf := hf.castB (t := 75) rfl (bool_f hc42)
                    refine cond_F hf rfl ?_
                    refine wp_skip ?_
                    refine hN32 _ _ ?_
                    refine hN31 _ _ ?_
                    refine region_k (fun K44 hK44 => ?_)
                    refine stq hf rfl rfl rfl (ex_move hf rfl) (fun a hf => ?_)
                    refine stq hf rfl rfl rfl (ex_add hf rfl rfl) (fun a hf => ?_)
                    refine stq hf rfl rfl rfl (ex_assign hf rfl) (fun a hf => ?_)
                    refine hK44 _ _ ?_
                    exact hL27 k27 _ _ (Nat.lt_succ_self _) ⟨(IntKind.i64.wrap (y25 + 1)), hf.sub ⟨rfl, rfl, rfl, rfl, rfl, trivial⟩, hs, H⟩
              · -- not y25 < (s7.length : Int)
                replace hf := hf.castB (t := 50) rfl (dec_f hc30)
                refine cond_F hf rfl ?_
                refine wp_exit ?_
                refine hX28 0 _ _ ?_
                refine hX27 0 _ _ ?_
                refine hX24 _ _ ?_
                replace hs := hs.keep (.d .nil)
                have e22 := some_eq H; subst e22
                exact hJ22 _ _ ⟨_, rfl, hf.sub trivial, hs⟩
        · obtain ⟨x22s, rfl, hf, hs⟩ := hJ
          replace H := el_go HO22
          clear HO22
          refine bnd H (fun s45 hs45 H => ?_)
          refine seq_reg (fun K46 hK46 => ?_)
          refine stepF hf rfl rfl rfl (ex_call cf_13 hf rfl) (law37_awake.calls k (hs.enter .nil) (Sr.nil _ _) hs45) (fun v w hR a hf => ?_)
          obtain ⟨rfl, hs'⟩ := hR
          replace hs := hs.step .nil hs'
          clear hs'
          refine stq hf rfl rfl rfl (ex_assign hf rfl) (fun a hf => ?_)
          refine hK46 _ _ ?_
          refine wp_ret ?_
          have eR := some_eq H; subst eR
          exact ret1 Try.results6 hf rfl ⟨_, rfl, ⟨rfl, hs⟩⟩

end Go.Proofs.Ytmjfdknjloidoaa.X
