/- Each function of the machine comes to what its pure function says. -/
import Derived.Test.YtmjfdknjloidoaaFc1
import Derived.Test.YtmjfdknjloidoaaFc2
import Derived.Test.YtmjfdknjloidoaaFb
namespace Go.Proofs.Ytmjfdknjloidoaa.X
open Go Go.RowKit Go.Sx
set_option linter.unusedVariables false

set_option maxRecDepth 100000 in
theorem law37_IdlePredictorAgrees.calls {M : Nat → Prop} {w0 : World} (k : Nat) (a0 : (List Int)) (a1 : Int) (v0 : Value) {r : Bool} (hs : St M w0 w0 []) (hr : Sr M w0 [rsl K_uint64 v0 a0])
    (h : law37_IdlePredictorAgrees.f k a0 a1 = some r) : Calls Try.prog 11 #[v0, .int .u64 a1] w0 fun e w => ∃ v, e = .returned v ∧ (.bool r = v ∧ St M w0 w []) := by
  have H := (law37_IdlePredictorAgrees.f.eq_1 ..).symm.trans h
  clear h
  refine enter Try.func11 rfl Try.ntmps11 rfl (fun a hf => ?_)
  refine seq_reg (fun K1 hK1 => ?_)
  refine stq hf rfl rfl rfl (ex_assign hf rfl) (fun a hf => ?_)
  refine hK1 _ _ ?_
  refine seq_n (fun Q2 hN2 hR2 hX2 => ?_)
  refine seq_reg (fun K3 hK3 => ?_)
  refine stq hf rfl rfl rfl (ex_move hf rfl) (fun a hf => ?_)
  refine stq hf rfl rfl rfl (ex_lenS Try.underlying39 (rsl_isSl (hr.now hs (i := 0) rfl)) hf rfl) (fun a hf => ?_)
  refine stq hf rfl rfl rfl (ex_gtr hf rfl rfl) (fun a hf => ?_)
  refine hK3 _ _ ?_
  refine itt H (fun hc4 H => ?_) (fun hc4 H => ?_)
  · -- 40 < (a0.length : Int)
    replace hf := hf.castB (t := 11) rfl (dec_t hc4)
    refine cond_T hf rfl ?_
    refine bnd H (fun s5 hs5 H => ?_)
    refine seq_reg (fun K6 hK6 => ?_)
    refine stepF hf rfl rfl rfl (ex_call cf_13 hf rfl) (law37_awake.calls k (hs.enter .nil) (Sr.nil _ _) hs5) (fun v w hR a hf => ?_)
    obtain ⟨rfl, hs'⟩ := hR
    replace hs := hs.step .nil hs'
    clear hs'
    refine stq hf rfl rfl rfl (ex_assign hf rfl) (fun a hf => ?_)
    refine hK6 _ _ ?_
    refine wp_ret ?_
    refine hR2 _ _ ?_
    have eR := some_eq H; subst eR
    exact ret1 Try.results11 hf rfl ⟨_, rfl, ⟨rfl, hs⟩⟩
  · -- not 40 < (a0.length : Int)
    replace hf := hf.castB (t := 11) rfl (dec_f hc4)
    refine cond_F hf rfl ?_
    refine wp_skip ?_
    refine hN2 _ _ ?_
    refine bnd H (fun s7 hs7 H => ?_)
    refine bnd H (fun s10 hs10 H => ?_)
    refine seq_reg (fun K13 hK13 => ?_)
    refine stepF hf rfl rfl rfl (ex_call cf_30 hf rfl) (idle_NewPredictor.calls k (hs.enter .nil) (Sr.nil _ _) hs7) (fun v w hR a hf => ?_)
    obtain ⟨b8, v9, rfl, hs'⟩ := hR
    replace hs := hs.step .nil hs'
    clear hs'
    refine stepF hf rfl rfl rfl (ex_call cf_31 hf rfl) (ref37_NewPredictor.calls k (hs.enter (.k (.k .nil))) (Sr.nil _ _) hs10) (fun v w hR a hf => ?_)
    obtain ⟨b11, v12, rfl, hs'⟩ := hR
    replace hs := hs.step (.k (.k .nil)) hs'
    clear hs'
    refine stq hf rfl rfl rfl (ex_assign hf rfl) (fun a hf => ?_)
    refine stq hf rfl rfl rfl (ex_assign hf rfl) (fun a hf => ?_)
    refine hK13 _ _ ?_
    refine seq_n (fun Q14 hN14 hR14 hX14 => ?_)
    refine seq_reg (fun K15 hK15 => ?_)
    refine stq hf rfl rfl rfl (ex_move hf rfl) (fun a hf => ?_)
    refine stq hf rfl rfl rfl (ex_eqp Try.underlying53 hf rfl rfl) (fun a hf => ?_)
    refine hK15 _ _ ?_
    refine cond_F hf rfl ?_
    refine wp_skip ?_
    refine hN14 _ _ ?_
    refine bnd H (fun x16 H16 HO16 => ?_)
    clear H
    refine seq_cut (fun a w => ∃ (x16s : Unit), x16 = .go x16s ∧ Fr a 60 [] ∧ St M w0 w []) (fun Q16 hJ16 hR16 hX16 => ?_) (fun a w hJ => ?_)
    · replace H := H16
      refine seq_reg (fun K17 hK17 => ?_)
      refine stq hf rfl rfl rfl (ex_assign hf rfl) (fun a hf => ?_)
      refine hK17 _ _ ?_
      refine block_k (fun Q18 hN18 hR18 hX18 hY18 => ?_)
      refine loop_k (fun n a w => ∃ (y21 : (List Int)) (y22 : (List Int)) (y23 : Int) (v19 : Value) (v20 : Value), Fr a 60 [(0, v0), (1, .int .u64 a1), (5, .pointer (some ⟨b8, 0, none⟩)), (6, .pointer (some ⟨b11, 0, none⟩)), (7, .int .i64 y23)] ∧ St M w0 w [bx b8 72 [v19], osl K_uint64 v19 y21, bx b11 74 [v20], osl K_uint64 v20 y22] ∧ law37_IdlePredictorAgrees.l1 n a0 a1 y21 y22 y23 = some x16) k ?_ (fun n25 a w hI Q25 hL25 hR25 hX25 => ?_)
      · -- at the start
        replace hs := hs.pick (.k (.c (.k (.k .nil))))
        replace hs := hs.pick (.k (.c (.k (.k .nil))))
        replace hs := hs.pick (.k (.k (.k (.c .nil))))
        replace hs := hs.pick (.k (.k (.k (.c .nil))))
        exact ⟨s7, s10, 0, v9, v12, hf.sub ⟨rfl, rfl, rfl, rfl, rfl, trivial⟩, hs, H⟩
      · obtain ⟨y21, y22, y23, v19, v20, hf, hs, H⟩ := hI
        cases n25 with
        | zero => exact absurd H (by rw [law37_IdlePredictorAgrees.l1.eq_1]; intro h; cases h)
        | succ k25 =>
          replace H := (law37_IdlePredictorAgrees.l1.eq_2 ..).symm.trans H
          refine seq_n (fun Q26 hN26 hR26 hX26 => ?_)
          refine seq_reg (fun K27 hK27 => ?_)
          refine stq hf rfl rfl rfl (ex_move hf rfl) (fun a hf => ?_)
          refine stq hf rfl rfl rfl (ex_move hf rfl) (fun a hf => ?_)
          refine stq hf rfl rfl rfl (ex_lenS Try.underlying39 (rsl_isSl (hr.now hs (i := 0) rfl)) hf rfl) (fun a hf => ?_)
          refine stq hf rfl rfl rfl (ex_lss hf rfl rfl) (fun a hf => ?_)
          refine hK27 _ _ ?_
          refine itt H (fun hc28 H => ?_) (fun hc28 H => ?_)
          · -- y23 < (a0.length : Int)
            replace hf := hf.castB (t := 20) rfl (dec_t hc28)
            refine cond_T hf rfl ?_
            refine wp_skip ?_
            refine hN26 _ _ ?_
            refine seq_n (fun Q29 hN29 hR29 hX29 => ?_)
            refine block_k (fun Q30 hN30 hR30 hX30 hY30 => ?_)
            refine ck_some H (fun hc31 H => ?_)
            refine seq_reg (fun K32 hK32 => ?_)
            refine stq hf rfl rfl rfl (ex_move hf rfl) (fun a hf => ?_)
            refine stq hf rfl rfl rfl (ex_move hf rfl) (fun a hf => ?_)
            refine stq hf rfl rfl rfl (ex_indexAddr sa_39 (rsl_isSl (hr.now hs (i := 0) rfl)) hc31.1 hc31.2 hf rfl rfl) (fun a hf => ?_)
            refine stq hf rfl rfl rfl (ex_load sc_23 hf rfl (el_cell (K := K_uint64) (f := 0) (rsl_rd (hr.now hs (i := 0) rfl)) hc31.1 hc31.2 rfl)) (fun a hf => ?_)
            refine stq hf rfl rfl rfl (ex_assign hf rfl) (fun a hf => ?_)
            refine hK32 _ _ ?_
            refine bnd H (fun x33 H33 HO33 => ?_)
            clear H
            refine seq_cut (fun a w => Fr a 60 [(0, v0), (1, .int .u64 a1), (5, .pointer (some ⟨b8, 0, none⟩)), (6, .pointer (some ⟨b11, 0, none⟩)), (7, .int .i64 y23), (8, .int .u64 x33)] ∧ St M w0 w [bx b8 72 [v19], osl K_uint64 v19 y21, bx b11 74 [v20], osl K_uint64 v20 y22]) (fun Q33 hJ33 hR33 hX33 => ?_) (fun a w hJ => ?_)
            · replace H := H33
              refine seq_reg (fun K34 hK34 => ?_)
              refine stq hf rfl rfl rfl (ex_move hf rfl) (fun a hf => ?_)
              refine stq hf rfl rfl rfl (ex_rem hf rfl rfl (by decide)) (fun a hf => ?_)
              refine stq hf rfl rfl rfl (ex_gtr hf rfl rfl) (fun a hf => ?_)
              refine hK34 _ _ ?_
              refine itt H (fun hc35 H => ?_) (fun hc35 H => ?_)
              · -- 0 < (Int.tmod y23 5)
                replace hf := hf.castB (t := 29) rfl (dec_t hc35)
                refine cond_T hf rfl ?_
                refine region_k (fun K36 hK36 => ?_)
                refine stq hf rfl rfl rfl (ex_move hf rfl) (fun a hf => ?_)
                refine stq hf rfl rfl rfl (ex_rem hf rfl rfl (by decide)) (fun a hf => ?_)
                refine stq hf rfl rfl rfl (ex_assign hf rfl) (fun a hf => ?_)
                refine hK36 _ _ ?_
                have e33 := some_eq H; subst e33
                exact hJ33 _ _ ⟨hf.sub ⟨rfl, rfl, rfl, rfl, rfl, rfl, trivial⟩, hs⟩
              · -- not 0 < (Int.tmod y23 5)
                replace hf := hf.castB (t := 29) rfl (dec_f hc35)
                refine cond_F hf rfl ?_
                refine wp_skip ?_
                have e33 := some_eq H; subst e33
                exact hJ33 _ _ ⟨hf.sub ⟨rfl, rfl, rfl, rfl, rfl, rfl, trivial⟩, hs⟩
            · obtain ⟨hf, hs⟩ := hJ
              replace H := HO33
              clear HO33
              refine bnd H (fun x37 H37 HO37 => ?_)
              clear H
              refine seq_cut (fun a w => ∃ (v38 : Value) (v39 : Value), Fr a 60 [(0, v0), (1, .int .u64 a1), (5, .pointer (some ⟨b8, 0, none⟩)), (6, .pointer (some ⟨b11, 0, none⟩)), (7, .int .i64 y23), (58, .bool x37.2.2)] ∧ St M w0 w [bx b8 72 [v38], osl K_uint64 v38 x37.1, bx b11 74 [v39], osl K_uint64 v39 x37.2.1]) (fun Q37 hJ37 hR37 hX37 => ?_) (fun a w hJ => ?_)
              · replace H := H37
                refine bnd H (fun s40 hs40 H => ?_)
                refine bnd H (fun s42 hs42 H => ?_)
                refine itt H (fun hc44 H => ?_) (fun hc44 H => ?_)
                · -- s40.2 = s42.2
                  refine bnd H (fun s45 hs45 H => ?_)
                  refine bnd H (fun s46 hs46 H => ?_)
                  refine itt H (fun hc47 H => ?_) (fun hc47 H => ?_)
                  · -- s45 = s46
                    refine bnd H (fun s48 hs48 H => ?_)
                    refine bnd H (fun s49 hs49 H => ?_)
                    refine region_k (fun K50 hK50 => ?_)
                    refine stq hf rfl rfl rfl (ex_move hf rfl) (fun a hf => ?_)
                    refine stq hf rfl rfl rfl (ex_move hf rfl) (fun a hf => ?_)
                    refine stepF hf rfl rfl rfl (ex_call cf_32 hf rfl) (idle_Predictor_Record.calls k25 y21 x33 b8 v19 (hs.enter (.c (.c (.k (.k .nil))))) (Sr.nil _ _) hs40) (fun v w hR a hf => ?_)
                    obtain ⟨v41, rfl, hs'⟩ := hR
                    replace hs := hs.step (.c (.c (.k (.k .nil)))) hs'
                    clear hs'
                    refine stq hf rfl rfl rfl (ex_move hf rfl) (fun a hf => ?_)
                    refine stq hf rfl rfl rfl (ex_move hf rfl) (fun a hf => ?_)
                    refine stepF hf rfl rfl rfl (ex_call cf_33 hf rfl) (ref37_Predictor_Record.calls k25 y22 x33 b11 v20 (hs.enter (.k (.k (.c (.c .nil))))) (Sr.nil _ _) hs42) (fun v w hR a hf => ?_)
                    obtain ⟨v43, rfl, hs'⟩ := hR
                    replace hs := hs.step (.k (.k (.c (.c .nil)))) hs'
                    clear hs'
                    refine stq hf rfl rfl rfl (ex_neq hf rfl rfl) (fun a hf => ?_)
                    refine stq hf rfl rfl rfl (ex_move hf rfl) (fun a hf => ?_)
                    replace hf := hf.castB (t := 38) rfl (ndec_f hc44)
                    replace hf := hf.castB (t := 39) rfl (ndec_f hc44)
                    refine stq hf rfl rfl rfl (ex_move hf rfl) (fun a hf => ?_)
                    refine stq hf rfl rfl rfl (ex_move hf rfl) (fun a hf => ?_)
                    refine stepF hf rfl rfl rfl (ex_call cf_34 hf rfl) (idle_Predictor_Expected.calls k25 s40.1 a1 b8 v41 (hs.enter (.k (.k (.k (.k .nil))))) (Sr.own hs (.k (.k (.k (.k .nil)))) (i := 2) rfl (fun _ h => h) (fun _ h => h) (Sr.own hs (.k (.k (.k (.k .nil)))) (i := 3) rfl osl_rsl (fun _ h => h.1) (Sr.nil _ _))) hs45) (fun v w hR a hf => ?_)
                    obtain ⟨rfl, hs'⟩ := hR
                    replace hs := hs.step (.k (.k (.k (.k .nil)))) hs'
                    clear hs'
                    refine stq hf rfl rfl rfl (ex_move hf rfl) (fun a hf => ?_)
                    refine stq hf rfl rfl rfl (ex_move hf rfl) (fun a hf => ?_)
                    refine stepF hf rfl rfl rfl (ex_call cf_35 hf rfl) (ref37_Predictor_Expected.calls k25 s42.1 a1 b11 v43 (hs.enter (.k (.k (.k (.k .nil))))) (Sr.own hs (.k (.k (.k (.k .nil)))) (i := 0) rfl (fun _ h => h) (fun _ h => h) (Sr.own hs (.k (.k (.k (.k .nil)))) (i := 1) rfl osl_rsl (fun _ h => h.1) (Sr.nil _ _))) hs46) (fun v w hR a hf => ?_)
                    obtain ⟨rfl, hs'⟩ := hR
                    replace hs := hs.step (.k (.k (.k (.k .nil)))) hs'
                    clear hs'
                    refine stq hf rfl rfl rfl (ex_neq hf rfl rfl) (fun a hf => ?_)
                    refine stq hf rfl rfl rfl (ex_pickF hf rfl rfl) (fun a hf => ?_)
                    refine stq hf rfl rfl rfl (ex_move hf rfl) (fun a hf => ?_)
                    replace hf := hf.castB (t := 46) rfl (ndec_f hc47)
                    replace hf := hf.castB (t := 47) rfl (ndec_f hc47)
                    replace hf := hf.castB (t := 48) rfl (ndec_f hc47)
                    refine stq hf rfl rfl rfl (ex_move hf rfl) (fun a hf => ?_)
                    refine stq hf rfl rfl rfl (ex_move hf rfl) (fun a hf => ?_)
                    refine stq hf rfl rfl rfl (ex_rem hf rfl rfl (by decide)) (fun a hf => ?_)
                    refine stepF hf rfl rfl rfl (ex_call cf_34 hf rfl) (idle_Predictor_Expected.calls k25 s40.1 (Int.tmod a1 1500) b8 v41 (hs.enter (.k (.k (.k (.k .nil))))) (Sr.own hs (.k (.k (.k (.k .nil)))) (i := 2) rfl (fun _ h => h) (fun _ h => h) (Sr.own hs (.k (.k (.k (.k .nil)))) (i := 3) rfl osl_rsl (fun _ h => h.1) (Sr.nil _ _))) hs48) (fun v w hR a hf => ?_)
                    obtain ⟨rfl, hs'⟩ := hR
                    replace hs := hs.step (.k (.k (.k (.k .nil)))) hs'
                    clear hs'
                    refine stq hf rfl rfl rfl (ex_move hf rfl) (fun a hf => ?_)
                    refine stq hf rfl rfl rfl (ex_move hf rfl) (fun a hf => ?_)
                    refine stq hf rfl rfl rfl (ex_rem hf rfl rfl (by decide)) (fun a hf => ?_)
                    refine stepF hf rfl rfl rfl (ex_call cf_35 hf rfl) (ref37_Predictor_Expected.calls k25 s42.1 (Int.tmod a1 1500) b11 v43 (hs.enter (.k (.k (.k (.k .nil))))) (Sr.own hs (.k (.k (.k (.k .nil)))) (i := 0) rfl (fun _ h => h) (fun _ h => h) (Sr.own hs (.k (.k (.k (.k .nil)))) (i := 1) rfl osl_rsl (fun _ h => h.1) (Sr.nil _ _))) hs49) (fun v w hR a hf => ?_)
                    obtain ⟨rfl, hs'⟩ := hR
                    replace hs := hs.step (.k (.k (.k (.k .nil)))) hs'
                    clear hs'
                    refine stq hf rfl rfl rfl (ex_neq hf rfl rfl) (fun a hf => ?_)
                    refine stq hf rfl rfl rfl (ex_pickF hf rfl rfl) (fun a hf => ?_)
                    refine hK50 _ _ ?_
                    replace hs := hs.pick (.k (.c (.k (.k .nil))))
                    replace hs := hs.pick (.k (.c (.k (.k .nil))))
                    replace hs := hs.pick (.k (.k (.k (.c .nil))))
                    replace hs := hs.pick (.k (.k (.k (.c .nil))))
                    have e37 := some_eq H; subst e37
                    exact hJ37 _ _ ⟨v41, v43, hf.sub ⟨rfl, rfl, rfl, rfl, rfl, rfl, trivial⟩, hs⟩
                  · -- not s45 = s46
                    refine region_k (fun K51 hK51 => ?_)
                    refine stq hf rfl rfl rfl (ex_move hf rfl) (fun a hf => ?_)
                    refine stq hf rfl rfl rfl (ex_move hf rfl) (fun a hf => ?_)
                    refine stepF hf rfl rfl rfl (ex_call cf_32 hf rfl) (idle_Predictor_Record.calls k25 y21 x33 b8 v19 (hs.enter (.c (.c (.k (.k .nil))))) (Sr.nil _ _) hs40) (fun v w hR a hf => ?_)
                    obtain ⟨v41, rfl, hs'⟩ := hR
                    replace hs := hs.step (.c (.c (.k (.k .nil)))) hs'
                    clear hs'
                    refine stq hf rfl rfl rfl (ex_move hf rfl) (fun a hf => ?_)
                    refine stq hf rfl rfl rfl (ex_move hf rfl) (fun a hf => ?_)
                    refine stepF hf rfl rfl rfl (ex_call cf_33 hf rfl) (ref37_Predictor_Record.calls k25 y22 x33 b11 v20 (hs.enter (.k (.k (.c (.c .nil))))) (Sr.nil _ _) hs42) (fun v w hR a hf => ?_)
                    obtain ⟨v43, rfl, hs'⟩ := hR
                    replace hs := hs.step (.k (.k (.c (.c .nil)))) hs'
                    clear hs'
                    refine stq hf rfl rfl rfl (ex_neq hf rfl rfl) (fun a hf => ?_)
                    refine stq hf rfl rfl rfl (ex_move hf rfl) (fun a hf => ?_)
                    replace hf := hf.castB (t := 38) rfl (ndec_f hc44)
                    replace hf := hf.castB (t := 39) rfl (ndec_f hc44)
                    refine stq hf rfl rfl rfl (ex_move hf rfl) (fun a hf => ?_)
                    refine stq hf rfl rfl rfl (ex_move hf rfl) (fun a hf => ?_)
                    refine stepF hf rfl rfl rfl (ex_call cf_34 hf rfl) (idle_Predictor_Expected.calls k25 s40.1 a1 b8 v41 (hs.enter (.k (.k (.k (.k .nil))))) (Sr.own hs (.k (.k (.k (.k .nil)))) (i := 2) rfl (fun _ h => h) (fun _ h => h) (Sr.own hs (.k (.k (.k (.k .nil)))) (i := 3) rfl osl_rsl (fun _ h => h.1) (Sr.nil _ _))) hs45) (fun v w hR a hf => ?_)
                    obtain ⟨rfl, hs'⟩ := hR
                    replace hs := hs.step (.k (.k (.k (.k .nil)))) hs'
                    clear hs'
                    refine stq hf rfl rfl rfl (ex_move hf rfl) (fun a hf => ?_)
                    refine stq hf rfl rfl rfl (ex_move hf rfl) (fun a hf => ?_)
                    refine stepF hf rfl rfl rfl (ex_call cf_35 hf rfl) (ref37_Predictor_Expected.calls k25 s42.1 a1 b11 v43 (hs.enter (.k (.k (.k (.k .nil))))) (Sr.own hs (.k (.k (.k (.k .nil)))) (i := 0) rfl (fun _ h => h) (fun _ h => h) (Sr.own hs (.k (.k (.k (.k .nil)))) (i := 1) rfl osl_rsl (fun _ h => h.1) (Sr.nil _ _))) hs46) (fun v w hR a hf => ?_)
                    obtain ⟨rfl, hs'⟩ := hR
                    replace hs := hs.step (.k (.k (.k (.k .nil)))) hs'
                    clear hs'
                    refine stq hf rfl rfl rfl (ex_neq hf rfl rfl) (fun a hf => ?_)
                    refine stq hf rfl rfl rfl (ex_pickF hf rfl rfl) (fun a hf => ?_)
                    refine stq hf rfl rfl rfl (ex_move hf rfl) (fun a hf => ?_)
                    replace hf := hf.castB (t := 46) rfl (ndec_t hc47)
                    replace hf := hf.castB (t := 47) rfl (ndec_t hc47)
                    replace hf := hf.castB (t := 48) rfl (ndec_t hc47)
                    refine stepN hf rfl rfl rfl (fun a hf => ?_)
                    refine stepN hf rfl rfl rfl (fun a hf => ?_)
                    refine stepN hf rfl rfl rfl (fun a hf => ?_)
                    refine stepN hf rfl rfl rfl (fun a hf => ?_)
                    refine stepN hf rfl rfl rfl (fun a hf => ?_)
                    refine stepN hf rfl rfl rfl (fun a hf => ?_)
                    refine stepN hf rfl rfl rfl (fun a hf => ?_)
                    refine stepN hf rfl rfl rfl (fun a hf => ?_)
                    refine stepN hf rfl rfl rfl (fun a hf => ?_)
                    refine stq hf rfl rfl rfl (ex_pickT hf rfl rfl) (fun a hf => ?_)
                    refine hK51 _ _ ?_
                    replace hs := hs.pick (.k (.c (.k (.k .nil))))
                    replace hs := hs.pick (.k (.c (.k (.k .nil))))
                    replace hs := hs.pick (.k (.k (.k (.c .nil))))
                    replace hs := hs.pick (.k (.k (.k (.c .nil))))
                    have e37 := some_eq H; subst e37
                    exact hJ37 _ _ ⟨v41, v43, hf.sub ⟨rfl, rfl, rfl, rfl, rfl, rfl, trivial⟩, hs⟩
                · -- not s40.2 = s42.2
                  refine region_k (fun K52 hK52 => ?_)
                  refine stq hf rfl rfl rfl (ex_move hf rfl) (fun a hf => ?_)
                  refine stq hf rfl rfl rfl (ex_move hf rfl) (fun a hf => ?_)
                  refine stepF hf rfl rfl rfl (ex_call cf_32 hf rfl) (idle_Predictor_Record.calls k25 y21 x33 b8 v19 (hs.enter (.c (.c (.k (.k .nil))))) (Sr.nil _ _) hs40) (fun v w hR a hf => ?_)
                  obtain ⟨v41, rfl, hs'⟩ := hR
                  replace hs := hs.step (.c (.c (.k (.k .nil)))) hs'
                  clear hs'
                  refine stq hf rfl rfl rfl (ex_move hf rfl) (fun a hf => ?_)
                  refine stq hf rfl rfl rfl (ex_move hf rfl) (fun a hf => ?_)
                  refine stepF hf rfl rfl rfl (ex_call cf_33 hf rfl) (ref37_Predictor_Record.calls k25 y22 x33 b11 v20 (hs.enter (.k (.k (.c (.c .nil))))) (Sr.nil _ _) hs42) (fun v w hR a hf => ?_)
                  obtain ⟨v43, rfl, hs'⟩ := hR
                  replace hs := hs.step (.k (.k (.c (.c .nil)))) hs'
                  clear hs'
                  refine stq hf rfl rfl rfl (ex_neq hf rfl rfl) (fun a hf => ?_)
                  refine stq hf rfl rfl rfl (ex_move hf rfl) (fun a hf => ?_)
                  replace hf := hf.castB (t := 38) rfl (ndec_t hc44)
                  replace hf := hf.castB (t := 39) rfl (ndec_t hc44)
                  refine stepN hf rfl rfl rfl (fun a hf => ?_)
                  refine stepN hf rfl rfl rfl (fun a hf => ?_)
                  refine stepN hf rfl rfl rfl (fun a hf => ?_)
                  refine stepN hf rfl rfl rfl (fun a hf => ?_)
                  refine stepN hf rfl rfl rfl (fun a hf => ?_)
                  refine stepN hf rfl rfl rfl (fun a hf => ?_)
                  refine stepN hf rfl rfl rfl (fun a hf => ?_)
                  refine stq hf rfl rfl rfl (ex_pickT hf rfl rfl) (fun a hf => ?_)
                  refine stq hf rfl rfl rfl (ex_move hf rfl) (fun a hf => ?_)
                  refine stepN hf rfl rfl rfl (fun a hf => ?_)
                  refine stepN hf rfl rfl rfl (fun a hf => ?_)
                  refine stepN hf rfl rfl rfl (fun a hf => ?_)
                  refine stepN hf rfl rfl rfl (fun a hf => ?_)
                  refine stepN hf rfl rfl rfl (fun a hf => ?_)
                  refine stepN hf rfl rfl rfl (fun a hf => ?_)
                  refine stepN hf rfl rfl rfl (fun a hf => ?_)
                  refine stepN hf rfl rfl rfl (fun a hf => ?_)
                  refine stepN hf rfl rfl rfl (fun a hf => ?_)
                  refine stq hf rfl rfl rfl (ex_pickT hf rfl rfl) (fun a hf => ?_)
                  refine hK52 _ _ ?_
                  replace hs := hs.pick (.k (.c (.k (.k .nil))))
                  replace hs := hs.pick (.k (.c (.k (.k .nil))))
                  replace hs := hs.pick (.k (.k (.k (.c .nil))))
                  replace hs := hs.pick (.k (.k (.k (.c .nil))))
                  have e37 := some_eq H; subst e37
                  exact hJ37 _ _ ⟨v41, v43, hf.sub ⟨rfl, rfl, rfl, rfl, rfl, rfl, trivial⟩, hs⟩
              · obtain ⟨v38, v39, hf, hs⟩ := hJ
                replace H := HO37
                clear HO37
                refine itt H (fun hc53 H => ?_) (fun hc53 H => ?_)
                · -- x37.2.2 = true
                  replace hf := hf.castB (t := 58) rfl hc53
                  refine cond_T hf rfl ?_
                  refine seq_reg (fun K54 hK54 => ?_)
                  refine stq hf rfl rfl rfl (ex_assign hf rfl) (fun a hf => ?_)
                  refine hK54 _ _ ?_
                  refine wp_ret ?_
                  refine hR30 _ _ ?_
                  refine hR29 _ _ ?_
                  refine hR25 _ _ ?_
                  refine hR18 _ _ ?_
                  have e16 := some_eq H; subst e16; replace H := el_rt HO16
                  refine hR16 _ _ ?_
                  have eR := some_eq H; subst eR
                  replace hs := hs.keep (.d (.d (.d (.d .nil))))
                  exact ret1 Try.results11 hf rfl ⟨_, rfl, ⟨rfl, hs⟩⟩
                · -- not x37.2.2 = true
                  replace hf := hf.castB (t := 58) rfl (bool_f hc53)
                  refine cond_F hf rfl ?_
                  refine wp_skip ?_
                  refine hN30 _ _ ?_
                  refine hN29 _ _ ?_
                  refine region_k (fun K55 hK55 => ?_)
                  refine stq hf rfl rfl rfl (ex_move hf rfl) (fun a hf => ?_)
                  refine stq hf rfl rfl rfl (ex_add hf rfl rfl) (fun a hf => ?_)
                  refine stq hf rfl rfl rfl (ex_assign hf rfl) (fun a hf => ?_)
                  refine hK55 _ _ ?_
                  exact hL25 k25 _ _ (Nat.lt_succ_self _) ⟨x37.1, x37.2.1, (IntKind.i64.wrap (y23 + 1)), v38, v39, hf.sub ⟨rfl, rfl, rfl, rfl, rfl, trivial⟩, hs, H⟩
          · -- not y23 < (a0.length : Int)
            replace hf := hf.castB (t := 20) rfl (dec_f hc28)
            refine cond_F hf rfl ?_
            refine wp_exit ?_
            refine hX26 0 _ _ ?_
            refine hX25 0 _ _ ?_
            refine hX18 _ _ ?_
            replace hs := hs.keep (.d (.d (.d (.d .nil))))
            have e16 := some_eq H; subst e16
            exact hJ16 _ _ ⟨_, rfl, hf.sub trivial, hs⟩
    · obtain ⟨x16s, rfl, hf, hs⟩ := hJ
      replace H := el_go HO16
      clear HO16
      refine bnd H (fun s56 hs56 H => ?_)
      refine seq_reg (fun K57 hK57 => ?_)
      refine stepF hf rfl rfl rfl (ex_call cf_13 hf rfl) (law37_awake.calls k (hs.enter .nil) (Sr.nil _ _) hs56) (fun v w hR a hf => ?_)
      obtain ⟨rfl, hs'⟩ := hR
      replace hs := hs.step .nil hs'
      clear hs'
      refine stq hf rfl rfl rfl (ex_assign hf rfl) (fun a hf => ?_)
      refine hK57 _ _ ?_
      refine wp_ret ?_
      have eR := some_eq H; subst eR
      exact ret1 Try.results11 hf rfl ⟨_, rfl, ⟨rfl, hs⟩⟩

end Go.Proofs.Ytmjfdknjloidoaa.X
