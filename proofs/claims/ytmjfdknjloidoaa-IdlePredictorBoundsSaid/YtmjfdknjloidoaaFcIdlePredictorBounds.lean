/- Each function of the machine comes to what its pure function says. -/
import Derived.Test.YtmjfdknjloidoaaFc1
import Derived.Test.YtmjfdknjloidoaaFc2
import Derived.Test.YtmjfdknjloidoaaFb
namespace Go.Proofs.Ytmjfdknjloidoaa.X
open Go Go.RowKit Go.Sx
set_option linter.unusedVariables false

set_option maxRecDepth 100000 in
theorem law37_IdlePredictorBounds.calls {M : Nat → Prop} {w0 : World} (k : Nat) (a0 : (List Int)) (a1 : Int) (a2 : Int) (v0 : Value) {r : Bool} (hs : St M w0 w0 []) (hr : Sr M w0 [rsl K_uint64 v0 a0])
    (h : law37_IdlePredictorBounds.f k a0 a1 a2 = some r) : Calls Try.prog 12 #[v0, .int .i64 a1, .int .u64 a2] w0 fun e w => ∃ v, e = .returned v ∧ (.bool r = v ∧ St M w0 w []) := by
  have H := (law37_IdlePredictorBounds.f.eq_1 ..).symm.trans h
  clear h
  refine enter Try.func12 rfl Try.ntmps12 rfl (fun a hf => ?_)
  refine seq_reg (fun K1 hK1 => ?_)
  refine stq hf rfl rfl rfl (ex_assign hf rfl) (fun a hf => ?_)
  refine hK1 _ _ ?_
  refine seq_n (fun Q2 hN2 hR2 hX2 => ?_)
  refine bnd H (fun x3 H3 HO3 => ?_)
  clear H
  refine seq_cut (fun a w => Fr a 106 [(0, v0), (1, .int .i64 a1), (2, .int .u64 a2), (23, .bool x3)] ∧ St M w0 w []) (fun Q3 hJ3 hR3 hX3 => ?_) (fun a w hJ => ?_)
  · replace H := H3
    refine itt H (fun hc4 H => ?_) (fun hc4 H => ?_)
    · -- (a0.length : Int) < 8
      refine region_k (fun K5 hK5 => ?_)
      refine stq hf rfl rfl rfl (ex_move hf rfl) (fun a hf => ?_)
      refine stq hf rfl rfl rfl (ex_lenS Try.underlying39 (rsl_isSl (hr.now hs (i := 0) rfl)) hf rfl) (fun a hf => ?_)
      refine stq hf rfl rfl rfl (ex_lss hf rfl rfl) (fun a hf => ?_)
      refine stq hf rfl rfl rfl (ex_move hf rfl) (fun a hf => ?_)
      replace hf := hf.castB (t := 18) rfl (dec_t hc4)
      replace hf := hf.castB (t := 19) rfl (dec_t hc4)
      refine stepN hf rfl rfl rfl (fun a hf => ?_)
      refine stepN hf rfl rfl rfl (fun a hf => ?_)
      refine stepN hf rfl rfl rfl (fun a hf => ?_)
      refine stq hf rfl rfl rfl (ex_pickT hf rfl rfl) (fun a hf => ?_)
      refine hK5 _ _ ?_
      have e3 := some_eq H; subst e3
      exact hJ3 _ _ ⟨hf.sub ⟨rfl, rfl, rfl, rfl, trivial⟩, hs⟩
    · -- not (a0.length : Int) < 8
      refine region_k (fun K6 hK6 => ?_)
      refine stq hf rfl rfl rfl (ex_move hf rfl) (fun a hf => ?_)
      refine stq hf rfl rfl rfl (ex_lenS Try.underlying39 (rsl_isSl (hr.now hs (i := 0) rfl)) hf rfl) (fun a hf => ?_)
      refine stq hf rfl rfl rfl (ex_lss hf rfl rfl) (fun a hf => ?_)
      refine stq hf rfl rfl rfl (ex_move hf rfl) (fun a hf => ?_)
      replace hf := hf.castB (t := 18) rfl (dec_f hc4)
      replace hf := hf.castB (t := 19) rfl (dec_f hc4)
      refine stq hf rfl rfl rfl (ex_move hf rfl) (fun a hf => ?_)
      refine stq hf rfl rfl rfl (ex_lenS Try.underlying39 (rsl_isSl (hr.now hs (i := 0) rfl)) hf rfl) (fun a hf => ?_)
      refine stq hf rfl rfl rfl (ex_gtr hf rfl rfl) (fun a hf => ?_)
      refine stq hf rfl rfl rfl (ex_pickF hf rfl rfl) (fun a hf => ?_)
      refine hK6 _ _ ?_
      have e3 := some_eq H; subst e3
      exact hJ3 _ _ ⟨hf.sub ⟨rfl, rfl, rfl, rfl, trivial⟩, hs⟩
  · obtain ⟨hf, hs⟩ := hJ
    replace H := HO3
    clear HO3
    refine itt H (fun hc7 H => ?_) (fun hc7 H => ?_)
    · -- x3 = true
      replace hf := hf.castB (t := 23) rfl hc7
      refine cond_T hf rfl ?_
      refine bnd H (fun s8 hs8 H => ?_)
      refine seq_reg (fun K9 hK9 => ?_)
      refine stepF hf rfl rfl rfl (ex_call cf_13 hf rfl) (law37_awake.calls k (hs.enter .nil) (Sr.nil _ _) hs8) (fun v w hR a hf => ?_)
      obtain ⟨rfl, hs'⟩ := hR
      replace hs := hs.step .nil hs'
      clear hs'
      refine stq hf rfl rfl rfl (ex_assign hf rfl) (fun a hf => ?_)
      refine hK9 _ _ ?_
      refine wp_ret ?_
      refine hR2 _ _ ?_
      have eR := some_eq H; subst eR
      exact ret1 Try.results12 hf rfl ⟨_, rfl, ⟨rfl, hs⟩⟩
    · -- not x3 = true
      replace hf := hf.castB (t := 23) rfl (bool_f hc7)
      refine cond_F hf rfl ?_
      refine wp_skip ?_
      refine hN2 _ _ ?_
      refine bnd H (fun s10 hs10 H => ?_)
      refine bnd H (fun s13 hs13 H => ?_)
      refine seq_reg (fun K16 hK16 => ?_)
      refine stepF hf rfl rfl rfl (ex_call cf_30 hf rfl) (idle_NewPredictor.calls k (hs.enter .nil) (Sr.nil _ _) hs10) (fun v w hR a hf => ?_)
      obtain ⟨b11, v12, rfl, hs'⟩ := hR
      replace hs := hs.step .nil hs'
      clear hs'
      refine stepF hf rfl rfl rfl (ex_call cf_30 hf rfl) (idle_NewPredictor.calls k (hs.enter (.k (.k .nil))) (Sr.nil _ _) hs13) (fun v w hR a hf => ?_)
      obtain ⟨b14, v15, rfl, hs'⟩ := hR
      replace hs := hs.step (.k (.k .nil)) hs'
      clear hs'
      refine stq hf rfl rfl rfl (ex_assign hf rfl) (fun a hf => ?_)
      refine stq hf rfl rfl rfl (ex_assign hf rfl) (fun a hf => ?_)
      refine hK16 _ _ ?_
      refine seq_n (fun Q17 hN17 hR17 hX17 => ?_)
      refine seq_reg (fun K18 hK18 => ?_)
      refine stq hf rfl rfl rfl (ex_move hf rfl) (fun a hf => ?_)
      refine stq hf rfl rfl rfl (ex_eqp Try.underlying53 hf rfl rfl) (fun a hf => ?_)
      refine stq hf rfl rfl rfl (ex_move hf rfl) (fun a hf => ?_)
      refine stq hf rfl rfl rfl (ex_move hf rfl) (fun a hf => ?_)
      refine stq hf rfl rfl rfl (ex_eqp Try.underlying53 hf rfl rfl) (fun a hf => ?_)
      refine stq hf rfl rfl rfl (ex_pickF hf rfl rfl) (fun a hf => ?_)
      refine hK18 _ _ ?_
      refine cond_F hf rfl ?_
      refine wp_skip ?_
      refine hN17 _ _ ?_
      refine ck_some H (fun hc19 H => ?_)
      refine seq_reg (fun K20 hK20 => ?_)
      refine stq hf rfl rfl rfl (ex_move hf rfl) (fun a hf => ?_)
      refine stq hf rfl rfl rfl (ex_move hf rfl) (fun a hf => ?_)
      refine stq hf rfl rfl rfl (ex_lenS Try.underlying39 (rsl_isSl (hr.now hs (i := 0) rfl)) hf rfl) (fun a hf => ?_)
      refine stq hf rfl rfl rfl (ex_sub hf rfl rfl) (fun a hf => ?_)
      refine stq hf rfl rfl rfl (ex_slice_l sa_39 (rsl_isSl (hr.now hs (i := 0) rfl)) hc19 hf rfl rfl) (fun a hf => ?_)
      refine stq hf rfl rfl rfl (ex_assign hf rfl) (fun a hf => ?_)
      refine hK20 _ _ ?_
      refine seq_reg (fun K21 hK21 => ?_)
      refine stq hf rfl rfl rfl (ex_assign hf rfl) (fun a hf => ?_)
      refine stq hf rfl rfl rfl (ex_assign hf rfl) (fun a hf => ?_)
      refine hK21 _ _ ?_
      refine bnd H (fun x22 H22 HO22 => ?_)
      clear H
      refine seq_cut (fun a w => ∃ (x22s : (List Int)) (v23 : Value), x22 = .go x22s ∧ Fr a 106 [(1, .int .i64 a1), (2, .int .u64 a2), (7, .pointer (some ⟨b11, 0, none⟩)), (8, .pointer (some ⟨b14, 0, none⟩)), (9, (slv v0 ((IntKind.i64.wrap ((a0.length : Int) - 8)).toNat) ((a0.length : Int).toNat) 1)), (10, .int .u64 1152921504606846976), (11, .int .u64 0)] ∧ St M w0 w [bx b11 72 [v23], osl K_uint64 v23 x22s, bx b14 72 [v15], osl K_uint64 v15 s13]) (fun Q22 hJ22 hR22 hX22 => ?_) (fun a w hJ => ?_)
      · replace H := H22
        refine seq_reg (fun K24 hK24 => ?_)
        refine stq hf rfl rfl rfl (ex_assign hf rfl) (fun a hf => ?_)
        refine hK24 _ _ ?_
        refine block_k (fun Q25 hN25 hR25 hX25 hY25 => ?_)
        refine loop_k (fun n a w => ∃ (y27 : (List Int)) (y28 : Int) (v26 : Value), Fr a 106 [(0, v0), (1, .int .i64 a1), (2, .int .u64 a2), (7, .pointer (some ⟨b11, 0, none⟩)), (8, .pointer (some ⟨b14, 0, none⟩)), (9, (slv v0 ((IntKind.i64.wrap ((a0.length : Int) - 8)).toNat) ((a0.length : Int).toNat) 1)), (10, .int .u64 1152921504606846976), (11, .int .u64 0), (12, .int .i64 y28)] ∧ St M w0 w [bx b11 72 [v26], osl K_uint64 v26 y27, bx b14 72 [v15], osl K_uint64 v15 s13] ∧ law37_IdlePredictorBounds.l1 n a0 y27 y28 = some x22) k ?_ (fun n30 a w hI Q30 hL30 hR30 hX30 => ?_)
        · -- at the start
          replace hs := hs.pick (.k (.c (.k (.k .nil))))
          replace hs := hs.pick (.k (.c (.k (.k .nil))))
          replace hs := hs.pick (.k (.k (.k (.c .nil))))
          replace hs := hs.pick (.k (.k (.k (.c .nil))))
          exact ⟨s10, 0, v12, hf.sub ⟨rfl, rfl, rfl, rfl, rfl, rfl, rfl, rfl, rfl, trivial⟩, hs, H⟩
        · obtain ⟨y27, y28, v26, hf, hs, H⟩ := hI
          cases n30 with
          | zero => exact absurd H (by rw [law37_IdlePredictorBounds.l1.eq_1]; intro h; cases h)
          | succ k30 =>
            replace H := (law37_IdlePredictorBounds.l1.eq_2 ..).symm.trans H
            refine seq_n (fun Q31 hN31 hR31 hX31 => ?_)
            refine seq_reg (fun K32 hK32 => ?_)
            refine stq hf rfl rfl rfl (ex_move hf rfl) (fun a hf => ?_)
            refine stq hf rfl rfl rfl (ex_move hf rfl) (fun a hf => ?_)
            refine stq hf rfl rfl rfl (ex_lenS Try.underlying39 (rsl_isSl (hr.now hs (i := 0) rfl)) hf rfl) (fun a hf => ?_)
            refine stq hf rfl rfl rfl (ex_lss hf rfl rfl) (fun a hf => ?_)
            refine hK32 _ _ ?_
            refine itt H (fun hc33 H => ?_) (fun hc33 H => ?_)
            · -- y28 < (a0.length : Int)
              replace hf := hf.castB (t := 41) rfl (dec_t hc33)
              refine cond_T hf rfl ?_
              refine wp_skip ?_
              refine hN31 _ _ ?_
              refine seq_n (fun Q34 hN34 hR34 hX34 => ?_)
              refine block_k (fun Q35 hN35 hR35 hX35 hY35 => ?_)
              refine ck_some H (fun hc36 H => ?_)
              refine bnd H (fun s37 hs37 H => ?_)
              refine seq_reg (fun K39 hK39 => ?_)
              refine stq hf rfl rfl rfl (ex_move hf rfl) (fun a hf => ?_)
              refine stq hf rfl rfl rfl (ex_move hf rfl) (fun a hf => ?_)
              refine stq hf rfl rfl rfl (ex_move hf rfl) (fun a hf => ?_)
              refine stq hf rfl rfl rfl (ex_indexAddr sa_39 (rsl_isSl (hr.now hs (i := 0) rfl)) hc36.1 hc36.2 hf rfl rfl) (fun a hf => ?_)
              refine stq hf rfl rfl rfl (ex_load sc_23 hf rfl (el_cell (K := K_uint64) (f := 0) (rsl_rd (hr.now hs (i := 0) rfl)) hc36.1 hc36.2 rfl)) (fun a hf => ?_)
              refine stq hf rfl rfl rfl (ex_rem hf rfl rfl (by decide)) (fun a hf => ?_)
              refine stepF hf rfl rfl rfl (ex_call cf_32 hf rfl) (idle_Predictor_Record.calls k30 y27 (Int.tmod (gd 0 a0 y28) 1125899906842624) b11 v26 (hs.enter (.c (.c (.k (.k .nil))))) (Sr.nil _ _) hs37) (fun v w hR a hf => ?_)
              obtain ⟨v38, rfl, hs'⟩ := hR
              replace hs := hs.step (.c (.c (.k (.k .nil)))) hs'
              clear hs'
              refine stq hf rfl rfl rfl (ex_neq hf rfl rfl) (fun a hf => ?_)
              refine hK39 _ _ ?_
              refine itt H (fun hc40 H => ?_) (fun hc40 H => ?_)
              · -- s37.2 = 0
                replace hf := hf.castB (t := 51) rfl (ndec_f hc40)
                refine cond_F hf rfl ?_
                refine wp_skip ?_
                refine hN35 _ _ ?_
                refine hN34 _ _ ?_
                refine region_k (fun K41 hK41 => ?_)
                refine stq hf rfl rfl rfl (ex_move hf rfl) (fun a hf => ?_)
                refine stq hf rfl rfl rfl (ex_add hf rfl rfl) (fun a hf => ?_)
                refine stq hf rfl rfl rfl (ex_assign hf rfl) (fun a hf => ?_)
                refine hK41 _ _ ?_
                exact hL30 k30 _ _ (Nat.lt_succ_self _) ⟨s37.1, (IntKind.i64.wrap (y28 + 1)), v38, hf.sub ⟨rfl, rfl, rfl, rfl, rfl, rfl, rfl, rfl, rfl, trivial⟩, hs, H⟩
              · -- not s37.2 = 0
                replace hf := hf.castB (t := 51) rfl (ndec_t hc40)
                refine cond_T hf rfl ?_
                refine seq_reg (fun K42 hK42 => ?_)
                refine stq hf rfl rfl rfl (ex_assign hf rfl) (fun a hf => ?_)
                refine hK42 _ _ ?_
                refine wp_ret ?_
                refine hR35 _ _ ?_
                refine hR34 _ _ ?_
                refine hR30 _ _ ?_
                refine hR25 _ _ ?_
                have e22 := some_eq H; subst e22; replace H := el_rt HO22
                refine hR22 _ _ ?_
                have eR := some_eq H; subst eR
                replace hs := hs.keep (.d (.d (.d (.d .nil))))
                exact ret1 Try.results12 hf rfl ⟨_, rfl, ⟨rfl, hs⟩⟩
            · -- not y28 < (a0.length : Int)
              replace hf := hf.castB (t := 41) rfl (dec_f hc33)
              refine cond_F hf rfl ?_
              refine wp_exit ?_
              refine hX31 0 _ _ ?_
              refine hX30 0 _ _ ?_
              refine hX25 _ _ ?_
              have e22 := some_eq H; subst e22
              exact hJ22 _ _ ⟨_, v26, rfl, hf.sub ⟨rfl, rfl, rfl, rfl, rfl, rfl, rfl, trivial⟩, hs⟩
      · obtain ⟨x22s, v23, rfl, hf, hs⟩ := hJ
        replace H := el_go HO22
        clear HO22
        refine bnd H (fun x43 H43 HO43 => ?_)
        clear H
        refine seq_cut (fun a w => ∃ (x43s : (List Int) × Int × Int) (v44 : Value), x43 = .go x43s ∧ Fr a 106 [(2, .int .u64 a2), (7, .pointer (some ⟨b11, 0, none⟩)), (8, .pointer (some ⟨b14, 0, none⟩)), (10, .int .u64 x43s.2.1), (11, .int .u64 x43s.2.2)] ∧ St M w0 w [bx b11 72 [v23], osl K_uint64 v23 x22s, bx b14 72 [v44], osl K_uint64 v44 x43s.1]) (fun Q43 hJ43 hR43 hX43 => ?_) (fun a w hJ => ?_)
        · replace H := H43
          refine seq_reg (fun K45 hK45 => ?_)
          refine stq hf rfl rfl rfl (ex_assign hf rfl) (fun a hf => ?_)
          refine hK45 _ _ ?_
          refine block_k (fun Q46 hN46 hR46 hX46 hY46 => ?_)
          refine loop_k (fun n a w => ∃ (y48 : (List Int)) (y49 : Int) (y50 : Int) (y51 : Int) (v47 : Value), Fr a 106 [(1, .int .i64 a1), (2, .int .u64 a2), (7, .pointer (some ⟨b11, 0, none⟩)), (8, .pointer (some ⟨b14, 0, none⟩)), (9, (slv v0 ((IntKind.i64.wrap ((a0.length : Int) - 8)).toNat) ((a0.length : Int).toNat) 1)), (10, .int .u64 y49), (11, .int .u64 y50), (13, .int .i64 y51)] ∧ St M w0 w [bx b11 72 [v23], osl K_uint64 v23 x22s, bx b14 72 [v47], osl K_uint64 v47 y48] ∧ law37_IdlePredictorBounds.l2 n a1 a0 y48 y49 y50 y51 = some x43) k ?_ (fun n53 a w hI Q53 hL53 hR53 hX53 => ?_)
          · -- at the start
            exact ⟨s13, 1152921504606846976, 0, 0, v15, hf.sub ⟨rfl, rfl, rfl, rfl, rfl, rfl, rfl, rfl, trivial⟩, hs, H⟩
          · obtain ⟨y48, y49, y50, y51, v47, hf, hs, H⟩ := hI
            cases n53 with
            | zero => exact absurd H (by rw [law37_IdlePredictorBounds.l2.eq_1]; intro h; cases h)
            | succ k53 =>
              replace H := (law37_IdlePredictorBounds.l2.eq_2 ..).symm.trans H
              refine seq_n (fun Q54 hN54 hR54 hX54 => ?_)
              refine seq_reg (fun K55 hK55 => ?_)
              refine stq hf rfl rfl rfl (ex_move hf rfl) (fun a hf => ?_)
              refine stq hf rfl rfl rfl (ex_lss hf rfl rfl) (fun a hf => ?_)
              refine hK55 _ _ ?_
              refine itt H (fun hc56 H => ?_) (fun hc56 H => ?_)
              · -- y51 < 8
                replace hf := hf.castB (t := 53) rfl (dec_t hc56)
                refine cond_T hf rfl ?_
                refine wp_skip ?_
                refine hN54 _ _ ?_
                refine seq_n (fun Q57 hN57 hR57 hX57 => ?_)
                refine block_k (fun Q58 hN58 hR58 hX58 hY58 => ?_)
                refine bnd H (fun s59 hs59 H => ?_)
                refine ck_some H (fun hc60 H => ?_)
                refine seq_reg (fun K61 hK61 => ?_)
                refine stq hf rfl rfl rfl (ex_move hf rfl) (fun a hf => ?_)
                refine stq hf rfl rfl rfl (ex_move hf rfl) (fun a hf => ?_)
                refine stq hf rfl rfl rfl (ex_move hf rfl) (fun a hf => ?_)
                refine stepF hf rfl rfl rfl (ex_call cf_15 hf rfl) (help_Mod.calls k53 a1 8 (hs.enter (.k (.k (.k (.k .nil))))) (Sr.nil _ _) hs59) (fun v w hR a hf => ?_)
                obtain ⟨rfl, hs'⟩ := hR
                replace hs := hs.step (.k (.k (.k (.k .nil)))) hs'
                clear hs'
                refine stq hf rfl rfl rfl (ex_add hf rfl rfl) (fun a hf => ?_)
                refine stq hf rfl rfl rfl (ex_rem hf rfl rfl (by decide)) (fun a hf => ?_)
                refine stq hf rfl rfl rfl (ex_indexAddr sa_39 (rsl_isSl (rsl_slv _ (hr.now hs (i := 0) rfl) (view_1 hc19) (view_2 hc19))) hc60.1 hc60.2 hf rfl rfl) (fun a hf => ?_)
                refine stq hf rfl rfl rfl (ex_load sc_23 hf rfl (el_cell (K := K_uint64) (f := 0) (rsl_rd (rsl_slv _ (hr.now hs (i := 0) rfl) (view_1 hc19) (view_2 hc19))) hc60.1 hc60.2 rfl)) (fun a hf => ?_)
                refine stq hf rfl rfl rfl (ex_rem hf rfl rfl (by decide)) (fun a hf => ?_)
                refine stq hf rfl rfl rfl (ex_assign hf rfl) (fun a hf => ?_)
                refine hK61 _ _ ?_
                refine seq_reg (fun K62 hK62 => ?_)
                refine stq hf rfl rfl rfl (ex_move hf rfl) (fun a hf => ?_)
                refine stq hf rfl rfl rfl (ex_move hf rfl) (fun a hf => ?_)
                refine stq hf rfl rfl rfl (ex_min hf rfl rfl) (fun a hf => ?_)
                refine stq hf rfl rfl rfl (ex_move hf rfl) (fun a hf => ?_)
                refine stq hf rfl rfl rfl (ex_move hf rfl) (fun a hf => ?_)
                refine stq hf rfl rfl rfl (ex_max hf rfl rfl) (fun a hf => ?_)
                refine stq hf rfl rfl rfl (ex_assign hf rfl) (fun a hf => ?_)
                refine stq hf rfl rfl rfl (ex_assign hf rfl) (fun a hf => ?_)
                refine hK62 _ _ ?_
                refine bnd H (fun s63 hs63 H => ?_)
                refine seq_reg (fun K65 hK65 => ?_)
                refine stq hf rfl rfl rfl (ex_move hf rfl) (fun a hf => ?_)
                refine stq hf rfl rfl rfl (ex_move hf rfl) (fun a hf => ?_)
                refine stepF hf rfl rfl rfl (ex_call cf_32 hf rfl) (idle_Predictor_Record.calls k53 y48 (Int.tmod (gd 0 ((a0.drop ((IntKind.i64.wrap ((a0.length : Int) - 8)).toNat)).take (((a0.length : Int).toNat) - ((IntKind.i64.wrap ((a0.length : Int) - 8)).toNat))) (Int.tmod (IntKind.i64.wrap (y51 + s59)) 8)) 1125899906842624) b14 v47 (hs.enter (.k (.k (.c (.c .nil))))) (Sr.nil _ _) hs63) (fun v w hR a hf => ?_)
                obtain ⟨v64, rfl, hs'⟩ := hR
                replace hs := hs.step (.k (.k (.c (.c .nil)))) hs'
                clear hs'
                refine stq hf rfl rfl rfl (ex_neq hf rfl rfl) (fun a hf => ?_)
                refine hK65 _ _ ?_
                refine itt H (fun hc66 H => ?_) (fun hc66 H => ?_)
                · -- s63.2 = 0
                  replace hf := hf.castB (t := 74) rfl (ndec_f hc66)
                  refine cond_F hf rfl ?_
                  refine wp_skip ?_
                  refine hN58 _ _ ?_
                  refine hN57 _ _ ?_
                  refine region_k (fun K67 hK67 => ?_)
                  refine stq hf rfl rfl rfl (ex_move hf rfl) (fun a hf => ?_)
                  refine stq hf rfl rfl rfl (ex_add hf rfl rfl) (fun a hf => ?_)
                  refine stq hf rfl rfl rfl (ex_assign hf rfl) (fun a hf => ?_)
                  refine hK67 _ _ ?_
                  replace hs := hs.pick (.k (.c (.k (.k .nil))))
                  replace hs := hs.pick (.k (.c (.k (.k .nil))))
                  replace hs := hs.pick (.k (.k (.k (.c .nil))))
                  replace hs := hs.pick (.k (.k (.k (.c .nil))))
                  exact hL53 k53 _ _ (Nat.lt_succ_self _) ⟨s63.1, (mn y49 (Int.tmod (gd 0 ((a0.drop ((IntKind.i64.wrap ((a0.length : Int) - 8)).toNat)).take (((a0.length : Int).toNat) - ((IntKind.i64.wrap ((a0.length : Int) - 8)).toNat))) (Int.tmod (IntKind.i64.wrap (y51 + s59)) 8)) 1125899906842624)), (mx y50 (Int.tmod (gd 0 ((a0.drop ((IntKind.i64.wrap ((a0.length : Int) - 8)).toNat)).take (((a0.length : Int).toNat) - ((IntKind.i64.wrap ((a0.length : Int) - 8)).toNat))) (Int.tmod (IntKind.i64.wrap (y51 + s59)) 8)) 1125899906842624)), (IntKind.i64.wrap (y51 + 1)), v64, hf.sub ⟨rfl, rfl, rfl, rfl, rfl, rfl, rfl, rfl, trivial⟩, hs, H⟩
                · -- not s63.2 = 0
                  replace hf := hf.castB (t := 74) rfl (ndec_t hc66)
                  refine cond_T hf rfl ?_
                  refine seq_reg (fun K68 hK68 => ?_)
                  refine stq hf rfl rfl rfl (ex_assign hf rfl) (fun a hf => ?_)
                  refine hK68 _ _ ?_
                  refine wp_ret ?_
                  refine hR58 _ _ ?_
                  refine hR57 _ _ ?_
                  refine hR53 _ _ ?_
                  refine hR46 _ _ ?_
                  have e43 := some_eq H; subst e43; replace H := el_rt HO43
                  refine hR43 _ _ ?_
                  have eR := some_eq H; subst eR
                  replace hs := hs.keep (.d (.d (.d (.d .nil))))
                  exact ret1 Try.results12 hf rfl ⟨_, rfl, ⟨rfl, hs⟩⟩
              · -- not y51 < 8
                replace hf := hf.castB (t := 53) rfl (dec_f hc56)
                refine cond_F hf rfl ?_
                refine wp_exit ?_
                refine hX54 2 _ _ ?_
                refine hX53 2 _ _ ?_
                refine hX46 _ _ ?_
                have e43 := some_eq H; subst e43
                exact hJ43 _ _ ⟨_, v47, rfl, hf.sub ⟨rfl, rfl, rfl, rfl, rfl, trivial⟩, hs⟩
        · obtain ⟨x43s, v44, rfl, hf, hs⟩ := hJ
          replace H := el_go HO43
          clear HO43
          refine bnd H (fun s69 hs69 H => ?_)
          refine seq_reg (fun K70 hK70 => ?_)
          refine stq hf rfl rfl rfl (ex_move hf rfl) (fun a hf => ?_)
          refine stepF hf rfl rfl rfl (ex_call cf_34 hf rfl) (idle_Predictor_Expected.calls k x22s 1152921504606846976 b11 v23 (hs.enter (.k (.k (.k (.k .nil))))) (Sr.own hs (.k (.k (.k (.k .nil)))) (i := 0) rfl (fun _ h => h) (fun _ h => h) (Sr.own hs (.k (.k (.k (.k .nil)))) (i := 1) rfl osl_rsl (fun _ h => h.1) (Sr.nil _ _))) hs69) (fun v w hR a hf => ?_)
          obtain ⟨rfl, hs'⟩ := hR
          replace hs := hs.step (.k (.k (.k (.k .nil)))) hs'
          clear hs'
          refine stq hf rfl rfl rfl (ex_assign hf rfl) (fun a hf => ?_)
          refine hK70 _ _ ?_
          refine itt H (fun hc71 H => ?_) (fun hc71 H => ?_)
          · -- x43s.2.1 ≤ s69
            refine itt H (fun hc72 H => ?_) (fun hc72 H => ?_)
            · -- s69 ≤ x43s.2.2
              refine bnd H (fun s73 hs73 H => ?_)
              refine itt H (fun hc74 H => ?_) (fun hc74 H => ?_)
              · -- s73 = (mn s69 a2)
                refine bnd H (fun s75 hs75 H => ?_)
                refine bnd H (fun s76 hs76 H => ?_)
                refine itt H (fun hc77 H => ?_) (fun hc77 H => ?_)
                · -- s75 = s76
                  refine bnd H (fun s78 hs78 H => ?_)
                  refine seq_reg (fun K79 hK79 => ?_)
                  refine stq hf rfl rfl rfl (ex_move hf rfl) (fun a hf => ?_)
                  refine stq hf rfl rfl rfl (ex_move hf rfl) (fun a hf => ?_)
                  refine stq hf rfl rfl rfl (ex_geq hf rfl rfl) (fun a hf => ?_)
                  refine stq hf rfl rfl rfl (ex_move hf rfl) (fun a hf => ?_)
                  replace hf := hf.castB (t := 79) rfl (dec_t hc71)
                  replace hf := hf.castB (t := 80) rfl (dec_t hc71)
                  refine stq hf rfl rfl rfl (ex_move hf rfl) (fun a hf => ?_)
                  refine stq hf rfl rfl rfl (ex_move hf rfl) (fun a hf => ?_)
                  refine stq hf rfl rfl rfl (ex_leq hf rfl rfl) (fun a hf => ?_)
                  refine stq hf rfl rfl rfl (ex_pickT hf rfl rfl) (fun a hf => ?_)
                  refine stq hf rfl rfl rfl (ex_move hf rfl) (fun a hf => ?_)
                  replace hf := hf.castB (t := 83) rfl (dec_t hc72)
                  replace hf := hf.castB (t := 84) rfl (dec_t hc72)
                  replace hf := hf.castB (t := 85) rfl (dec_t hc72)
                  refine stq hf rfl rfl rfl (ex_move hf rfl) (fun a hf => ?_)
                  refine stq hf rfl rfl rfl (ex_move hf rfl) (fun a hf => ?_)
                  refine stepF hf rfl rfl rfl (ex_call cf_34 hf rfl) (idle_Predictor_Expected.calls k x22s a2 b11 v23 (hs.enter (.k (.k (.k (.k .nil))))) (Sr.own hs (.k (.k (.k (.k .nil)))) (i := 0) rfl (fun _ h => h) (fun _ h => h) (Sr.own hs (.k (.k (.k (.k .nil)))) (i := 1) rfl osl_rsl (fun _ h => h.1) (Sr.nil _ _))) hs73) (fun v w hR a hf => ?_)
                  obtain ⟨rfl, hs'⟩ := hR
                  replace hs := hs.step (.k (.k (.k (.k .nil)))) hs'
                  clear hs'
                  refine stq hf rfl rfl rfl (ex_move hf rfl) (fun a hf => ?_)
                  refine stq hf rfl rfl rfl (ex_move hf rfl) (fun a hf => ?_)
                  refine stq hf rfl rfl rfl (ex_min hf rfl rfl) (fun a hf => ?_)
                  refine stq hf rfl rfl rfl (ex_eql hf rfl rfl) (fun a hf => ?_)
                  refine stq hf rfl rfl rfl (ex_pickT hf rfl rfl) (fun a hf => ?_)
                  refine stq hf rfl rfl rfl (ex_move hf rfl) (fun a hf => ?_)
                  replace hf := hf.castB (t := 92) rfl (dec_t hc74)
                  replace hf := hf.castB (t := 93) rfl (dec_t hc74)
                  replace hf := hf.castB (t := 94) rfl (dec_t hc74)
                  refine stq hf rfl rfl rfl (ex_move hf rfl) (fun a hf => ?_)
                  refine stq hf rfl rfl rfl (ex_move hf rfl) (fun a hf => ?_)
                  refine stepF hf rfl rfl rfl (ex_call cf_34 hf rfl) (idle_Predictor_Expected.calls k x43s.1 a2 b14 v44 (hs.enter (.k (.k (.k (.k .nil))))) (Sr.own hs (.k (.k (.k (.k .nil)))) (i := 2) rfl (fun _ h => h) (fun _ h => h) (Sr.own hs (.k (.k (.k (.k .nil)))) (i := 3) rfl osl_rsl (fun _ h => h.1) (Sr.nil _ _))) hs75) (fun v w hR a hf => ?_)
                  obtain ⟨rfl, hs'⟩ := hR
                  replace hs := hs.step (.k (.k (.k (.k .nil)))) hs'
                  clear hs'
                  refine stq hf rfl rfl rfl (ex_move hf rfl) (fun a hf => ?_)
                  refine stq hf rfl rfl rfl (ex_move hf rfl) (fun a hf => ?_)
                  refine stepF hf rfl rfl rfl (ex_call cf_34 hf rfl) (idle_Predictor_Expected.calls k x22s a2 b11 v23 (hs.enter (.k (.k (.k (.k .nil))))) (Sr.own hs (.k (.k (.k (.k .nil)))) (i := 0) rfl (fun _ h => h) (fun _ h => h) (Sr.own hs (.k (.k (.k (.k .nil)))) (i := 1) rfl osl_rsl (fun _ h => h.1) (Sr.nil _ _))) hs76) (fun v w hR a hf => ?_)
                  obtain ⟨rfl, hs'⟩ := hR
                  replace hs := hs.step (.k (.k (.k (.k .nil)))) hs'
                  clear hs'
                  refine stq hf rfl rfl rfl (ex_eql hf rfl rfl) (fun a hf => ?_)
                  refine stq hf rfl rfl rfl (ex_pickT hf rfl rfl) (fun a hf => ?_)
                  refine stq hf rfl rfl rfl (ex_move hf rfl) (fun a hf => ?_)
                  replace hf := hf.castB (t := 101) rfl (dec_t hc77)
                  replace hf := hf.castB (t := 102) rfl (dec_t hc77)
                  replace hf := hf.castB (t := 103) rfl (dec_t hc77)
                  refine stepF hf rfl rfl rfl (ex_call cf_13 hf rfl) (law37_awake.calls k (hs.enter (.k (.k (.k (.k .nil))))) (Sr.nil _ _) hs78) (fun v w hR a hf => ?_)
                  obtain ⟨rfl, hs'⟩ := hR
                  replace hs := hs.step (.k (.k (.k (.k .nil)))) hs'
                  clear hs'
                  refine stq hf rfl rfl rfl (ex_pickT hf rfl rfl) (fun a hf => ?_)
                  refine stq hf rfl rfl rfl (ex_assign hf rfl) (fun a hf => ?_)
                  refine hK79 _ _ ?_
                  refine wp_ret ?_
                  have eR := some_eq H; subst eR
                  replace hs := hs.keep (.d (.d (.d (.d .nil))))
                  exact ret1 Try.results12 hf rfl ⟨_, rfl, ⟨rfl, hs⟩⟩
                · -- not s75 = s76
                  refine seq_reg (fun K80 hK80 => ?_)
                  refine stq hf rfl rfl rfl (ex_move hf rfl) (fun a hf => ?_)
                  refine stq hf rfl rfl rfl (ex_move hf rfl) (fun a hf => ?_)
                  refine stq hf rfl rfl rfl (ex_geq hf rfl rfl) (fun a hf => ?_)
                  refine stq hf rfl rfl rfl (ex_move hf rfl) (fun a hf => ?_)
                  replace hf := hf.castB (t := 79) rfl (dec_t hc71)
                  replace hf := hf.castB (t := 80) rfl (dec_t hc71)
                  refine stq hf rfl rfl rfl (ex_move hf rfl) (fun a hf => ?_)
                  refine stq hf rfl rfl rfl (ex_move hf rfl) (fun a hf => ?_)
                  refine stq hf rfl rfl rfl (ex_leq hf rfl rfl) (fun a hf => ?_)
                  refine stq hf rfl rfl rfl (ex_pickT hf rfl rfl) (fun a hf => ?_)
                  refine stq hf rfl rfl rfl (ex_move hf rfl) (fun a hf => ?_)
                  replace hf := hf.castB (t := 83) rfl (dec_t hc72)
                  replace hf := hf.castB (t := 84) rfl (dec_t hc72)
                  replace hf := hf.castB (t := 85) rfl (dec_t hc72)
                  refine stq hf rfl rfl rfl (ex_move hf rfl) (fun a hf => ?_)
                  refine stq hf rfl rfl rfl (ex_move hf rfl) (fun a hf => ?_)
                  refine stepF hf rfl rfl rfl (ex_call cf_34 hf rfl) (idle_Predictor_Expected.calls k x22s a2 b11 v23 (hs.enter (.k (.k (.k (.k .nil))))) (Sr.own hs (.k (.k (.k (.k .nil)))) (i := 0) rfl (fun _ h => h) (fun _ h => h) (Sr.own hs (.k (.k (.k (.k .nil)))) (i := 1) rfl osl_rsl (fun _ h => h.1) (Sr.nil _ _))) hs73) (fun v w hR a hf => ?_)
                  obtain ⟨rfl, hs'⟩ := hR
                  replace hs := hs.step (.k (.k (.k (.k .nil)))) hs'
                  clear hs'
                  refine stq hf rfl rfl rfl (ex_move hf rfl) (fun a hf => ?_)
                  refine stq hf rfl rfl rfl (ex_move hf rfl) (fun a hf => ?_)
                  refine stq hf rfl rfl rfl (ex_min hf rfl rfl) (fun a hf => ?_)
                  refine stq hf rfl rfl rfl (ex_eql hf rfl rfl) (fun a hf => ?_)
                  refine stq hf rfl rfl rfl (ex_pickT hf rfl rfl) (fun a hf => ?_)
                  refine stq hf rfl rfl rfl (ex_move hf rfl) (fun a hf => ?_)
                  replace hf := hf.castB (t := 92) rfl (dec_t hc74)
                  replace hf := hf.castB (t := 93) rfl (dec_t hc74)
                  replace hf := hf.castB (t := 94) rfl (dec_t hc74)
                  refine stq hf rfl rfl rfl (ex_move hf rfl) (fun a hf => ?_)
                  refine stq hf rfl rfl rfl (ex_move hf rfl) (fun a hf => ?_)
                  refine stepF hf rfl rfl rfl (ex_call cf_34 hf rfl) (idle_Predictor_Expected.calls k x43s.1 a2 b14 v44 (hs.enter (.k (.k (.k (.k .nil))))) (Sr.own hs (.k (.k (.k (.k .nil)))) (i := 2) rfl (fun _ h => h) (fun _ h => h) (Sr.own hs (.k (.k (.k (.k .nil)))) (i := 3) rfl osl_rsl (fun _ h => h.1) (Sr.nil _ _))) hs75) (fun v w hR a hf => ?_)
                  obtain ⟨rfl, hs'⟩ := hR
                  replace hs := hs.step (.k (.k (.k (.k .nil)))) hs'
                  clear hs'
                  refine stq hf rfl rfl rfl (ex_move hf rfl) (fun a hf => ?_)
                  refine stq hf rfl rfl rfl (ex_move hf rfl) (fun a hf => ?_)
                  refine stepF hf rfl rfl rfl (ex_call cf_34 hf rfl) (idle_Predictor_Expected.calls k x22s a2 b11 v23 (hs.enter (.k (.k (.k (.k .nil))))) (Sr.own hs (.k (.k (.k (.k .nil)))) (i := 0) rfl (fun _ h => h) (fun _ h => h) (Sr.own hs (.k (.k (.k (.k .nil)))) (i := 1) rfl osl_rsl (fun _ h => h.1) (Sr.nil _ _))) hs76) (fun v w hR a hf => ?_)
                  obtain ⟨rfl, hs'⟩ := hR
                  replace hs := hs.step (.k (.k (.k (.k .nil)))) hs'
                  clear hs'
                  refine stq hf rfl rfl rfl (ex_eql hf rfl rfl) (fun a hf => ?_)
                  refine stq hf rfl rfl rfl (ex_pickT hf rfl rfl) (fun a hf => ?_)
                  refine stq hf rfl rfl rfl (ex_move hf rfl) (fun a hf => ?_)
                  replace hf := hf.castB (t := 101) rfl (dec_f hc77)
                  replace hf := hf.castB (t := 102) rfl (dec_f hc77)
                  replace hf := hf.castB (t := 103) rfl (dec_f hc77)
                  refine stepN hf rfl rfl rfl (fun a hf => ?_)
                  refine stq hf rfl rfl rfl (ex_pickF hf rfl rfl) (fun a hf => ?_)
                  refine stq hf rfl rfl rfl (ex_assign hf rfl) (fun a hf => ?_)
                  refine hK80 _ _ ?_
                  refine wp_ret ?_
                  have eR := some_eq H; subst eR
                  replace hs := hs.keep (.d (.d (.d (.d .nil))))
                  exact ret1 Try.results12 hf rfl ⟨_, rfl, ⟨rfl, hs⟩⟩
              · -- not s73 = (mn s69 a2)
                refine seq_reg (fun K81 hK81 => ?_)
                refine stq hf rfl rfl rfl (ex_move hf rfl) (fun a hf => ?_)
                refine stq hf rfl rfl rfl (ex_move hf rfl) (fun a hf => ?_)
                refine stq hf rfl rfl rfl (ex_geq hf rfl rfl) (fun a hf => ?_)
                refine stq hf rfl rfl rfl (ex_move hf rfl) (fun a hf => ?_)
                replace hf := hf.castB (t := 79) rfl (dec_t hc71)
                replace hf := hf.castB (t := 80) rfl (dec_t hc71)
                refine stq hf rfl rfl rfl (ex_move hf rfl) (fun a hf => ?_)
                refine stq hf rfl rfl rfl (ex_move hf rfl) (fun a hf => ?_)
                refine stq hf rfl rfl rfl (ex_leq hf rfl rfl) (fun a hf => ?_)
                refine stq hf rfl rfl rfl (ex_pickT hf rfl rfl) (fun a hf => ?_)
                refine stq hf rfl rfl rfl (ex_move hf rfl) (fun a hf => ?_)
                replace hf := hf.castB (t := 83) rfl (dec_t hc72)
                replace hf := hf.castB (t := 84) rfl (dec_t hc72)
                replace hf := hf.castB (t := 85) rfl (dec_t hc72)
                refine stq hf rfl rfl rfl (ex_move hf rfl) (fun a hf => ?_)
                refine stq hf rfl rfl rfl (ex_move hf rfl) (fun a hf => ?_)
                refine stepF hf rfl rfl rfl (ex_call cf_34 hf rfl) (idle_Predictor_Expected.calls k x22s a2 b11 v23 (hs.enter (.k (.k (.k (.k .nil))))) (Sr.own hs (.k (.k (.k (.k .nil)))) (i := 0) rfl (fun _ h => h) (fun _ h => h) (Sr.own hs (.k (.k (.k (.k .nil)))) (i := 1) rfl osl_rsl (fun _ h => h.1) (Sr.nil _ _))) hs73) (fun v w hR a hf => ?_)
                obtain ⟨rfl, hs'⟩ := hR
                replace hs := hs.step (.k (.k (.k (.k .nil)))) hs'
                clear hs'
                refine stq hf rfl rfl rfl (ex_move hf rfl) (fun a hf => ?_)
                refine stq hf rfl rfl rfl (ex_move hf rfl) (fun a hf => ?_)
                refine stq hf rfl rfl rfl (ex_min hf rfl rfl) (fun a hf => ?_)
                refine stq hf rfl rfl rfl (ex_eql hf rfl rfl) (fun a hf => ?_)
                refine stq hf rfl rfl rfl (ex_pickT hf rfl rfl) (fun a hf => ?_)
                refine stq hf rfl rfl rfl (ex_move hf rfl) (fun a hf => ?_)
                replace hf := hf.castB (t := 92) rfl (dec_f hc74)
                replace hf := hf.castB (t := 93) rfl (dec_f hc74)
                replace hf := hf.castB (t := 94) rfl (dec_f hc74)
                refine stepN hf rfl rfl rfl (fun a hf => ?_)
                refine stepN hf rfl rfl rfl (fun a hf => ?_)
                refine stepN hf rfl rfl rfl (fun a hf => ?_)
                refine stepN hf rfl rfl rfl (fun a hf => ?_)
                refine stepN hf rfl rfl rfl (fun a hf => ?_)
                refine stepN hf rfl rfl rfl (fun a hf => ?_)
                refine stepN hf rfl rfl rfl (fun a hf => ?_)
                refine stq hf rfl rfl rfl (ex_pickF hf rfl rfl) (fun a hf => ?_)
                refine stq hf rfl rfl rfl (ex_move hf rfl) (fun a hf => ?_)
                refine stepN hf rfl rfl rfl (fun a hf => ?_)
                refine stq hf rfl rfl rfl (ex_pickF hf rfl rfl) (fun a hf => ?_)
                refine stq hf rfl rfl rfl (ex_assign hf rfl) (fun a hf => ?_)
                refine hK81 _ _ ?_
                refine wp_ret ?_
                have eR := some_eq H; subst eR
                replace hs := hs.keep (.d (.d (.d (.d .nil))))
                exact ret1 Try.results12 hf rfl ⟨_, rfl, ⟨rfl, hs⟩⟩
            · -- not s69 ≤ x43s.2.2
              refine seq_reg (fun K82 hK82 => ?_)
              refine stq hf rfl rfl rfl (ex_move hf rfl) (fun a hf => ?_)
              refine stq hf rfl rfl rfl (ex_move hf rfl) (fun a hf => ?_)
              refine stq hf rfl rfl rfl (ex_geq hf rfl rfl) (fun a hf => ?_)
              refine stq hf rfl rfl rfl (ex_move hf rfl) (fun a hf => ?_)
              replace hf := hf.castB (t := 79) rfl (dec_t hc71)
              replace hf := hf.castB (t := 80) rfl (dec_t hc71)
              refine stq hf rfl rfl rfl (ex_move hf rfl) (fun a hf => ?_)
              refine stq hf rfl rfl rfl (ex_move hf rfl) (fun a hf => ?_)
              refine stq hf rfl rfl rfl (ex_leq hf rfl rfl) (fun a hf => ?_)
              refine stq hf rfl rfl rfl (ex_pickT hf rfl rfl) (fun a hf => ?_)
              refine stq hf rfl rfl rfl (ex_move hf rfl) (fun a hf => ?_)
              replace hf := hf.castB (t := 83) rfl (dec_f hc72)
              replace hf := hf.castB (t := 84) rfl (dec_f hc72)
              replace hf := hf.castB (t := 85) rfl (dec_f hc72)
              refine stepN hf rfl rfl rfl (fun a hf => ?_)
              refine stepN hf rfl rfl rfl (fun a hf => ?_)
              refine stepN hf rfl rfl rfl (fun a hf => ?_)
              refine stepN hf rfl rfl rfl (fun a hf => ?_)
              refine stepN hf rfl rfl rfl (fun a hf => ?_)
              refine stepN hf rfl rfl rfl (fun a hf => ?_)
              refine stepN hf rfl rfl rfl (fun a hf => ?_)
              refine stq hf rfl rfl rfl (ex_pickF hf rfl rfl) (fun a hf => ?_)
              refine stq hf rfl rfl rfl (ex_move hf rfl) (fun a hf => ?_)
              refine stepN hf rfl rfl rfl (fun a hf => ?_)
              refine stepN hf rfl rfl rfl (fun a hf => ?_)
              refine stepN hf rfl rfl rfl (fun a hf => ?_)
              refine stepN hf rfl rfl rfl (fun a hf => ?_)
              refine stepN hf rfl rfl rfl (fun a hf => ?_)
              refine stepN hf rfl rfl rfl (fun a hf => ?_)
              refine stepN hf rfl rfl rfl (fun a hf => ?_)
              refine stq hf rfl rfl rfl (ex_pickF hf rfl rfl) (fun a hf => ?_)
              refine stq hf rfl rfl rfl (ex_move hf rfl) (fun a hf => ?_)
              refine stepN hf rfl rfl rfl (fun a hf => ?_)
              refine stq hf rfl rfl rfl (ex_pickF hf rfl rfl) (fun a hf => ?_)
              refine stq hf rfl rfl rfl (ex_assign hf rfl) (fun a hf => ?_)
              refine hK82 _ _ ?_
              refine wp_ret ?_
              have eR := some_eq H; subst eR
              replace hs := hs.keep (.d (.d (.d (.d .nil))))
              exact ret1 Try.results12 hf rfl ⟨_, rfl, ⟨rfl, hs⟩⟩
          · -- not x43s.2.1 ≤ s69
            refine seq_reg (fun K83 hK83 => ?_)
            refine stq hf rfl rfl rfl (ex_move hf rfl) (fun a hf => ?_)
            refine stq hf rfl rfl rfl (ex_move hf rfl) (fun a hf => ?_)
            refine stq hf rfl rfl rfl (ex_geq hf rfl rfl) (fun a hf => ?_)
            refine stq hf rfl rfl rfl (ex_move hf rfl) (fun a hf => ?_)
            replace hf := hf.castB (t := 79) rfl (dec_f hc71)
            replace hf := hf.castB (t := 80) rfl (dec_f hc71)
            refine stepN hf rfl rfl rfl (fun a hf => ?_)
            refine stepN hf rfl rfl rfl (fun a hf => ?_)
            refine stepN hf rfl rfl rfl (fun a hf => ?_)
            refine stq hf rfl rfl rfl (ex_pickF hf rfl rfl) (fun a hf => ?_)
            refine stq hf rfl rfl rfl (ex_move hf rfl) (fun a hf => ?_)
            refine stepN hf rfl rfl rfl (fun a hf => ?_)
            refine stepN hf rfl rfl rfl (fun a hf => ?_)
            refine stepN hf rfl rfl rfl (fun a hf => ?_)
            refine stepN hf rfl rfl rfl (fun a hf => ?_)
            refine stepN hf rfl rfl rfl (fun a hf => ?_)
            refine stepN hf rfl rfl rfl (fun a hf => ?_)
            refine stepN hf rfl rfl rfl (fun a hf => ?_)
            refine stq hf rfl rfl rfl (ex_pickF hf rfl rfl) (fun a hf => ?_)
            refine stq hf rfl rfl rfl (ex_move hf rfl) (fun a hf => ?_)
            refine stepN hf rfl rfl rfl (fun a hf => ?_)
            refine stepN hf rfl rfl rfl (fun a hf => ?_)
            refine stepN hf rfl rfl rfl (fun a hf => ?_)
            refine stepN hf rfl rfl rfl (fun a hf => ?_)
            refine stepN hf rfl rfl rfl (fun a hf => ?_)
            refine stepN hf rfl rfl rfl (fun a hf => ?_)
            refine stepN hf rfl rfl rfl (fun a hf => ?_)
            refine stq hf rfl rfl rfl (ex_pickF hf rfl rfl) (fun a hf => ?_)
            refine stq hf rfl rfl rfl (ex_move hf rfl) (fun a hf => ?_)
            refine stepN hf rfl rfl rfl (fun a hf => ?_)
            refine stq hf rfl rfl rfl (ex_pickF hf rfl rfl) (fun a hf => ?_)
            refine stq hf rfl rfl rfl (ex_assign hf rfl) (fun a hf => ?_)
            refine hK83 _ _ ?_
            refine wp_ret ?_
            have eR := some_eq H; subst eR
            replace hs := hs.keep (.d (.d (.d (.d .nil))))
            exact ret1 Try.results12 hf rfl ⟨_, rfl, ⟨rfl, hs⟩⟩

end Go.Proofs.Ytmjfdknjloidoaa.X
