/- Each function of the machine comes to what its pure function says. -/
import Derived.Test.YthemeobgfgmblaaFc1
import Derived.Test.YthemeobgfgmblaaFc2
import Derived.Test.YthemeobgfgmblaaFb
namespace Go.Proofs.Ythemeobgfgmblaa.X
open Go Go.RowKit Go.Sx
set_option linter.unusedVariables false

set_option maxRecDepth 100000 in
theorem law36_PerfTransitionIsSafe.calls {M : Nat → Prop} {w0 : World} (k : Nat) (a0 : (List OperatingPoint)) (a1 : Int) (a2 : Int) (v0 : Value) {r : Bool} (hs : St M w0 w0 []) (hr : Sr M w0 [rsl K_api_OperatingPoint v0 a0])
    (h : law36_PerfTransitionIsSafe.f k a0 a1 a2 = some r) : Calls Try.prog 5 #[v0, .int .i64 a1, .int .i64 a2] w0 fun e w => ∃ v, e = .returned v ∧ (.bool r = v ∧ St M w0 w []) := by
  have H := (law36_PerfTransitionIsSafe.f.eq_1 ..).symm.trans h
  clear h
  refine enter Try.func5 rfl Try.ntmps5 rfl (fun a hf => ?_)
  refine seq_reg (fun K1 hK1 => ?_)
  refine stq hf rfl rfl rfl (ex_assign hf rfl) (fun a hf => ?_)
  refine hK1 _ _ ?_
  refine seq_n (fun Q2 hN2 hR2 hX2 => ?_)
  refine seq_reg (fun K3 hK3 => ?_)
  refine stq hf rfl rfl rfl (ex_move hf rfl) (fun a hf => ?_)
  refine stq hf rfl rfl rfl (ex_lenS Try.underlying22 (rsl_isSl (hr.now hs (i := 0) rfl)) hf rfl) (fun a hf => ?_)
  refine stq hf rfl rfl rfl (ex_gtr hf rfl rfl) (fun a hf => ?_)
  refine hK3 _ _ ?_
  refine itt H (fun hc4 H => ?_) (fun hc4 H => ?_)
  · -- 20 < (a0.length : Int)
    replace hf := hf.castB (t := 17) rfl (dec_t hc4)
    refine cond_T hf rfl ?_
    refine bnd H (fun s5 hs5 H => ?_)
    refine seq_reg (fun K6 hK6 => ?_)
    refine stepF hf rfl rfl rfl (ex_call cf_12 hf rfl) (law36_awake.calls k (hs.enter .nil) (Sr.nil _ _) hs5) (fun v w hR a hf => ?_)
    obtain ⟨rfl, hs'⟩ := hR
    replace hs := hs.step .nil hs'
    clear hs'
    refine stq hf rfl rfl rfl (ex_assign hf rfl) (fun a hf => ?_)
    refine hK6 _ _ ?_
    refine wp_ret ?_
    refine hR2 _ _ ?_
    have eR := some_eq H; subst eR
    exact ret1 Try.results5 hf rfl ⟨_, rfl, ⟨rfl, hs⟩⟩
  · -- not 20 < (a0.length : Int)
    replace hf := hf.castB (t := 17) rfl (dec_f hc4)
    refine cond_F hf rfl ?_
    refine wp_skip ?_
    refine hN2 _ _ ?_
    refine bnd H (fun s7 hs7 H => ?_)
    refine seq_reg (fun K9 hK9 => ?_)
    refine stq hf rfl rfl rfl (ex_move hf rfl) (fun a hf => ?_)
    refine stepF hf rfl rfl rfl (ex_call cf_13 hf rfl) (law36_Table.calls k a0 v0 (hs.enter .nil) (Sr.old hr hs .nil (i := 0) rfl (fun _ h => h) (fun _ h => h) (Sr.nil _ _)) hs7) (fun v w hR a hf => ?_)
    obtain ⟨v8, rfl, hs'⟩ := hR
    replace hs := hs.step .nil hs'
    clear hs'
    refine stq hf rfl rfl rfl (ex_assign hf rfl) (fun a hf => ?_)
    refine hK9 _ _ ?_
    refine bnd H (fun s10 hs10 H => ?_)
    refine bnd H (fun s11 hs11 H => ?_)
    refine seq_reg (fun K12 hK12 => ?_)
    refine stq hf rfl rfl rfl (ex_move hf rfl) (fun a hf => ?_)
    refine stq hf rfl rfl rfl (ex_move hf rfl) (fun a hf => ?_)
    refine stq hf rfl rfl rfl (ex_lenS Try.underlying22 (rsl_isSl (osl_rsl _ (hs.get (i := 0) rfl))) hf rfl) (fun a hf => ?_)
    refine stepF hf rfl rfl rfl (ex_call cf_14 hf rfl) (help_Mod.calls k a1 (s7.length : Int) (hs.enter (.k .nil)) (Sr.nil _ _) hs10) (fun v w hR a hf => ?_)
    obtain ⟨rfl, hs'⟩ := hR
    replace hs := hs.step (.k .nil) hs'
    clear hs'
    refine stq hf rfl rfl rfl (ex_move hf rfl) (fun a hf => ?_)
    refine stq hf rfl rfl rfl (ex_move hf rfl) (fun a hf => ?_)
    refine stq hf rfl rfl rfl (ex_lenS Try.underlying22 (rsl_isSl (osl_rsl _ (hs.get (i := 0) rfl))) hf rfl) (fun a hf => ?_)
    refine stepF hf rfl rfl rfl (ex_call cf_14 hf rfl) (help_Mod.calls k a2 (s7.length : Int) (hs.enter (.k .nil)) (Sr.nil _ _) hs11) (fun v w hR a hf => ?_)
    obtain ⟨rfl, hs'⟩ := hR
    replace hs := hs.step (.k .nil) hs'
    clear hs'
    refine stq hf rfl rfl rfl (ex_assign hf rfl) (fun a hf => ?_)
    refine stq hf rfl rfl rfl (ex_assign hf rfl) (fun a hf => ?_)
    refine hK12 _ _ ?_
    refine bnd H (fun s13 hs13 H => ?_)
    refine seq_reg (fun K15 hK15 => ?_)
    refine stq hf rfl rfl rfl (ex_move hf rfl) (fun a hf => ?_)
    refine stq hf rfl rfl rfl (ex_move hf rfl) (fun a hf => ?_)
    refine stq hf rfl rfl rfl (ex_move hf rfl) (fun a hf => ?_)
    refine stepF hf rfl rfl rfl (ex_call cf_19 hf rfl) (perf_Transition.calls k s7 s10 s11 v8 (hs.enter (.k .nil)) (Sr.own hs (.k .nil) (i := 0) rfl osl_rsl (fun _ h => h.1) (Sr.nil _ _)) hs13) (fun v w hR a hf => ?_)
    obtain ⟨v14, rfl, hs'⟩ := hR
    replace hs := hs.step (.k .nil) hs'
    clear hs'
    refine stq hf rfl rfl rfl (ex_move hf rfl) (fun a hf => ?_)
    refine stq hf rfl rfl rfl (ex_extract hf rfl rfl) (fun a hf => ?_)
    refine stq hf rfl rfl rfl (ex_extract hf rfl rfl) (fun a hf => ?_)
    refine stq hf rfl rfl rfl (ex_assign hf rfl) (fun a hf => ?_)
    refine stq hf rfl rfl rfl (ex_assign hf rfl) (fun a hf => ?_)
    refine hK15 _ _ ?_
    refine seq_n (fun Q16 hN16 hR16 hX16 => ?_)
    refine bnd H (fun x17 H17 HO17 => ?_)
    clear H
    refine seq_cut (fun a w => Fr a 108 [(7, v8), (8, .int .i64 s10), (9, .int .i64 s11), (10, v14), (44, .bool x17)] ∧ St M w0 w [osl K_api_OperatingPoint v8 s7, osl K_api_PerfOp v14 s13.1]) (fun Q17 hJ17 hR17 hX17 => ?_) (fun a w hJ => ?_)
    · replace H := H17
      refine itt H (fun hc18 H => ?_) (fun hc18 H => ?_)
      · -- s13.2 = 0
        refine bnd H (fun s19 hs19 H => ?_)
        refine region_k (fun K20 hK20 => ?_)
        refine stq hf rfl rfl rfl (ex_move hf rfl) (fun a hf => ?_)
        refine stq hf rfl rfl rfl (ex_neq hf rfl rfl) (fun a hf => ?_)
        refine stq hf rfl rfl rfl (ex_move hf rfl) (fun a hf => ?_)
        replace hf := hf.castB (t := 37) rfl (ndec_f hc18)
        replace hf := hf.castB (t := 38) rfl (ndec_f hc18)
        refine stq hf rfl rfl rfl (ex_move hf rfl) (fun a hf => ?_)
        refine stq hf rfl rfl rfl (ex_move hf rfl) (fun a hf => ?_)
        refine stq hf rfl rfl rfl (ex_move hf rfl) (fun a hf => ?_)
        refine stepF hf rfl rfl rfl (ex_call cf_22 hf rfl) (perf_Safe.calls k s7 s10 s13.1 v8 v14 (hs.enter (.k (.k .nil))) (Sr.own hs (.k (.k .nil)) (i := 1) rfl osl_rsl (fun _ h => h.1) (Sr.own hs (.k (.k .nil)) (i := 0) rfl osl_rsl (fun _ h => h.1) (Sr.nil _ _))) hs19) (fun v w hR a hf => ?_)
        obtain ⟨rfl, hs'⟩ := hR
        replace hs := hs.step (.k (.k .nil)) hs'
        clear hs'
        refine stq hf rfl rfl rfl (ex_not hf rfl) (fun a hf => ?_)
        refine stq hf rfl rfl rfl (ex_pickF hf rfl rfl) (fun a hf => ?_)
        refine hK20 _ _ ?_
        replace hs := hs.pick (.k (.c .nil))
        have e17 := some_eq H; subst e17
        exact hJ17 _ _ ⟨hf.sub ⟨rfl, rfl, rfl, rfl, rfl, trivial⟩, hs⟩
      · -- not s13.2 = 0
        refine region_k (fun K21 hK21 => ?_)
        refine stq hf rfl rfl rfl (ex_move hf rfl) (fun a hf => ?_)
        refine stq hf rfl rfl rfl (ex_neq hf rfl rfl) (fun a hf => ?_)
        refine stq hf rfl rfl rfl (ex_move hf rfl) (fun a hf => ?_)
        replace hf := hf.castB (t := 37) rfl (ndec_t hc18)
        replace hf := hf.castB (t := 38) rfl (ndec_t hc18)
        refine stepN hf rfl rfl rfl (fun a hf => ?_)
        refine stepN hf rfl rfl rfl (fun a hf => ?_)
        refine stepN hf rfl rfl rfl (fun a hf => ?_)
        refine stepN hf rfl rfl rfl (fun a hf => ?_)
        refine stepN hf rfl rfl rfl (fun a hf => ?_)
        refine stq hf rfl rfl rfl (ex_pickT hf rfl rfl) (fun a hf => ?_)
        refine hK21 _ _ ?_
        replace hs := hs.pick (.k (.c .nil))
        have e17 := some_eq H; subst e17
        exact hJ17 _ _ ⟨hf.sub ⟨rfl, rfl, rfl, rfl, rfl, trivial⟩, hs⟩
    · obtain ⟨hf, hs⟩ := hJ
      replace H := HO17
      clear HO17
      refine itt H (fun hc22 H => ?_) (fun hc22 H => ?_)
      · -- x17 = true
        replace hf := hf.castB (t := 44) rfl hc22
        refine cond_T hf rfl ?_
        refine seq_reg (fun K23 hK23 => ?_)
        refine stq hf rfl rfl rfl (ex_assign hf rfl) (fun a hf => ?_)
        refine hK23 _ _ ?_
        refine wp_ret ?_
        refine hR16 _ _ ?_
        have eR := some_eq H; subst eR
        replace hs := hs.keep (.d (.d .nil))
        exact ret1 Try.results5 hf rfl ⟨_, rfl, ⟨rfl, hs⟩⟩
      · -- not x17 = true
        replace hf := hf.castB (t := 44) rfl (bool_f hc22)
        refine cond_F hf rfl ?_
        refine wp_skip ?_
        refine hN16 _ _ ?_
        refine seq_n (fun Q24 hN24 hR24 hX24 => ?_)
        refine ck_some H (fun hc25 H => ?_)
        refine region_d fol 11 [(7, v8), (8, .int .i64 s10), (9, .int .i64 s11), (10, v14)] [(0, v8), (1, .int .i64 s10), (2, .pointer (some (sla v8 (s10.toNat * 3)))), (3, .pointer (some (sla v8 (s10.toNat * 3 + 0)))), (4, .int .u64 ((gd OperatingPoint.zero s7 s10).Frequency)), (5, v8), (6, .int .i64 s10), (7, .pointer (some (sla v8 (s10.toNat * 3)))), (8, .pointer (some (sla v8 (s10.toNat * 3 + 1)))), (9, .int .u64 ((gd OperatingPoint.zero s7 s10).Voltage)), (10, .int .u64 ((gd OperatingPoint.zero s7 s10).Frequency))] [] (fun w => (osl K_api_OperatingPoint v8 s7).ok w ∧ True) (fun w => St M w0 w [osl K_api_OperatingPoint v8 s7, osl K_api_PerfOp v14 s13.1]) hf ⟨rfl, rfl, rfl, rfl, trivial⟩ (by kernel_rfl) (by kernel_rfl) rfl (by decide) ⟨hs.drew.get (i := 0) rfl, trivial⟩ hs.drew (.cons (⟨_, _, rfl, rfl, rfl, rfl, fun a w hR hf => .inl ⟨wanted_yes hf rfl, ex_move hf rfl⟩⟩) (.cons (⟨_, _, rfl, rfl, rfl, rfl, fun a w hR hf => .inl ⟨wanted_yes hf rfl, ex_move hf rfl⟩⟩) (.cons (⟨_, _, rfl, rfl, rfl, rfl, fun a w hR hf => .inl ⟨wanted_yes hf rfl, ex_indexAddr sa_22 (rsl_isSl (osl_rsl _ hR.1)) hc25.1 hc25.2 hf rfl rfl⟩⟩) (.cons (⟨_, _, rfl, rfl, rfl, rfl, fun a w hR hf => .inl ⟨wanted_yes hf rfl, ex_fieldAddrS fa_25_0 rfl hf rfl⟩⟩) (.cons (⟨_, _, rfl, rfl, rfl, rfl, fun a w hR hf => .inl ⟨wanted_yes hf rfl, ex_load sc_23 hf rfl (el_cell (K := K_api_OperatingPoint) (f := 0) (rsl_rd (osl_rsl _ hR.1)) hc25.1 hc25.2 rfl)⟩⟩) (.cons (⟨_, _, rfl, rfl, rfl, rfl, fun a w hR hf => .inl ⟨wanted_yes hf rfl, ex_move hf rfl⟩⟩) (.cons (⟨_, _, rfl, rfl, rfl, rfl, fun a w hR hf => .inl ⟨wanted_yes hf rfl, ex_move hf rfl⟩⟩) (.cons (⟨_, _, rfl, rfl, rfl, rfl, fun a w hR hf => .inl ⟨wanted_yes hf rfl, ex_indexAddr sa_22 (rsl_isSl (osl_rsl _ hR.1)) hc25.1 hc25.2 hf rfl rfl⟩⟩) (.cons (⟨_, _, rfl, rfl, rfl, rfl, fun a w hR hf => .inl ⟨wanted_yes hf rfl, ex_fieldAddrS fa_25_1 rfl hf rfl⟩⟩) (.cons (⟨_, _, rfl, rfl, rfl, rfl, fun a w hR hf => .inl ⟨wanted_yes hf rfl, ex_load sc_23 hf rfl (el_cell (K := K_api_OperatingPoint) (f := 1) (rsl_rd (osl_rsl _ hR.1)) hc25.1 hc25.2 rfl)⟩⟩) (.cons (⟨_, _, rfl, rfl, rfl, rfl, fun a w hR hf => .inl ⟨wanted_yes hf rfl, ex_assign hf rfl⟩⟩) (.nil)))))))))))) (fun K26 hK26 => ?_)
        refine RW.zero (by kernel_rfl) (by kernel_rfl) [(7, v8), (8, .int .i64 s10), (9, .int .i64 s11), (10, v14), (12, .int .u64 ((gd OperatingPoint.zero s7 s10).Frequency)), (54, .int .u64 ((gd OperatingPoint.zero s7 s10).Voltage))] ⟨rfl, rfl, rfl, rfl, rfl, rfl, trivial⟩ (fun a w hR hs hf => ?_)
        refine stq hf rfl rfl rfl (ex_assign hf rfl) (fun a hf => ?_)
        refine hK26 _ _ ?_
        refine hN24 _ _ ?_
        refine bnd H (fun x27 H27 HO27 => ?_)
        clear H
        refine seq_cut (fun a w => Fr a 108 [(7, v8), (8, .int .i64 s10), (9, .int .i64 s11), (10, v14), (12, .int .u64 x27.1), (13, .int .u64 x27.2)] ∧ St M w0 w [osl K_api_OperatingPoint v8 s7, osl K_api_PerfOp v14 s13.1]) (fun Q27 hJ27 hR27 hX27 => ?_) (fun a w hJ => ?_)
        · replace H := H27
          refine seq_reg (fun K28 hK28 => ?_)
          refine stq hf rfl rfl rfl (ex_assign hf rfl) (fun a hf => ?_)
          refine hK28 _ _ ?_
          refine block_k (fun Q29 hN29 hR29 hX29 hY29 => ?_)
          refine loop_k (fun n a w => ∃ (y30 : Int) (y31 : Int) (y32 : Int), Fr a 108 [(7, v8), (8, .int .i64 s10), (9, .int .i64 s11), (10, v14), (12, .int .u64 y30), (13, .int .u64 y31), (14, .int .i64 y32)] ∧ St M w0 w [osl K_api_OperatingPoint v8 s7, osl K_api_PerfOp v14 s13.1] ∧ law36_PerfTransitionIsSafe.l1 n s13 y30 y31 y32 = some x27) k ?_ (fun n34 a w hI Q34 hL34 hR34 hX34 => ?_)
          · -- at the start
            exact ⟨((gd OperatingPoint.zero s7 s10).Frequency), ((gd OperatingPoint.zero s7 s10).Voltage), 0, hf.sub ⟨rfl, rfl, rfl, rfl, rfl, rfl, rfl, trivial⟩, hs, H⟩
          · obtain ⟨y30, y31, y32, hf, hs, H⟩ := hI
            cases n34 with
            | zero => exact absurd H (by rw [law36_PerfTransitionIsSafe.l1.eq_1]; intro h; cases h)
            | succ k34 =>
              replace H := (law36_PerfTransitionIsSafe.l1.eq_2 ..).symm.trans H
              refine seq_n (fun Q35 hN35 hR35 hX35 => ?_)
              refine seq_reg (fun K36 hK36 => ?_)
              refine stq hf rfl rfl rfl (ex_move hf rfl) (fun a hf => ?_)
              refine stq hf rfl rfl rfl (ex_move hf rfl) (fun a hf => ?_)
              refine stq hf rfl rfl rfl (ex_lenS Try.underlying35 (rsl_isSl (osl_rsl _ (hs.get (i := 1) rfl))) hf rfl) (fun a hf => ?_)
              refine stq hf rfl rfl rfl (ex_lss hf rfl rfl) (fun a hf => ?_)
              refine hK36 _ _ ?_
              refine itt H (fun hc37 H => ?_) (fun hc37 H => ?_)
              · -- y32 < (s13.1.length : Int)
                replace hf := hf.castB (t := 58) rfl (dec_t hc37)
                refine cond_T hf rfl ?_
                refine wp_skip ?_
                refine hN35 _ _ ?_
                refine bnd H (fun x38 H38 HO38 => ?_)
                clear H
                refine seq_cut (fun a w => Fr a 108 [(7, v8), (8, .int .i64 s10), (9, .int .i64 s11), (10, v14), (12, .int .u64 x38.1), (13, .int .u64 x38.2), (14, .int .i64 y32)] ∧ St M w0 w [osl K_api_OperatingPoint v8 s7, osl K_api_PerfOp v14 s13.1]) (fun Q38 hJ38 hR38 hX38 => ?_) (fun a w hJ => ?_)
                · replace H := H38
                  refine block_k (fun Q39 hN39 hR39 hX39 hY39 => ?_)
                  refine ck_some H (fun hc40 H => ?_)
                  refine seq_reg (fun K41 hK41 => ?_)
                  refine stq hf rfl rfl rfl (ex_move hf rfl) (fun a hf => ?_)
                  refine stq hf rfl rfl rfl (ex_move hf rfl) (fun a hf => ?_)
                  refine stq hf rfl rfl rfl (ex_indexAddr sa_35 (rsl_isSl (osl_rsl _ (hs.get (i := 1) rfl))) hc40.1 hc40.2 hf rfl rfl) (fun a hf => ?_)
                  refine stq hf rfl rfl rfl (ex_fieldAddrS fa_40_0 rfl hf rfl) (fun a hf => ?_)
                  refine stq hf rfl rfl rfl (ex_load sc_4 hf rfl (el_cell (K := K_api_PerfOp) (f := 0) (rsl_rd (osl_rsl _ (hs.get (i := 1) rfl))) hc40.1 hc40.2 rfl)) (fun a hf => ?_)
                  refine hK41 _ _ ?_
                  refine itt H (fun hc42 H => ?_) (fun hc42 H => ?_)
                  · -- ((gd PerfOp.zero s13.1 y32).Voltage) = true
                    replace hf := hf.castB (t := 65) rfl hc42
                    refine cond_T hf rfl ?_
                    refine region_k (fun K43 hK43 => ?_)
                    refine stq hf rfl rfl rfl (ex_move hf rfl) (fun a hf => ?_)
                    refine stq hf rfl rfl rfl (ex_move hf rfl) (fun a hf => ?_)
                    refine stq hf rfl rfl rfl (ex_indexAddr sa_35 (rsl_isSl (osl_rsl _ (hs.get (i := 1) rfl))) hc40.1 hc40.2 hf rfl rfl) (fun a hf => ?_)
                    refine stq hf rfl rfl rfl (ex_fieldAddrS fa_40_1 rfl hf rfl) (fun a hf => ?_)
                    refine stq hf rfl rfl rfl (ex_load sc_23 hf rfl (el_cell (K := K_api_PerfOp) (f := 1) (rsl_rd (osl_rsl _ (hs.get (i := 1) rfl))) hc40.1 hc40.2 rfl)) (fun a hf => ?_)
                    refine stq hf rfl rfl rfl (ex_assign hf rfl) (fun a hf => ?_)
                    refine hK43 _ _ ?_
                    refine hN39 _ _ ?_
                    have e38 := some_eq H; subst e38
                    exact hJ38 _ _ ⟨hf.sub ⟨rfl, rfl, rfl, rfl, rfl, rfl, rfl, trivial⟩, hs⟩
                  · -- not ((gd PerfOp.zero s13.1 y32).Voltage) = true
                    replace hf := hf.castB (t := 65) rfl (bool_f hc42)
                    refine cond_F hf rfl ?_
                    refine region_k (fun K44 hK44 => ?_)
                    refine stq hf rfl rfl rfl (ex_move hf rfl) (fun a hf => ?_)
                    refine stq hf rfl rfl rfl (ex_move hf rfl) (fun a hf => ?_)
                    refine stq hf rfl rfl rfl (ex_indexAddr sa_35 (rsl_isSl (osl_rsl _ (hs.get (i := 1) rfl))) hc40.1 hc40.2 hf rfl rfl) (fun a hf => ?_)
                    refine stq hf rfl rfl rfl (ex_fieldAddrS fa_40_1 rfl hf rfl) (fun a hf => ?_)
                    refine stq hf rfl rfl rfl (ex_load sc_23 hf rfl (el_cell (K := K_api_PerfOp) (f := 1) (rsl_rd (osl_rsl _ (hs.get (i := 1) rfl))) hc40.1 hc40.2 rfl)) (fun a hf => ?_)
                    refine stq hf rfl rfl rfl (ex_assign hf rfl) (fun a hf => ?_)
                    refine hK44 _ _ ?_
                    refine hN39 _ _ ?_
                    have e38 := some_eq H; subst e38
                    exact hJ38 _ _ ⟨hf.sub ⟨rfl, rfl, rfl, rfl, rfl, rfl, rfl, trivial⟩, hs⟩
                · obtain ⟨hf, hs⟩ := hJ
                  replace H := HO38
                  clear HO38
                  refine region_k (fun K45 hK45 => ?_)
                  refine stq hf rfl rfl rfl (ex_move hf rfl) (fun a hf => ?_)
                  refine stq hf rfl rfl rfl (ex_add hf rfl rfl) (fun a hf => ?_)
                  refine stq hf rfl rfl rfl (ex_assign hf rfl) (fun a hf => ?_)
                  refine hK45 _ _ ?_
                  exact hL34 k34 _ _ (Nat.lt_succ_self _) ⟨x38.1, x38.2, (IntKind.i64.wrap (y32 + 1)), hf.sub ⟨rfl, rfl, rfl, rfl, rfl, rfl, rfl, trivial⟩, hs, H⟩
              · -- not y32 < (s13.1.length : Int)
                replace hf := hf.castB (t := 58) rfl (dec_f hc37)
                refine cond_F hf rfl ?_
                refine wp_exit ?_
                refine hX35 0 _ _ ?_
                refine hX34 0 _ _ ?_
                refine hX29 _ _ ?_
                have e27 := some_eq H; subst e27
                exact hJ27 _ _ ⟨hf.sub ⟨rfl, rfl, rfl, rfl, rfl, rfl, trivial⟩, hs⟩
        · obtain ⟨hf, hs⟩ := hJ
          replace H := HO27
          clear HO27
          refine seq_n (fun Q46 hN46 hR46 hX46 => ?_)
          refine bnd H (fun x47 H47 HO47 => ?_)
          clear H
          refine seq_cut (fun a w => Fr a 108 [(7, v8), (8, .int .i64 s10), (10, v14), (91, .bool x47)] ∧ St M w0 w [osl K_api_OperatingPoint v8 s7, osl K_api_PerfOp v14 s13.1]) (fun Q47 hJ47 hR47 hX47 => ?_) (fun a w hJ => ?_)
          · replace H := H47
            refine ck_some H (fun hc48 H => ?_)
            refine itt H (fun hc49 H => ?_) (fun hc49 H => ?_)
            · -- x27.1 = ((gd OperatingPoint.zero s7 s11).Frequency)
              refine region_k (fun K50 hK50 => ?_)
              refine stq hf rfl rfl rfl (ex_move hf rfl) (fun a hf => ?_)
              refine stq hf rfl rfl rfl (ex_move hf rfl) (fun a hf => ?_)
              refine stq hf rfl rfl rfl (ex_move hf rfl) (fun a hf => ?_)
              refine stq hf rfl rfl rfl (ex_indexAddr sa_22 (rsl_isSl (osl_rsl _ (hs.get (i := 0) rfl))) hc48.1 hc48.2 hf rfl rfl) (fun a hf => ?_)
              refine stq hf rfl rfl rfl (ex_fieldAddrS fa_25_0 rfl hf rfl) (fun a hf => ?_)
              refine stq hf rfl rfl rfl (ex_load sc_23 hf rfl (el_cell (K := K_api_OperatingPoint) (f := 0) (rsl_rd (osl_rsl _ (hs.get (i := 0) rfl))) hc48.1 hc48.2 rfl)) (fun a hf => ?_)
              refine stq hf rfl rfl rfl (ex_neq hf rfl rfl) (fun a hf => ?_)
              refine stq hf rfl rfl rfl (ex_move hf rfl) (fun a hf => ?_)
              replace hf := hf.castB (t := 82) rfl (ndec_f hc49)
              replace hf := hf.castB (t := 83) rfl (ndec_f hc49)
              refine stq hf rfl rfl rfl (ex_move hf rfl) (fun a hf => ?_)
              refine stq hf rfl rfl rfl (ex_move hf rfl) (fun a hf => ?_)
              refine stq hf rfl rfl rfl (ex_move hf rfl) (fun a hf => ?_)
              refine stq hf rfl rfl rfl (ex_indexAddr sa_22 (rsl_isSl (osl_rsl _ (hs.get (i := 0) rfl))) hc48.1 hc48.2 hf rfl rfl) (fun a hf => ?_)
              refine stq hf rfl rfl rfl (ex_fieldAddrS fa_25_1 rfl hf rfl) (fun a hf => ?_)
              refine stq hf rfl rfl rfl (ex_load sc_23 hf rfl (el_cell (K := K_api_OperatingPoint) (f := 1) (rsl_rd (osl_rsl _ (hs.get (i := 0) rfl))) hc48.1 hc48.2 rfl)) (fun a hf => ?_)
              refine stq hf rfl rfl rfl (ex_neq hf rfl rfl) (fun a hf => ?_)
              refine stq hf rfl rfl rfl (ex_pickF hf rfl rfl) (fun a hf => ?_)
              refine hK50 _ _ ?_
              have e47 := some_eq H; subst e47
              exact hJ47 _ _ ⟨hf.sub ⟨rfl, rfl, rfl, rfl, trivial⟩, hs⟩
            · -- not x27.1 = ((gd OperatingPoint.zero s7 s11).Frequency)
              refine region_k (fun K51 hK51 => ?_)
              refine stq hf rfl rfl rfl (ex_move hf rfl) (fun a hf => ?_)
              refine stq hf rfl rfl rfl (ex_move hf rfl) (fun a hf => ?_)
              refine stq hf rfl rfl rfl (ex_move hf rfl) (fun a hf => ?_)
              refine stq hf rfl rfl rfl (ex_indexAddr sa_22 (rsl_isSl (osl_rsl _ (hs.get (i := 0) rfl))) hc48.1 hc48.2 hf rfl rfl) (fun a hf => ?_)
              refine stq hf rfl rfl rfl (ex_fieldAddrS fa_25_0 rfl hf rfl) (fun a hf => ?_)
              refine stq hf rfl rfl rfl (ex_load sc_23 hf rfl (el_cell (K := K_api_OperatingPoint) (f := 0) (rsl_rd (osl_rsl _ (hs.get (i := 0) rfl))) hc48.1 hc48.2 rfl)) (fun a hf => ?_)
              refine stq hf rfl rfl rfl (ex_neq hf rfl rfl) (fun a hf => ?_)
              refine stq hf rfl rfl rfl (ex_move hf rfl) (fun a hf => ?_)
              replace hf := hf.castB (t := 82) rfl (ndec_t hc49)
              replace hf := hf.castB (t := 83) rfl (ndec_t hc49)
              refine stepN hf rfl rfl rfl (fun a hf => ?_)
              refine stepN hf rfl rfl rfl (fun a hf => ?_)
              refine stepN hf rfl rfl rfl (fun a hf => ?_)
              refine stepN hf rfl rfl rfl (fun a hf => ?_)
              refine stepN hf rfl rfl rfl (fun a hf => ?_)
              refine stepN hf rfl rfl rfl (fun a hf => ?_)
              refine stepN hf rfl rfl rfl (fun a hf => ?_)
              refine stq hf rfl rfl rfl (ex_pickT hf rfl rfl) (fun a hf => ?_)
              refine hK51 _ _ ?_
              have e47 := some_eq H; subst e47
              exact hJ47 _ _ ⟨hf.sub ⟨rfl, rfl, rfl, rfl, trivial⟩, hs⟩
          · obtain ⟨hf, hs⟩ := hJ
            replace H := HO47
            clear HO47
            refine itt H (fun hc52 H => ?_) (fun hc52 H => ?_)
            · -- x47 = true
              replace hf := hf.castB (t := 91) rfl hc52
              refine cond_T hf rfl ?_
              refine seq_reg (fun K53 hK53 => ?_)
              refine stq hf rfl rfl rfl (ex_assign hf rfl) (fun a hf => ?_)
              refine hK53 _ _ ?_
              refine wp_ret ?_
              refine hR46 _ _ ?_
              have eR := some_eq H; subst eR
              replace hs := hs.keep (.d (.d .nil))
              exact ret1 Try.results5 hf rfl ⟨_, rfl, ⟨rfl, hs⟩⟩
            · -- not x47 = true
              replace hf := hf.castB (t := 91) rfl (bool_f hc52)
              refine cond_F hf rfl ?_
              refine wp_skip ?_
              refine hN46 _ _ ?_
              refine seq_n (fun Q54 hN54 hR54 hX54 => ?_)
              refine bnd H (fun x55 H55 HO55 => ?_)
              clear H
              refine seq_cut (fun a w => Fr a 108 [(106, .bool x55)] ∧ St M w0 w []) (fun Q55 hJ55 hR55 hX55 => ?_) (fun a w hJ => ?_)
              · replace H := H55
                refine itt H (fun hc56 H => ?_) (fun hc56 H => ?_)
                · -- (s13.1.length : Int) = 2
                  refine ck_some H (fun hc57 H => ?_)
                  refine ck_some H (fun hc58 H => ?_)
                  refine bnd H (fun s60 hs60 H => ?_)
                  refine region_d fol 15 [(7, v8), (8, .int .i64 s10), (10, v14)] [(0, v14), (1, .int .i64 (s13.1.length : Int)), (2, .bool true), (3, .bool true), (4, v8), (5, .int .i64 s10), (6, v14), (7, .pointer (some (sla v14 ((1 : Int).toNat * 2)))), (8, .agg #[.bool ((gd PerfOp.zero s13.1 1).Voltage), .int .u64 ((gd PerfOp.zero s13.1 1).Value)]), (9, v14), (10, .pointer (some (sla v14 ((0 : Int).toNat * 2)))), (11, .agg #[.bool ((gd PerfOp.zero s13.1 0).Voltage), .int .u64 ((gd PerfOp.zero s13.1 0).Value)])] [12, 13] (fun w => (osl K_api_PerfOp v14 s13.1).ok w ∧ True) (fun w => St M w0 w [osl K_api_OperatingPoint v8 s7, osl K_api_PerfOp v14 s13.1]) hf ⟨rfl, rfl, rfl, trivial⟩ (by kernel_rfl) (by kernel_rfl) rfl (by decide) ⟨hs.drew.get (i := 1) rfl, trivial⟩ hs.drew (.cons (⟨_, _, rfl, rfl, rfl, rfl, fun a w hR hf => .inl ⟨wanted_yes hf rfl, ex_move hf rfl⟩⟩) (.cons (⟨_, _, rfl, rfl, rfl, rfl, fun a w hR hf => .inl ⟨wanted_yes hf rfl, ex_lenS Try.underlying35 (rsl_isSl (osl_rsl _ hR.1)) hf rfl⟩⟩) (.cons (⟨_, _, rfl, rfl, rfl, rfl, fun a w hR hf => .inl ⟨wanted_yes hf rfl, ex_castB (ex_eql hf rfl rfl) (dec_t hc56)⟩⟩) (.cons (⟨_, _, rfl, rfl, rfl, rfl, fun a w hR hf => .inl ⟨wanted_yes hf rfl, ex_move hf rfl⟩⟩) (.cons (⟨_, _, rfl, rfl, rfl, rfl, fun a w hR hf => .inl ⟨wanted_yes hf rfl, ex_move hf rfl⟩⟩) (.cons (⟨_, _, rfl, rfl, rfl, rfl, fun a w hR hf => .inl ⟨wanted_yes hf rfl, ex_move hf rfl⟩⟩) (.cons (⟨_, _, rfl, rfl, rfl, rfl, fun a w hR hf => .inl ⟨wanted_yes hf rfl, ex_move hf rfl⟩⟩) (.cons (⟨_, _, rfl, rfl, rfl, rfl, fun a w hR hf => .inl ⟨wanted_yes hf rfl, ex_indexAddr sa_35 (rsl_isSl (osl_rsl _ hR.1)) hc57.1 hc57.2 hf rfl rfl⟩⟩) (.cons (⟨_, _, rfl, rfl, rfl, rfl, fun a w hR hf => .inl ⟨wanted_yes hf rfl, ex_loadA (cs := [.bool ((gd PerfOp.zero s13.1 1).Voltage), .int .u64 ((gd PerfOp.zero s13.1 1).Value)]) ag_40 hf rfl (el_cells (K := K_api_PerfOp) (rsl_rd (osl_rsl _ hR.1)) hc57.1 hc57.2 rfl)⟩⟩) (.cons (⟨_, _, rfl, rfl, rfl, rfl, fun a w hR hf => .inl ⟨wanted_yes hf rfl, ex_move hf rfl⟩⟩) (.cons (⟨_, _, rfl, rfl, rfl, rfl, fun a w hR hf => .inl ⟨wanted_yes hf rfl, ex_indexAddr sa_35 (rsl_isSl (osl_rsl _ hR.1)) hc58.1 hc58.2 hf rfl rfl⟩⟩) (.cons (⟨_, _, rfl, rfl, rfl, rfl, fun a w hR hf => .inl ⟨wanted_yes hf rfl, ex_loadA (cs := [.bool ((gd PerfOp.zero s13.1 0).Voltage), .int .u64 ((gd PerfOp.zero s13.1 0).Value)]) ag_40 hf rfl (el_cells (K := K_api_PerfOp) (rsl_rd (osl_rsl _ hR.1)) hc58.1 hc58.2 rfl)⟩⟩) (.nil))))))))))))) (fun K61 hK61 => ?_)
                  refine RW.one 12 (by kernel_rfl) (by kernel_rfl) rfl (fun d hd => by cases hd; rfl) [(95, .bool true), (100, .agg #[.bool ((gd PerfOp.zero s13.1 1).Voltage), .int .u64 ((gd PerfOp.zero s13.1 1).Value)]), (103, .agg #[.bool ((gd PerfOp.zero s13.1 0).Voltage), .int .u64 ((gd PerfOp.zero s13.1 0).Value)])] ⟨rfl, rfl, rfl, trivial⟩ (fun a w hR hs hf => ⟨wanted_yes hf rfl, ?_⟩)
                  refine estep_v (er_buildSlice (K := K_api_PerfOp) (xs := [(⟨((gd PerfOp.zero s13.1 1).Voltage), ((gd PerfOp.zero s13.1 1).Value)⟩ : PerfOp), (⟨((gd PerfOp.zero s13.1 0).Voltage), ((gd PerfOp.zero s13.1 0).Value)⟩ : PerfOp)]) hs Try.underlying35 ep_40 rfl rfl hf rfl (.cons rfl (.cons rfl .nil)) rfl rfl) (fun v59 w hs => ?_)
                  refine ⟨[], [(12, v59), (0, v14), (1, .int .i64 (s13.1.length : Int)), (2, .bool true), (3, .bool true), (4, v8), (5, .int .i64 s10), (6, v14), (7, .pointer (some (sla v14 ((1 : Int).toNat * 2)))), (8, .agg #[.bool ((gd PerfOp.zero s13.1 1).Voltage), .int .u64 ((gd PerfOp.zero s13.1 1).Value)]), (9, v14), (10, .pointer (some (sla v14 ((0 : Int).toNat * 2)))), (11, .agg #[.bool ((gd PerfOp.zero s13.1 0).Voltage), .int .u64 ((gd PerfOp.zero s13.1 0).Value)])], [13], (fun _ => True), (fun w => St M w0 w [osl K_api_PerfOp v59 [(⟨((gd PerfOp.zero s13.1 1).Voltage), ((gd PerfOp.zero s13.1 1).Value)⟩ : PerfOp), (⟨((gd PerfOp.zero s13.1 0).Voltage), ((gd PerfOp.zero s13.1 0).Value)⟩ : PerfOp)], osl K_api_OperatingPoint v8 s7, osl K_api_PerfOp v14 s13.1]), rfl, rfl, ⟨hs.get (i := 2) rfl, trivial⟩, trivial, hs, (by kernel_rfl), .nil, ?_⟩
                  refine RW.one 13 (by kernel_rfl) (by kernel_rfl) rfl (fun d hd => by cases hd; rfl) [(95, .bool true), (96, v8), (97, .int .i64 s10), (104, v59)] ⟨rfl, rfl, rfl, rfl, trivial⟩ (fun a w hR hs hf => ⟨wanted_yes hf rfl, ?_⟩)
                  refine estep_f (ex_call cf_22 hf rfl) (perf_Safe.calls k s7 s10 [(⟨((gd PerfOp.zero s13.1 1).Voltage), ((gd PerfOp.zero s13.1 1).Value)⟩ : PerfOp), (⟨((gd PerfOp.zero s13.1 0).Voltage), ((gd PerfOp.zero s13.1 0).Value)⟩ : PerfOp)] v8 v59 (hs.enter (.k (.k (.k .nil)))) (Sr.own hs (.k (.k (.k .nil))) (i := 1) rfl osl_rsl (fun _ h => h.1) (Sr.own hs (.k (.k (.k .nil))) (i := 0) rfl osl_rsl (fun _ h => h.1) (Sr.nil _ _))) hs60) (fun v w hR => ?_)
                  obtain ⟨rfl, hs'⟩ := hR
                  replace hs := hs.step (.k (.k (.k .nil))) hs'
                  clear hs'
                  refine ⟨[(14, .bool s60)], [(14, .bool s60), (13, .bool s60), (12, v59), (0, v14), (1, .int .i64 (s13.1.length : Int)), (2, .bool true), (3, .bool true), (4, v8), (5, .int .i64 s10), (6, v14), (7, .pointer (some (sla v14 ((1 : Int).toNat * 2)))), (8, .agg #[.bool ((gd PerfOp.zero s13.1 1).Voltage), .int .u64 ((gd PerfOp.zero s13.1 1).Value)]), (9, v14), (10, .pointer (some (sla v14 ((0 : Int).toNat * 2)))), (11, .agg #[.bool ((gd PerfOp.zero s13.1 0).Voltage), .int .u64 ((gd PerfOp.zero s13.1 0).Value)])], [], (fun _ => True), (fun w => St M w0 w [osl K_api_PerfOp v59 [(⟨((gd PerfOp.zero s13.1 1).Voltage), ((gd PerfOp.zero s13.1 1).Value)⟩ : PerfOp), (⟨((gd PerfOp.zero s13.1 0).Voltage), ((gd PerfOp.zero s13.1 0).Value)⟩ : PerfOp)], osl K_api_OperatingPoint v8 s7, osl K_api_PerfOp v14 s13.1]), rfl, rfl, ⟨⟨hs.get (i := 2) rfl, trivial⟩, trivial⟩, trivial, hs, (by kernel_rfl), .cons (⟨_, _, rfl, rfl, rfl, rfl, fun a w hR hf => .inl ⟨wanted_yes hf rfl, ex_pickT hf rfl rfl⟩⟩) (.nil), ?_⟩
                  refine RW.zero (by kernel_rfl) (by kernel_rfl) [(106, .bool s60)] ⟨rfl, trivial⟩ (fun a w hR hs hf => ?_)
                  refine hK61 _ _ ?_
                  replace hs := hs.keep (.d (.d (.d .nil)))
                  have e55 := some_eq H; subst e55
                  exact hJ55 _ _ ⟨hf.sub ⟨rfl, trivial⟩, hs⟩
                · -- not (s13.1.length : Int) = 2
                  refine region_d fol 15 [(7, v8), (8, .int .i64 s10), (10, v14)] [(0, v14), (1, .int .i64 (s13.1.length : Int)), (2, .bool false), (3, .bool false), (4, undef), (5, undef), (6, undef), (7, undef), (8, undef), (9, undef), (10, undef), (11, undef), (12, undef), (13, undef), (14, .bool false)] [] (fun w => (osl K_api_PerfOp v14 s13.1).ok w ∧ True) (fun w => St M w0 w [osl K_api_OperatingPoint v8 s7, osl K_api_PerfOp v14 s13.1]) hf ⟨rfl, rfl, rfl, trivial⟩ (by kernel_rfl) (by kernel_rfl) rfl (by decide) ⟨hs.drew.get (i := 1) rfl, trivial⟩ hs.drew (.cons (⟨_, _, rfl, rfl, rfl, rfl, fun a w hR hf => .inl ⟨wanted_yes hf rfl, ex_move hf rfl⟩⟩) (.cons (⟨_, _, rfl, rfl, rfl, rfl, fun a w hR hf => .inl ⟨wanted_yes hf rfl, ex_lenS Try.underlying35 (rsl_isSl (osl_rsl _ hR.1)) hf rfl⟩⟩) (.cons (⟨_, _, rfl, rfl, rfl, rfl, fun a w hR hf => .inl ⟨wanted_yes hf rfl, ex_castB (ex_eql hf rfl rfl) (dec_f hc56)⟩⟩) (.cons (⟨_, _, rfl, rfl, rfl, rfl, fun a w hR hf => .inl ⟨wanted_yes hf rfl, ex_move hf rfl⟩⟩) (.cons (⟨_, _, rfl, rfl, rfl, rfl, fun a w hR hf => .inr ⟨wanted_no hf rfl, rfl⟩⟩) (.cons (⟨_, _, rfl, rfl, rfl, rfl, fun a w hR hf => .inr ⟨wanted_no hf rfl, rfl⟩⟩) (.cons (⟨_, _, rfl, rfl, rfl, rfl, fun a w hR hf => .inr ⟨wanted_no hf rfl, rfl⟩⟩) (.cons (⟨_, _, rfl, rfl, rfl, rfl, fun a w hR hf => .inr ⟨wanted_no hf rfl, rfl⟩⟩) (.cons (⟨_, _, rfl, rfl, rfl, rfl, fun a w hR hf => .inr ⟨wanted_no hf rfl, rfl⟩⟩) (.cons (⟨_, _, rfl, rfl, rfl, rfl, fun a w hR hf => .inr ⟨wanted_no hf rfl, rfl⟩⟩) (.cons (⟨_, _, rfl, rfl, rfl, rfl, fun a w hR hf => .inr ⟨wanted_no hf rfl, rfl⟩⟩) (.cons (⟨_, _, rfl, rfl, rfl, rfl, fun a w hR hf => .inr ⟨wanted_no hf rfl, rfl⟩⟩) (.cons (⟨_, _, rfl, rfl, rfl, rfl, fun a w hR hf => .inr ⟨wanted_no hf rfl, rfl⟩⟩) (.cons (⟨_, _, rfl, rfl, rfl, rfl, fun a w hR hf => .inr ⟨wanted_no hf rfl, rfl⟩⟩) (.cons (⟨_, _, rfl, rfl, rfl, rfl, fun a w hR hf => .inl ⟨wanted_yes hf rfl, ex_pickF hf rfl rfl⟩⟩) (.nil)))))))))))))))) (fun K62 hK62 => ?_)
                  refine RW.zero (by kernel_rfl) (by kernel_rfl) [(106, .bool false)] ⟨rfl, trivial⟩ (fun a w hR hs hf => ?_)
                  refine hK62 _ _ ?_
                  replace hs := hs.keep (.d (.d .nil))
                  have e55 := some_eq H; subst e55
                  exact hJ55 _ _ ⟨hf.sub ⟨rfl, trivial⟩, hs⟩
              · obtain ⟨hf, hs⟩ := hJ
                replace H := HO55
                clear HO55
                refine itt H (fun hc63 H => ?_) (fun hc63 H => ?_)
                · -- x55 = true
                  replace hf := hf.castB (t := 106) rfl hc63
                  refine cond_T hf rfl ?_
                  refine seq_reg (fun K64 hK64 => ?_)
                  refine stq hf rfl rfl rfl (ex_assign hf rfl) (fun a hf => ?_)
                  refine hK64 _ _ ?_
                  refine wp_ret ?_
                  refine hR54 _ _ ?_
                  have eR := some_eq H; subst eR
                  exact ret1 Try.results5 hf rfl ⟨_, rfl, ⟨rfl, hs⟩⟩
                · -- not x55 = true
                  replace hf := hf.castB (t := 106) rfl (bool_f hc63)
                  refine cond_F hf rfl ?_
                  refine wp_skip ?_
                  refine hN54 _ _ ?_
                  refine bnd H (fun s65 hs65 H => ?_)
                  refine seq_reg (fun K66 hK66 => ?_)
                  refine stepF hf rfl rfl rfl (ex_call cf_12 hf rfl) (law36_awake.calls k (hs.enter .nil) (Sr.nil _ _) hs65) (fun v w hR a hf => ?_)
                  obtain ⟨rfl, hs'⟩ := hR
                  replace hs := hs.step .nil hs'
                  clear hs'
                  refine stq hf rfl rfl rfl (ex_assign hf rfl) (fun a hf => ?_)
                  refine hK66 _ _ ?_
                  refine wp_ret ?_
                  have eR := some_eq H; subst eR
                  exact ret1 Try.results5 hf rfl ⟨_, rfl, ⟨rfl, hs⟩⟩

end Go.Proofs.Ythemeobgfgmblaa.X
