/- Each function of the machine comes to what its pure function says. -/
import Derived.Test.YthemeobgfgmblaaFc1
import Derived.Test.YthemeobgfgmblaaFc2
import Derived.Test.YthemeobgfgmblaaFb
namespace Go.Proofs.Ythemeobgfgmblaa.X
open Go Go.RowKit Go.Sx
set_option linter.unusedVariables false

set_option maxRecDepth 100000 in
theorem law36_PerfReachesFrequency.calls {M : Nat → Prop} {w0 : World} (k : Nat) (a0 : (List OperatingPoint)) (a1 : Int) (a2 : Int) (v0 : Value) {r : Bool} (hs : St M w0 w0 []) (hr : Sr M w0 [rsl K_api_OperatingPoint v0 a0])
    (h : law36_PerfReachesFrequency.f k a0 a1 a2 = some r) : Calls Try.prog 7 #[v0, .int .i64 a1, .int .u64 a2] w0 fun e w => ∃ v, e = .returned v ∧ (.bool r = v ∧ St M w0 w []) := by
  have H := (law36_PerfReachesFrequency.f.eq_1 ..).symm.trans h
  clear h
  refine enter Try.func7 rfl Try.ntmps7 rfl (fun a hf => ?_)
  refine seq_reg (fun K1 hK1 => ?_)
  refine stq hf rfl rfl rfl (ex_assign hf rfl) (fun a hf => ?_)
  refine hK1 _ _ ?_
  refine seq_n (fun Q2 hN2 hR2 hX2 => ?_)
  refine seq_reg (fun K3 hK3 => ?_)
  refine stq hf rfl rfl rfl (ex_move hf rfl) (fun a hf => ?_)
  refine stq hf rfl rfl rfl (ex_lenS Try.underlying22 (rsl_isSl (hr.now hs (i := 0) rfl)) hf rfl) (fun a hf => ?_)
  refine stq hf rfl rfl rfl (ex_gtr hf rfl rfl) (fun a hf => ?_)
  refine hK3 _ _ ?_
  refine itt H (fun hc4 H => ?_) (fun hc4 H => ?_)
  · -- 20 < (a0.length : Int)
    replace hf := hf.castB (t := 19) rfl (dec_t hc4)
    refine cond_T hf rfl ?_
    refine bnd H (fun s5 hs5 H => ?_)
    refine seq_reg (fun K6 hK6 => ?_)
    refine stepF hf rfl rfl rfl (ex_call cf_12 hf rfl) (law36_awake.calls k (hs.enter .nil) (Sr.nil _ _) hs5) (fun v w hR a hf => ?_)
    obtain ⟨rfl, hs'⟩ := hR
    replace hs := hs.step .nil hs'
    clear hs'
    refine stq hf rfl rfl rfl (ex_assign hf rfl) (fun a hf => ?_)
    refine hK6 _ _ ?_
    refine wp_ret ?_
    refine hR2 _ _ ?_
    have eR := some_eq H; subst eR
    exact ret1 Try.results7 hf rfl ⟨_, rfl, ⟨rfl, hs⟩⟩
  · -- not 20 < (a0.length : Int)
    replace hf := hf.castB (t := 19) rfl (dec_f hc4)
    refine cond_F hf rfl ?_
    refine wp_skip ?_
    refine hN2 _ _ ?_
    refine bnd H (fun s7 hs7 H => ?_)
    refine seq_reg (fun K9 hK9 => ?_)
    refine stq hf rfl rfl rfl (ex_move hf rfl) (fun a hf => ?_)
    refine stepF hf rfl rfl rfl (ex_call cf_13 hf rfl) (law36_Table.calls k a0 v0 (hs.enter .nil) (Sr.old hr hs .nil (i := 0) rfl (fun _ h => h) (fun _ h => h) (Sr.nil _ _)) hs7) (fun v w hR a hf => ?_)
    obtain ⟨v8, rfl, hs'⟩ := hR
    replace hs := hs.step .nil hs'
    clear hs'
    refine stq hf rfl rfl rfl (ex_assign hf rfl) (fun a hf => ?_)
    refine hK9 _ _ ?_
    refine bnd H (fun s10 hs10 H => ?_)
    refine seq_reg (fun K11 hK11 => ?_)
    refine stq hf rfl rfl rfl (ex_move hf rfl) (fun a hf => ?_)
    refine stq hf rfl rfl rfl (ex_move hf rfl) (fun a hf => ?_)
    refine stq hf rfl rfl rfl (ex_lenS Try.underlying22 (rsl_isSl (osl_rsl _ (hs.get (i := 0) rfl))) hf rfl) (fun a hf => ?_)
    refine stepF hf rfl rfl rfl (ex_call cf_14 hf rfl) (help_Mod.calls k a1 (s7.length : Int) (hs.enter (.k .nil)) (Sr.nil _ _) hs10) (fun v w hR a hf => ?_)
    obtain ⟨rfl, hs'⟩ := hR
    replace hs := hs.step (.k .nil) hs'
    clear hs'
    refine stq hf rfl rfl rfl (ex_move hf rfl) (fun a hf => ?_)
    refine stq hf rfl rfl rfl (ex_rem hf rfl rfl (by decide)) (fun a hf => ?_)
    refine stq hf rfl rfl rfl (ex_assign hf rfl) (fun a hf => ?_)
    refine stq hf rfl rfl rfl (ex_assign hf rfl) (fun a hf => ?_)
    refine hK11 _ _ ?_
    refine bnd H (fun s12 hs12 H => ?_)
    refine seq_reg (fun K13 hK13 => ?_)
    refine stq hf rfl rfl rfl (ex_move hf rfl) (fun a hf => ?_)
    refine stq hf rfl rfl rfl (ex_move hf rfl) (fun a hf => ?_)
    refine stepF hf rfl rfl rfl (ex_call cf_15 hf rfl) (perf_Find.calls k s7 (Int.tmod a2 1000) v8 (hs.enter (.k .nil)) (Sr.own hs (.k .nil) (i := 0) rfl osl_rsl (fun _ h => h.1) (Sr.nil _ _)) hs12) (fun v w hR a hf => ?_)
    obtain ⟨rfl, hs'⟩ := hR
    replace hs := hs.step (.k .nil) hs'
    clear hs'
    refine stq hf rfl rfl rfl (ex_move hf rfl) (fun a hf => ?_)
    refine stq hf rfl rfl rfl (ex_extract hf rfl rfl) (fun a hf => ?_)
    refine stq hf rfl rfl rfl (ex_extract hf rfl rfl) (fun a hf => ?_)
    refine stq hf rfl rfl rfl (ex_assign hf rfl) (fun a hf => ?_)
    refine stq hf rfl rfl rfl (ex_assign hf rfl) (fun a hf => ?_)
    refine hK13 _ _ ?_
    refine seq_n (fun Q14 hN14 hR14 hX14 => ?_)
    refine seq_reg (fun K15 hK15 => ?_)
    refine stq hf rfl rfl rfl (ex_move hf rfl) (fun a hf => ?_)
    refine stq hf rfl rfl rfl (ex_neq hf rfl rfl) (fun a hf => ?_)
    refine hK15 _ _ ?_
    refine itt H (fun hc16 H => ?_) (fun hc16 H => ?_)
    · -- s12.2 = 0
      replace hf := hf.castB (t := 36) rfl (ndec_f hc16)
      refine cond_F hf rfl ?_
      refine wp_skip ?_
      refine hN14 _ _ ?_
      refine bnd H (fun s17 hs17 H => ?_)
      refine seq_reg (fun K19 hK19 => ?_)
      refine stq hf rfl rfl rfl (ex_move hf rfl) (fun a hf => ?_)
      refine stq hf rfl rfl rfl (ex_move hf rfl) (fun a hf => ?_)
      refine stq hf rfl rfl rfl (ex_move hf rfl) (fun a hf => ?_)
      refine stepF hf rfl rfl rfl (ex_call cf_19 hf rfl) (perf_Transition.calls k s7 s10 s12.1 v8 (hs.enter (.k .nil)) (Sr.own hs (.k .nil) (i := 0) rfl osl_rsl (fun _ h => h.1) (Sr.nil _ _)) hs17) (fun v w hR a hf => ?_)
      obtain ⟨v18, rfl, hs'⟩ := hR
      replace hs := hs.step (.k .nil) hs'
      clear hs'
      refine stq hf rfl rfl rfl (ex_move hf rfl) (fun a hf => ?_)
      refine stq hf rfl rfl rfl (ex_extract hf rfl rfl) (fun a hf => ?_)
      refine stq hf rfl rfl rfl (ex_extract hf rfl rfl) (fun a hf => ?_)
      refine stq hf rfl rfl rfl (ex_assign hf rfl) (fun a hf => ?_)
      refine stq hf rfl rfl rfl (ex_assign hf rfl) (fun a hf => ?_)
      refine hK19 _ _ ?_
      refine seq_n (fun Q20 hN20 hR20 hX20 => ?_)
      refine bnd H (fun x21 H21 HO21 => ?_)
      clear H
      refine seq_cut (fun a w => Fr a 117 [(7, v8), (8, .int .i64 s10), (9, .int .u64 (Int.tmod a2 1000)), (12, v18), (68, .bool x21)] ∧ St M w0 w [osl K_api_OperatingPoint v8 s7, osl K_api_PerfOp v18 s17.1]) (fun Q21 hJ21 hR21 hX21 => ?_) (fun a w hJ => ?_)
      · replace H := H21
        refine itt H (fun hc22 H => ?_) (fun hc22 H => ?_)
        · -- s17.2 = 0
          refine bnd H (fun s23 hs23 H => ?_)
          refine region_k (fun K24 hK24 => ?_)
          refine stq hf rfl rfl rfl (ex_move hf rfl) (fun a hf => ?_)
          refine stq hf rfl rfl rfl (ex_neq hf rfl rfl) (fun a hf => ?_)
          refine stq hf rfl rfl rfl (ex_move hf rfl) (fun a hf => ?_)
          replace hf := hf.castB (t := 61) rfl (ndec_f hc22)
          replace hf := hf.castB (t := 62) rfl (ndec_f hc22)
          refine stq hf rfl rfl rfl (ex_move hf rfl) (fun a hf => ?_)
          refine stq hf rfl rfl rfl (ex_move hf rfl) (fun a hf => ?_)
          refine stq hf rfl rfl rfl (ex_move hf rfl) (fun a hf => ?_)
          refine stepF hf rfl rfl rfl (ex_call cf_22 hf rfl) (perf_Safe.calls k s7 s10 s17.1 v8 v18 (hs.enter (.k (.k .nil))) (Sr.own hs (.k (.k .nil)) (i := 1) rfl osl_rsl (fun _ h => h.1) (Sr.own hs (.k (.k .nil)) (i := 0) rfl osl_rsl (fun _ h => h.1) (Sr.nil _ _))) hs23) (fun v w hR a hf => ?_)
          obtain ⟨rfl, hs'⟩ := hR
          replace hs := hs.step (.k (.k .nil)) hs'
          clear hs'
          refine stq hf rfl rfl rfl (ex_not hf rfl) (fun a hf => ?_)
          refine stq hf rfl rfl rfl (ex_pickF hf rfl rfl) (fun a hf => ?_)
          refine hK24 _ _ ?_
          replace hs := hs.pick (.k (.c .nil))
          have e21 := some_eq H; subst e21
          exact hJ21 _ _ ⟨hf.sub ⟨rfl, rfl, rfl, rfl, rfl, trivial⟩, hs⟩
        · -- not s17.2 = 0
          refine region_k (fun K25 hK25 => ?_)
          refine stq hf rfl rfl rfl (ex_move hf rfl) (fun a hf => ?_)
          refine stq hf rfl rfl rfl (ex_neq hf rfl rfl) (fun a hf => ?_)
          refine stq hf rfl rfl rfl (ex_move hf rfl) (fun a hf => ?_)
          replace hf := hf.castB (t := 61) rfl (ndec_t hc22)
          replace hf := hf.castB (t := 62) rfl (ndec_t hc22)
          refine stepN hf rfl rfl rfl (fun a hf => ?_)
          refine stepN hf rfl rfl rfl (fun a hf => ?_)
          refine stepN hf rfl rfl rfl (fun a hf => ?_)
          refine stepN hf rfl rfl rfl (fun a hf => ?_)
          refine stepN hf rfl rfl rfl (fun a hf => ?_)
          refine stq hf rfl rfl rfl (ex_pickT hf rfl rfl) (fun a hf => ?_)
          refine hK25 _ _ ?_
          replace hs := hs.pick (.k (.c .nil))
          have e21 := some_eq H; subst e21
          exact hJ21 _ _ ⟨hf.sub ⟨rfl, rfl, rfl, rfl, rfl, trivial⟩, hs⟩
      · obtain ⟨hf, hs⟩ := hJ
        replace H := HO21
        clear HO21
        refine itt H (fun hc26 H => ?_) (fun hc26 H => ?_)
        · -- x21 = true
          replace hf := hf.castB (t := 68) rfl hc26
          refine cond_T hf rfl ?_
          refine seq_reg (fun K27 hK27 => ?_)
          refine stq hf rfl rfl rfl (ex_assign hf rfl) (fun a hf => ?_)
          refine hK27 _ _ ?_
          refine wp_ret ?_
          refine hR20 _ _ ?_
          have eR := some_eq H; subst eR
          replace hs := hs.keep (.d (.d .nil))
          exact ret1 Try.results7 hf rfl ⟨_, rfl, ⟨rfl, hs⟩⟩
        · -- not x21 = true
          replace hf := hf.castB (t := 68) rfl (bool_f hc26)
          refine cond_F hf rfl ?_
          refine wp_skip ?_
          refine hN20 _ _ ?_
          refine ck_some H (fun hc28 H => ?_)
          refine seq_reg (fun K29 hK29 => ?_)
          refine stq hf rfl rfl rfl (ex_move hf rfl) (fun a hf => ?_)
          refine stq hf rfl rfl rfl (ex_move hf rfl) (fun a hf => ?_)
          refine stq hf rfl rfl rfl (ex_indexAddr sa_22 (rsl_isSl (osl_rsl _ (hs.get (i := 0) rfl))) hc28.1 hc28.2 hf rfl rfl) (fun a hf => ?_)
          refine stq hf rfl rfl rfl (ex_fieldAddrS fa_25_0 rfl hf rfl) (fun a hf => ?_)
          refine stq hf rfl rfl rfl (ex_load sc_23 hf rfl (el_cell (K := K_api_OperatingPoint) (f := 0) (rsl_rd (osl_rsl _ (hs.get (i := 0) rfl))) hc28.1 hc28.2 rfl)) (fun a hf => ?_)
          refine stq hf rfl rfl rfl (ex_assign hf rfl) (fun a hf => ?_)
          refine hK29 _ _ ?_
          refine bnd H (fun x30 H30 HO30 => ?_)
          clear H
          refine seq_cut (fun a w => Fr a 117 [(7, v8), (9, .int .u64 (Int.tmod a2 1000)), (14, .int .u64 x30)] ∧ St M w0 w [osl K_api_OperatingPoint v8 s7]) (fun Q30 hJ30 hR30 hX30 => ?_) (fun a w hJ => ?_)
          · replace H := H30
            refine seq_reg (fun K31 hK31 => ?_)
            refine stq hf rfl rfl rfl (ex_assign hf rfl) (fun a hf => ?_)
            refine hK31 _ _ ?_
            refine block_k (fun Q32 hN32 hR32 hX32 hY32 => ?_)
            refine loop_k (fun n a w => ∃ (y33 : Int) (y34 : Int), Fr a 117 [(7, v8), (9, .int .u64 (Int.tmod a2 1000)), (12, v18), (14, .int .u64 y33), (15, .int .i64 y34)] ∧ St M w0 w [osl K_api_OperatingPoint v8 s7, osl K_api_PerfOp v18 s17.1] ∧ law36_PerfReachesFrequency.l1 n s17 y33 y34 = some x30) k ?_ (fun n36 a w hI Q36 hL36 hR36 hX36 => ?_)
            · -- at the start
              exact ⟨((gd OperatingPoint.zero s7 s10).Frequency), 0, hf.sub ⟨rfl, rfl, rfl, rfl, rfl, trivial⟩, hs, H⟩
            · obtain ⟨y33, y34, hf, hs, H⟩ := hI
              cases n36 with
              | zero => exact absurd H (by rw [law36_PerfReachesFrequency.l1.eq_1]; intro h; cases h)
              | succ k36 =>
                replace H := (law36_PerfReachesFrequency.l1.eq_2 ..).symm.trans H
                refine seq_n (fun Q37 hN37 hR37 hX37 => ?_)
                refine seq_reg (fun K38 hK38 => ?_)
                refine stq hf rfl rfl rfl (ex_move hf rfl) (fun a hf => ?_)
                refine stq hf rfl rfl rfl (ex_move hf rfl) (fun a hf => ?_)
                refine stq hf rfl rfl rfl (ex_lenS Try.underlying35 (rsl_isSl (osl_rsl _ (hs.get (i := 1) rfl))) hf rfl) (fun a hf => ?_)
                refine stq hf rfl rfl rfl (ex_lss hf rfl rfl) (fun a hf => ?_)
                refine hK38 _ _ ?_
                refine itt H (fun hc39 H => ?_) (fun hc39 H => ?_)
                · -- y34 < (s17.1.length : Int)
                  replace hf := hf.castB (t := 77) rfl (dec_t hc39)
                  refine cond_T hf rfl ?_
                  refine wp_skip ?_
                  refine hN37 _ _ ?_
                  refine bnd H (fun x40 H40 HO40 => ?_)
                  clear H
                  refine seq_cut (fun a w => Fr a 117 [(7, v8), (9, .int .u64 (Int.tmod a2 1000)), (12, v18), (14, .int .u64 x40), (15, .int .i64 y34)] ∧ St M w0 w [osl K_api_OperatingPoint v8 s7, osl K_api_PerfOp v18 s17.1]) (fun Q40 hJ40 hR40 hX40 => ?_) (fun a w hJ => ?_)
                  · replace H := H40
                    refine block_k (fun Q41 hN41 hR41 hX41 hY41 => ?_)
                    refine ck_some H (fun hc42 H => ?_)
                    refine seq_reg (fun K43 hK43 => ?_)
                    refine stq hf rfl rfl rfl (ex_move hf rfl) (fun a hf => ?_)
                    refine stq hf rfl rfl rfl (ex_move hf rfl) (fun a hf => ?_)
                    refine stq hf rfl rfl rfl (ex_indexAddr sa_35 (rsl_isSl (osl_rsl _ (hs.get (i := 1) rfl))) hc42.1 hc42.2 hf rfl rfl) (fun a hf => ?_)
                    refine stq hf rfl rfl rfl (ex_fieldAddrS fa_40_0 rfl hf rfl) (fun a hf => ?_)
                    refine stq hf rfl rfl rfl (ex_load sc_4 hf rfl (el_cell (K := K_api_PerfOp) (f := 0) (rsl_rd (osl_rsl _ (hs.get (i := 1) rfl))) hc42.1 hc42.2 rfl)) (fun a hf => ?_)
                    refine stq hf rfl rfl rfl (ex_not hf rfl) (fun a hf => ?_)
                    refine hK43 _ _ ?_
                    refine itt H (fun hc44 H => ?_) (fun hc44 H => ?_)
                    · -- ((gd PerfOp.zero s17.1 y34).Voltage) = true
                      replace hf := hf.castB (t := 84) rfl hc44
                      replace hf := hf.castB (t := 85) rfl (nbool_f hc44)
                      refine cond_F hf rfl ?_
                      refine wp_skip ?_
                      refine hN41 _ _ ?_
                      have e40 := some_eq H; subst e40
                      exact hJ40 _ _ ⟨hf.sub ⟨rfl, rfl, rfl, rfl, rfl, trivial⟩, hs⟩
                    · -- not ((gd PerfOp.zero s17.1 y34).Voltage) = true
                      replace hf := hf.castB (t := 84) rfl (bool_f hc44)
                      replace hf := hf.castB (t := 85) rfl (nbool_t hc44)
                      refine cond_T hf rfl ?_
                      refine region_k (fun K45 hK45 => ?_)
                      refine stq hf rfl rfl rfl (ex_move hf rfl) (fun a hf => ?_)
                      refine stq hf rfl rfl rfl (ex_move hf rfl) (fun a hf => ?_)
                      refine stq hf rfl rfl rfl (ex_indexAddr sa_35 (rsl_isSl (osl_rsl _ (hs.get (i := 1) rfl))) hc42.1 hc42.2 hf rfl rfl) (fun a hf => ?_)
                      refine stq hf rfl rfl rfl (ex_fieldAddrS fa_40_1 rfl hf rfl) (fun a hf => ?_)
                      refine stq hf rfl rfl rfl (ex_load sc_23 hf rfl (el_cell (K := K_api_PerfOp) (f := 1) (rsl_rd (osl_rsl _ (hs.get (i := 1) rfl))) hc42.1 hc42.2 rfl)) (fun a hf => ?_)
                      refine stq hf rfl rfl rfl (ex_assign hf rfl) (fun a hf => ?_)
                      refine hK45 _ _ ?_
                      refine hN41 _ _ ?_
                      have e40 := some_eq H; subst e40
                      exact hJ40 _ _ ⟨hf.sub ⟨rfl, rfl, rfl, rfl, rfl, trivial⟩, hs⟩
                  · obtain ⟨hf, hs⟩ := hJ
                    replace H := HO40
                    clear HO40
                    refine region_k (fun K46 hK46 => ?_)
                    refine stq hf rfl rfl rfl (ex_move hf rfl) (fun a hf => ?_)
                    refine stq hf rfl rfl rfl (ex_add hf rfl rfl) (fun a hf => ?_)
                    refine stq hf rfl rfl rfl (ex_assign hf rfl) (fun a hf => ?_)
                    refine hK46 _ _ ?_
                    exact hL36 k36 _ _ (Nat.lt_succ_self _) ⟨x40, (IntKind.i64.wrap (y34 + 1)), hf.sub ⟨rfl, rfl, rfl, rfl, rfl, trivial⟩, hs, H⟩
                · -- not y34 < (s17.1.length : Int)
                  replace hf := hf.castB (t := 77) rfl (dec_f hc39)
                  refine cond_F hf rfl ?_
                  refine wp_exit ?_
                  refine hX37 0 _ _ ?_
                  refine hX36 0 _ _ ?_
                  refine hX32 _ _ ?_
                  replace hs := hs.keep (.k (.d .nil))
                  have e30 := some_eq H; subst e30
                  exact hJ30 _ _ ⟨hf.sub ⟨rfl, rfl, rfl, trivial⟩, hs⟩
          · obtain ⟨hf, hs⟩ := hJ
            replace H := HO30
            clear HO30
            refine seq_n (fun Q47 hN47 hR47 hX47 => ?_)
            refine seq_reg (fun K48 hK48 => ?_)
            refine stq hf rfl rfl rfl (ex_move hf rfl) (fun a hf => ?_)
            refine stq hf rfl rfl rfl (ex_move hf rfl) (fun a hf => ?_)
            refine stq hf rfl rfl rfl (ex_lss hf rfl rfl) (fun a hf => ?_)
            refine hK48 _ _ ?_
            refine itt H (fun hc49 H => ?_) (fun hc49 H => ?_)
            · -- x30 < (Int.tmod a2 1000)
              replace hf := hf.castB (t := 93) rfl (dec_t hc49)
              refine cond_T hf rfl ?_
              refine seq_reg (fun K50 hK50 => ?_)
              refine stq hf rfl rfl rfl (ex_assign hf rfl) (fun a hf => ?_)
              refine hK50 _ _ ?_
              refine wp_ret ?_
              refine hR47 _ _ ?_
              have eR := some_eq H; subst eR
              replace hs := hs.keep (.d .nil)
              exact ret1 Try.results7 hf rfl ⟨_, rfl, ⟨rfl, hs⟩⟩
            · -- not x30 < (Int.tmod a2 1000)
              replace hf := hf.castB (t := 93) rfl (dec_f hc49)
              refine cond_F hf rfl ?_
              refine wp_skip ?_
              refine hN47 _ _ ?_
              refine bnd H (fun x51 H51 HO51 => ?_)
              clear H
              refine seq_cut (fun a w => ∃ (x51s : Unit), x51 = .go x51s ∧ Fr a 117 [] ∧ St M w0 w []) (fun Q51 hJ51 hR51 hX51 => ?_) (fun a w hJ => ?_)
              · replace H := H51
                refine seq_reg (fun K52 hK52 => ?_)
                refine stq hf rfl rfl rfl (ex_assign hf rfl) (fun a hf => ?_)
                refine hK52 _ _ ?_
                refine block_k (fun Q53 hN53 hR53 hX53 hY53 => ?_)
                refine loop_k (fun n a w => ∃ (y54 : Int), Fr a 117 [(7, v8), (9, .int .u64 (Int.tmod a2 1000)), (14, .int .u64 x30), (16, .int .i64 y54)] ∧ St M w0 w [osl K_api_OperatingPoint v8 s7] ∧ law36_PerfReachesFrequency.l2 n s7 a2 x30 y54 = some x51) k ?_ (fun n56 a w hI Q56 hL56 hR56 hX56 => ?_)
                · -- at the start
                  exact ⟨0, hf.sub ⟨rfl, rfl, rfl, rfl, trivial⟩, hs, H⟩
                · obtain ⟨y54, hf, hs, H⟩ := hI
                  cases n56 with
                  | zero => exact absurd H (by rw [law36_PerfReachesFrequency.l2.eq_1]; intro h; cases h)
                  | succ k56 =>
                    replace H := (law36_PerfReachesFrequency.l2.eq_2 ..).symm.trans H
                    refine seq_n (fun Q57 hN57 hR57 hX57 => ?_)
                    refine seq_reg (fun K58 hK58 => ?_)
                    refine stq hf rfl rfl rfl (ex_move hf rfl) (fun a hf => ?_)
                    refine stq hf rfl rfl rfl (ex_move hf rfl) (fun a hf => ?_)
                    refine stq hf rfl rfl rfl (ex_lenS Try.underlying22 (rsl_isSl (osl_rsl _ (hs.get (i := 0) rfl))) hf rfl) (fun a hf => ?_)
                    refine stq hf rfl rfl rfl (ex_lss hf rfl rfl) (fun a hf => ?_)
                    refine hK58 _ _ ?_
                    refine itt H (fun hc59 H => ?_) (fun hc59 H => ?_)
                    · -- y54 < (s7.length : Int)
                      replace hf := hf.castB (t := 97) rfl (dec_t hc59)
                      refine cond_T hf rfl ?_
                      refine wp_skip ?_
                      refine hN57 _ _ ?_
                      refine seq_n (fun Q60 hN60 hR60 hX60 => ?_)
                      refine block_k (fun Q61 hN61 hR61 hX61 hY61 => ?_)
                      refine bnd H (fun x62 H62 HO62 => ?_)
                      clear H
                      refine seq_cut (fun a w => Fr a 117 [(7, v8), (9, .int .u64 (Int.tmod a2 1000)), (14, .int .u64 x30), (16, .int .i64 y54), (115, .bool x62)] ∧ St M w0 w [osl K_api_OperatingPoint v8 s7]) (fun Q62 hJ62 hR62 hX62 => ?_) (fun a w hJ => ?_)
                      · replace H := H62
                        refine ck_some H (fun hc63 H => ?_)
                        refine itt H (fun hc64 H => ?_) (fun hc64 H => ?_)
                        · -- (Int.tmod a2 1000) ≤ ((gd OperatingPoint.zero s7 y54).Freque
                          refine region_k (fun K65 hK65 => ?_)
                          refine stq hf rfl rfl rfl (ex_move hf rfl) (fun a hf => ?_)
                          refine stq hf rfl rfl rfl (ex_move hf rfl) (fun a hf => ?_)
                          refine stq hf rfl rfl rfl (ex_indexAddr sa_22 (rsl_isSl (osl_rsl _ (hs.get (i := 0) rfl))) hc63.1 hc63.2 hf rfl rfl) (fun a hf => ?_)
                          refine stq hf rfl rfl rfl (ex_fieldAddrS fa_25_0 rfl hf rfl) (fun a hf => ?_)
                          refine stq hf rfl rfl rfl (ex_load sc_23 hf rfl (el_cell (K := K_api_OperatingPoint) (f := 0) (rsl_rd (osl_rsl _ (hs.get (i := 0) rfl))) hc63.1 hc63.2 rfl)) (fun a hf => ?_)
                          refine stq hf rfl rfl rfl (ex_move hf rfl) (fun a hf => ?_)
                          refine stq hf rfl rfl rfl (ex_geq hf rfl rfl) (fun a hf => ?_)
                          refine stq hf rfl rfl rfl (ex_move hf rfl) (fun a hf => ?_)
                          replace hf := hf.castB (t := 106) rfl (dec_t hc64)
                          replace hf := hf.castB (t := 107) rfl (dec_t hc64)
                          refine stq hf rfl rfl rfl (ex_move hf rfl) (fun a hf => ?_)
                          refine stq hf rfl rfl rfl (ex_move hf rfl) (fun a hf => ?_)
                          refine stq hf rfl rfl rfl (ex_indexAddr sa_22 (rsl_isSl (osl_rsl _ (hs.get (i := 0) rfl))) hc63.1 hc63.2 hf rfl rfl) (fun a hf => ?_)
                          refine stq hf rfl rfl rfl (ex_fieldAddrS fa_25_0 rfl hf rfl) (fun a hf => ?_)
                          refine stq hf rfl rfl rfl (ex_load sc_23 hf rfl (el_cell (K := K_api_OperatingPoint) (f := 0) (rsl_rd (osl_rsl _ (hs.get (i := 0) rfl))) hc63.1 hc63.2 rfl)) (fun a hf => ?_)
                          refine stq hf rfl rfl rfl (ex_move hf rfl) (fun a hf => ?_)
                          refine stq hf rfl rfl rfl (ex_lss hf rfl rfl) (fun a hf => ?_)
                          refine stq hf rfl rfl rfl (ex_pickT hf rfl rfl) (fun a hf => ?_)
                          refine hK65 _ _ ?_
                          have e62 := some_eq H; subst e62
                          exact hJ62 _ _ ⟨hf.sub ⟨rfl, rfl, rfl, rfl, rfl, trivial⟩, hs⟩
                        · -- not (Int.tmod a2 1000) ≤ ((gd OperatingPoint.zero s7 y54).Freque
                          refine region_k (fun K66 hK66 => ?_)
                          refine stq hf rfl rfl rfl (ex_move hf rfl) (fun a hf => ?_)
                          refine stq hf rfl rfl rfl (ex_move hf rfl) (fun a hf => ?_)
                          refine stq hf rfl rfl rfl (ex_indexAddr sa_22 (rsl_isSl (osl_rsl _ (hs.get (i := 0) rfl))) hc63.1 hc63.2 hf rfl rfl) (fun a hf => ?_)
                          refine stq hf rfl rfl rfl (ex_fieldAddrS fa_25_0 rfl hf rfl) (fun a hf => ?_)
                          refine stq hf rfl rfl rfl (ex_load sc_23 hf rfl (el_cell (K := K_api_OperatingPoint) (f := 0) (rsl_rd (osl_rsl _ (hs.get (i := 0) rfl))) hc63.1 hc63.2 rfl)) (fun a hf => ?_)
                          refine stq hf rfl rfl rfl (ex_move hf rfl) (fun a hf => ?_)
                          refine stq hf rfl rfl rfl (ex_geq hf rfl rfl) (fun a hf => ?_)
                          refine stq hf rfl rfl rfl (ex_move hf rfl) (fun a hf => ?_)
                          replace hf := hf.castB (t := 106) rfl (dec_f hc64)
                          replace hf := hf.castB (t := 107) rfl (dec_f hc64)
                          refine stepN hf rfl rfl rfl (fun a hf => ?_)
                          refine stepN hf rfl rfl rfl (fun a hf => ?_)
                          refine stepN hf rfl rfl rfl (fun a hf => ?_)
                          refine stepN hf rfl rfl rfl (fun a hf => ?_)
                          refine stepN hf rfl rfl rfl (fun a hf => ?_)
                          refine stepN hf rfl rfl rfl (fun a hf => ?_)
                          refine stepN hf rfl rfl rfl (fun a hf => ?_)
                          refine stq hf rfl rfl rfl (ex_pickF hf rfl rfl) (fun a hf => ?_)
                          refine hK66 _ _ ?_
                          have e62 := some_eq H; subst e62
                          exact hJ62 _ _ ⟨hf.sub ⟨rfl, rfl, rfl, rfl, rfl, trivial⟩, hs⟩
                      · obtain ⟨hf, hs⟩ := hJ
                        replace H := HO62
                        clear HO62
                        refine itt H (fun hc67 H => ?_) (fun hc67 H => ?_)
                        · -- x62 = true
                          replace hf := hf.castB (t := 115) rfl hc67
                          refine cond_T hf rfl ?_
                          refine seq_reg (fun K68 hK68 => ?_)
                          refine stq hf rfl rfl rfl (ex_assign hf rfl) (fun a hf => ?_)
                          refine hK68 _ _ ?_
                          refine wp_ret ?_
                          refine hR61 _ _ ?_
                          refine hR60 _ _ ?_
                          refine hR56 _ _ ?_
                          refine hR53 _ _ ?_
                          have e51 := some_eq H; subst e51; replace H := el_rt HO51
                          refine hR51 _ _ ?_
                          have eR := some_eq H; subst eR
                          replace hs := hs.keep (.d .nil)
                          exact ret1 Try.results7 hf rfl ⟨_, rfl, ⟨rfl, hs⟩⟩
                        · -- not x62 = true
                          replace hf := hf.castB (t := 115) rfl (bool_f hc67)
                          refine cond_F hf rfl ?_
                          refine wp_skip ?_
                          refine hN61 _ _ ?_
                          refine hN60 _ _ ?_
                          refine region_k (fun K69 hK69 => ?_)
                          refine stq hf rfl rfl rfl (ex_move hf rfl) (fun a hf => ?_)
                          refine stq hf rfl rfl rfl (ex_add hf rfl rfl) (fun a hf => ?_)
                          refine stq hf rfl rfl rfl (ex_assign hf rfl) (fun a hf => ?_)
                          refine hK69 _ _ ?_
                          exact hL56 k56 _ _ (Nat.lt_succ_self _) ⟨(IntKind.i64.wrap (y54 + 1)), hf.sub ⟨rfl, rfl, rfl, rfl, trivial⟩, hs, H⟩
                    · -- not y54 < (s7.length : Int)
                      replace hf := hf.castB (t := 97) rfl (dec_f hc59)
                      refine cond_F hf rfl ?_
                      refine wp_exit ?_
                      refine hX57 2 _ _ ?_
                      refine hX56 2 _ _ ?_
                      refine hX53 _ _ ?_
                      replace hs := hs.keep (.d .nil)
                      have e51 := some_eq H; subst e51
                      exact hJ51 _ _ ⟨_, rfl, hf.sub trivial, hs⟩
              · obtain ⟨x51s, rfl, hf, hs⟩ := hJ
                replace H := el_go HO51
                clear HO51
                refine bnd H (fun s70 hs70 H => ?_)
                refine seq_reg (fun K71 hK71 => ?_)
                refine stepF hf rfl rfl rfl (ex_call cf_12 hf rfl) (law36_awake.calls k (hs.enter .nil) (Sr.nil _ _) hs70) (fun v w hR a hf => ?_)
                obtain ⟨rfl, hs'⟩ := hR
                replace hs := hs.step .nil hs'
                clear hs'
                refine stq hf rfl rfl rfl (ex_assign hf rfl) (fun a hf => ?_)
                refine hK71 _ _ ?_
                refine wp_ret ?_
                have eR := some_eq H; subst eR
                exact ret1 Try.results7 hf rfl ⟨_, rfl, ⟨rfl, hs⟩⟩
    · -- not s12.2 = 0
      replace hf := hf.castB (t := 36) rfl (ndec_t hc16)
      refine cond_T hf rfl ?_
      refine itt H (fun hc72 H => ?_) (fun hc72 H => ?_)
      · -- s12.2 = 6
        refine ck_some H (fun hc73 H => ?_)
        refine itt H (fun hc74 H => ?_) (fun hc74 H => ?_)
        · -- ((gd OperatingPoint.zero s7 (IntKind.i64.wrap ((s7.length : 
          refine bnd H (fun s75 hs75 H => ?_)
          refine seq_reg (fun K76 hK76 => ?_)
          refine stq hf rfl rfl rfl (ex_move hf rfl) (fun a hf => ?_)
          refine stq hf rfl rfl rfl (ex_eql hf rfl rfl) (fun a hf => ?_)
          refine stq hf rfl rfl rfl (ex_move hf rfl) (fun a hf => ?_)
          replace hf := hf.castB (t := 38) rfl (dec_t hc72)
          replace hf := hf.castB (t := 39) rfl (dec_t hc72)
          refine stq hf rfl rfl rfl (ex_move hf rfl) (fun a hf => ?_)
          refine stq hf rfl rfl rfl (ex_move hf rfl) (fun a hf => ?_)
          refine stq hf rfl rfl rfl (ex_lenS Try.underlying22 (rsl_isSl (osl_rsl _ (hs.get (i := 0) rfl))) hf rfl) (fun a hf => ?_)
          refine stq hf rfl rfl rfl (ex_sub hf rfl rfl) (fun a hf => ?_)
          refine stq hf rfl rfl rfl (ex_indexAddr sa_22 (rsl_isSl (osl_rsl _ (hs.get (i := 0) rfl))) hc73.1 hc73.2 hf rfl rfl) (fun a hf => ?_)
          refine stq hf rfl rfl rfl (ex_fieldAddrS fa_25_0 rfl hf rfl) (fun a hf => ?_)
          refine stq hf rfl rfl rfl (ex_load sc_23 hf rfl (el_cell (K := K_api_OperatingPoint) (f := 0) (rsl_rd (osl_rsl _ (hs.get (i := 0) rfl))) hc73.1 hc73.2 rfl)) (fun a hf => ?_)
          refine stq hf rfl rfl rfl (ex_move hf rfl) (fun a hf => ?_)
          refine stq hf rfl rfl rfl (ex_lss hf rfl rfl) (fun a hf => ?_)
          refine stq hf rfl rfl rfl (ex_pickT hf rfl rfl) (fun a hf => ?_)
          refine stq hf rfl rfl rfl (ex_move hf rfl) (fun a hf => ?_)
          replace hf := hf.castB (t := 48) rfl (dec_t hc74)
          replace hf := hf.castB (t := 49) rfl (dec_t hc74)
          replace hf := hf.castB (t := 50) rfl (dec_t hc74)
          refine stepF hf rfl rfl rfl (ex_call cf_12 hf rfl) (law36_awake.calls k (hs.enter (.k .nil)) (Sr.nil _ _) hs75) (fun v w hR a hf => ?_)
          obtain ⟨rfl, hs'⟩ := hR
          replace hs := hs.step (.k .nil) hs'
          clear hs'
          refine stq hf rfl rfl rfl (ex_pickT hf rfl rfl) (fun a hf => ?_)
          refine stq hf rfl rfl rfl (ex_assign hf rfl) (fun a hf => ?_)
          refine hK76 _ _ ?_
          refine wp_ret ?_
          refine hR14 _ _ ?_
          have eR := some_eq H; subst eR
          replace hs := hs.keep (.d .nil)
          exact ret1 Try.results7 hf rfl ⟨_, rfl, ⟨rfl, hs⟩⟩
        · -- not ((gd OperatingPoint.zero s7 (IntKind.i64.wrap ((s7.length : 
          refine seq_reg (fun K77 hK77 => ?_)
          refine stq hf rfl rfl rfl (ex_move hf rfl) (fun a hf => ?_)
          refine stq hf rfl rfl rfl (ex_eql hf rfl rfl) (fun a hf => ?_)
          refine stq hf rfl rfl rfl (ex_move hf rfl) (fun a hf => ?_)
          replace hf := hf.castB (t := 38) rfl (dec_t hc72)
          replace hf := hf.castB (t := 39) rfl (dec_t hc72)
          refine stq hf rfl rfl rfl (ex_move hf rfl) (fun a hf => ?_)
          refine stq hf rfl rfl rfl (ex_move hf rfl) (fun a hf => ?_)
          refine stq hf rfl rfl rfl (ex_lenS Try.underlying22 (rsl_isSl (osl_rsl _ (hs.get (i := 0) rfl))) hf rfl) (fun a hf => ?_)
          refine stq hf rfl rfl rfl (ex_sub hf rfl rfl) (fun a hf => ?_)
          refine stq hf rfl rfl rfl (ex_indexAddr sa_22 (rsl_isSl (osl_rsl _ (hs.get (i := 0) rfl))) hc73.1 hc73.2 hf rfl rfl) (fun a hf => ?_)
          refine stq hf rfl rfl rfl (ex_fieldAddrS fa_25_0 rfl hf rfl) (fun a hf => ?_)
          refine stq hf rfl rfl rfl (ex_load sc_23 hf rfl (el_cell (K := K_api_OperatingPoint) (f := 0) (rsl_rd (osl_rsl _ (hs.get (i := 0) rfl))) hc73.1 hc73.2 rfl)) (fun a hf => ?_)
          refine stq hf rfl rfl rfl (ex_move hf rfl) (fun a hf => ?_)
          refine stq hf rfl rfl rfl (ex_lss hf rfl rfl) (fun a hf => ?_)
          refine stq hf rfl rfl rfl (ex_pickT hf rfl rfl) (fun a hf => ?_)
          refine stq hf rfl rfl rfl (ex_move hf rfl) (fun a hf => ?_)
          replace hf := hf.castB (t := 48) rfl (dec_f hc74)
          replace hf := hf.castB (t := 49) rfl (dec_f hc74)
          replace hf := hf.castB (t := 50) rfl (dec_f hc74)
          refine stepN hf rfl rfl rfl (fun a hf => ?_)
          refine stq hf rfl rfl rfl (ex_pickF hf rfl rfl) (fun a hf => ?_)
          refine stq hf rfl rfl rfl (ex_assign hf rfl) (fun a hf => ?_)
          refine hK77 _ _ ?_
          refine wp_ret ?_
          refine hR14 _ _ ?_
          have eR := some_eq H; subst eR
          replace hs := hs.keep (.d .nil)
          exact ret1 Try.results7 hf rfl ⟨_, rfl, ⟨rfl, hs⟩⟩
      · -- not s12.2 = 6
        refine seq_reg (fun K78 hK78 => ?_)
        refine stq hf rfl rfl rfl (ex_move hf rfl) (fun a hf => ?_)
        refine stq hf rfl rfl rfl (ex_eql hf rfl rfl) (fun a hf => ?_)
        refine stq hf rfl rfl rfl (ex_move hf rfl) (fun a hf => ?_)
        replace hf := hf.castB (t := 38) rfl (dec_f hc72)
        replace hf := hf.castB (t := 39) rfl (dec_f hc72)
        refine stepN hf rfl rfl rfl (fun a hf => ?_)
        refine stepN hf rfl rfl rfl (fun a hf => ?_)
        refine stepN hf rfl rfl rfl (fun a hf => ?_)
        refine stepN hf rfl rfl rfl (fun a hf => ?_)
        refine stepN hf rfl rfl rfl (fun a hf => ?_)
        refine stepN hf rfl rfl rfl (fun a hf => ?_)
        refine stepN hf rfl rfl rfl (fun a hf => ?_)
        refine stepN hf rfl rfl rfl (fun a hf => ?_)
        refine stepN hf rfl rfl rfl (fun a hf => ?_)
        refine stq hf rfl rfl rfl (ex_pickF hf rfl rfl) (fun a hf => ?_)
        refine stq hf rfl rfl rfl (ex_move hf rfl) (fun a hf => ?_)
        refine stepN hf rfl rfl rfl (fun a hf => ?_)
        refine stq hf rfl rfl rfl (ex_pickF hf rfl rfl) (fun a hf => ?_)
        refine stq hf rfl rfl rfl (ex_assign hf rfl) (fun a hf => ?_)
        refine hK78 _ _ ?_
        refine wp_ret ?_
        refine hR14 _ _ ?_
        have eR := some_eq H; subst eR
        replace hs := hs.keep (.d .nil)
        exact ret1 Try.results7 hf rfl ⟨_, rfl, ⟨rfl, hs⟩⟩

end Go.Proofs.Ythemeobgfgmblaa.X
