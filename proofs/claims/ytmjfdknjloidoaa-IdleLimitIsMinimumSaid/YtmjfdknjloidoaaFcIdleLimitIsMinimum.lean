/- Each function of the machine comes to what its pure function says. -/
import Derived.Test.YtmjfdknjloidoaaFc1
import Derived.Test.YtmjfdknjloidoaaFb
namespace Go.Proofs.Ytmjfdknjloidoaa.X
open Go Go.RowKit Go.Sx
set_option linter.unusedVariables false

set_option maxRecDepth 100000 in
theorem law37_IdleLimitIsMinimum.calls {M : Nat → Prop} {w0 : World} (k : Nat) (a0 : (List Int)) (a1 : Int) (v0 : Value) {r : Bool} (hs : St M w0 w0 []) (hr : Sr M w0 [rsl K_uint64 v0 a0])
    (h : law37_IdleLimitIsMinimum.f k a0 a1 = some r) : Calls Try.prog 8 #[v0, .int .i64 a1] w0 fun e w => ∃ v, e = .returned v ∧ (.bool r = v ∧ St M w0 w []) := by
  have H := (law37_IdleLimitIsMinimum.f.eq_1 ..).symm.trans h
  clear h
  refine enter Try.func8 rfl Try.ntmps8 rfl (fun a hf => ?_)
  refine seq_reg (fun K1 hK1 => ?_)
  refine stq hf rfl rfl rfl (ex_assign hf rfl) (fun a hf => ?_)
  refine hK1 _ _ ?_
  refine seq_n (fun Q2 hN2 hR2 hX2 => ?_)
  refine seq_reg (fun K3 hK3 => ?_)
  refine stq hf rfl rfl rfl (ex_move hf rfl) (fun a hf => ?_)
  refine stq hf rfl rfl rfl (ex_lenS Try.underlying39 (rsl_isSl (hr.now hs (i := 0) rfl)) hf rfl) (fun a hf => ?_)
  refine stq hf rfl rfl rfl (ex_gtr hf rfl rfl) (fun a hf => ?_)
  refine hK3 _ _ ?_
  refine itt H (fun hc4 H => ?_) (fun hc4 H => ?_)
  · -- 20 < (a0.length : Int)
    replace hf := hf.castB (t := 14) rfl (dec_t hc4)
    refine cond_T hf rfl ?_
    refine bnd H (fun s5 hs5 H => ?_)
    refine seq_reg (fun K6 hK6 => ?_)
    refine stepF hf rfl rfl rfl (ex_call cf_13 hf rfl) (law37_awake.calls k (hs.enter .nil) (Sr.nil _ _) hs5) (fun v w hR a hf => ?_)
    obtain ⟨rfl, hs'⟩ := hR
    replace hs := hs.step .nil hs'
    clear hs'
    refine stq hf rfl rfl rfl (ex_assign hf rfl) (fun a hf => ?_)
    refine hK6 _ _ ?_
    refine wp_ret ?_
    refine hR2 _ _ ?_
    have eR := some_eq H; subst eR
    exact ret1 Try.results8 hf rfl ⟨_, rfl, ⟨rfl, hs⟩⟩
  · -- not 20 < (a0.length : Int)
    replace hf := hf.castB (t := 14) rfl (dec_f hc4)
    refine cond_F hf rfl ?_
    refine wp_skip ?_
    refine hN2 _ _ ?_
    refine bnd H (fun s7 hs7 H => ?_)
    refine bnd H (fun s10 hs10 H => ?_)
    refine seq_reg (fun K13 hK13 => ?_)
    refine stepF hf rfl rfl rfl (ex_call cf_22 hf rfl) (idle_NewLimits.calls k (hs.enter .nil) (Sr.nil _ _) hs7) (fun v w hR a hf => ?_)
    obtain ⟨b8, b9, rfl, hs'⟩ := hR
    replace hs := hs.step .nil hs'
    clear hs'
    refine stepF hf rfl rfl rfl (ex_call cf_22 hf rfl) (idle_NewLimits.calls k (hs.enter (.k (.k .nil))) (Sr.nil _ _) hs10) (fun v w hR a hf => ?_)
    obtain ⟨b11, b12, rfl, hs'⟩ := hR
    replace hs := hs.step (.k (.k .nil)) hs'
    clear hs'
    refine stq hf rfl rfl rfl (ex_assign hf rfl) (fun a hf => ?_)
    refine stq hf rfl rfl rfl (ex_assign hf rfl) (fun a hf => ?_)
    refine hK13 _ _ ?_
    refine seq_n (fun Q14 hN14 hR14 hX14 => ?_)
    refine seq_reg (fun K15 hK15 => ?_)
    refine stq hf rfl rfl rfl (ex_move hf rfl) (fun a hf => ?_)
    refine stq hf rfl rfl rfl (ex_eqp Try.underlying40 hf rfl rfl) (fun a hf => ?_)
    refine stq hf rfl rfl rfl (ex_move hf rfl) (fun a hf => ?_)
    refine stq hf rfl rfl rfl (ex_move hf rfl) (fun a hf => ?_)
    refine stq hf rfl rfl rfl (ex_eqp Try.underlying40 hf rfl rfl) (fun a hf => ?_)
    refine stq hf rfl rfl rfl (ex_pickF hf rfl rfl) (fun a hf => ?_)
    refine hK15 _ _ ?_
    refine cond_F hf rfl ?_
    refine wp_skip ?_
    refine hN14 _ _ ?_
    refine seq_reg (fun K16 hK16 => ?_)
    refine stq hf rfl rfl rfl (ex_move hf rfl) (fun a hf => ?_)
    refine stq hf rfl rfl rfl (ex_lenS Try.underlying39 (rsl_isSl (hr.now hs (i := 0) rfl)) hf rfl) (fun a hf => ?_)
    refine stq hf rfl rfl rfl (ex_assign hf rfl) (fun a hf => ?_)
    refine hK16 _ _ ?_
    refine bnd H (fun x17 H17 HO17 => ?_)
    clear H
    refine seq_cut (fun a w => ∃ (x17s : (List (Int × Int)) × (List (Int × Int))), x17 = .go x17s ∧ Fr a 97 [(0, v0), (5, .pointer (some ⟨b8, 0, none⟩)), (6, .pointer (some ⟨b11, 0, none⟩)), (7, .int .i64 (a0.length : Int))] ∧ St M w0 w [bx b8 64 [.map (some b9)], mp b9 .i64 .u64 x17s.1, bx b11 64 [.map (some b12)], mp b12 .i64 .u64 x17s.2]) (fun Q17 hJ17 hR17 hX17 => ?_) (fun a w hJ => ?_)
    · replace H := H17
      refine seq_reg (fun K18 hK18 => ?_)
      refine stq hf rfl rfl rfl (ex_assign hf rfl) (fun a hf => ?_)
      refine hK18 _ _ ?_
      refine block_k (fun Q19 hN19 hR19 hX19 hY19 => ?_)
      refine loop_k (fun n a w => ∃ (y20 : (List (Int × Int))) (y21 : (List (Int × Int))) (y22 : Int), Fr a 97 [(0, v0), (1, .int .i64 a1), (5, .pointer (some ⟨b8, 0, none⟩)), (6, .pointer (some ⟨b11, 0, none⟩)), (7, .int .i64 (a0.length : Int)), (8, .int .i64 y22)] ∧ St M w0 w [bx b8 64 [.map (some b9)], mp b9 .i64 .u64 y20, bx b11 64 [.map (some b12)], mp b12 .i64 .u64 y21] ∧ law37_IdleLimitIsMinimum.l1 n a0 a1 y20 y21 y22 = some x17) k ?_ (fun n24 a w hI Q24 hL24 hR24 hX24 => ?_)
      · -- at the start
        replace hs := hs.pick (.k (.c (.k (.k .nil))))
        replace hs := hs.pick (.k (.c (.k (.k .nil))))
        replace hs := hs.pick (.k (.k (.k (.c .nil))))
        replace hs := hs.pick (.k (.k (.k (.c .nil))))
        exact ⟨s7, s10, 0, hf.sub ⟨rfl, rfl, rfl, rfl, rfl, rfl, trivial⟩, hs, H⟩
      · obtain ⟨y20, y21, y22, hf, hs, H⟩ := hI
        cases n24 with
        | zero => exact absurd H (by rw [law37_IdleLimitIsMinimum.l1.eq_1]; intro h; cases h)
        | succ k24 =>
          replace H := (law37_IdleLimitIsMinimum.l1.eq_2 ..).symm.trans H
          refine seq_n (fun Q25 hN25 hR25 hX25 => ?_)
          refine seq_reg (fun K26 hK26 => ?_)
          refine stq hf rfl rfl rfl (ex_move hf rfl) (fun a hf => ?_)
          refine stq hf rfl rfl rfl (ex_move hf rfl) (fun a hf => ?_)
          refine stq hf rfl rfl rfl (ex_lss hf rfl rfl) (fun a hf => ?_)
          refine hK26 _ _ ?_
          refine itt H (fun hc27 H => ?_) (fun hc27 H => ?_)
          · -- y22 < (a0.length : Int)
            replace hf := hf.castB (t := 28) rfl (dec_t hc27)
            refine cond_T hf rfl ?_
            refine wp_skip ?_
            refine hN25 _ _ ?_
            refine seq_n (fun Q28 hN28 hR28 hX28 => ?_)
            refine block_k (fun Q29 hN29 hR29 hX29 hY29 => ?_)
            refine bnd H (fun s30 hs30 H => ?_)
            refine ck_some H (fun hc31 H => ?_)
            refine seq_reg (fun K32 hK32 => ?_)
            refine stq hf rfl rfl rfl (ex_move hf rfl) (fun a hf => ?_)
            refine stq hf rfl rfl rfl (ex_move hf rfl) (fun a hf => ?_)
            refine stq hf rfl rfl rfl (ex_move hf rfl) (fun a hf => ?_)
            refine stepF hf rfl rfl rfl (ex_call cf_15 hf rfl) (help_Mod.calls k24 a1 (a0.length : Int) (hs.enter (.k (.k (.k (.k .nil))))) (Sr.nil _ _) hs30) (fun v w hR a hf => ?_)
            obtain ⟨rfl, hs'⟩ := hR
            replace hs := hs.step (.k (.k (.k (.k .nil)))) hs'
            clear hs'
            refine stq hf rfl rfl rfl (ex_add hf rfl rfl) (fun a hf => ?_)
            refine stq hf rfl rfl rfl (ex_move hf rfl) (fun a hf => ?_)
            refine stq hf rfl rfl rfl (ex_rem hf rfl rfl hc31) (fun a hf => ?_)
            refine stq hf rfl rfl rfl (ex_assign hf rfl) (fun a hf => ?_)
            refine hK32 _ _ ?_
            refine bnd H (fun x33 H33 HO33 => ?_)
            clear H
            refine seq_cut (fun a w => Fr a 97 [(0, v0), (1, .int .i64 a1), (5, .pointer (some ⟨b8, 0, none⟩)), (6, .pointer (some ⟨b11, 0, none⟩)), (7, .int .i64 (a0.length : Int)), (8, .int .i64 y22), (55, .bool x33.2.2)] ∧ St M w0 w [bx b8 64 [.map (some b9)], mp b9 .i64 .u64 x33.1, bx b11 64 [.map (some b12)], mp b12 .i64 .u64 x33.2.1]) (fun Q33 hJ33 hR33 hX33 => ?_) (fun a w hJ => ?_)
            · replace H := H33
              refine ck_some H (fun hc34 H => ?_)
              refine bnd H (fun s35 hs35 H => ?_)
              refine itt H (fun hc36 H => ?_) (fun hc36 H => ?_)
              · -- s35.2 = 0
                refine ck_some H (fun hc37 H => ?_)
                refine bnd H (fun s38 hs38 H => ?_)
                refine region_k (fun K39 hK39 => ?_)
                refine stq hf rfl rfl rfl (ex_move hf rfl) (fun a hf => ?_)
                refine stq hf rfl rfl rfl (ex_move hf rfl) (fun a hf => ?_)
                refine stq hf rfl rfl rfl (ex_move hf rfl) (fun a hf => ?_)
                refine stq hf rfl rfl rfl (ex_move hf rfl) (fun a hf => ?_)
                refine stq hf rfl rfl rfl (ex_indexAddr sa_39 (rsl_isSl (hr.now hs (i := 0) rfl)) hc34.1 hc34.2 hf rfl rfl) (fun a hf => ?_)
                refine stq hf rfl rfl rfl (ex_load sc_23 hf rfl (el_cell (K := K_uint64) (f := 0) (rsl_rd (hr.now hs (i := 0) rfl)) hc34.1 hc34.2 rfl)) (fun a hf => ?_)
                refine stepF hf rfl rfl rfl (ex_call cf_23 hf rfl) (idle_Limits_Set.calls k24 y20 y22 (gd 0 a0 y22) b8 b9 (hs.enter (.c (.c (.k (.k .nil))))) (Sr.nil _ _) hs35) (fun v w hR a hf => ?_)
                obtain ⟨rfl, hs'⟩ := hR
                replace hs := hs.step (.c (.c (.k (.k .nil)))) hs'
                clear hs'
                refine stq hf rfl rfl rfl (ex_neq hf rfl rfl) (fun a hf => ?_)
                refine stq hf rfl rfl rfl (ex_move hf rfl) (fun a hf => ?_)
                replace hf := hf.castB (t := 45) rfl (ndec_f hc36)
                replace hf := hf.castB (t := 46) rfl (ndec_f hc36)
                refine stq hf rfl rfl rfl (ex_move hf rfl) (fun a hf => ?_)
                refine stq hf rfl rfl rfl (ex_move hf rfl) (fun a hf => ?_)
                refine stq hf rfl rfl rfl (ex_move hf rfl) (fun a hf => ?_)
                refine stq hf rfl rfl rfl (ex_move hf rfl) (fun a hf => ?_)
                refine stq hf rfl rfl rfl (ex_indexAddr sa_39 (rsl_isSl (hr.now hs (i := 0) rfl)) hc37.1 hc37.2 hf rfl rfl) (fun a hf => ?_)
                refine stq hf rfl rfl rfl (ex_load sc_23 hf rfl (el_cell (K := K_uint64) (f := 0) (rsl_rd (hr.now hs (i := 0) rfl)) hc37.1 hc37.2 rfl)) (fun a hf => ?_)
                refine stepF hf rfl rfl rfl (ex_call cf_23 hf rfl) (idle_Limits_Set.calls k24 y21 (Int.tmod (IntKind.i64.wrap (y22 + s30)) (a0.length : Int)) (gd 0 a0 (Int.tmod (IntKind.i64.wrap (y22 + s30)) (a0.length : Int))) b11 b12 (hs.enter (.k (.k (.c (.c .nil))))) (Sr.nil _ _) hs38) (fun v w hR a hf => ?_)
                obtain ⟨rfl, hs'⟩ := hR
                replace hs := hs.step (.k (.k (.c (.c .nil)))) hs'
                clear hs'
                refine stq hf rfl rfl rfl (ex_neq hf rfl rfl) (fun a hf => ?_)
                refine stq hf rfl rfl rfl (ex_pickF hf rfl rfl) (fun a hf => ?_)
                refine hK39 _ _ ?_
                replace hs := hs.pick (.k (.c (.k (.k .nil))))
                replace hs := hs.pick (.k (.c (.k (.k .nil))))
                replace hs := hs.pick (.k (.k (.k (.c .nil))))
                replace hs := hs.pick (.k (.k (.k (.c .nil))))
                have e33 := some_eq H; subst e33
                exact hJ33 _ _ ⟨hf.sub ⟨rfl, rfl, rfl, rfl, rfl, rfl, rfl, trivial⟩, hs⟩
              · -- not s35.2 = 0
                refine region_k (fun K40 hK40 => ?_)
                refine stq hf rfl rfl rfl (ex_move hf rfl) (fun a hf => ?_)
                refine stq hf rfl rfl rfl (ex_move hf rfl) (fun a hf => ?_)
                refine stq hf rfl rfl rfl (ex_move hf rfl) (fun a hf => ?_)
                refine stq hf rfl rfl rfl (ex_move hf rfl) (fun a hf => ?_)
                refine stq hf rfl rfl rfl (ex_indexAddr sa_39 (rsl_isSl (hr.now hs (i := 0) rfl)) hc34.1 hc34.2 hf rfl rfl) (fun a hf => ?_)
                refine stq hf rfl rfl rfl (ex_load sc_23 hf rfl (el_cell (K := K_uint64) (f := 0) (rsl_rd (hr.now hs (i := 0) rfl)) hc34.1 hc34.2 rfl)) (fun a hf => ?_)
                refine stepF hf rfl rfl rfl (ex_call cf_23 hf rfl) (idle_Limits_Set.calls k24 y20 y22 (gd 0 a0 y22) b8 b9 (hs.enter (.c (.c (.k (.k .nil))))) (Sr.nil _ _) hs35) (fun v w hR a hf => ?_)
                obtain ⟨rfl, hs'⟩ := hR
                replace hs := hs.step (.c (.c (.k (.k .nil)))) hs'
                clear hs'
                refine stq hf rfl rfl rfl (ex_neq hf rfl rfl) (fun a hf => ?_)
                refine stq hf rfl rfl rfl (ex_move hf rfl) (fun a hf => ?_)
                replace hf := hf.castB (t := 45) rfl (ndec_t hc36)
                replace hf := hf.castB (t := 46) rfl (ndec_t hc36)
                refine stepN hf rfl rfl rfl (fun a hf => ?_)
                refine stepN hf rfl rfl rfl (fun a hf => ?_)
                refine stepN hf rfl rfl rfl (fun a hf => ?_)
                refine stepN hf rfl rfl rfl (fun a hf => ?_)
                refine stepN hf rfl rfl rfl (fun a hf => ?_)
                refine stepN hf rfl rfl rfl (fun a hf => ?_)
                refine stepN hf rfl rfl rfl (fun a hf => ?_)
                refine stepN hf rfl rfl rfl (fun a hf => ?_)
                refine stq hf rfl rfl rfl (ex_pickT hf rfl rfl) (fun a hf => ?_)
                refine hK40 _ _ ?_
                have e33 := some_eq H; subst e33
                exact hJ33 _ _ ⟨hf.sub ⟨rfl, rfl, rfl, rfl, rfl, rfl, rfl, trivial⟩, hs⟩
            · obtain ⟨hf, hs⟩ := hJ
              replace H := HO33
              clear HO33
              refine itt H (fun hc41 H => ?_) (fun hc41 H => ?_)
              · -- x33.2.2 = true
                replace hf := hf.castB (t := 55) rfl hc41
                refine cond_T hf rfl ?_
                refine seq_reg (fun K42 hK42 => ?_)
                refine stq hf rfl rfl rfl (ex_assign hf rfl) (fun a hf => ?_)
                refine hK42 _ _ ?_
                refine wp_ret ?_
                refine hR29 _ _ ?_
                refine hR28 _ _ ?_
                refine hR24 _ _ ?_
                refine hR19 _ _ ?_
                have e17 := some_eq H; subst e17; replace H := el_rt HO17
                refine hR17 _ _ ?_
                have eR := some_eq H; subst eR
                replace hs := hs.keep (.d (.d (.d (.d .nil))))
                exact ret1 Try.results8 hf rfl ⟨_, rfl, ⟨rfl, hs⟩⟩
              · -- not x33.2.2 = true
                replace hf := hf.castB (t := 55) rfl (bool_f hc41)
                refine cond_F hf rfl ?_
                refine wp_skip ?_
                refine hN29 _ _ ?_
                refine hN28 _ _ ?_
                refine region_k (fun K43 hK43 => ?_)
                refine stq hf rfl rfl rfl (ex_move hf rfl) (fun a hf => ?_)
                refine stq hf rfl rfl rfl (ex_add hf rfl rfl) (fun a hf => ?_)
                refine stq hf rfl rfl rfl (ex_assign hf rfl) (fun a hf => ?_)
                refine hK43 _ _ ?_
                exact hL24 k24 _ _ (Nat.lt_succ_self _) ⟨x33.1, x33.2.1, (IntKind.i64.wrap (y22 + 1)), hf.sub ⟨rfl, rfl, rfl, rfl, rfl, rfl, trivial⟩, hs, H⟩
          · -- not y22 < (a0.length : Int)
            replace hf := hf.castB (t := 28) rfl (dec_f hc27)
            refine cond_F hf rfl ?_
            refine wp_exit ?_
            refine hX25 0 _ _ ?_
            refine hX24 0 _ _ ?_
            refine hX19 _ _ ?_
            have e17 := some_eq H; subst e17
            exact hJ17 _ _ ⟨_, rfl, hf.sub ⟨rfl, rfl, rfl, rfl, trivial⟩, hs⟩
    · obtain ⟨x17s, rfl, hf, hs⟩ := hJ
      replace H := el_go HO17
      clear HO17
      refine seq_n (fun Q44 hN44 hR44 hX44 => ?_)
      refine seq_reg (fun K45 hK45 => ?_)
      refine stq hf rfl rfl rfl (ex_move hf rfl) (fun a hf => ?_)
      refine stq hf rfl rfl rfl (ex_eql hf rfl rfl) (fun a hf => ?_)
      refine hK45 _ _ ?_
      refine itt H (fun hc46 H => ?_) (fun hc46 H => ?_)
      · -- (a0.length : Int) = 0
        replace hf := hf.castB (t := 57) rfl (dec_t hc46)
        refine cond_T hf rfl ?_
        refine bnd H (fun s47 hs47 H => ?_)
        refine itt H (fun hc48 H => ?_) (fun hc48 H => ?_)
        · -- s47 = 1152921504606846976
          refine bnd H (fun s49 hs49 H => ?_)
          refine seq_reg (fun K50 hK50 => ?_)
          refine stq hf rfl rfl rfl (ex_move hf rfl) (fun a hf => ?_)
          refine stepF hf rfl rfl rfl (ex_call cf_24 hf rfl) (idle_Limits_Limit.calls k x17s.1 b8 b9 (hs.enter (.k (.k (.k (.k .nil))))) (Sr.own hs (.k (.k (.k (.k .nil)))) (i := 0) rfl (fun _ h => h) (fun _ h => h) (Sr.own hs (.k (.k (.k (.k .nil)))) (i := 1) rfl (fun _ h => h) (fun _ h => h) (Sr.nil _ _))) hs47) (fun v w hR a hf => ?_)
          obtain ⟨rfl, hs'⟩ := hR
          replace hs := hs.step (.k (.k (.k (.k .nil)))) hs'
          clear hs'
          refine stq hf rfl rfl rfl (ex_eql hf rfl rfl) (fun a hf => ?_)
          refine stq hf rfl rfl rfl (ex_move hf rfl) (fun a hf => ?_)
          replace hf := hf.castB (t := 60) rfl (dec_t hc48)
          replace hf := hf.castB (t := 61) rfl (dec_t hc48)
          refine stepF hf rfl rfl rfl (ex_call cf_13 hf rfl) (law37_awake.calls k (hs.enter (.k (.k (.k (.k .nil))))) (Sr.nil _ _) hs49) (fun v w hR a hf => ?_)
          obtain ⟨rfl, hs'⟩ := hR
          replace hs := hs.step (.k (.k (.k (.k .nil)))) hs'
          clear hs'
          refine stq hf rfl rfl rfl (ex_pickT hf rfl rfl) (fun a hf => ?_)
          refine stq hf rfl rfl rfl (ex_assign hf rfl) (fun a hf => ?_)
          refine hK50 _ _ ?_
          refine wp_ret ?_
          refine hR44 _ _ ?_
          have eR := some_eq H; subst eR
          replace hs := hs.keep (.d (.d (.d (.d .nil))))
          exact ret1 Try.results8 hf rfl ⟨_, rfl, ⟨rfl, hs⟩⟩
        · -- not s47 = 1152921504606846976
          refine seq_reg (fun K51 hK51 => ?_)
          refine stq hf rfl rfl rfl (ex_move hf rfl) (fun a hf => ?_)
          refine stepF hf rfl rfl rfl (ex_call cf_24 hf rfl) (idle_Limits_Limit.calls k x17s.1 b8 b9 (hs.enter (.k (.k (.k (.k .nil))))) (Sr.own hs (.k (.k (.k (.k .nil)))) (i := 0) rfl (fun _ h => h) (fun _ h => h) (Sr.own hs (.k (.k (.k (.k .nil)))) (i := 1) rfl (fun _ h => h) (fun _ h => h) (Sr.nil _ _))) hs47) (fun v w hR a hf => ?_)
          obtain ⟨rfl, hs'⟩ := hR
          replace hs := hs.step (.k (.k (.k (.k .nil)))) hs'
          clear hs'
          refine stq hf rfl rfl rfl (ex_eql hf rfl rfl) (fun a hf => ?_)
          refine stq hf rfl rfl rfl (ex_move hf rfl) (fun a hf => ?_)
          replace hf := hf.castB (t := 60) rfl (dec_f hc48)
          replace hf := hf.castB (t := 61) rfl (dec_f hc48)
          refine stepN hf rfl rfl rfl (fun a hf => ?_)
          refine stq hf rfl rfl rfl (ex_pickF hf rfl rfl) (fun a hf => ?_)
          refine stq hf rfl rfl rfl (ex_assign hf rfl) (fun a hf => ?_)
          refine hK51 _ _ ?_
          refine wp_ret ?_
          refine hR44 _ _ ?_
          have eR := some_eq H; subst eR
          replace hs := hs.keep (.d (.d (.d (.d .nil))))
          exact ret1 Try.results8 hf rfl ⟨_, rfl, ⟨rfl, hs⟩⟩
      · -- not (a0.length : Int) = 0
        replace hf := hf.castB (t := 57) rfl (dec_f hc46)
        refine cond_F hf rfl ?_
        refine wp_skip ?_
        refine hN44 _ _ ?_
        refine seq_reg (fun K52 hK52 => ?_)
        refine stq hf rfl rfl rfl (ex_assign hf rfl) (fun a hf => ?_)
        refine hK52 _ _ ?_
        refine bnd H (fun x53 H53 HO53 => ?_)
        clear H
        refine seq_cut (fun a w => ∃ (x53s : Bool), x53 = .go x53s ∧ Fr a 97 [(5, .pointer (some ⟨b8, 0, none⟩)), (6, .pointer (some ⟨b11, 0, none⟩)), (10, .bool x53s)] ∧ St M w0 w [bx b8 64 [.map (some b9)], mp b9 .i64 .u64 x17s.1, bx b11 64 [.map (some b12)], mp b12 .i64 .u64 x17s.2]) (fun Q53 hJ53 hR53 hX53 => ?_) (fun a w hJ => ?_)
        · replace H := H53
          refine seq_reg (fun K54 hK54 => ?_)
          refine stq hf rfl rfl rfl (ex_assign hf rfl) (fun a hf => ?_)
          refine hK54 _ _ ?_
          refine block_k (fun Q55 hN55 hR55 hX55 hY55 => ?_)
          refine loop_k (fun n a w => ∃ (y56 : Bool) (y57 : Int), Fr a 97 [(0, v0), (5, .pointer (some ⟨b8, 0, none⟩)), (6, .pointer (some ⟨b11, 0, none⟩)), (7, .int .i64 (a0.length : Int)), (10, .bool y56), (11, .int .i64 y57)] ∧ St M w0 w [bx b8 64 [.map (some b9)], mp b9 .i64 .u64 x17s.1, bx b11 64 [.map (some b12)], mp b12 .i64 .u64 x17s.2] ∧ law37_IdleLimitIsMinimum.l2 n a0 x17s y56 y57 = some x53) k ?_ (fun n59 a w hI Q59 hL59 hR59 hX59 => ?_)
          · -- at the start
            exact ⟨false, 0, hf.sub ⟨rfl, rfl, rfl, rfl, rfl, rfl, trivial⟩, hs, H⟩
          · obtain ⟨y56, y57, hf, hs, H⟩ := hI
            cases n59 with
            | zero => exact absurd H (by rw [law37_IdleLimitIsMinimum.l2.eq_1]; intro h; cases h)
            | succ k59 =>
              replace H := (law37_IdleLimitIsMinimum.l2.eq_2 ..).symm.trans H
              refine seq_n (fun Q60 hN60 hR60 hX60 => ?_)
              refine seq_reg (fun K61 hK61 => ?_)
              refine stq hf rfl rfl rfl (ex_move hf rfl) (fun a hf => ?_)
              refine stq hf rfl rfl rfl (ex_move hf rfl) (fun a hf => ?_)
              refine stq hf rfl rfl rfl (ex_lss hf rfl rfl) (fun a hf => ?_)
              refine hK61 _ _ ?_
              refine itt H (fun hc62 H => ?_) (fun hc62 H => ?_)
              · -- y57 < (a0.length : Int)
                replace hf := hf.castB (t := 66) rfl (dec_t hc62)
                refine cond_T hf rfl ?_
                refine wp_skip ?_
                refine hN60 _ _ ?_
                refine bnd H (fun x63 H63 HO63 => ?_)
                clear H
                refine seq_cut (fun a w => ∃ (x63s : Bool), x63 = .go x63s ∧ Fr a 97 [(0, v0), (5, .pointer (some ⟨b8, 0, none⟩)), (6, .pointer (some ⟨b11, 0, none⟩)), (7, .int .i64 (a0.length : Int)), (10, .bool x63s), (11, .int .i64 y57)] ∧ St M w0 w [bx b8 64 [.map (some b9)], mp b9 .i64 .u64 x17s.1, bx b11 64 [.map (some b12)], mp b12 .i64 .u64 x17s.2]) (fun Q63 hJ63 hR63 hX63 => ?_) (fun a w hJ => ?_)
                · replace H := H63
                  refine block_k (fun Q64 hN64 hR64 hX64 hY64 => ?_)
                  refine seq_n (fun Q65 hN65 hR65 hX65 => ?_)
                  refine seq_n (fun Q66 hN66 hR66 hX66 => ?_)
                  refine bnd H (fun s67 hs67 H => ?_)
                  refine ck_some H (fun hc68 H => ?_)
                  refine region_d fol 7 [(0, v0), (5, .pointer (some ⟨b8, 0, none⟩)), (6, .pointer (some ⟨b11, 0, none⟩)), (7, .int .i64 (a0.length : Int)), (10, .bool y56), (11, .int .i64 y57)] [(0, .pointer (some ⟨b8, 0, none⟩)), (2, v0), (3, .int .i64 y57), (4, .pointer (some (sla v0 (y57.toNat * 1)))), (5, .int .u64 (gd 0 a0 y57))] [1] (fun w => (rsl K_uint64 v0 a0).ok w ∧ True) (fun w => St M w0 w [bx b8 64 [.map (some b9)], mp b9 .i64 .u64 x17s.1, bx b11 64 [.map (some b12)], mp b12 .i64 .u64 x17s.2]) hf ⟨rfl, rfl, rfl, rfl, rfl, rfl, trivial⟩ (by kernel_rfl) (by kernel_rfl) rfl (by decide) ⟨hr.now hs.drew (i := 0) rfl, trivial⟩ hs.drew (.cons (⟨_, _, rfl, rfl, rfl, rfl, fun a w hR hf => .inl ⟨wanted_yes hf rfl, ex_move hf rfl⟩⟩) (.cons (⟨_, _, rfl, rfl, rfl, rfl, fun a w hR hf => .inl ⟨wanted_yes hf rfl, ex_move hf rfl⟩⟩) (.cons (⟨_, _, rfl, rfl, rfl, rfl, fun a w hR hf => .inl ⟨wanted_yes hf rfl, ex_move hf rfl⟩⟩) (.cons (⟨_, _, rfl, rfl, rfl, rfl, fun a w hR hf => .inl ⟨wanted_yes hf rfl, ex_indexAddr sa_39 (rsl_isSl hR.1) hc68.1 hc68.2 hf rfl rfl⟩⟩) (.cons (⟨_, _, rfl, rfl, rfl, rfl, fun a w hR hf => .inl ⟨wanted_yes hf rfl, ex_load sc_23 hf rfl (el_cell (K := K_uint64) (f := 0) (rsl_rd hR.1) hc68.1 hc68.2 rfl)⟩⟩) (.nil)))))) (fun K69 hK69 => ?_)
                  refine RW.one 1 (by kernel_rfl) (by kernel_rfl) rfl (fun d hd => by cases hd; rfl) [(69, .pointer (some ⟨b8, 0, none⟩))] ⟨rfl, trivial⟩ (fun a w hR hs hf => ⟨wanted_yes hf rfl, ?_⟩)
                  refine estep_f (ex_call cf_24 hf rfl) (idle_Limits_Limit.calls k59 x17s.1 b8 b9 (hs.enter (.k (.k (.k (.k .nil))))) (Sr.own hs (.k (.k (.k (.k .nil)))) (i := 0) rfl (fun _ h => h) (fun _ h => h) (Sr.own hs (.k (.k (.k (.k .nil)))) (i := 1) rfl (fun _ h => h) (fun _ h => h) (Sr.nil _ _))) hs67) (fun v w hR => ?_)
                  obtain ⟨rfl, hs'⟩ := hR
                  replace hs := hs.step (.k (.k (.k (.k .nil)))) hs'
                  clear hs'
                  refine ⟨[(6, .bool (decide ((gd 0 a0 y57) < s67)))], [(6, .bool (decide ((gd 0 a0 y57) < s67))), (1, .int .u64 s67), (0, .pointer (some ⟨b8, 0, none⟩)), (2, v0), (3, .int .i64 y57), (4, .pointer (some (sla v0 (y57.toNat * 1)))), (5, .int .u64 (gd 0 a0 y57))], [], (fun _ => True), (fun w => St M w0 w [bx b8 64 [.map (some b9)], mp b9 .i64 .u64 x17s.1, bx b11 64 [.map (some b12)], mp b12 .i64 .u64 x17s.2]), rfl, rfl, ⟨hr.now hs (i := 0) rfl, trivial⟩, trivial, hs, (by kernel_rfl), .cons (⟨_, _, rfl, rfl, rfl, rfl, fun a w hR hf => .inl ⟨wanted_yes hf rfl, ex_gtr hf rfl rfl⟩⟩) (.nil), ?_⟩
                  refine RW.zero (by kernel_rfl) (by kernel_rfl) [(0, v0), (5, .pointer (some ⟨b8, 0, none⟩)), (6, .pointer (some ⟨b11, 0, none⟩)), (7, .int .i64 (a0.length : Int)), (10, .bool y56), (11, .int .i64 y57), (75, .bool (decide ((gd 0 a0 y57) < s67)))] ⟨rfl, rfl, rfl, rfl, rfl, rfl, rfl, trivial⟩ (fun a w hR hs hf => ?_)
                  refine hK69 _ _ ?_
                  refine hN66 _ _ ?_
                  refine itt H (fun hc70 H => ?_) (fun hc70 H => ?_)
                  · -- (gd 0 a0 y57) < s67
                    replace hf := hf.castB (t := 75) rfl (dec_t hc70)
                    refine cond_T hf rfl ?_
                    refine seq_reg (fun K71 hK71 => ?_)
                    refine stq hf rfl rfl rfl (ex_assign hf rfl) (fun a hf => ?_)
                    refine hK71 _ _ ?_
                    refine wp_ret ?_
                    refine hR65 _ _ ?_
                    refine hR64 _ _ ?_
                    have e63 := some_eq H; subst e63; replace H := el_rt HO63
                    refine hR63 _ _ ?_
                    refine hR59 _ _ ?_
                    refine hR55 _ _ ?_
                    have e53 := some_eq H; subst e53; replace H := el_rt HO53
                    refine hR53 _ _ ?_
                    have eR := some_eq H; subst eR
                    replace hs := hs.keep (.d (.d (.d (.d .nil))))
                    exact ret1 Try.results8 hf rfl ⟨_, rfl, ⟨rfl, hs⟩⟩
                  · -- not (gd 0 a0 y57) < s67
                    replace hf := hf.castB (t := 75) rfl (dec_f hc70)
                    refine cond_F hf rfl ?_
                    refine wp_skip ?_
                    refine hN65 _ _ ?_
                    refine itt H (fun hc72 H => ?_) (fun hc72 H => ?_)
                    · -- y56 = true
                      refine region_d fol 10 [(0, v0), (5, .pointer (some ⟨b8, 0, none⟩)), (6, .pointer (some ⟨b11, 0, none⟩)), (7, .int .i64 (a0.length : Int)), (10, .bool y56), (11, .int .i64 y57)] [(0, .bool true), (1, .bool true), (2, undef), (3, undef), (4, undef), (5, undef), (6, undef), (7, undef), (8, undef), (9, .bool true)] [] (fun w => True) (fun w => St M w0 w [bx b8 64 [.map (some b9)], mp b9 .i64 .u64 x17s.1, bx b11 64 [.map (some b12)], mp b12 .i64 .u64 x17s.2]) hf ⟨rfl, rfl, rfl, rfl, rfl, rfl, trivial⟩ (by kernel_rfl) (by kernel_rfl) rfl (by decide) trivial hs.drew (.cons (⟨_, _, rfl, rfl, rfl, rfl, fun a w hR hf => .inl ⟨wanted_yes hf rfl, ex_castB (ex_move hf rfl) hc72⟩⟩) (.cons (⟨_, _, rfl, rfl, rfl, rfl, fun a w hR hf => .inl ⟨wanted_yes hf rfl, ex_move hf rfl⟩⟩) (.cons (⟨_, _, rfl, rfl, rfl, rfl, fun a w hR hf => .inr ⟨wanted_no hf rfl, rfl⟩⟩) (.cons (⟨_, _, rfl, rfl, rfl, rfl, fun a w hR hf => .inr ⟨wanted_no hf rfl, rfl⟩⟩) (.cons (⟨_, _, rfl, rfl, rfl, rfl, fun a w hR hf => .inr ⟨wanted_no hf rfl, rfl⟩⟩) (.cons (⟨_, _, rfl, rfl, rfl, rfl, fun a w hR hf => .inr ⟨wanted_no hf rfl, rfl⟩⟩) (.cons (⟨_, _, rfl, rfl, rfl, rfl, fun a w hR hf => .inr ⟨wanted_no hf rfl, rfl⟩⟩) (.cons (⟨_, _, rfl, rfl, rfl, rfl, fun a w hR hf => .inr ⟨wanted_no hf rfl, rfl⟩⟩) (.cons (⟨_, _, rfl, rfl, rfl, rfl, fun a w hR hf => .inr ⟨wanted_no hf rfl, rfl⟩⟩) (.cons (⟨_, _, rfl, rfl, rfl, rfl, fun a w hR hf => .inl ⟨wanted_yes hf rfl, ex_pickT hf rfl rfl⟩⟩) (.nil))))))))))) (fun K73 hK73 => ?_)
                      refine RW.zero (by kernel_rfl) (by kernel_rfl) [(0, v0), (5, .pointer (some ⟨b8, 0, none⟩)), (6, .pointer (some ⟨b11, 0, none⟩)), (7, .int .i64 (a0.length : Int)), (10, .bool y56), (11, .int .i64 y57), (85, .bool true)] ⟨rfl, rfl, rfl, rfl, rfl, rfl, rfl, trivial⟩ (fun a w hR hs hf => ?_)
                      refine stq hf rfl rfl rfl (ex_assign hf rfl) (fun a hf => ?_)
                      refine hK73 _ _ ?_
                      refine hN64 _ _ ?_
                      have e63 := some_eq H; subst e63
                      exact hJ63 _ _ ⟨_, rfl, hf.sub ⟨rfl, rfl, rfl, rfl, rfl, rfl, trivial⟩, hs⟩
                    · -- not y56 = true
                      refine bnd H (fun s74 hs74 H => ?_)
                      refine region_d fol 10 [(0, v0), (5, .pointer (some ⟨b8, 0, none⟩)), (6, .pointer (some ⟨b11, 0, none⟩)), (7, .int .i64 (a0.length : Int)), (10, .bool y56), (11, .int .i64 y57)] [(0, .bool false), (1, .bool false), (2, .pointer (some ⟨b8, 0, none⟩)), (4, v0), (5, .int .i64 y57), (6, .pointer (some (sla v0 (y57.toNat * 1)))), (7, .int .u64 (gd 0 a0 y57))] [3] (fun w => (rsl K_uint64 v0 a0).ok w ∧ True) (fun w => St M w0 w [bx b8 64 [.map (some b9)], mp b9 .i64 .u64 x17s.1, bx b11 64 [.map (some b12)], mp b12 .i64 .u64 x17s.2]) hf ⟨rfl, rfl, rfl, rfl, rfl, rfl, trivial⟩ (by kernel_rfl) (by kernel_rfl) rfl (by decide) ⟨hr.now hs.drew (i := 0) rfl, trivial⟩ hs.drew (.cons (⟨_, _, rfl, rfl, rfl, rfl, fun a w hR hf => .inl ⟨wanted_yes hf rfl, ex_castB (ex_move hf rfl) (bool_f hc72)⟩⟩) (.cons (⟨_, _, rfl, rfl, rfl, rfl, fun a w hR hf => .inl ⟨wanted_yes hf rfl, ex_move hf rfl⟩⟩) (.cons (⟨_, _, rfl, rfl, rfl, rfl, fun a w hR hf => .inl ⟨wanted_yes hf rfl, ex_move hf rfl⟩⟩) (.cons (⟨_, _, rfl, rfl, rfl, rfl, fun a w hR hf => .inl ⟨wanted_yes hf rfl, ex_move hf rfl⟩⟩) (.cons (⟨_, _, rfl, rfl, rfl, rfl, fun a w hR hf => .inl ⟨wanted_yes hf rfl, ex_move hf rfl⟩⟩) (.cons (⟨_, _, rfl, rfl, rfl, rfl, fun a w hR hf => .inl ⟨wanted_yes hf rfl, ex_indexAddr sa_39 (rsl_isSl hR.1) hc68.1 hc68.2 hf rfl rfl⟩⟩) (.cons (⟨_, _, rfl, rfl, rfl, rfl, fun a w hR hf => .inl ⟨wanted_yes hf rfl, ex_load sc_23 hf rfl (el_cell (K := K_uint64) (f := 0) (rsl_rd hR.1) hc68.1 hc68.2 rfl)⟩⟩) (.nil)))))))) (fun K75 hK75 => ?_)
                      refine RW.one 3 (by kernel_rfl) (by kernel_rfl) rfl (fun d hd => by cases hd; rfl) [(77, .bool false), (78, .pointer (some ⟨b8, 0, none⟩))] ⟨rfl, rfl, trivial⟩ (fun a w hR hs hf => ⟨wanted_yes hf rfl, ?_⟩)
                      refine estep_f (ex_call cf_24 hf rfl) (idle_Limits_Limit.calls k59 x17s.1 b8 b9 (hs.enter (.k (.k (.k (.k .nil))))) (Sr.own hs (.k (.k (.k (.k .nil)))) (i := 0) rfl (fun _ h => h) (fun _ h => h) (Sr.own hs (.k (.k (.k (.k .nil)))) (i := 1) rfl (fun _ h => h) (fun _ h => h) (Sr.nil _ _))) hs74) (fun v w hR => ?_)
                      obtain ⟨rfl, hs'⟩ := hR
                      replace hs := hs.step (.k (.k (.k (.k .nil)))) hs'
                      clear hs'
                      refine ⟨[(8, .bool (decide (s74 = (gd 0 a0 y57)))), (9, .bool (decide (s74 = (gd 0 a0 y57))))], [(8, .bool (decide (s74 = (gd 0 a0 y57)))), (9, .bool (decide (s74 = (gd 0 a0 y57)))), (3, .int .u64 s74), (0, .bool false), (1, .bool false), (2, .pointer (some ⟨b8, 0, none⟩)), (4, v0), (5, .int .i64 y57), (6, .pointer (some (sla v0 (y57.toNat * 1)))), (7, .int .u64 (gd 0 a0 y57))], [], (fun _ => True), (fun w => St M w0 w [bx b8 64 [.map (some b9)], mp b9 .i64 .u64 x17s.1, bx b11 64 [.map (some b12)], mp b12 .i64 .u64 x17s.2]), rfl, rfl, ⟨hr.now hs (i := 0) rfl, trivial⟩, trivial, hs, (by kernel_rfl), .cons (⟨_, _, rfl, rfl, rfl, rfl, fun a w hR hf => .inl ⟨wanted_yes hf rfl, ex_eql hf rfl rfl⟩⟩) (.cons (⟨_, _, rfl, rfl, rfl, rfl, fun a w hR hf => .inl ⟨wanted_yes hf rfl, ex_pickF hf rfl rfl⟩⟩) (.nil)), ?_⟩
                      refine RW.zero (by kernel_rfl) (by kernel_rfl) [(0, v0), (5, .pointer (some ⟨b8, 0, none⟩)), (6, .pointer (some ⟨b11, 0, none⟩)), (7, .int .i64 (a0.length : Int)), (10, .bool y56), (11, .int .i64 y57), (85, .bool (decide (s74 = (gd 0 a0 y57))))] ⟨rfl, rfl, rfl, rfl, rfl, rfl, rfl, trivial⟩ (fun a w hR hs hf => ?_)
                      refine stq hf rfl rfl rfl (ex_assign hf rfl) (fun a hf => ?_)
                      refine hK75 _ _ ?_
                      refine hN64 _ _ ?_
                      have e63 := some_eq H; subst e63
                      exact hJ63 _ _ ⟨_, rfl, hf.sub ⟨rfl, rfl, rfl, rfl, rfl, rfl, trivial⟩, hs⟩
                · obtain ⟨x63s, rfl, hf, hs⟩ := hJ
                  replace H := el_go HO63
                  clear HO63
                  refine region_k (fun K76 hK76 => ?_)
                  refine stq hf rfl rfl rfl (ex_move hf rfl) (fun a hf => ?_)
                  refine stq hf rfl rfl rfl (ex_add hf rfl rfl) (fun a hf => ?_)
                  refine stq hf rfl rfl rfl (ex_assign hf rfl) (fun a hf => ?_)
                  refine hK76 _ _ ?_
                  exact hL59 k59 _ _ (Nat.lt_succ_self _) ⟨x63s, (IntKind.i64.wrap (y57 + 1)), hf.sub ⟨rfl, rfl, rfl, rfl, rfl, rfl, trivial⟩, hs, H⟩
              · -- not y57 < (a0.length : Int)
                replace hf := hf.castB (t := 66) rfl (dec_f hc62)
                refine cond_F hf rfl ?_
                refine wp_exit ?_
                refine hX60 2 _ _ ?_
                refine hX59 2 _ _ ?_
                refine hX55 _ _ ?_
                have e53 := some_eq H; subst e53
                exact hJ53 _ _ ⟨_, rfl, hf.sub ⟨rfl, rfl, rfl, trivial⟩, hs⟩
        · obtain ⟨x53s, rfl, hf, hs⟩ := hJ
          replace H := el_go HO53
          clear HO53
          refine itt H (fun hc77 H => ?_) (fun hc77 H => ?_)
          · -- x53s = true
            refine bnd H (fun s78 hs78 H => ?_)
            refine bnd H (fun s79 hs79 H => ?_)
            refine itt H (fun hc80 H => ?_) (fun hc80 H => ?_)
            · -- s78 = s79
              refine bnd H (fun s81 hs81 H => ?_)
              refine seq_reg (fun K82 hK82 => ?_)
              refine stq hf rfl rfl rfl (ex_move hf rfl) (fun a hf => ?_)
              refine stq hf rfl rfl rfl (ex_move hf rfl) (fun a hf => ?_)
              replace hf := hf.castB (t := 10) rfl hc77
              replace hf := hf.castB (t := 86) rfl hc77
              replace hf := hf.castB (t := 87) rfl hc77
              refine stq hf rfl rfl rfl (ex_move hf rfl) (fun a hf => ?_)
              refine stepF hf rfl rfl rfl (ex_call cf_24 hf rfl) (idle_Limits_Limit.calls k x17s.2 b11 b12 (hs.enter (.k (.k (.k (.k .nil))))) (Sr.own hs (.k (.k (.k (.k .nil)))) (i := 2) rfl (fun _ h => h) (fun _ h => h) (Sr.own hs (.k (.k (.k (.k .nil)))) (i := 3) rfl (fun _ h => h) (fun _ h => h) (Sr.nil _ _))) hs78) (fun v w hR a hf => ?_)
              obtain ⟨rfl, hs'⟩ := hR
              replace hs := hs.step (.k (.k (.k (.k .nil)))) hs'
              clear hs'
              refine stq hf rfl rfl rfl (ex_move hf rfl) (fun a hf => ?_)
              refine stepF hf rfl rfl rfl (ex_call cf_24 hf rfl) (idle_Limits_Limit.calls k x17s.1 b8 b9 (hs.enter (.k (.k (.k (.k .nil))))) (Sr.own hs (.k (.k (.k (.k .nil)))) (i := 0) rfl (fun _ h => h) (fun _ h => h) (Sr.own hs (.k (.k (.k (.k .nil)))) (i := 1) rfl (fun _ h => h) (fun _ h => h) (Sr.nil _ _))) hs79) (fun v w hR a hf => ?_)
              obtain ⟨rfl, hs'⟩ := hR
              replace hs := hs.step (.k (.k (.k (.k .nil)))) hs'
              clear hs'
              refine stq hf rfl rfl rfl (ex_eql hf rfl rfl) (fun a hf => ?_)
              refine stq hf rfl rfl rfl (ex_pickT hf rfl rfl) (fun a hf => ?_)
              refine stq hf rfl rfl rfl (ex_move hf rfl) (fun a hf => ?_)
              replace hf := hf.castB (t := 92) rfl (dec_t hc80)
              replace hf := hf.castB (t := 93) rfl (dec_t hc80)
              replace hf := hf.castB (t := 94) rfl (dec_t hc80)
              refine stepF hf rfl rfl rfl (ex_call cf_13 hf rfl) (law37_awake.calls k (hs.enter (.k (.k (.k (.k .nil))))) (Sr.nil _ _) hs81) (fun v w hR a hf => ?_)
              obtain ⟨rfl, hs'⟩ := hR
              replace hs := hs.step (.k (.k (.k (.k .nil)))) hs'
              clear hs'
              refine stq hf rfl rfl rfl (ex_pickT hf rfl rfl) (fun a hf => ?_)
              refine stq hf rfl rfl rfl (ex_assign hf rfl) (fun a hf => ?_)
              refine hK82 _ _ ?_
              refine wp_ret ?_
              have eR := some_eq H; subst eR
              replace hs := hs.keep (.d (.d (.d (.d .nil))))
              exact ret1 Try.results8 hf rfl ⟨_, rfl, ⟨rfl, hs⟩⟩
            · -- not s78 = s79
              refine seq_reg (fun K83 hK83 => ?_)
              refine stq hf rfl rfl rfl (ex_move hf rfl) (fun a hf => ?_)
              refine stq hf rfl rfl rfl (ex_move hf rfl) (fun a hf => ?_)
              replace hf := hf.castB (t := 10) rfl hc77
              replace hf := hf.castB (t := 86) rfl hc77
              replace hf := hf.castB (t := 87) rfl hc77
              refine stq hf rfl rfl rfl (ex_move hf rfl) (fun a hf => ?_)
              refine stepF hf rfl rfl rfl (ex_call cf_24 hf rfl) (idle_Limits_Limit.calls k x17s.2 b11 b12 (hs.enter (.k (.k (.k (.k .nil))))) (Sr.own hs (.k (.k (.k (.k .nil)))) (i := 2) rfl (fun _ h => h) (fun _ h => h) (Sr.own hs (.k (.k (.k (.k .nil)))) (i := 3) rfl (fun _ h => h) (fun _ h => h) (Sr.nil _ _))) hs78) (fun v w hR a hf => ?_)
              obtain ⟨rfl, hs'⟩ := hR
              replace hs := hs.step (.k (.k (.k (.k .nil)))) hs'
              clear hs'
              refine stq hf rfl rfl rfl (ex_move hf rfl) (fun a hf => ?_)
              refine stepF hf rfl rfl rfl (ex_call cf_24 hf rfl) (idle_Limits_Limit.calls k x17s.1 b8 b9 (hs.enter (.k (.k (.k (.k .nil))))) (Sr.own hs (.k (.k (.k (.k .nil)))) (i := 0) rfl (fun _ h => h) (fun _ h => h) (Sr.own hs (.k (.k (.k (.k .nil)))) (i := 1) rfl (fun _ h => h) (fun _ h => h) (Sr.nil _ _))) hs79) (fun v w hR a hf => ?_)
              obtain ⟨rfl, hs'⟩ := hR
              replace hs := hs.step (.k (.k (.k (.k .nil)))) hs'
              clear hs'
              refine stq hf rfl rfl rfl (ex_eql hf rfl rfl) (fun a hf => ?_)
              refine stq hf rfl rfl rfl (ex_pickT hf rfl rfl) (fun a hf => ?_)
              refine stq hf rfl rfl rfl (ex_move hf rfl) (fun a hf => ?_)
              replace hf := hf.castB (t := 92) rfl (dec_f hc80)
              replace hf := hf.castB (t := 93) rfl (dec_f hc80)
              replace hf := hf.castB (t := 94) rfl (dec_f hc80)
              refine stepN hf rfl rfl rfl (fun a hf => ?_)
              refine stq hf rfl rfl rfl (ex_pickF hf rfl rfl) (fun a hf => ?_)
              refine stq hf rfl rfl rfl (ex_assign hf rfl) (fun a hf => ?_)
              refine hK83 _ _ ?_
              refine wp_ret ?_
              have eR := some_eq H; subst eR
              replace hs := hs.keep (.d (.d (.d (.d .nil))))
              exact ret1 Try.results8 hf rfl ⟨_, rfl, ⟨rfl, hs⟩⟩
          · -- not x53s = true
            refine seq_reg (fun K84 hK84 => ?_)
            refine stq hf rfl rfl rfl (ex_move hf rfl) (fun a hf => ?_)
            refine stq hf rfl rfl rfl (ex_move hf rfl) (fun a hf => ?_)
            replace hf := hf.castB (t := 10) rfl (bool_f hc77)
            replace hf := hf.castB (t := 86) rfl (bool_f hc77)
            replace hf := hf.castB (t := 87) rfl (bool_f hc77)
            refine stepN hf rfl rfl rfl (fun a hf => ?_)
            refine stepN hf rfl rfl rfl (fun a hf => ?_)
            refine stepN hf rfl rfl rfl (fun a hf => ?_)
            refine stepN hf rfl rfl rfl (fun a hf => ?_)
            refine stepN hf rfl rfl rfl (fun a hf => ?_)
            refine stq hf rfl rfl rfl (ex_pickF hf rfl rfl) (fun a hf => ?_)
            refine stq hf rfl rfl rfl (ex_move hf rfl) (fun a hf => ?_)
            refine stepN hf rfl rfl rfl (fun a hf => ?_)
            refine stq hf rfl rfl rfl (ex_pickF hf rfl rfl) (fun a hf => ?_)
            refine stq hf rfl rfl rfl (ex_assign hf rfl) (fun a hf => ?_)
            refine hK84 _ _ ?_
            refine wp_ret ?_
            have eR := some_eq H; subst eR
            replace hs := hs.keep (.d (.d (.d (.d .nil))))
            exact ret1 Try.results8 hf rfl ⟨_, rfl, ⟨rfl, hs⟩⟩

end Go.Proofs.Ytmjfdknjloidoaa.X
