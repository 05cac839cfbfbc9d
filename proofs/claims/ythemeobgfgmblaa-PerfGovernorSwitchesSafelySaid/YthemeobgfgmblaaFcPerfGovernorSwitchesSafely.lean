/- Each function of the machine comes to what its pure function says. -/
import Derived.Test.YthemeobgfgmblaaFc1
import Derived.Test.YthemeobgfgmblaaFc2
import Derived.Test.YthemeobgfgmblaaFc3
import Derived.Test.YthemeobgfgmblaaFb
namespace Go.Proofs.Ythemeobgfgmblaa.X
open Go Go.RowKit Go.Sx
set_option linter.unusedVariables false

set_option maxRecDepth 100000 in
theorem law36_PerfGovernorSwitchesSafely.calls {M : Nat → Prop} {w0 : World} (k : Nat) (a0 : (List OperatingPoint)) (a1 : GovernorParams) (a2 : (List Int)) (v0 : Value) (v2 : Value) {r : Bool} (hs : St M w0 w0 []) (hr : Sr M w0 [rsl K_api_OperatingPoint v0 a0, rsl K_int v2 a2])
    (h : law36_PerfGovernorSwitchesSafely.f k a0 a1 a2 = some r) : Calls Try.prog 9 #[v0, .agg #[.int .i64 a1.Up, .int .i64 a1.Down, .int .i64 a1.Samples], v2] w0 fun e w => ∃ v, e = .returned v ∧ (.bool r = v ∧ St M w0 w []) := by
  have H := (law36_PerfGovernorSwitchesSafely.f.eq_1 ..).symm.trans h
  clear h
  refine enter Try.func9 rfl Try.ntmps9 rfl (fun a hf => ?_)
  refine seq_reg (fun K2 hK2 => ?_)
  refine stepV hf rfl rfl rfl (er_box (cs := [.int .i64 a1.Up, .int .i64 a1.Down, .int .i64 a1.Samples]) hs hf rfl rfl) (fun v w hR a hf => ?_)
  obtain ⟨b1, rfl, hs⟩ := hR
  refine stq hf rfl rfl rfl (ex_assign hf rfl) (fun a hf => ?_)
  refine hK2 _ _ ?_
  refine seq_n (fun Q3 hN3 hR3 hX3 => ?_)
  refine bnd H (fun x4 H4 HO4 => ?_)
  clear H
  refine seq_cut (fun a w => Fr a 82 [(0, v0), (2, v2), (4, .pointer (some ⟨b1, 0, none⟩)), (24, .bool x4)] ∧ St M w0 w [bx b1 45 [.int .i64 a1.Up, .int .i64 a1.Down, .int .i64 a1.Samples]]) (fun Q4 hJ4 hR4 hX4 => ?_) (fun a w hJ => ?_)
  · replace H := H4
    refine itt H (fun hc5 H => ?_) (fun hc5 H => ?_)
    · -- 20 < (a0.length : Int)
      refine region_k (fun K6 hK6 => ?_)
      refine stq hf rfl rfl rfl (ex_move hf rfl) (fun a hf => ?_)
      refine stq hf rfl rfl rfl (ex_lenS Try.underlying22 (rsl_isSl (hr.now hs (i := 0) rfl)) hf rfl) (fun a hf => ?_)
      refine stq hf rfl rfl rfl (ex_gtr hf rfl rfl) (fun a hf => ?_)
      refine stq hf rfl rfl rfl (ex_move hf rfl) (fun a hf => ?_)
      replace hf := hf.castB (t := 19) rfl (dec_t hc5)
      replace hf := hf.castB (t := 20) rfl (dec_t hc5)
      refine stepN hf rfl rfl rfl (fun a hf => ?_)
      refine stepN hf rfl rfl rfl (fun a hf => ?_)
      refine stepN hf rfl rfl rfl (fun a hf => ?_)
      refine stq hf rfl rfl rfl (ex_pickT hf rfl rfl) (fun a hf => ?_)
      refine hK6 _ _ ?_
      have e4 := some_eq H; subst e4
      exact hJ4 _ _ ⟨hf.sub ⟨rfl, rfl, rfl, rfl, trivial⟩, hs⟩
    · -- not 20 < (a0.length : Int)
      refine region_k (fun K7 hK7 => ?_)
      refine stq hf rfl rfl rfl (ex_move hf rfl) (fun a hf => ?_)
      refine stq hf rfl rfl rfl (ex_lenS Try.underlying22 (rsl_isSl (hr.now hs (i := 0) rfl)) hf rfl) (fun a hf => ?_)
      refine stq hf rfl rfl rfl (ex_gtr hf rfl rfl) (fun a hf => ?_)
      refine stq hf rfl rfl rfl (ex_move hf rfl) (fun a hf => ?_)
      replace hf := hf.castB (t := 19) rfl (dec_f hc5)
      replace hf := hf.castB (t := 20) rfl (dec_f hc5)
      refine stq hf rfl rfl rfl (ex_move hf rfl) (fun a hf => ?_)
      refine stq hf rfl rfl rfl (ex_lenS Try.underlying52 (rsl_isSl (hr.now hs (i := 1) rfl)) hf rfl) (fun a hf => ?_)
      refine stq hf rfl rfl rfl (ex_gtr hf rfl rfl) (fun a hf => ?_)
      refine stq hf rfl rfl rfl (ex_pickF hf rfl rfl) (fun a hf => ?_)
      refine hK7 _ _ ?_
      have e4 := some_eq H; subst e4
      exact hJ4 _ _ ⟨hf.sub ⟨rfl, rfl, rfl, rfl, trivial⟩, hs⟩
  · obtain ⟨hf, hs⟩ := hJ
    replace H := HO4
    clear HO4
    refine itt H (fun hc8 H => ?_) (fun hc8 H => ?_)
    · -- x4 = true
      replace hf := hf.castB (t := 24) rfl hc8
      refine cond_T hf rfl ?_
      refine bnd H (fun s9 hs9 H => ?_)
      refine seq_reg (fun K10 hK10 => ?_)
      refine stepF hf rfl rfl rfl (ex_call cf_12 hf rfl) (law36_awake.calls k (hs.enter (.k .nil)) (Sr.nil _ _) hs9) (fun v w hR a hf => ?_)
      obtain ⟨rfl, hs'⟩ := hR
      replace hs := hs.step (.k .nil) hs'
      clear hs'
      refine stq hf rfl rfl rfl (ex_assign hf rfl) (fun a hf => ?_)
      refine hK10 _ _ ?_
      refine wp_ret ?_
      refine hR3 _ _ ?_
      have eR := some_eq H; subst eR
      replace hs := hs.keep (.d .nil)
      exact ret1 Try.results9 hf rfl ⟨_, rfl, ⟨rfl, hs⟩⟩
    · -- not x4 = true
      replace hf := hf.castB (t := 24) rfl (bool_f hc8)
      refine cond_F hf rfl ?_
      refine wp_skip ?_
      refine hN3 _ _ ?_
      refine bnd H (fun s11 hs11 H => ?_)
      refine seq_reg (fun K13 hK13 => ?_)
      refine stq hf rfl rfl rfl (ex_move hf rfl) (fun a hf => ?_)
      refine stepF hf rfl rfl rfl (ex_call cf_13 hf rfl) (law36_Table.calls k a0 v0 (hs.enter (.k .nil)) (Sr.old hr hs (.k .nil) (i := 0) rfl (fun _ h => h) (fun _ h => h) (Sr.nil _ _)) hs11) (fun v w hR a hf => ?_)
      obtain ⟨v12, rfl, hs'⟩ := hR
      replace hs := hs.step (.k .nil) hs'
      clear hs'
      refine stq hf rfl rfl rfl (ex_assign hf rfl) (fun a hf => ?_)
      refine hK13 _ _ ?_
      refine seq_n (fun Q14 hN14 hR14 hX14 => ?_)
      refine bnd H (fun s15 hs15 H => ?_)
      refine bnd H (fun s16 hs16 H => ?_)
      cases hps16 : s16.1 with
      | none =>
        replace H := elim_n hps16 H
        refine region_k (fun K18 hK18 => ?_)
        refine stq hf rfl rfl rfl (ex_move hf rfl) (fun a hf => ?_)
        refine stq hf rfl rfl rfl (ex_loadA (cs := [.int .i64 a1.Up, .int .i64 a1.Down, .int .i64 a1.Samples]) ag_45 hf rfl (bx_cells (hs.get (i := 1) rfl) rfl)) (fun a hf => ?_)
        refine stepF hf rfl rfl rfl (ex_call cf_24 hf rfl) (law36_params.calls k a1 (hs.enter (.k (.k .nil))) (Sr.nil _ _) hs15) (fun v w hR a hf => ?_)
        obtain ⟨rfl, hs'⟩ := hR
        replace hs := hs.step (.k (.k .nil)) hs'
        clear hs'
        refine stepF hf rfl rfl rfl (ex_call cf_25 hf rfl) (perf_New.calls k s11 s15 v12 (hs.enter (.k (.k .nil))) (Sr.own hs (.k (.k .nil)) (i := 0) rfl osl_rsl (fun _ h => h.1) (Sr.nil _ _)) hs16) (fun v w hR a hf => ?_)
        obtain ⟨_, rfl, hs'⟩ | ⟨_, hc', _⟩ := hR
        case inr => rw [hps16] at hc'; cases hc'
        replace hs := hs.step (.k (.k .nil)) hs'
        clear hs'
        refine stq hf rfl rfl rfl (ex_move hf rfl) (fun a hf => ?_)
        refine stq hf rfl rfl rfl (ex_extract hf rfl rfl) (fun a hf => ?_)
        refine stq hf rfl rfl rfl (ex_extract hf rfl rfl) (fun a hf => ?_)
        refine stq hf rfl rfl rfl (ex_assign hf rfl) (fun a hf => ?_)
        refine stq hf rfl rfl rfl (ex_assign hf rfl) (fun a hf => ?_)
        refine hK18 _ _ ?_
        refine hN14 _ _ ?_
        refine seq_n (fun Q19 hN19 hR19 hX19 => ?_)
        refine bnd H (fun x20 H20 HO20 => ?_)
        clear H
        refine seq_cut (fun a w => Fr a 82 [(2, v2), (7, v12), (8, .pointer none), (40, .bool true)] ∧ St M w0 w [osl K_api_OperatingPoint v12 s11]) (fun Q20 hJ20 hR20 hX20 => ?_) (fun a w hJ => ?_)
        · replace H := H20
          refine itt H (fun hc21 H => ?_) (fun hc21 H => ?_)
          · -- s16.2 = 0
            refine region_k (fun K22 hK22 => ?_)
            refine stq hf rfl rfl rfl (ex_move hf rfl) (fun a hf => ?_)
            refine stq hf rfl rfl rfl (ex_neq hf rfl rfl) (fun a hf => ?_)
            refine stq hf rfl rfl rfl (ex_move hf rfl) (fun a hf => ?_)
            replace hf := hf.castB (t := 36) rfl (ndec_f hc21)
            replace hf := hf.castB (t := 37) rfl (ndec_f hc21)
            refine stq hf rfl rfl rfl (ex_move hf rfl) (fun a hf => ?_)
            refine stq hf rfl rfl rfl (ex_eqp Try.underlying47 hf rfl rfl) (fun a hf => ?_)
            refine stq hf rfl rfl rfl (ex_pickF hf rfl rfl) (fun a hf => ?_)
            refine hK22 _ _ ?_
            replace hs := hs.keep (.k (.d .nil))
            have e20 := some_eq H; subst e20
            exact hJ20 _ _ ⟨hf.sub ⟨rfl, rfl, rfl, rfl, trivial⟩, hs⟩
          · -- not s16.2 = 0
            refine region_k (fun K23 hK23 => ?_)
            refine stq hf rfl rfl rfl (ex_move hf rfl) (fun a hf => ?_)
            refine stq hf rfl rfl rfl (ex_neq hf rfl rfl) (fun a hf => ?_)
            refine stq hf rfl rfl rfl (ex_move hf rfl) (fun a hf => ?_)
            replace hf := hf.castB (t := 36) rfl (ndec_t hc21)
            replace hf := hf.castB (t := 37) rfl (ndec_t hc21)
            refine stepN hf rfl rfl rfl (fun a hf => ?_)
            refine stepN hf rfl rfl rfl (fun a hf => ?_)
            refine stq hf rfl rfl rfl (ex_pickT hf rfl rfl) (fun a hf => ?_)
            refine hK23 _ _ ?_
            replace hs := hs.keep (.k (.d .nil))
            have e20 := some_eq H; subst e20
            exact hJ20 _ _ ⟨hf.sub ⟨rfl, rfl, rfl, rfl, trivial⟩, hs⟩
        · obtain ⟨hf, hs⟩ := hJ
          replace H := HO20
          clear HO20
          refine cond_T hf rfl ?_
          refine seq_reg (fun K24 hK24 => ?_)
          refine stq hf rfl rfl rfl (ex_assign hf rfl) (fun a hf => ?_)
          refine hK24 _ _ ?_
          refine wp_ret ?_
          refine hR19 _ _ ?_
          have eR := some_eq H; subst eR
          replace hs := hs.keep (.d .nil)
          exact ret1 Try.results9 hf rfl ⟨_, rfl, ⟨rfl, hs⟩⟩
      | some c17 =>
        replace H := elim_s hps16 H
        refine region_k (fun K27 hK27 => ?_)
        refine stq hf rfl rfl rfl (ex_move hf rfl) (fun a hf => ?_)
        refine stq hf rfl rfl rfl (ex_loadA (cs := [.int .i64 a1.Up, .int .i64 a1.Down, .int .i64 a1.Samples]) ag_45 hf rfl (bx_cells (hs.get (i := 1) rfl) rfl)) (fun a hf => ?_)
        refine stepF hf rfl rfl rfl (ex_call cf_24 hf rfl) (law36_params.calls k a1 (hs.enter (.k (.k .nil))) (Sr.nil _ _) hs15) (fun v w hR a hf => ?_)
        obtain ⟨rfl, hs'⟩ := hR
        replace hs := hs.step (.k (.k .nil)) hs'
        clear hs'
        refine stepF hf rfl rfl rfl (ex_call cf_25 hf rfl) (perf_New.calls k s11 s15 v12 (hs.enter (.k (.k .nil))) (Sr.own hs (.k (.k .nil)) (i := 0) rfl osl_rsl (fun _ h => h.1) (Sr.nil _ _)) hs16) (fun v w hR a hf => ?_)
        obtain ⟨hc', _⟩ | ⟨cc, hc', b25, v26, rfl, hs'⟩ := hR
        case inl => rw [hps16] at hc'; cases hc'
        obtain rfl : c17 = cc := by rw [hps16] at hc'; exact Option.some.inj hc'
        replace hs := hs.step (.k (.k .nil)) hs'
        clear hs'
        refine stq hf rfl rfl rfl (ex_move hf rfl) (fun a hf => ?_)
        refine stq hf rfl rfl rfl (ex_extract hf rfl rfl) (fun a hf => ?_)
        refine stq hf rfl rfl rfl (ex_extract hf rfl rfl) (fun a hf => ?_)
        refine stq hf rfl rfl rfl (ex_assign hf rfl) (fun a hf => ?_)
        refine stq hf rfl rfl rfl (ex_assign hf rfl) (fun a hf => ?_)
        refine hK27 _ _ ?_
        refine hN14 _ _ ?_
        refine seq_n (fun Q28 hN28 hR28 hX28 => ?_)
        refine bnd H (fun x29 H29 HO29 => ?_)
        clear H
        refine seq_cut (fun a w => Fr a 82 [(2, v2), (7, v12), (8, .pointer (some ⟨b25, 0, none⟩)), (40, .bool x29)] ∧ St M w0 w [osl K_api_OperatingPoint v12 s11, bx b25 66 [v26, .int .i64 c17.2.1, .int .i64 c17.2.2.1, .int .i64 c17.2.2.2.1, .int .i64 c17.2.2.2.2.1, .int .i64 c17.2.2.2.2.2.1, .int .i64 c17.2.2.2.2.2.2.1, .int .i64 c17.2.2.2.2.2.2.2], osl K_api_OperatingPoint v26 c17.1]) (fun Q29 hJ29 hR29 hX29 => ?_) (fun a w hJ => ?_)
        · replace H := H29
          refine itt H (fun hc30 H => ?_) (fun hc30 H => ?_)
          · -- s16.2 = 0
            refine region_k (fun K31 hK31 => ?_)
            refine stq hf rfl rfl rfl (ex_move hf rfl) (fun a hf => ?_)
            refine stq hf rfl rfl rfl (ex_neq hf rfl rfl) (fun a hf => ?_)
            refine stq hf rfl rfl rfl (ex_move hf rfl) (fun a hf => ?_)
            replace hf := hf.castB (t := 36) rfl (ndec_f hc30)
            replace hf := hf.castB (t := 37) rfl (ndec_f hc30)
            refine stq hf rfl rfl rfl (ex_move hf rfl) (fun a hf => ?_)
            refine stq hf rfl rfl rfl (ex_eqp Try.underlying47 hf rfl rfl) (fun a hf => ?_)
            refine stq hf rfl rfl rfl (ex_pickF hf rfl rfl) (fun a hf => ?_)
            refine hK31 _ _ ?_
            replace hs := hs.keep (.k (.k (.k (.d .nil))))
            replace hs := hs.pick (.k (.c (.k .nil)))
            replace hs := hs.pick (.k (.c (.k .nil)))
            replace hs := hs.pick (.k (.k (.c .nil)))
            have e29 := some_eq H; subst e29
            exact hJ29 _ _ ⟨hf.sub ⟨rfl, rfl, rfl, rfl, trivial⟩, hs⟩
          · -- not s16.2 = 0
            refine region_k (fun K32 hK32 => ?_)
            refine stq hf rfl rfl rfl (ex_move hf rfl) (fun a hf => ?_)
            refine stq hf rfl rfl rfl (ex_neq hf rfl rfl) (fun a hf => ?_)
            refine stq hf rfl rfl rfl (ex_move hf rfl) (fun a hf => ?_)
            replace hf := hf.castB (t := 36) rfl (ndec_t hc30)
            replace hf := hf.castB (t := 37) rfl (ndec_t hc30)
            refine stepN hf rfl rfl rfl (fun a hf => ?_)
            refine stepN hf rfl rfl rfl (fun a hf => ?_)
            refine stq hf rfl rfl rfl (ex_pickT hf rfl rfl) (fun a hf => ?_)
            refine hK32 _ _ ?_
            replace hs := hs.keep (.k (.k (.k (.d .nil))))
            replace hs := hs.pick (.k (.c (.k .nil)))
            replace hs := hs.pick (.k (.c (.k .nil)))
            replace hs := hs.pick (.k (.k (.c .nil)))
            have e29 := some_eq H; subst e29
            exact hJ29 _ _ ⟨hf.sub ⟨rfl, rfl, rfl, rfl, trivial⟩, hs⟩
        · obtain ⟨hf, hs⟩ := hJ
          replace H := HO29
          clear HO29
          refine itt H (fun hc33 H => ?_) (fun hc33 H => ?_)
          · -- x29 = true
            replace hf := hf.castB (t := 40) rfl hc33
            refine cond_T hf rfl ?_
            refine seq_reg (fun K34 hK34 => ?_)
            refine stq hf rfl rfl rfl (ex_assign hf rfl) (fun a hf => ?_)
            refine hK34 _ _ ?_
            refine wp_ret ?_
            refine hR28 _ _ ?_
            have eR := some_eq H; subst eR
            replace hs := hs.keep (.d (.d (.d .nil)))
            exact ret1 Try.results9 hf rfl ⟨_, rfl, ⟨rfl, hs⟩⟩
          · -- not x29 = true
            replace hf := hf.castB (t := 40) rfl (bool_f hc33)
            refine cond_F hf rfl ?_
            refine wp_skip ?_
            refine hN28 _ _ ?_
            refine bnd H (fun s35 hs35 H => ?_)
            refine seq_reg (fun K36 hK36 => ?_)
            refine stq hf rfl rfl rfl (ex_move hf rfl) (fun a hf => ?_)
            refine stepF hf rfl rfl rfl (ex_call cf_27 hf rfl) (perf_Governor_Current.calls k c17.1 c17.2.1 c17.2.2.1 c17.2.2.2.1 c17.2.2.2.2.1 c17.2.2.2.2.2.1 c17.2.2.2.2.2.2.1 c17.2.2.2.2.2.2.2 b25 v26 (hs.enter (.k (.k (.k .nil)))) (Sr.own hs (.k (.k (.k .nil))) (i := 1) rfl (fun _ h => h) (fun _ h => h) (Sr.own hs (.k (.k (.k .nil))) (i := 2) rfl osl_rsl (fun _ h => h.1) (Sr.nil _ _))) hs35) (fun v w hR a hf => ?_)
            obtain ⟨rfl, hs'⟩ := hR
            replace hs := hs.step (.k (.k (.k .nil))) hs'
            clear hs'
            refine stq hf rfl rfl rfl (ex_assign hf rfl) (fun a hf => ?_)
            refine hK36 _ _ ?_
            refine seq_reg (fun K37 hK37 => ?_)
            refine stq hf rfl rfl rfl (ex_assign hf rfl) (fun a hf => ?_)
            refine hK37 _ _ ?_
            refine bnd H (fun x38 H38 HO38 => ?_)
            clear H
            refine seq_cut (fun a w => ∃ (x38s : (List PerfOp)) (v39 : Value), x38 = .go x38s ∧ Fr a 82 [(7, v12), (11, v39)] ∧ St M w0 w [osl K_api_OperatingPoint v12 s11, osl K_api_PerfOp v39 x38s]) (fun Q38 hJ38 hR38 hX38 => ?_) (fun a w hJ => ?_)
            · replace H := H38
              refine seq_reg (fun K40 hK40 => ?_)
              refine stq hf rfl rfl rfl (ex_assign hf rfl) (fun a hf => ?_)
              refine hK40 _ _ ?_
              refine block_k (fun Q41 hN41 hR41 hX41 hY41 => ?_)
              refine loop_k (fun n a w => ∃ (y43 : Int) (y44 : Int) (y45 : Int) (y46 : (List PerfOp)) (y47 : Int) (v42 : Value), Fr a 82 [(2, v2), (7, v12), (8, .pointer (some ⟨b25, 0, none⟩)), (10, .int .i64 y45), (11, v42), (12, .int .i64 y47)] ∧ St M w0 w [osl K_api_OperatingPoint v12 s11, bx b25 66 [v26, .int .i64 c17.2.1, .int .i64 c17.2.2.1, .int .i64 c17.2.2.2.1, .int .i64 c17.2.2.2.2.1, .int .i64 c17.2.2.2.2.2.1, .int .i64 y43, .int .i64 y44], osl K_api_OperatingPoint v26 c17.1, osl K_api_PerfOp v42 y46] ∧ law36_PerfGovernorSwitchesSafely.l1 n a2 c17 s11 y43 y44 y45 y46 y47 = some x38) k ?_ (fun n49 a w hI Q49 hL49 hR49 hX49 => ?_)
              · -- at the start
                replace hs := hs.nilS K_api_PerfOp
                replace hs := hs.pick (.k (.k (.k (.c .nil))))
                replace hs := hs.pick (.k (.k (.k (.c .nil))))
                replace hs := hs.pick (.k (.k (.k (.c .nil))))
                exact ⟨c17.2.2.2.2.2.2.1, c17.2.2.2.2.2.2.2, s35, [], 0, (.slice none 0 0), hf.sub ⟨rfl, rfl, rfl, rfl, rfl, rfl, trivial⟩, hs, H⟩
              · obtain ⟨y43, y44, y45, y46, y47, v42, hf, hs, H⟩ := hI
                cases n49 with
                | zero => exact absurd H (by rw [law36_PerfGovernorSwitchesSafely.l1.eq_1]; intro h; cases h)
                | succ k49 =>
                  replace H := (law36_PerfGovernorSwitchesSafely.l1.eq_2 ..).symm.trans H
                  refine seq_n (fun Q50 hN50 hR50 hX50 => ?_)
                  refine seq_reg (fun K51 hK51 => ?_)
                  refine stq hf rfl rfl rfl (ex_move hf rfl) (fun a hf => ?_)
                  refine stq hf rfl rfl rfl (ex_move hf rfl) (fun a hf => ?_)
                  refine stq hf rfl rfl rfl (ex_lenS Try.underlying52 (rsl_isSl (hr.now hs (i := 1) rfl)) hf rfl) (fun a hf => ?_)
                  refine stq hf rfl rfl rfl (ex_lss hf rfl rfl) (fun a hf => ?_)
                  refine hK51 _ _ ?_
                  refine itt H (fun hc52 H => ?_) (fun hc52 H => ?_)
                  · -- y47 < (a2.length : Int)
                    replace hf := hf.castB (t := 46) rfl (dec_t hc52)
                    refine cond_T hf rfl ?_
                    refine wp_skip ?_
                    refine hN50 _ _ ?_
                    refine seq_n (fun Q53 hN53 hR53 hX53 => ?_)
                    refine block_k (fun Q54 hN54 hR54 hX54 hY54 => ?_)
                    refine ck_some H (fun hc55 H => ?_)
                    refine bnd H (fun s56 hs56 H => ?_)
                    refine bnd H (fun s57 hs57 H => ?_)
                    refine seq_reg (fun K58 hK58 => ?_)
                    refine stq hf rfl rfl rfl (ex_move hf rfl) (fun a hf => ?_)
                    refine stq hf rfl rfl rfl (ex_move hf rfl) (fun a hf => ?_)
                    refine stq hf rfl rfl rfl (ex_move hf rfl) (fun a hf => ?_)
                    refine stq hf rfl rfl rfl (ex_indexAddr sa_52 (rsl_isSl (hr.now hs (i := 1) rfl)) hc55.1 hc55.2 hf rfl rfl) (fun a hf => ?_)
                    refine stq hf rfl rfl rfl (ex_load sc_3 hf rfl (el_cell (K := K_int) (f := 0) (rsl_rd (hr.now hs (i := 1) rfl)) hc55.1 hc55.2 rfl)) (fun a hf => ?_)
                    refine stepF hf rfl rfl rfl (ex_call cf_14 hf rfl) (help_Mod.calls k49 (gd 0 a2 y47) 101 (hs.enter (.k (.k (.k (.k .nil))))) (Sr.nil _ _) hs56) (fun v w hR a hf => ?_)
                    obtain ⟨rfl, hs'⟩ := hR
                    replace hs := hs.step (.k (.k (.k (.k .nil)))) hs'
                    clear hs'
                    refine stepF hf rfl rfl rfl (ex_call cf_26 hf rfl) (perf_Governor_Sample.calls k49 c17.1 c17.2.1 c17.2.2.1 c17.2.2.2.1 c17.2.2.2.2.1 c17.2.2.2.2.2.1 y43 y44 s56 b25 v26 (hs.enter (.k (.c (.k (.k .nil))))) (Sr.own hs (.k (.c (.k (.k .nil)))) (i := 1) rfl osl_rsl (fun _ h => h.1) (Sr.nil _ _)) hs57) (fun v w hR a hf => ?_)
                    obtain ⟨rfl, hs'⟩ := hR
                    replace hs := hs.step (.k (.c (.k (.k .nil)))) hs'
                    clear hs'
                    refine stq hf rfl rfl rfl (ex_move hf rfl) (fun a hf => ?_)
                    refine stq hf rfl rfl rfl (ex_extract hf rfl rfl) (fun a hf => ?_)
                    refine stq hf rfl rfl rfl (ex_extract hf rfl rfl) (fun a hf => ?_)
                    refine stq hf rfl rfl rfl (ex_assign hf rfl) (fun a hf => ?_)
                    refine stq hf rfl rfl rfl (ex_assign hf rfl) (fun a hf => ?_)
                    refine hK58 _ _ ?_
                    refine bnd H (fun s59 hs59 H => ?_)
                    refine seq_reg (fun K61 hK61 => ?_)
                    refine stq hf rfl rfl rfl (ex_move hf rfl) (fun a hf => ?_)
                    refine stq hf rfl rfl rfl (ex_move hf rfl) (fun a hf => ?_)
                    refine stq hf rfl rfl rfl (ex_move hf rfl) (fun a hf => ?_)
                    refine stepF hf rfl rfl rfl (ex_call cf_19 hf rfl) (perf_Transition.calls k49 s11 y45 s57.2.2.1 v12 (hs.enter (.k (.k (.k (.k .nil))))) (Sr.own hs (.k (.k (.k (.k .nil)))) (i := 1) rfl osl_rsl (fun _ h => h.1) (Sr.nil _ _)) hs59) (fun v w hR a hf => ?_)
                    obtain ⟨v60, rfl, hs'⟩ := hR
                    replace hs := hs.step (.k (.k (.k (.k .nil)))) hs'
                    clear hs'
                    refine stq hf rfl rfl rfl (ex_move hf rfl) (fun a hf => ?_)
                    refine stq hf rfl rfl rfl (ex_extract hf rfl rfl) (fun a hf => ?_)
                    refine stq hf rfl rfl rfl (ex_extract hf rfl rfl) (fun a hf => ?_)
                    refine stq hf rfl rfl rfl (ex_assign hf rfl) (fun a hf => ?_)
                    refine stq hf rfl rfl rfl (ex_assign hf rfl) (fun a hf => ?_)
                    refine hK61 _ _ ?_
                    refine seq_n (fun Q62 hN62 hR62 hX62 => ?_)
                    refine bnd H (fun x63 H63 HO63 => ?_)
                    clear H
                    refine seq_cut (fun a w => Fr a 82 [(2, v2), (7, v12), (8, .pointer (some ⟨b25, 0, none⟩)), (11, v42), (12, .int .i64 y47), (13, .int .i64 s57.2.2.1), (15, v60), (71, .bool x63)] ∧ St M w0 w [osl K_api_OperatingPoint v12 s11, bx b25 66 [v26, .int .i64 c17.2.1, .int .i64 c17.2.2.1, .int .i64 c17.2.2.2.1, .int .i64 c17.2.2.2.2.1, .int .i64 c17.2.2.2.2.2.1, .int .i64 s57.1, .int .i64 s57.2.1], osl K_api_OperatingPoint v26 c17.1, osl K_api_PerfOp v42 y46, osl K_api_PerfOp v60 s59.1]) (fun Q63 hJ63 hR63 hX63 => ?_) (fun a w hJ => ?_)
                    · replace H := H63
                      refine itt H (fun hc64 H => ?_) (fun hc64 H => ?_)
                      · -- s57.2.2.2 = 0
                        refine region_k (fun K65 hK65 => ?_)
                        refine stq hf rfl rfl rfl (ex_move hf rfl) (fun a hf => ?_)
                        refine stq hf rfl rfl rfl (ex_neq hf rfl rfl) (fun a hf => ?_)
                        refine stq hf rfl rfl rfl (ex_move hf rfl) (fun a hf => ?_)
                        replace hf := hf.castB (t := 67) rfl (ndec_f hc64)
                        replace hf := hf.castB (t := 68) rfl (ndec_f hc64)
                        refine stq hf rfl rfl rfl (ex_move hf rfl) (fun a hf => ?_)
                        refine stq hf rfl rfl rfl (ex_neq hf rfl rfl) (fun a hf => ?_)
                        refine stq hf rfl rfl rfl (ex_pickF hf rfl rfl) (fun a hf => ?_)
                        refine hK65 _ _ ?_
                        replace hs := hs.pick (.k (.k (.k (.k (.c .nil)))))
                        replace hs := hs.pick (.k (.k (.k (.k (.c .nil)))))
                        replace hs := hs.pick (.k (.k (.k (.c (.k .nil)))))
                        replace hs := hs.pick (.k (.k (.k (.k (.c .nil)))))
                        have e63 := some_eq H; subst e63
                        exact hJ63 _ _ ⟨hf.sub ⟨rfl, rfl, rfl, rfl, rfl, rfl, rfl, rfl, trivial⟩, hs⟩
                      · -- not s57.2.2.2 = 0
                        refine region_k (fun K66 hK66 => ?_)
                        refine stq hf rfl rfl rfl (ex_move hf rfl) (fun a hf => ?_)
                        refine stq hf rfl rfl rfl (ex_neq hf rfl rfl) (fun a hf => ?_)
                        refine stq hf rfl rfl rfl (ex_move hf rfl) (fun a hf => ?_)
                        replace hf := hf.castB (t := 67) rfl (ndec_t hc64)
                        replace hf := hf.castB (t := 68) rfl (ndec_t hc64)
                        refine stepN hf rfl rfl rfl (fun a hf => ?_)
                        refine stepN hf rfl rfl rfl (fun a hf => ?_)
                        refine stq hf rfl rfl rfl (ex_pickT hf rfl rfl) (fun a hf => ?_)
                        refine hK66 _ _ ?_
                        replace hs := hs.pick (.k (.k (.k (.k (.c .nil)))))
                        replace hs := hs.pick (.k (.k (.k (.k (.c .nil)))))
                        replace hs := hs.pick (.k (.k (.k (.c (.k .nil)))))
                        replace hs := hs.pick (.k (.k (.k (.k (.c .nil)))))
                        have e63 := some_eq H; subst e63
                        exact hJ63 _ _ ⟨hf.sub ⟨rfl, rfl, rfl, rfl, rfl, rfl, rfl, rfl, trivial⟩, hs⟩
                    · obtain ⟨hf, hs⟩ := hJ
                      replace H := HO63
                      clear HO63
                      refine itt H (fun hc67 H => ?_) (fun hc67 H => ?_)
                      · -- x63 = true
                        replace hf := hf.castB (t := 71) rfl hc67
                        refine cond_T hf rfl ?_
                        refine seq_reg (fun K68 hK68 => ?_)
                        refine stq hf rfl rfl rfl (ex_assign hf rfl) (fun a hf => ?_)
                        refine hK68 _ _ ?_
                        refine wp_ret ?_
                        refine hR62 _ _ ?_
                        refine hR54 _ _ ?_
                        refine hR53 _ _ ?_
                        refine hR49 _ _ ?_
                        refine hR41 _ _ ?_
                        have e38 := some_eq H; subst e38; replace H := el_rt HO38
                        refine hR38 _ _ ?_
                        have eR := some_eq H; subst eR
                        replace hs := hs.keep (.d (.d (.d (.d (.d .nil)))))
                        exact ret1 Try.results9 hf rfl ⟨_, rfl, ⟨rfl, hs⟩⟩
                      · -- not x63 = true
                        replace hf := hf.castB (t := 71) rfl (bool_f hc67)
                        refine cond_F hf rfl ?_
                        refine wp_skip ?_
                        refine hN62 _ _ ?_
                        refine ck_some H (fun hc69 H => ?_)
                        refine seq_reg (fun K71 hK71 => ?_)
                        refine stq hf rfl rfl rfl (ex_move hf rfl) (fun a hf => ?_)
                        refine stq hf rfl rfl rfl (ex_move hf rfl) (fun a hf => ?_)
                        refine stepV hf rfl rfl rfl (er_append (K := K_api_PerfOp) hs (.k (.k (.k (.c (.k .nil))))) (osl_rsl _ (hs.get (i := 4) rfl)) rfl Try.underlying35 ep_40 hc69 rfl hf rfl rfl) (fun v70 w hs a hf => ?_)
                        refine stq hf rfl rfl rfl (ex_assign hf rfl) (fun a hf => ?_)
                        refine hK71 _ _ ?_
                        refine region_k (fun K72 hK72 => ?_)
                        refine stq hf rfl rfl rfl (ex_move hf rfl) (fun a hf => ?_)
                        refine stq hf rfl rfl rfl (ex_assign hf rfl) (fun a hf => ?_)
                        refine hK72 _ _ ?_
                        refine hN54 _ _ ?_
                        refine hN53 _ _ ?_
                        refine region_k (fun K73 hK73 => ?_)
                        refine stq hf rfl rfl rfl (ex_move hf rfl) (fun a hf => ?_)
                        refine stq hf rfl rfl rfl (ex_add hf rfl rfl) (fun a hf => ?_)
                        refine stq hf rfl rfl rfl (ex_assign hf rfl) (fun a hf => ?_)
                        refine hK73 _ _ ?_
                        replace hs := hs.keep (.k (.k (.k (.k (.d .nil)))))
                        replace hs := hs.pick (.k (.k (.k (.c .nil))))
                        replace hs := hs.pick (.k (.k (.k (.c .nil))))
                        replace hs := hs.pick (.k (.k (.k (.c .nil))))
                        exact hL49 k49 _ _ (Nat.lt_succ_self _) ⟨s57.1, s57.2.1, s57.2.2.1, (y46 ++ s59.1), (IntKind.i64.wrap (y47 + 1)), v70, hf.sub ⟨rfl, rfl, rfl, rfl, rfl, rfl, trivial⟩, hs, H⟩
                  · -- not y47 < (a2.length : Int)
                    replace hf := hf.castB (t := 46) rfl (dec_f hc52)
                    refine cond_F hf rfl ?_
                    refine wp_exit ?_
                    refine hX50 0 _ _ ?_
                    refine hX49 0 _ _ ?_
                    refine hX41 _ _ ?_
                    replace hs := hs.keep (.k (.d (.d (.k .nil))))
                    have e38 := some_eq H; subst e38
                    exact hJ38 _ _ ⟨_, v42, rfl, hf.sub ⟨rfl, rfl, trivial⟩, hs⟩
            · obtain ⟨x38s, v39, rfl, hf, hs⟩ := hJ
              replace H := el_go HO38
              clear HO38
              refine bnd H (fun s74 hs74 H => ?_)
              refine itt H (fun hc75 H => ?_) (fun hc75 H => ?_)
              · -- s74 = true
                refine bnd H (fun s76 hs76 H => ?_)
                refine seq_reg (fun K77 hK77 => ?_)
                refine stq hf rfl rfl rfl (ex_move hf rfl) (fun a hf => ?_)
                refine stq hf rfl rfl rfl (ex_move hf rfl) (fun a hf => ?_)
                refine stepF hf rfl rfl rfl (ex_call cf_22 hf rfl) (perf_Safe.calls k s11 0 x38s v12 v39 (hs.enter (.k (.k .nil))) (Sr.own hs (.k (.k .nil)) (i := 0) rfl osl_rsl (fun _ h => h.1) (Sr.own hs (.k (.k .nil)) (i := 1) rfl osl_rsl (fun _ h => h.1) (Sr.nil _ _))) hs74) (fun v w hR a hf => ?_)
                obtain ⟨rfl, hs'⟩ := hR
                replace hs := hs.step (.k (.k .nil)) hs'
                clear hs'
                refine stq hf rfl rfl rfl (ex_move hf rfl) (fun a hf => ?_)
                replace hf := hf.castB (t := 78) rfl hc75
                replace hf := hf.castB (t := 79) rfl hc75
                refine stepF hf rfl rfl rfl (ex_call cf_12 hf rfl) (law36_awake.calls k (hs.enter (.k (.k .nil))) (Sr.nil _ _) hs76) (fun v w hR a hf => ?_)
                obtain ⟨rfl, hs'⟩ := hR
                replace hs := hs.step (.k (.k .nil)) hs'
                clear hs'
                refine stq hf rfl rfl rfl (ex_pickT hf rfl rfl) (fun a hf => ?_)
                refine stq hf rfl rfl rfl (ex_assign hf rfl) (fun a hf => ?_)
                refine hK77 _ _ ?_
                refine wp_ret ?_
                have eR := some_eq H; subst eR
                replace hs := hs.keep (.d (.d .nil))
                exact ret1 Try.results9 hf rfl ⟨_, rfl, ⟨rfl, hs⟩⟩
              · -- not s74 = true
                refine seq_reg (fun K78 hK78 => ?_)
                refine stq hf rfl rfl rfl (ex_move hf rfl) (fun a hf => ?_)
                refine stq hf rfl rfl rfl (ex_move hf rfl) (fun a hf => ?_)
                refine stepF hf rfl rfl rfl (ex_call cf_22 hf rfl) (perf_Safe.calls k s11 0 x38s v12 v39 (hs.enter (.k (.k .nil))) (Sr.own hs (.k (.k .nil)) (i := 0) rfl osl_rsl (fun _ h => h.1) (Sr.own hs (.k (.k .nil)) (i := 1) rfl osl_rsl (fun _ h => h.1) (Sr.nil _ _))) hs74) (fun v w hR a hf => ?_)
                obtain ⟨rfl, hs'⟩ := hR
                replace hs := hs.step (.k (.k .nil)) hs'
                clear hs'
                refine stq hf rfl rfl rfl (ex_move hf rfl) (fun a hf => ?_)
                replace hf := hf.castB (t := 78) rfl (bool_f hc75)
                replace hf := hf.castB (t := 79) rfl (bool_f hc75)
                refine stepN hf rfl rfl rfl (fun a hf => ?_)
                refine stq hf rfl rfl rfl (ex_pickF hf rfl rfl) (fun a hf => ?_)
                refine stq hf rfl rfl rfl (ex_assign hf rfl) (fun a hf => ?_)
                refine hK78 _ _ ?_
                refine wp_ret ?_
                have eR := some_eq H; subst eR
                replace hs := hs.keep (.d (.d .nil))
                exact ret1 Try.results9 hf rfl ⟨_, rfl, ⟨rfl, hs⟩⟩

end Go.Proofs.Ythemeobgfgmblaa.X
