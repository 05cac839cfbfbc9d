/- Each function of the machine comes to what its pure function says. -/
import Derived.Test.YtkcmohmnmapnbaaFc1
import Derived.Test.YtkcmohmnmapnbaaFc2
import Derived.Test.YtkcmohmnmapnbaaFb
namespace Go.Proofs.Ytkcmohmnmapnbaa.X
open Go Go.RowKit Go.Sx
set_option linter.unusedVariables false

set_option maxRecDepth 100000 in
theorem law39_ThermalMoreBudgetHelps.calls {M : Nat → Prop} {w0 : World} (k : Nat) (a0 : Int) (a1 : Int) (a2 : (List Actor)) (v2 : Value) {r : Bool} (hs : St M w0 w0 []) (hr : Sr M w0 [rsl K_api_Actor v2 a2])
    (h : law39_ThermalMoreBudgetHelps.f k a0 a1 a2 = some r) : Calls Try.prog 5 #[.int .u64 a0, .int .u64 a1, v2] w0 fun e w => ∃ v, e = .returned v ∧ (.bool r = v ∧ St M w0 w []) := by
  have H := (law39_ThermalMoreBudgetHelps.f.eq_1 ..).symm.trans h
  clear h
  refine enter Try.func5 rfl Try.ntmps5 rfl (fun a hf => ?_)
  refine seq_reg (fun K1 hK1 => ?_)
  refine stq hf rfl rfl rfl (ex_assign hf rfl) (fun a hf => ?_)
  refine hK1 _ _ ?_
  refine seq_n (fun Q2 hN2 hR2 hX2 => ?_)
  refine seq_reg (fun K3 hK3 => ?_)
  refine stq hf rfl rfl rfl (ex_move hf rfl) (fun a hf => ?_)
  refine stq hf rfl rfl rfl (ex_lenS Try.underlying38 (rsl_isSl (hr.now hs (i := 0) rfl)) hf rfl) (fun a hf => ?_)
  refine stq hf rfl rfl rfl (ex_gtr hf rfl rfl) (fun a hf => ?_)
  refine hK3 _ _ ?_
  refine itt H (fun hc4 H => ?_) (fun hc4 H => ?_)
  · -- 40 < (a2.length : Int)
    replace hf := hf.castB (t := 16) rfl (dec_t hc4)
    refine cond_T hf rfl ?_
    refine bnd H (fun s5 hs5 H => ?_)
    refine seq_reg (fun K6 hK6 => ?_)
    refine stepF hf rfl rfl rfl (ex_call cf_10 hf rfl) (law39_awake.calls k (hs.enter .nil) (Sr.nil _ _) hs5) (fun v w hR a hf => ?_)
    obtain ⟨rfl, hs'⟩ := hR
    replace hs := hs.step .nil hs'
    clear hs'
    refine stq hf rfl rfl rfl (ex_assign hf rfl) (fun a hf => ?_)
    refine hK6 _ _ ?_
    refine wp_ret ?_
    refine hR2 _ _ ?_
    have eR := some_eq H; subst eR
    exact ret1 Try.results5 hf rfl ⟨_, rfl, ⟨rfl, hs⟩⟩
  · -- not 40 < (a2.length : Int)
    replace hf := hf.castB (t := 16) rfl (dec_f hc4)
    refine cond_F hf rfl ?_
    refine wp_skip ?_
    refine hN2 _ _ ?_
    refine bnd H (fun s7 hs7 H => ?_)
    refine seq_reg (fun K9 hK9 => ?_)
    refine stq hf rfl rfl rfl (ex_move hf rfl) (fun a hf => ?_)
    refine stepF hf rfl rfl rfl (ex_call cf_17 hf rfl) (law39_Actors.calls k a2 v2 (hs.enter .nil) (Sr.old hr hs .nil (i := 0) rfl (fun _ h => h) (fun _ h => h) (Sr.nil _ _)) hs7) (fun v w hR a hf => ?_)
    obtain ⟨v8, rfl, hs'⟩ := hR
    replace hs := hs.step .nil hs'
    clear hs'
    refine stq hf rfl rfl rfl (ex_assign hf rfl) (fun a hf => ?_)
    refine hK9 _ _ ?_
    refine seq_reg (fun K10 hK10 => ?_)
    refine stq hf rfl rfl rfl (ex_move hf rfl) (fun a hf => ?_)
    refine stq hf rfl rfl rfl (ex_rem hf rfl rfl (by decide)) (fun a hf => ?_)
    refine stq hf rfl rfl rfl (ex_assign hf rfl) (fun a hf => ?_)
    refine hK10 _ _ ?_
    refine bnd H (fun s11 hs11 H => ?_)
    refine seq_reg (fun K13 hK13 => ?_)
    refine stq hf rfl rfl rfl (ex_move hf rfl) (fun a hf => ?_)
    refine stq hf rfl rfl rfl (ex_move hf rfl) (fun a hf => ?_)
    refine stepF hf rfl rfl rfl (ex_call cf_18 hf rfl) (thermal_Allocate.calls k (Int.tmod a0 200) s7 v8 (hs.enter (.k .nil)) (Sr.own hs (.k .nil) (i := 0) rfl osl_rsl (fun _ h => h.1) (Sr.nil _ _)) hs11) (fun v w hR a hf => ?_)
    obtain ⟨v12, rfl, hs'⟩ := hR
    replace hs := hs.step (.k .nil) hs'
    clear hs'
    refine stq hf rfl rfl rfl (ex_move hf rfl) (fun a hf => ?_)
    refine stq hf rfl rfl rfl (ex_extract hf rfl rfl) (fun a hf => ?_)
    refine stq hf rfl rfl rfl (ex_extract hf rfl rfl) (fun a hf => ?_)
    refine stq hf rfl rfl rfl (ex_assign hf rfl) (fun a hf => ?_)
    refine stq hf rfl rfl rfl (ex_assign hf rfl) (fun a hf => ?_)
    refine hK13 _ _ ?_
    refine bnd H (fun s14 hs14 H => ?_)
    refine seq_reg (fun K16 hK16 => ?_)
    refine stq hf rfl rfl rfl (ex_move hf rfl) (fun a hf => ?_)
    refine stq hf rfl rfl rfl (ex_move hf rfl) (fun a hf => ?_)
    refine stq hf rfl rfl rfl (ex_rem hf rfl rfl (by decide)) (fun a hf => ?_)
    refine stq hf rfl rfl rfl (ex_add hf rfl rfl) (fun a hf => ?_)
    refine stq hf rfl rfl rfl (ex_move hf rfl) (fun a hf => ?_)
    refine stepF hf rfl rfl rfl (ex_call cf_18 hf rfl) (thermal_Allocate.calls k (IntKind.u64.wrap ((Int.tmod a0 200) + (Int.tmod a1 20))) s7 v8 (hs.enter (.k (.k .nil))) (Sr.own hs (.k (.k .nil)) (i := 1) rfl osl_rsl (fun _ h => h.1) (Sr.nil _ _)) hs14) (fun v w hR a hf => ?_)
    obtain ⟨v15, rfl, hs'⟩ := hR
    replace hs := hs.step (.k (.k .nil)) hs'
    clear hs'
    refine stq hf rfl rfl rfl (ex_move hf rfl) (fun a hf => ?_)
    refine stq hf rfl rfl rfl (ex_extract hf rfl rfl) (fun a hf => ?_)
    refine stq hf rfl rfl rfl (ex_extract hf rfl rfl) (fun a hf => ?_)
    refine stq hf rfl rfl rfl (ex_assign hf rfl) (fun a hf => ?_)
    refine stq hf rfl rfl rfl (ex_assign hf rfl) (fun a hf => ?_)
    refine hK16 _ _ ?_
    refine seq_n (fun Q17 hN17 hR17 hX17 => ?_)
    refine seq_reg (fun K18 hK18 => ?_)
    refine stq hf rfl rfl rfl (ex_move hf rfl) (fun a hf => ?_)
    refine stq hf rfl rfl rfl (ex_neq hf rfl rfl) (fun a hf => ?_)
    refine hK18 _ _ ?_
    refine itt H (fun hc19 H => ?_) (fun hc19 H => ?_)
    · -- s11.2 = 0
      replace hf := hf.castB (t := 38) rfl (ndec_f hc19)
      refine cond_F hf rfl ?_
      refine wp_skip ?_
      refine hN17 _ _ ?_
      refine seq_n (fun Q20 hN20 hR20 hX20 => ?_)
      refine bnd H (fun x21 H21 HO21 => ?_)
      clear H
      refine seq_cut (fun a w => Fr a 76 [(7, v8), (9, v12), (11, v15), (59, .bool x21)] ∧ St M w0 w [osl K_api_Actor v8 s7, osl K_uint64 v12 s11.1, osl K_uint64 v15 s14.1]) (fun Q21 hJ21 hR21 hX21 => ?_) (fun a w hJ => ?_)
      · replace H := H21
        refine itt H (fun hc22 H => ?_) (fun hc22 H => ?_)
        · -- s14.2 = 0
          refine itt H (fun hc23 H => ?_) (fun hc23 H => ?_)
          · -- (s11.1.length : Int) = (s7.length : Int)
            refine region_k (fun K24 hK24 => ?_)
            refine stq hf rfl rfl rfl (ex_move hf rfl) (fun a hf => ?_)
            refine stq hf rfl rfl rfl (ex_neq hf rfl rfl) (fun a hf => ?_)
            refine stq hf rfl rfl rfl (ex_move hf rfl) (fun a hf => ?_)
            replace hf := hf.castB (t := 45) rfl (ndec_f hc22)
            replace hf := hf.castB (t := 46) rfl (ndec_f hc22)
            refine stq hf rfl rfl rfl (ex_move hf rfl) (fun a hf => ?_)
            refine stq hf rfl rfl rfl (ex_lenS Try.underlying40 (rsl_isSl (osl_rsl _ (hs.get (i := 1) rfl))) hf rfl) (fun a hf => ?_)
            refine stq hf rfl rfl rfl (ex_move hf rfl) (fun a hf => ?_)
            refine stq hf rfl rfl rfl (ex_lenS Try.underlying38 (rsl_isSl (osl_rsl _ (hs.get (i := 2) rfl))) hf rfl) (fun a hf => ?_)
            refine stq hf rfl rfl rfl (ex_neq hf rfl rfl) (fun a hf => ?_)
            refine stq hf rfl rfl rfl (ex_pickF hf rfl rfl) (fun a hf => ?_)
            refine stq hf rfl rfl rfl (ex_move hf rfl) (fun a hf => ?_)
            replace hf := hf.castB (t := 51) rfl (ndec_f hc23)
            replace hf := hf.castB (t := 52) rfl (ndec_f hc23)
            replace hf := hf.castB (t := 53) rfl (ndec_f hc23)
            refine stq hf rfl rfl rfl (ex_move hf rfl) (fun a hf => ?_)
            refine stq hf rfl rfl rfl (ex_lenS Try.underlying40 (rsl_isSl (osl_rsl _ (hs.get (i := 0) rfl))) hf rfl) (fun a hf => ?_)
            refine stq hf rfl rfl rfl (ex_move hf rfl) (fun a hf => ?_)
            refine stq hf rfl rfl rfl (ex_lenS Try.underlying38 (rsl_isSl (osl_rsl _ (hs.get (i := 2) rfl))) hf rfl) (fun a hf => ?_)
            refine stq hf rfl rfl rfl (ex_neq hf rfl rfl) (fun a hf => ?_)
            refine stq hf rfl rfl rfl (ex_pickF hf rfl rfl) (fun a hf => ?_)
            refine hK24 _ _ ?_
            replace hs := hs.pick (.k (.c (.k .nil)))
            replace hs := hs.pick (.k (.k (.c .nil)))
            have e21 := some_eq H; subst e21
            exact hJ21 _ _ ⟨hf.sub ⟨rfl, rfl, rfl, rfl, trivial⟩, hs⟩
          · -- not (s11.1.length : Int) = (s7.length : Int)
            refine region_k (fun K25 hK25 => ?_)
            refine stq hf rfl rfl rfl (ex_move hf rfl) (fun a hf => ?_)
            refine stq hf rfl rfl rfl (ex_neq hf rfl rfl) (fun a hf => ?_)
            refine stq hf rfl rfl rfl (ex_move hf rfl) (fun a hf => ?_)
            replace hf := hf.castB (t := 45) rfl (ndec_f hc22)
            replace hf := hf.castB (t := 46) rfl (ndec_f hc22)
            refine stq hf rfl rfl rfl (ex_move hf rfl) (fun a hf => ?_)
            refine stq hf rfl rfl rfl (ex_lenS Try.underlying40 (rsl_isSl (osl_rsl _ (hs.get (i := 1) rfl))) hf rfl) (fun a hf => ?_)
            refine stq hf rfl rfl rfl (ex_move hf rfl) (fun a hf => ?_)
            refine stq hf rfl rfl rfl (ex_lenS Try.underlying38 (rsl_isSl (osl_rsl _ (hs.get (i := 2) rfl))) hf rfl) (fun a hf => ?_)
            refine stq hf rfl rfl rfl (ex_neq hf rfl rfl) (fun a hf => ?_)
            refine stq hf rfl rfl rfl (ex_pickF hf rfl rfl) (fun a hf => ?_)
            refine stq hf rfl rfl rfl (ex_move hf rfl) (fun a hf => ?_)
            replace hf := hf.castB (t := 51) rfl (ndec_t hc23)
            replace hf := hf.castB (t := 52) rfl (ndec_t hc23)
            replace hf := hf.castB (t := 53) rfl (ndec_t hc23)
            refine stepN hf rfl rfl rfl (fun a hf => ?_)
            refine stepN hf rfl rfl rfl (fun a hf => ?_)
            refine stepN hf rfl rfl rfl (fun a hf => ?_)
            refine stepN hf rfl rfl rfl (fun a hf => ?_)
            refine stepN hf rfl rfl rfl (fun a hf => ?_)
            refine stq hf rfl rfl rfl (ex_pickT hf rfl rfl) (fun a hf => ?_)
            refine hK25 _ _ ?_
            replace hs := hs.pick (.k (.c (.k .nil)))
            replace hs := hs.pick (.k (.k (.c .nil)))
            have e21 := some_eq H; subst e21
            exact hJ21 _ _ ⟨hf.sub ⟨rfl, rfl, rfl, rfl, trivial⟩, hs⟩
        · -- not s14.2 = 0
          refine region_k (fun K26 hK26 => ?_)
          refine stq hf rfl rfl rfl (ex_move hf rfl) (fun a hf => ?_)
          refine stq hf rfl rfl rfl (ex_neq hf rfl rfl) (fun a hf => ?_)
          refine stq hf rfl rfl rfl (ex_move hf rfl) (fun a hf => ?_)
          replace hf := hf.castB (t := 45) rfl (ndec_t hc22)
          replace hf := hf.castB (t := 46) rfl (ndec_t hc22)
          refine stepN hf rfl rfl rfl (fun a hf => ?_)
          refine stepN hf rfl rfl rfl (fun a hf => ?_)
          refine stepN hf rfl rfl rfl (fun a hf => ?_)
          refine stepN hf rfl rfl rfl (fun a hf => ?_)
          refine stepN hf rfl rfl rfl (fun a hf => ?_)
          refine stq hf rfl rfl rfl (ex_pickT hf rfl rfl) (fun a hf => ?_)
          refine stq hf rfl rfl rfl (ex_move hf rfl) (fun a hf => ?_)
          refine stepN hf rfl rfl rfl (fun a hf => ?_)
          refine stepN hf rfl rfl rfl (fun a hf => ?_)
          refine stepN hf rfl rfl rfl (fun a hf => ?_)
          refine stepN hf rfl rfl rfl (fun a hf => ?_)
          refine stepN hf rfl rfl rfl (fun a hf => ?_)
          refine stq hf rfl rfl rfl (ex_pickT hf rfl rfl) (fun a hf => ?_)
          refine hK26 _ _ ?_
          replace hs := hs.pick (.k (.c (.k .nil)))
          replace hs := hs.pick (.k (.k (.c .nil)))
          have e21 := some_eq H; subst e21
          exact hJ21 _ _ ⟨hf.sub ⟨rfl, rfl, rfl, rfl, trivial⟩, hs⟩
      · obtain ⟨hf, hs⟩ := hJ
        replace H := HO21
        clear HO21
        refine itt H (fun hc27 H => ?_) (fun hc27 H => ?_)
        · -- x21 = true
          replace hf := hf.castB (t := 59) rfl hc27
          refine cond_T hf rfl ?_
          refine seq_reg (fun K28 hK28 => ?_)
          refine stq hf rfl rfl rfl (ex_assign hf rfl) (fun a hf => ?_)
          refine hK28 _ _ ?_
          refine wp_ret ?_
          refine hR20 _ _ ?_
          have eR := some_eq H; subst eR
          replace hs := hs.keep (.d (.d (.d .nil)))
          exact ret1 Try.results5 hf rfl ⟨_, rfl, ⟨rfl, hs⟩⟩
        · -- not x21 = true
          replace hf := hf.castB (t := 59) rfl (bool_f hc27)
          refine cond_F hf rfl ?_
          refine wp_skip ?_
          refine hN20 _ _ ?_
          refine bnd H (fun x29 H29 HO29 => ?_)
          clear H
          refine seq_cut (fun a w => ∃ (x29s : Unit), x29 = .go x29s ∧ Fr a 76 [] ∧ St M w0 w []) (fun Q29 hJ29 hR29 hX29 => ?_) (fun a w hJ => ?_)
          · replace H := H29
            refine seq_reg (fun K30 hK30 => ?_)
            refine stq hf rfl rfl rfl (ex_assign hf rfl) (fun a hf => ?_)
            refine hK30 _ _ ?_
            refine block_k (fun Q31 hN31 hR31 hX31 hY31 => ?_)
            refine loop_k (fun n a w => ∃ (y32 : Int), Fr a 76 [(7, v8), (9, v12), (11, v15), (13, .int .i64 y32)] ∧ St M w0 w [osl K_api_Actor v8 s7, osl K_uint64 v12 s11.1, osl K_uint64 v15 s14.1] ∧ law39_ThermalMoreBudgetHelps.l1 n s7 s14 s11 y32 = some x29) k ?_ (fun n34 a w hI Q34 hL34 hR34 hX34 => ?_)
            · -- at the start
              exact ⟨0, hf.sub ⟨rfl, rfl, rfl, rfl, trivial⟩, hs, H⟩
            · obtain ⟨y32, hf, hs, H⟩ := hI
              cases n34 with
              | zero => exact absurd H (by rw [law39_ThermalMoreBudgetHelps.l1.eq_1]; intro h; cases h)
              | succ k34 =>
                replace H := (law39_ThermalMoreBudgetHelps.l1.eq_2 ..).symm.trans H
                refine seq_n (fun Q35 hN35 hR35 hX35 => ?_)
                refine seq_reg (fun K36 hK36 => ?_)
                refine stq hf rfl rfl rfl (ex_move hf rfl) (fun a hf => ?_)
                refine stq hf rfl rfl rfl (ex_move hf rfl) (fun a hf => ?_)
                refine stq hf rfl rfl rfl (ex_lenS Try.underlying38 (rsl_isSl (osl_rsl _ (hs.get (i := 0) rfl))) hf rfl) (fun a hf => ?_)
                refine stq hf rfl rfl rfl (ex_lss hf rfl rfl) (fun a hf => ?_)
                refine hK36 _ _ ?_
                refine itt H (fun hc37 H => ?_) (fun hc37 H => ?_)
                · -- y32 < (s7.length : Int)
                  replace hf := hf.castB (t := 63) rfl (dec_t hc37)
                  refine cond_T hf rfl ?_
                  refine wp_skip ?_
                  refine hN35 _ _ ?_
                  refine seq_n (fun Q38 hN38 hR38 hX38 => ?_)
                  refine block_k (fun Q39 hN39 hR39 hX39 hY39 => ?_)
                  refine seq_n (fun Q40 hN40 hR40 hX40 => ?_)
                  refine ck_some H (fun hc41 H => ?_)
                  refine ck_some H (fun hc42 H => ?_)
                  refine region_d fol 9 [(7, v8), (9, v12), (11, v15), (13, .int .i64 y32)] [(0, v15), (1, .int .i64 y32), (2, .pointer (some (sla v15 (y32.toNat * 1)))), (3, .int .u64 (gd 0 s14.1 y32)), (4, v12), (5, .int .i64 y32), (6, .pointer (some (sla v12 (y32.toNat * 1)))), (7, .int .u64 (gd 0 s11.1 y32)), (8, .bool (decide ((gd 0 s14.1 y32) < (gd 0 s11.1 y32))))] [] (fun w => (osl K_uint64 v15 s14.1).ok w ∧ (osl K_uint64 v12 s11.1).ok w ∧ True) (fun w => St M w0 w [osl K_api_Actor v8 s7, osl K_uint64 v12 s11.1, osl K_uint64 v15 s14.1]) hf ⟨rfl, rfl, rfl, rfl, trivial⟩ (by kernel_rfl) (by kernel_rfl) rfl (by decide) ⟨hs.drew.get (i := 2) rfl, hs.drew.get (i := 1) rfl, trivial⟩ hs.drew (.cons (⟨_, _, rfl, rfl, rfl, rfl, fun a w hR hf => .inl ⟨wanted_yes hf rfl, ex_move hf rfl⟩⟩) (.cons (⟨_, _, rfl, rfl, rfl, rfl, fun a w hR hf => .inl ⟨wanted_yes hf rfl, ex_move hf rfl⟩⟩) (.cons (⟨_, _, rfl, rfl, rfl, rfl, fun a w hR hf => .inl ⟨wanted_yes hf rfl, ex_indexAddr sa_40 (rsl_isSl (osl_rsl _ hR.1)) hc41.1 hc41.2 hf rfl rfl⟩⟩) (.cons (⟨_, _, rfl, rfl, rfl, rfl, fun a w hR hf => .inl ⟨wanted_yes hf rfl, ex_load sc_37 hf rfl (el_cell (K := K_uint64) (f := 0) (rsl_rd (osl_rsl _ hR.1)) hc41.1 hc41.2 rfl)⟩⟩) (.cons (⟨_, _, rfl, rfl, rfl, rfl, fun a w hR hf => .inl ⟨wanted_yes hf rfl, ex_move hf rfl⟩⟩) (.cons (⟨_, _, rfl, rfl, rfl, rfl, fun a w hR hf => .inl ⟨wanted_yes hf rfl, ex_move hf rfl⟩⟩) (.cons (⟨_, _, rfl, rfl, rfl, rfl, fun a w hR hf => .inl ⟨wanted_yes hf rfl, ex_indexAddr sa_40 (rsl_isSl (osl_rsl _ hR.2.1)) hc42.1 hc42.2 hf rfl rfl⟩⟩) (.cons (⟨_, _, rfl, rfl, rfl, rfl, fun a w hR hf => .inl ⟨wanted_yes hf rfl, ex_load sc_37 hf rfl (el_cell (K := K_uint64) (f := 0) (rsl_rd (osl_rsl _ hR.2.1)) hc42.1 hc42.2 rfl)⟩⟩) (.cons (⟨_, _, rfl, rfl, rfl, rfl, fun a w hR hf => .inl ⟨wanted_yes hf rfl, ex_lss hf rfl rfl⟩⟩) (.nil)))))))))) (fun K43 hK43 => ?_)
                  refine RW.zero (by kernel_rfl) (by kernel_rfl) [(7, v8), (9, v12), (11, v15), (13, .int .i64 y32), (74, .bool (decide ((gd 0 s14.1 y32) < (gd 0 s11.1 y32))))] ⟨rfl, rfl, rfl, rfl, rfl, trivial⟩ (fun a w hR hs hf => ?_)
                  refine hK43 _ _ ?_
                  refine hN40 _ _ ?_
                  refine itt H (fun hc44 H => ?_) (fun hc44 H => ?_)
                  · -- (gd 0 s14.1 y32) < (gd 0 s11.1 y32)
                    replace hf := hf.castB (t := 74) rfl (dec_t hc44)
                    refine cond_T hf rfl ?_
                    refine seq_reg (fun K45 hK45 => ?_)
                    refine stq hf rfl rfl rfl (ex_assign hf rfl) (fun a hf => ?_)
                    refine hK45 _ _ ?_
                    refine wp_ret ?_
                    refine hR39 _ _ ?_
                    refine hR38 _ _ ?_
                    refine hR34 _ _ ?_
                    refine hR31 _ _ ?_
                    have e29 := some_eq H; subst e29; replace H := el_rt HO29
                    refine hR29 _ _ ?_
                    have eR := some_eq H; subst eR
                    replace hs := hs.keep (.d (.d (.d .nil)))
                    exact ret1 Try.results5 hf rfl ⟨_, rfl, ⟨rfl, hs⟩⟩
                  · -- not (gd 0 s14.1 y32) < (gd 0 s11.1 y32)
                    replace hf := hf.castB (t := 74) rfl (dec_f hc44)
                    refine cond_F hf rfl ?_
                    refine wp_skip ?_
                    refine hN39 _ _ ?_
                    refine hN38 _ _ ?_
                    refine region_k (fun K46 hK46 => ?_)
                    refine stq hf rfl rfl rfl (ex_move hf rfl) (fun a hf => ?_)
                    refine stq hf rfl rfl rfl (ex_add hf rfl rfl) (fun a hf => ?_)
                    refine stq hf rfl rfl rfl (ex_assign hf rfl) (fun a hf => ?_)
                    refine hK46 _ _ ?_
                    exact hL34 k34 _ _ (Nat.lt_succ_self _) ⟨(IntKind.i64.wrap (y32 + 1)), hf.sub ⟨rfl, rfl, rfl, rfl, trivial⟩, hs, H⟩
                · -- not y32 < (s7.length : Int)
                  replace hf := hf.castB (t := 63) rfl (dec_f hc37)
                  refine cond_F hf rfl ?_
                  refine wp_exit ?_
                  refine hX35 0 _ _ ?_
                  refine hX34 0 _ _ ?_
                  refine hX31 _ _ ?_
                  replace hs := hs.keep (.d (.d (.d .nil)))
                  have e29 := some_eq H; subst e29
                  exact hJ29 _ _ ⟨_, rfl, hf.sub trivial, hs⟩
          · obtain ⟨x29s, rfl, hf, hs⟩ := hJ
            replace H := el_go HO29
            clear HO29
            refine bnd H (fun s47 hs47 H => ?_)
            refine seq_reg (fun K48 hK48 => ?_)
            refine stepF hf rfl rfl rfl (ex_call cf_10 hf rfl) (law39_awake.calls k (hs.enter .nil) (Sr.nil _ _) hs47) (fun v w hR a hf => ?_)
            obtain ⟨rfl, hs'⟩ := hR
            replace hs := hs.step .nil hs'
            clear hs'
            refine stq hf rfl rfl rfl (ex_assign hf rfl) (fun a hf => ?_)
            refine hK48 _ _ ?_
            refine wp_ret ?_
            have eR := some_eq H; subst eR
            exact ret1 Try.results5 hf rfl ⟨_, rfl, ⟨rfl, hs⟩⟩
    · -- not s11.2 = 0
      replace hf := hf.castB (t := 38) rfl (ndec_t hc19)
      refine cond_T hf rfl ?_
      refine itt H (fun hc49 H => ?_) (fun hc49 H => ?_)
      · -- s11.2 = 19
        refine bnd H (fun s50 hs50 H => ?_)
        refine seq_reg (fun K51 hK51 => ?_)
        refine stq hf rfl rfl rfl (ex_move hf rfl) (fun a hf => ?_)
        refine stq hf rfl rfl rfl (ex_eql hf rfl rfl) (fun a hf => ?_)
        refine stq hf rfl rfl rfl (ex_move hf rfl) (fun a hf => ?_)
        replace hf := hf.castB (t := 40) rfl (dec_t hc49)
        replace hf := hf.castB (t := 41) rfl (dec_t hc49)
        refine stepF hf rfl rfl rfl (ex_call cf_10 hf rfl) (law39_awake.calls k (hs.enter (.k (.k (.k .nil)))) (Sr.nil _ _) hs50) (fun v w hR a hf => ?_)
        obtain ⟨rfl, hs'⟩ := hR
        replace hs := hs.step (.k (.k (.k .nil))) hs'
        clear hs'
        refine stq hf rfl rfl rfl (ex_pickT hf rfl rfl) (fun a hf => ?_)
        refine stq hf rfl rfl rfl (ex_assign hf rfl) (fun a hf => ?_)
        refine hK51 _ _ ?_
        refine wp_ret ?_
        refine hR17 _ _ ?_
        have eR := some_eq H; subst eR
        replace hs := hs.keep (.d (.d (.d .nil)))
        exact ret1 Try.results5 hf rfl ⟨_, rfl, ⟨rfl, hs⟩⟩
      · -- not s11.2 = 19
        refine seq_reg (fun K52 hK52 => ?_)
        refine stq hf rfl rfl rfl (ex_move hf rfl) (fun a hf => ?_)
        refine stq hf rfl rfl rfl (ex_eql hf rfl rfl) (fun a hf => ?_)
        refine stq hf rfl rfl rfl (ex_move hf rfl) (fun a hf => ?_)
        replace hf := hf.castB (t := 40) rfl (dec_f hc49)
        replace hf := hf.castB (t := 41) rfl (dec_f hc49)
        refine stepN hf rfl rfl rfl (fun a hf => ?_)
        refine stq hf rfl rfl rfl (ex_pickF hf rfl rfl) (fun a hf => ?_)
        refine stq hf rfl rfl rfl (ex_assign hf rfl) (fun a hf => ?_)
        refine hK52 _ _ ?_
        refine wp_ret ?_
        refine hR17 _ _ ?_
        have eR := some_eq H; subst eR
        replace hs := hs.keep (.d (.d (.d .nil)))
        exact ret1 Try.results5 hf rfl ⟨_, rfl, ⟨rfl, hs⟩⟩

end Go.Proofs.Ytkcmohmnmapnbaa.X
