/- Each function of the machine comes to what its pure function says. -/
import Derived.Test.YtkcmohmnmapnbaaFc1
import Derived.Test.YtkcmohmnmapnbaaFc2
import Derived.Test.YtkcmohmnmapnbaaFc3
import Derived.Test.YtkcmohmnmapnbaaFb
namespace Go.Proofs.Ytkcmohmnmapnbaa.X
open Go Go.RowKit Go.Sx
set_option linter.unusedVariables false

set_option maxHeartbeats 4000000 in
set_option maxRecDepth 100000 in
theorem law39_ThermalHysteresis.calls {M : Nat → Prop} {w0 : World} (k : Nat) (a0 : (List Trip)) (a1 : Int) (a2 : (List Int)) (v0 : Value) (v2 : Value) {r : Bool} (hs : St M w0 w0 []) (hr : Sr M w0 [rsl K_api_Trip v0 a0, rsl K_int64 v2 a2])
    (h : law39_ThermalHysteresis.f k a0 a1 a2 = some r) : Calls Try.prog 7 #[v0, .int .i64 a1, v2] w0 fun e w => ∃ v, e = .returned v ∧ (.bool r = v ∧ St M w0 w []) := by
  have H := (law39_ThermalHysteresis.f.eq_1 ..).symm.trans h
  clear h
  refine enter Try.func7 rfl Try.ntmps7 rfl (fun a hf => ?_)
  refine seq_reg (fun K1 hK1 => ?_)
  refine stq hf rfl rfl rfl (ex_assign hf rfl) (fun a hf => ?_)
  refine hK1 _ _ ?_
  refine seq_n (fun Q2 hN2 hR2 hX2 => ?_)
  refine bnd H (fun x3 H3 HO3 => ?_)
  clear H
  refine seq_cut (fun a w => Fr a 235 [(0, v0), (1, .int .i64 a1), (2, v2), (29, .bool x3)] ∧ St M w0 w []) (fun Q3 hJ3 hR3 hX3 => ?_) (fun a w hJ => ?_)
  · replace H := H3
    refine itt H (fun hc4 H => ?_) (fun hc4 H => ?_)
    · -- 20 < (a0.length : Int)
      refine region_k (fun K5 hK5 => ?_)
      refine stq hf rfl rfl rfl (ex_move hf rfl) (fun a hf => ?_)
      refine stq hf rfl rfl rfl (ex_lenS Try.underlying22 (rsl_isSl (hr.now hs (i := 0) rfl)) hf rfl) (fun a hf => ?_)
      refine stq hf rfl rfl rfl (ex_gtr hf rfl rfl) (fun a hf => ?_)
      refine stq hf rfl rfl rfl (ex_move hf rfl) (fun a hf => ?_)
      replace hf := hf.castB (t := 24) rfl (dec_t hc4)
      replace hf := hf.castB (t := 25) rfl (dec_t hc4)
      refine stepN hf rfl rfl rfl (fun a hf => ?_)
      refine stepN hf rfl rfl rfl (fun a hf => ?_)
      refine stepN hf rfl rfl rfl (fun a hf => ?_)
      refine stq hf rfl rfl rfl (ex_pickT hf rfl rfl) (fun a hf => ?_)
      refine hK5 _ _ ?_
      have e3 := some_eq H; subst e3
      exact hJ3 _ _ ⟨hf.sub ⟨rfl, rfl, rfl, rfl, trivial⟩, hs⟩
    · -- not 20 < (a0.length : Int)
      refine region_k (fun K6 hK6 => ?_)
      refine stq hf rfl rfl rfl (ex_move hf rfl) (fun a hf => ?_)
      refine stq hf rfl rfl rfl (ex_lenS Try.underlying22 (rsl_isSl (hr.now hs (i := 0) rfl)) hf rfl) (fun a hf => ?_)
      refine stq hf rfl rfl rfl (ex_gtr hf rfl rfl) (fun a hf => ?_)
      refine stq hf rfl rfl rfl (ex_move hf rfl) (fun a hf => ?_)
      replace hf := hf.castB (t := 24) rfl (dec_f hc4)
      replace hf := hf.castB (t := 25) rfl (dec_f hc4)
      refine stq hf rfl rfl rfl (ex_move hf rfl) (fun a hf => ?_)
      refine stq hf rfl rfl rfl (ex_lenS Try.underlying46 (rsl_isSl (hr.now hs (i := 1) rfl)) hf rfl) (fun a hf => ?_)
      refine stq hf rfl rfl rfl (ex_gtr hf rfl rfl) (fun a hf => ?_)
      refine stq hf rfl rfl rfl (ex_pickF hf rfl rfl) (fun a hf => ?_)
      refine hK6 _ _ ?_
      have e3 := some_eq H; subst e3
      exact hJ3 _ _ ⟨hf.sub ⟨rfl, rfl, rfl, rfl, trivial⟩, hs⟩
  · obtain ⟨hf, hs⟩ := hJ
    replace H := HO3
    clear HO3
    refine itt H (fun hc7 H => ?_) (fun hc7 H => ?_)
    · -- x3 = true
      replace hf := hf.castB (t := 29) rfl hc7
      refine cond_T hf rfl ?_
      refine bnd H (fun s8 hs8 H => ?_)
      refine seq_reg (fun K9 hK9 => ?_)
      refine stepF hf rfl rfl rfl (ex_call cf_10 hf rfl) (law39_awake.calls k (hs.enter .nil) (Sr.nil _ _) hs8) (fun v w hR a hf => ?_)
      obtain ⟨rfl, hs'⟩ := hR
      replace hs := hs.step .nil hs'
      clear hs'
      refine stq hf rfl rfl rfl (ex_assign hf rfl) (fun a hf => ?_)
      refine hK9 _ _ ?_
      refine wp_ret ?_
      refine hR2 _ _ ?_
      have eR := some_eq H; subst eR
      exact ret1 Try.results7 hf rfl ⟨_, rfl, ⟨rfl, hs⟩⟩
    · -- not x3 = true
      replace hf := hf.castB (t := 29) rfl (bool_f hc7)
      refine cond_F hf rfl ?_
      refine wp_skip ?_
      refine hN2 _ _ ?_
      refine bnd H (fun s10 hs10 H => ?_)
      refine bnd H (fun s12 hs12 H => ?_)
      refine seq_reg (fun K13 hK13 => ?_)
      refine stq hf rfl rfl rfl (ex_move hf rfl) (fun a hf => ?_)
      refine stepF hf rfl rfl rfl (ex_call cf_11 hf rfl) (law39_Trips.calls k a0 v0 (hs.enter .nil) (Sr.old hr hs .nil (i := 0) rfl (fun _ h => h) (fun _ h => h) (Sr.nil _ _)) hs10) (fun v w hR a hf => ?_)
      obtain ⟨v11, rfl, hs'⟩ := hR
      replace hs := hs.step .nil hs'
      clear hs'
      refine stq hf rfl rfl rfl (ex_move hf rfl) (fun a hf => ?_)
      refine stepF hf rfl rfl rfl (ex_call cf_12 hf rfl) (help_Mod.calls k a1 8 (hs.enter (.k .nil)) (Sr.nil _ _) hs12) (fun v w hR a hf => ?_)
      obtain ⟨rfl, hs'⟩ := hR
      replace hs := hs.step (.k .nil) hs'
      clear hs'
      refine stq hf rfl rfl rfl (ex_assign hf rfl) (fun a hf => ?_)
      refine stq hf rfl rfl rfl (ex_assign hf rfl) (fun a hf => ?_)
      refine hK13 _ _ ?_
      refine seq_n (fun Q14 hN14 hR14 hX14 => ?_)
      refine bnd H (fun s15 hs15 H => ?_)
      cases hps15 : s15.1 with
      | none =>
        replace H := elim_n hps15 H
        refine region_k (fun K17 hK17 => ?_)
        refine stq hf rfl rfl rfl (ex_move hf rfl) (fun a hf => ?_)
        refine stq hf rfl rfl rfl (ex_move hf rfl) (fun a hf => ?_)
        refine stepF hf rfl rfl rfl (ex_call cf_13 hf rfl) (thermal_NewZone.calls k s10 s12 v11 (hs.enter (.k .nil)) (Sr.own hs (.k .nil) (i := 0) rfl osl_rsl (fun _ h => h.1) (Sr.nil _ _)) hs15) (fun v w hR a hf => ?_)
        obtain ⟨_, rfl, hs'⟩ | ⟨_, hc', _⟩ := hR
        case inr => rw [hps15] at hc'; cases hc'
        replace hs := hs.step (.k .nil) hs'
        clear hs'
        refine stq hf rfl rfl rfl (ex_move hf rfl) (fun a hf => ?_)
        refine stq hf rfl rfl rfl (ex_extract hf rfl rfl) (fun a hf => ?_)
        refine stq hf rfl rfl rfl (ex_extract hf rfl rfl) (fun a hf => ?_)
        refine stq hf rfl rfl rfl (ex_assign hf rfl) (fun a hf => ?_)
        refine stq hf rfl rfl rfl (ex_assign hf rfl) (fun a hf => ?_)
        refine hK17 _ _ ?_
        refine hN14 _ _ ?_
        refine seq_n (fun Q18 hN18 hR18 hX18 => ?_)
        refine bnd H (fun x19 H19 HO19 => ?_)
        clear H
        refine seq_cut (fun a w => Fr a 235 [(2, v2), (7, v11), (8, .int .i64 s12), (9, .pointer none), (46, .bool true)] ∧ St M w0 w [osl K_api_Trip v11 s10]) (fun Q19 hJ19 hR19 hX19 => ?_) (fun a w hJ => ?_)
        · replace H := H19
          refine itt H (fun hc20 H => ?_) (fun hc20 H => ?_)
          · -- s15.2 = 0
            refine region_k (fun K21 hK21 => ?_)
            refine stq hf rfl rfl rfl (ex_move hf rfl) (fun a hf => ?_)
            refine stq hf rfl rfl rfl (ex_neq hf rfl rfl) (fun a hf => ?_)
            refine stq hf rfl rfl rfl (ex_move hf rfl) (fun a hf => ?_)
            replace hf := hf.castB (t := 42) rfl (ndec_f hc20)
            replace hf := hf.castB (t := 43) rfl (ndec_f hc20)
            refine stq hf rfl rfl rfl (ex_move hf rfl) (fun a hf => ?_)
            refine stq hf rfl rfl rfl (ex_eqp Try.underlying28 hf rfl rfl) (fun a hf => ?_)
            refine stq hf rfl rfl rfl (ex_pickF hf rfl rfl) (fun a hf => ?_)
            refine hK21 _ _ ?_
            have e19 := some_eq H; subst e19
            exact hJ19 _ _ ⟨hf.sub ⟨rfl, rfl, rfl, rfl, rfl, trivial⟩, hs⟩
          · -- not s15.2 = 0
            refine region_k (fun K22 hK22 => ?_)
            refine stq hf rfl rfl rfl (ex_move hf rfl) (fun a hf => ?_)
            refine stq hf rfl rfl rfl (ex_neq hf rfl rfl) (fun a hf => ?_)
            refine stq hf rfl rfl rfl (ex_move hf rfl) (fun a hf => ?_)
            replace hf := hf.castB (t := 42) rfl (ndec_t hc20)
            replace hf := hf.castB (t := 43) rfl (ndec_t hc20)
            refine stepN hf rfl rfl rfl (fun a hf => ?_)
            refine stepN hf rfl rfl rfl (fun a hf => ?_)
            refine stq hf rfl rfl rfl (ex_pickT hf rfl rfl) (fun a hf => ?_)
            refine hK22 _ _ ?_
            have e19 := some_eq H; subst e19
            exact hJ19 _ _ ⟨hf.sub ⟨rfl, rfl, rfl, rfl, rfl, trivial⟩, hs⟩
        · obtain ⟨hf, hs⟩ := hJ
          replace H := HO19
          clear HO19
          refine cond_T hf rfl ?_
          refine seq_reg (fun K23 hK23 => ?_)
          refine stq hf rfl rfl rfl (ex_assign hf rfl) (fun a hf => ?_)
          refine hK23 _ _ ?_
          refine wp_ret ?_
          refine hR18 _ _ ?_
          have eR := some_eq H; subst eR
          replace hs := hs.keep (.d .nil)
          exact ret1 Try.results7 hf rfl ⟨_, rfl, ⟨rfl, hs⟩⟩
      | some c16 =>
        replace H := elim_s hps15 H
        refine region_k (fun K27 hK27 => ?_)
        refine stq hf rfl rfl rfl (ex_move hf rfl) (fun a hf => ?_)
        refine stq hf rfl rfl rfl (ex_move hf rfl) (fun a hf => ?_)
        refine stepF hf rfl rfl rfl (ex_call cf_13 hf rfl) (thermal_NewZone.calls k s10 s12 v11 (hs.enter (.k .nil)) (Sr.own hs (.k .nil) (i := 0) rfl osl_rsl (fun _ h => h.1) (Sr.nil _ _)) hs15) (fun v w hR a hf => ?_)
        obtain ⟨hc', _⟩ | ⟨cc, hc', b24, v25, v26, rfl, hs'⟩ := hR
        case inl => rw [hps15] at hc'; cases hc'
        obtain rfl : c16 = cc := by rw [hps15] at hc'; exact Option.some.inj hc'
        replace hs := hs.step (.k .nil) hs'
        clear hs'
        refine stq hf rfl rfl rfl (ex_move hf rfl) (fun a hf => ?_)
        refine stq hf rfl rfl rfl (ex_extract hf rfl rfl) (fun a hf => ?_)
        refine stq hf rfl rfl rfl (ex_extract hf rfl rfl) (fun a hf => ?_)
        refine stq hf rfl rfl rfl (ex_assign hf rfl) (fun a hf => ?_)
        refine stq hf rfl rfl rfl (ex_assign hf rfl) (fun a hf => ?_)
        refine hK27 _ _ ?_
        refine hN14 _ _ ?_
        refine seq_n (fun Q28 hN28 hR28 hX28 => ?_)
        refine bnd H (fun x29 H29 HO29 => ?_)
        clear H
        refine seq_cut (fun a w => Fr a 235 [(2, v2), (7, v11), (8, .int .i64 s12), (9, .pointer (some ⟨b24, 0, none⟩)), (46, .bool x29)] ∧ St M w0 w [osl K_api_Trip v11 s10, bx b24 62 [v25, v26, .int .i64 c16.2.2.1, .int .i64 c16.2.2.2], osl K_api_Trip v25 c16.1, osl K_bool v26 c16.2.1]) (fun Q29 hJ29 hR29 hX29 => ?_) (fun a w hJ => ?_)
        · replace H := H29
          refine itt H (fun hc30 H => ?_) (fun hc30 H => ?_)
          · -- s15.2 = 0
            refine region_k (fun K31 hK31 => ?_)
            refine stq hf rfl rfl rfl (ex_move hf rfl) (fun a hf => ?_)
            refine stq hf rfl rfl rfl (ex_neq hf rfl rfl) (fun a hf => ?_)
            refine stq hf rfl rfl rfl (ex_move hf rfl) (fun a hf => ?_)
            replace hf := hf.castB (t := 42) rfl (ndec_f hc30)
            replace hf := hf.castB (t := 43) rfl (ndec_f hc30)
            refine stq hf rfl rfl rfl (ex_move hf rfl) (fun a hf => ?_)
            refine stq hf rfl rfl rfl (ex_eqp Try.underlying28 hf rfl rfl) (fun a hf => ?_)
            refine stq hf rfl rfl rfl (ex_pickF hf rfl rfl) (fun a hf => ?_)
            refine hK31 _ _ ?_
            replace hs := hs.pick (.k (.k (.c (.k .nil))))
            replace hs := hs.pick (.k (.k (.c (.k .nil))))
            replace hs := hs.pick (.k (.k (.c (.k .nil))))
            replace hs := hs.pick (.k (.k (.k (.c .nil))))
            have e29 := some_eq H; subst e29
            exact hJ29 _ _ ⟨hf.sub ⟨rfl, rfl, rfl, rfl, rfl, trivial⟩, hs⟩
          · -- not s15.2 = 0
            refine region_k (fun K32 hK32 => ?_)
            refine stq hf rfl rfl rfl (ex_move hf rfl) (fun a hf => ?_)
            refine stq hf rfl rfl rfl (ex_neq hf rfl rfl) (fun a hf => ?_)
            refine stq hf rfl rfl rfl (ex_move hf rfl) (fun a hf => ?_)
            replace hf := hf.castB (t := 42) rfl (ndec_t hc30)
            replace hf := hf.castB (t := 43) rfl (ndec_t hc30)
            refine stepN hf rfl rfl rfl (fun a hf => ?_)
            refine stepN hf rfl rfl rfl (fun a hf => ?_)
            refine stq hf rfl rfl rfl (ex_pickT hf rfl rfl) (fun a hf => ?_)
            refine hK32 _ _ ?_
            replace hs := hs.pick (.k (.k (.c (.k .nil))))
            replace hs := hs.pick (.k (.k (.c (.k .nil))))
            replace hs := hs.pick (.k (.k (.c (.k .nil))))
            replace hs := hs.pick (.k (.k (.k (.c .nil))))
            have e29 := some_eq H; subst e29
            exact hJ29 _ _ ⟨hf.sub ⟨rfl, rfl, rfl, rfl, rfl, trivial⟩, hs⟩
        · obtain ⟨hf, hs⟩ := hJ
          replace H := HO29
          clear HO29
          refine itt H (fun hc33 H => ?_) (fun hc33 H => ?_)
          · -- x29 = true
            replace hf := hf.castB (t := 46) rfl hc33
            refine cond_T hf rfl ?_
            refine seq_reg (fun K34 hK34 => ?_)
            refine stq hf rfl rfl rfl (ex_assign hf rfl) (fun a hf => ?_)
            refine hK34 _ _ ?_
            refine wp_ret ?_
            refine hR28 _ _ ?_
            have eR := some_eq H; subst eR
            replace hs := hs.keep (.d (.d (.d (.d .nil))))
            exact ret1 Try.results7 hf rfl ⟨_, rfl, ⟨rfl, hs⟩⟩
          · -- not x29 = true
            replace hf := hf.castB (t := 46) rfl (bool_f hc33)
            refine cond_F hf rfl ?_
            refine wp_skip ?_
            refine hN28 _ _ ?_
            refine ck_some H (fun hc35 H => ?_)
            refine seq_reg (fun K37 hK37 => ?_)
            refine stq hf rfl rfl rfl (ex_move hf rfl) (fun a hf => ?_)
            refine stq hf rfl rfl rfl (ex_lenS Try.underlying22 (rsl_isSl (osl_rsl _ (hs.get (i := 0) rfl))) hf rfl) (fun a hf => ?_)
            refine stepV hf rfl rfl rfl (er_makeSlice (K := K_bool) hs Try.underlying52 ep_4 hc35.1 hc35.2 rfl hf rfl rfl) (fun v36 w hs a hf => ?_)
            refine stq hf rfl rfl rfl (ex_assign hf rfl) (fun a hf => ?_)
            refine stq hf rfl rfl rfl (ex_assign hf rfl) (fun a hf => ?_)
            refine hK37 _ _ ?_
            refine bnd H (fun x38 H38 HO38 => ?_)
            clear H
            refine seq_cut (fun a w => ∃ (x38s : Unit), x38 = .go x38s ∧ Fr a 235 [] ∧ St M w0 w []) (fun Q38 hJ38 hR38 hX38 => ?_) (fun a w hJ => ?_)
            · replace H := H38
              refine seq_reg (fun K39 hK39 => ?_)
              refine stq hf rfl rfl rfl (ex_assign hf rfl) (fun a hf => ?_)
              refine hK39 _ _ ?_
              refine block_k (fun Q40 hN40 hR40 hX40 hY40 => ?_)
              refine loop_k (fun n a w => ∃ (y43 : (List Bool)) (y44 : Int) (y45 : (List Bool)) (y46 : Int) (y47 : Int) (v41 : Value) (v42 : Value), Fr a 235 [(2, v2), (7, v11), (8, .int .i64 s12), (9, .pointer (some ⟨b24, 0, none⟩)), (11, v42), (12, .int .i64 y46), (13, .int .i64 y47)] ∧ St M w0 w [osl K_api_Trip v11 s10, bx b24 62 [v25, v41, .int .i64 c16.2.2.1, .int .i64 y44], osl K_api_Trip v25 c16.1, osl K_bool v41 y43, osl K_bool v42 y45] ∧ law39_ThermalHysteresis.l1 n a2 c16 s10 s12 y43 y44 y45 y46 y47 = some x38) k ?_ (fun n49 a w hI Q49 hL49 hR49 hX49 => ?_)
              · -- at the start
                replace hs := hs.pick (.k (.k (.k (.k (.c .nil)))))
                replace hs := hs.pick (.k (.k (.k (.k (.c .nil)))))
                replace hs := hs.pick (.k (.k (.k (.k (.c .nil)))))
                replace hs := hs.pick (.k (.k (.k (.k (.c .nil)))))
                exact ⟨c16.2.1, c16.2.2.2, (List.replicate (s10.length : Int).toNat false), 0, 0, v26, v36, hf.sub ⟨rfl, rfl, rfl, rfl, rfl, rfl, rfl, trivial⟩, hs, H⟩
              · obtain ⟨y43, y44, y45, y46, y47, v41, v42, hf, hs, H⟩ := hI
                cases n49 with
                | zero => exact absurd H (by rw [law39_ThermalHysteresis.l1.eq_1]; intro h; cases h)
                | succ k49 =>
                  replace H := (law39_ThermalHysteresis.l1.eq_2 ..).symm.trans H
                  refine seq_n (fun Q50 hN50 hR50 hX50 => ?_)
                  refine seq_reg (fun K51 hK51 => ?_)
                  refine stq hf rfl rfl rfl (ex_move hf rfl) (fun a hf => ?_)
                  refine stq hf rfl rfl rfl (ex_move hf rfl) (fun a hf => ?_)
                  refine stq hf rfl rfl rfl (ex_lenS Try.underlying46 (rsl_isSl (hr.now hs (i := 1) rfl)) hf rfl) (fun a hf => ?_)
                  refine stq hf rfl rfl rfl (ex_lss hf rfl rfl) (fun a hf => ?_)
                  refine hK51 _ _ ?_
                  refine itt H (fun hc52 H => ?_) (fun hc52 H => ?_)
                  · -- y47 < (a2.length : Int)
                    replace hf := hf.castB (t := 53) rfl (dec_t hc52)
                    refine cond_T hf rfl ?_
                    refine wp_skip ?_
                    refine hN50 _ _ ?_
                    refine bnd H (fun x53 H53 HO53 => ?_)
                    clear H
                    refine seq_cut (fun a w => ∃ (x53s : (List Bool) × Int × (List Bool) × Int) (v54 : Value) (v55 : Value), x53 = .go x53s ∧ Fr a 235 [(2, v2), (7, v11), (8, .int .i64 s12), (9, .pointer (some ⟨b24, 0, none⟩)), (11, v55), (12, .int .i64 x53s.2.2.2), (13, .int .i64 y47)] ∧ St M w0 w [osl K_api_Trip v11 s10, bx b24 62 [v25, v54, .int .i64 c16.2.2.1, .int .i64 x53s.2.1], osl K_api_Trip v25 c16.1, osl K_bool v54 x53s.1, osl K_bool v55 x53s.2.2.1]) (fun Q53 hJ53 hR53 hX53 => ?_) (fun a w hJ => ?_)
                    · replace H := H53
                      refine block_k (fun Q56 hN56 hR56 hX56 hY56 => ?_)
                      refine ck_some H (fun hc57 H => ?_)
                      refine bnd H (fun s58 hs58 H => ?_)
                      refine seq_reg (fun K59 hK59 => ?_)
                      refine stq hf rfl rfl rfl (ex_move hf rfl) (fun a hf => ?_)
                      refine stq hf rfl rfl rfl (ex_move hf rfl) (fun a hf => ?_)
                      refine stq hf rfl rfl rfl (ex_indexAddr sa_46 (rsl_isSl (hr.now hs (i := 1) rfl)) hc57.1 hc57.2 hf rfl rfl) (fun a hf => ?_)
                      refine stq hf rfl rfl rfl (ex_load sc_2 hf rfl (el_cell (K := K_int64) (f := 0) (rsl_rd (hr.now hs (i := 1) rfl)) hc57.1 hc57.2 rfl)) (fun a hf => ?_)
                      refine stepF hf rfl rfl rfl (ex_call cf_21 hf rfl) (law39_degree.calls k49 (gd 0 a2 y47) 0 (hs.enter (.k (.k (.k (.k (.k .nil)))))) (Sr.nil _ _) hs58) (fun v w hR a hf => ?_)
                      obtain ⟨rfl, hs'⟩ := hR
                      replace hs := hs.step (.k (.k (.k (.k (.k .nil))))) hs'
                      clear hs'
                      refine stq hf rfl rfl rfl (ex_assign hf rfl) (fun a hf => ?_)
                      refine hK59 _ _ ?_
                      refine bnd H (fun s60 hs60 H => ?_)
                      refine seq_reg (fun K62 hK62 => ?_)
                      refine stq hf rfl rfl rfl (ex_move hf rfl) (fun a hf => ?_)
                      refine stq hf rfl rfl rfl (ex_move hf rfl) (fun a hf => ?_)
                      refine stepF hf rfl rfl rfl (ex_call cf_22 hf rfl) (thermal_Zone_Update.calls k49 c16.1 y43 c16.2.2.1 y44 s58 b24 v25 v41 (hs.enter (.k (.c (.k (.c (.k .nil)))))) (Sr.own hs (.k (.c (.k (.c (.k .nil))))) (i := 1) rfl osl_rsl (fun _ h => h.1) (Sr.nil _ _)) hs60) (fun v w hR a hf => ?_)
                      obtain ⟨v61, rfl, hs'⟩ := hR
                      replace hs := hs.step (.k (.c (.k (.c (.k .nil))))) hs'
                      clear hs'
                      refine stq hf rfl rfl rfl (ex_move hf rfl) (fun a hf => ?_)
                      refine stq hf rfl rfl rfl (ex_extract hf rfl rfl) (fun a hf => ?_)
                      refine stq hf rfl rfl rfl (ex_extract hf rfl rfl) (fun a hf => ?_)
                      refine stq hf rfl rfl rfl (ex_extract hf rfl rfl) (fun a hf => ?_)
                      refine stq hf rfl rfl rfl (ex_assign hf rfl) (fun a hf => ?_)
                      refine stq hf rfl rfl rfl (ex_assign hf rfl) (fun a hf => ?_)
                      refine stq hf rfl rfl rfl (ex_assign hf rfl) (fun a hf => ?_)
                      refine hK62 _ _ ?_
                      refine bnd H (fun s63 hs63 H => ?_)
                      refine seq_reg (fun K65 hK65 => ?_)
                      refine stq hf rfl rfl rfl (ex_move hf rfl) (fun a hf => ?_)
                      refine stepF hf rfl rfl rfl (ex_call cf_27 hf rfl) (thermal_Zone_Active.calls k49 c16.1 s60.2.1 c16.2.2.1 s60.1 b24 v25 v61 (hs.enter (.k (.k (.k (.k (.k .nil)))))) (Sr.own hs (.k (.k (.k (.k (.k .nil))))) (i := 0) rfl (fun _ h => h) (fun _ h => h) (Sr.own hs (.k (.k (.k (.k (.k .nil))))) (i := 3) rfl osl_rsl (fun _ h => h.1) (Sr.own hs (.k (.k (.k (.k (.k .nil))))) (i := 1) rfl osl_rsl (fun _ h => h.1) (Sr.nil _ _)))) hs63) (fun v w hR a hf => ?_)
                      obtain ⟨v64, rfl, hs'⟩ := hR
                      replace hs := hs.step (.k (.k (.k (.k (.k .nil))))) hs'
                      clear hs'
                      refine stq hf rfl rfl rfl (ex_assign hf rfl) (fun a hf => ?_)
                      refine hK65 _ _ ?_
                      refine seq_n (fun Q66 hN66 hR66 hX66 => ?_)
                      refine bnd H (fun x67 H67 HO67 => ?_)
                      clear H
                      refine seq_cut (fun a w => Fr a 235 [(2, v2), (7, v11), (8, .int .i64 s12), (9, .pointer (some ⟨b24, 0, none⟩)), (11, v42), (12, .int .i64 y46), (13, .int .i64 y47), (14, .int .i64 s58), (15, .int .i64 s60.2.2.1), (16, .bool s60.2.2.2.1), (18, v64), (105, .bool x67)] ∧ St M w0 w [osl K_api_Trip v11 s10, bx b24 62 [v25, v61, .int .i64 c16.2.2.1, .int .i64 s60.1], osl K_api_Trip v25 c16.1, osl K_bool v61 s60.2.1, osl K_bool v42 y45, osl K_bool v64 s63]) (fun Q67 hJ67 hR67 hX67 => ?_) (fun a w hJ => ?_)
                      · replace H := H67
                        refine itt H (fun hc68 H => ?_) (fun hc68 H => ?_)
                        · -- s60.2.2.2.2 = 0
                          refine itt H (fun hc69 H => ?_) (fun hc69 H => ?_)
                          · -- (s63.length : Int) = (s10.length : Int)
                            refine itt H (fun hc70 H => ?_) (fun hc70 H => ?_)
                            · -- s60.2.2.1 < 0
                              refine region_k (fun K71 hK71 => ?_)
                              refine stq hf rfl rfl rfl (ex_move hf rfl) (fun a hf => ?_)
                              refine stq hf rfl rfl rfl (ex_neq hf rfl rfl) (fun a hf => ?_)
                              refine stq hf rfl rfl rfl (ex_move hf rfl) (fun a hf => ?_)
                              replace hf := hf.castB (t := 71) rfl (ndec_f hc68)
                              replace hf := hf.castB (t := 72) rfl (ndec_f hc68)
                              refine stq hf rfl rfl rfl (ex_move hf rfl) (fun a hf => ?_)
                              refine stq hf rfl rfl rfl (ex_lenS Try.underlying52 (rsl_isSl (osl_rsl _ (hs.get (i := 0) rfl))) hf rfl) (fun a hf => ?_)
                              refine stq hf rfl rfl rfl (ex_move hf rfl) (fun a hf => ?_)
                              refine stq hf rfl rfl rfl (ex_lenS Try.underlying22 (rsl_isSl (osl_rsl _ (hs.get (i := 3) rfl))) hf rfl) (fun a hf => ?_)
                              refine stq hf rfl rfl rfl (ex_neq hf rfl rfl) (fun a hf => ?_)
                              refine stq hf rfl rfl rfl (ex_pickF hf rfl rfl) (fun a hf => ?_)
                              refine stq hf rfl rfl rfl (ex_move hf rfl) (fun a hf => ?_)
                              replace hf := hf.castB (t := 77) rfl (ndec_f hc69)
                              replace hf := hf.castB (t := 78) rfl (ndec_f hc69)
                              replace hf := hf.castB (t := 79) rfl (ndec_f hc69)
                              refine stq hf rfl rfl rfl (ex_move hf rfl) (fun a hf => ?_)
                              refine stq hf rfl rfl rfl (ex_lss hf rfl rfl) (fun a hf => ?_)
                              refine stq hf rfl rfl rfl (ex_pickF hf rfl rfl) (fun a hf => ?_)
                              refine stq hf rfl rfl rfl (ex_move hf rfl) (fun a hf => ?_)
                              replace hf := hf.castB (t := 81) rfl (dec_t hc70)
                              replace hf := hf.castB (t := 82) rfl (dec_t hc70)
                              replace hf := hf.castB (t := 83) rfl (dec_t hc70)
                              refine stepN hf rfl rfl rfl (fun a hf => ?_)
                              refine stepN hf rfl rfl rfl (fun a hf => ?_)
                              refine stepN hf rfl rfl rfl (fun a hf => ?_)
                              refine stq hf rfl rfl rfl (ex_pickT hf rfl rfl) (fun a hf => ?_)
                              refine stq hf rfl rfl rfl (ex_move hf rfl) (fun a hf => ?_)
                              refine stepN hf rfl rfl rfl (fun a hf => ?_)
                              refine stepN hf rfl rfl rfl (fun a hf => ?_)
                              refine stepN hf rfl rfl rfl (fun a hf => ?_)
                              refine stepN hf rfl rfl rfl (fun a hf => ?_)
                              refine stq hf rfl rfl rfl (ex_pickT hf rfl rfl) (fun a hf => ?_)
                              refine stq hf rfl rfl rfl (ex_move hf rfl) (fun a hf => ?_)
                              refine stepN hf rfl rfl rfl (fun a hf => ?_)
                              refine stepN hf rfl rfl rfl (fun a hf => ?_)
                              refine stepN hf rfl rfl rfl (fun a hf => ?_)
                              refine stepN hf rfl rfl rfl (fun a hf => ?_)
                              refine stq hf rfl rfl rfl (ex_pickT hf rfl rfl) (fun a hf => ?_)
                              refine stq hf rfl rfl rfl (ex_move hf rfl) (fun a hf => ?_)
                              refine stepN hf rfl rfl rfl (fun a hf => ?_)
                              refine stepN hf rfl rfl rfl (fun a hf => ?_)
                              refine stepN hf rfl rfl rfl (fun a hf => ?_)
                              refine stepN hf rfl rfl rfl (fun a hf => ?_)
                              refine stq hf rfl rfl rfl (ex_pickT hf rfl rfl) (fun a hf => ?_)
                              refine hK71 _ _ ?_
                              replace hs := hs.pick (.k (.k (.k (.k (.k (.c .nil))))))
                              replace hs := hs.pick (.k (.k (.k (.c (.k (.k .nil))))))
                              replace hs := hs.pick (.k (.k (.k (.k (.k (.c .nil))))))
                              replace hs := hs.pick (.k (.k (.k (.k (.c (.k .nil))))))
                              replace hs := hs.pick (.k (.k (.k (.k (.k (.c .nil))))))
                              have e67 := some_eq H; subst e67
                              exact hJ67 _ _ ⟨hf.sub ⟨rfl, rfl, rfl, rfl, rfl, rfl, rfl, rfl, rfl, rfl, rfl, rfl, trivial⟩, hs⟩
                            · -- not s60.2.2.1 < 0
                              refine itt H (fun hc72 H => ?_) (fun hc72 H => ?_)
                              · -- s12 < s60.2.2.1
                                refine region_k (fun K73 hK73 => ?_)
                                refine stq hf rfl rfl rfl (ex_move hf rfl) (fun a hf => ?_)
                                refine stq hf rfl rfl rfl (ex_neq hf rfl rfl) (fun a hf => ?_)
                                refine stq hf rfl rfl rfl (ex_move hf rfl) (fun a hf => ?_)
                                replace hf := hf.castB (t := 71) rfl (ndec_f hc68)
                                replace hf := hf.castB (t := 72) rfl (ndec_f hc68)
                                refine stq hf rfl rfl rfl (ex_move hf rfl) (fun a hf => ?_)
                                refine stq hf rfl rfl rfl (ex_lenS Try.underlying52 (rsl_isSl (osl_rsl _ (hs.get (i := 0) rfl))) hf rfl) (fun a hf => ?_)
                                refine stq hf rfl rfl rfl (ex_move hf rfl) (fun a hf => ?_)
                                refine stq hf rfl rfl rfl (ex_lenS Try.underlying22 (rsl_isSl (osl_rsl _ (hs.get (i := 3) rfl))) hf rfl) (fun a hf => ?_)
                                refine stq hf rfl rfl rfl (ex_neq hf rfl rfl) (fun a hf => ?_)
                                refine stq hf rfl rfl rfl (ex_pickF hf rfl rfl) (fun a hf => ?_)
                                refine stq hf rfl rfl rfl (ex_move hf rfl) (fun a hf => ?_)
                                replace hf := hf.castB (t := 77) rfl (ndec_f hc69)
                                replace hf := hf.castB (t := 78) rfl (ndec_f hc69)
                                replace hf := hf.castB (t := 79) rfl (ndec_f hc69)
                                refine stq hf rfl rfl rfl (ex_move hf rfl) (fun a hf => ?_)
                                refine stq hf rfl rfl rfl (ex_lss hf rfl rfl) (fun a hf => ?_)
                                refine stq hf rfl rfl rfl (ex_pickF hf rfl rfl) (fun a hf => ?_)
                                refine stq hf rfl rfl rfl (ex_move hf rfl) (fun a hf => ?_)
                                replace hf := hf.castB (t := 81) rfl (dec_f hc70)
                                replace hf := hf.castB (t := 82) rfl (dec_f hc70)
                                replace hf := hf.castB (t := 83) rfl (dec_f hc70)
                                refine stq hf rfl rfl rfl (ex_move hf rfl) (fun a hf => ?_)
                                refine stq hf rfl rfl rfl (ex_move hf rfl) (fun a hf => ?_)
                                refine stq hf rfl rfl rfl (ex_gtr hf rfl rfl) (fun a hf => ?_)
                                refine stq hf rfl rfl rfl (ex_pickF hf rfl rfl) (fun a hf => ?_)
                                refine stq hf rfl rfl rfl (ex_move hf rfl) (fun a hf => ?_)
                                replace hf := hf.castB (t := 86) rfl (dec_t hc72)
                                replace hf := hf.castB (t := 87) rfl (dec_t hc72)
                                replace hf := hf.castB (t := 88) rfl (dec_t hc72)
                                refine stepN hf rfl rfl rfl (fun a hf => ?_)
                                refine stepN hf rfl rfl rfl (fun a hf => ?_)
                                refine stepN hf rfl rfl rfl (fun a hf => ?_)
                                refine stepN hf rfl rfl rfl (fun a hf => ?_)
                                refine stq hf rfl rfl rfl (ex_pickT hf rfl rfl) (fun a hf => ?_)
                                refine stq hf rfl rfl rfl (ex_move hf rfl) (fun a hf => ?_)
                                refine stepN hf rfl rfl rfl (fun a hf => ?_)
                                refine stepN hf rfl rfl rfl (fun a hf => ?_)
                                refine stepN hf rfl rfl rfl (fun a hf => ?_)
                                refine stepN hf rfl rfl rfl (fun a hf => ?_)
                                refine stq hf rfl rfl rfl (ex_pickT hf rfl rfl) (fun a hf => ?_)
                                refine stq hf rfl rfl rfl (ex_move hf rfl) (fun a hf => ?_)
                                refine stepN hf rfl rfl rfl (fun a hf => ?_)
                                refine stepN hf rfl rfl rfl (fun a hf => ?_)
                                refine stepN hf rfl rfl rfl (fun a hf => ?_)
                                refine stepN hf rfl rfl rfl (fun a hf => ?_)
                                refine stq hf rfl rfl rfl (ex_pickT hf rfl rfl) (fun a hf => ?_)
                                refine hK73 _ _ ?_
                                replace hs := hs.pick (.k (.k (.k (.k (.k (.c .nil))))))
                                replace hs := hs.pick (.k (.k (.k (.c (.k (.k .nil))))))
                                replace hs := hs.pick (.k (.k (.k (.k (.k (.c .nil))))))
                                replace hs := hs.pick (.k (.k (.k (.k (.c (.k .nil))))))
                                replace hs := hs.pick (.k (.k (.k (.k (.k (.c .nil))))))
                                have e67 := some_eq H; subst e67
                                exact hJ67 _ _ ⟨hf.sub ⟨rfl, rfl, rfl, rfl, rfl, rfl, rfl, rfl, rfl, rfl, rfl, rfl, trivial⟩, hs⟩
                              · -- not s12 < s60.2.2.1
                                refine itt H (fun hc74 H => ?_) (fun hc74 H => ?_)
                                · -- (IntKind.i64.wrap (y46 + 1)) < s60.2.2.1
                                  refine region_k (fun K75 hK75 => ?_)
                                  refine stq hf rfl rfl rfl (ex_move hf rfl) (fun a hf => ?_)
                                  refine stq hf rfl rfl rfl (ex_neq hf rfl rfl) (fun a hf => ?_)
                                  refine stq hf rfl rfl rfl (ex_move hf rfl) (fun a hf => ?_)
                                  replace hf := hf.castB (t := 71) rfl (ndec_f hc68)
                                  replace hf := hf.castB (t := 72) rfl (ndec_f hc68)
                                  refine stq hf rfl rfl rfl (ex_move hf rfl) (fun a hf => ?_)
                                  refine stq hf rfl rfl rfl (ex_lenS Try.underlying52 (rsl_isSl (osl_rsl _ (hs.get (i := 0) rfl))) hf rfl) (fun a hf => ?_)
                                  refine stq hf rfl rfl rfl (ex_move hf rfl) (fun a hf => ?_)
                                  refine stq hf rfl rfl rfl (ex_lenS Try.underlying22 (rsl_isSl (osl_rsl _ (hs.get (i := 3) rfl))) hf rfl) (fun a hf => ?_)
                                  refine stq hf rfl rfl rfl (ex_neq hf rfl rfl) (fun a hf => ?_)
                                  refine stq hf rfl rfl rfl (ex_pickF hf rfl rfl) (fun a hf => ?_)
                                  refine stq hf rfl rfl rfl (ex_move hf rfl) (fun a hf => ?_)
                                  replace hf := hf.castB (t := 77) rfl (ndec_f hc69)
                                  replace hf := hf.castB (t := 78) rfl (ndec_f hc69)
                                  replace hf := hf.castB (t := 79) rfl (ndec_f hc69)
                                  refine stq hf rfl rfl rfl (ex_move hf rfl) (fun a hf => ?_)
                                  refine stq hf rfl rfl rfl (ex_lss hf rfl rfl) (fun a hf => ?_)
                                  refine stq hf rfl rfl rfl (ex_pickF hf rfl rfl) (fun a hf => ?_)
                                  refine stq hf rfl rfl rfl (ex_move hf rfl) (fun a hf => ?_)
                                  replace hf := hf.castB (t := 81) rfl (dec_f hc70)
                                  replace hf := hf.castB (t := 82) rfl (dec_f hc70)
                                  replace hf := hf.castB (t := 83) rfl (dec_f hc70)
                                  refine stq hf rfl rfl rfl (ex_move hf rfl) (fun a hf => ?_)
                                  refine stq hf rfl rfl rfl (ex_move hf rfl) (fun a hf => ?_)
                                  refine stq hf rfl rfl rfl (ex_gtr hf rfl rfl) (fun a hf => ?_)
                                  refine stq hf rfl rfl rfl (ex_pickF hf rfl rfl) (fun a hf => ?_)
                                  refine stq hf rfl rfl rfl (ex_move hf rfl) (fun a hf => ?_)
                                  replace hf := hf.castB (t := 86) rfl (dec_f hc72)
                                  replace hf := hf.castB (t := 87) rfl (dec_f hc72)
                                  replace hf := hf.castB (t := 88) rfl (dec_f hc72)
                                  refine stq hf rfl rfl rfl (ex_move hf rfl) (fun a hf => ?_)
                                  refine stq hf rfl rfl rfl (ex_move hf rfl) (fun a hf => ?_)
                                  refine stq hf rfl rfl rfl (ex_add hf rfl rfl) (fun a hf => ?_)
                                  refine stq hf rfl rfl rfl (ex_gtr hf rfl rfl) (fun a hf => ?_)
                                  refine stq hf rfl rfl rfl (ex_pickF hf rfl rfl) (fun a hf => ?_)
                                  refine stq hf rfl rfl rfl (ex_move hf rfl) (fun a hf => ?_)
                                  replace hf := hf.castB (t := 92) rfl (dec_t hc74)
                                  replace hf := hf.castB (t := 93) rfl (dec_t hc74)
                                  replace hf := hf.castB (t := 94) rfl (dec_t hc74)
                                  refine stepN hf rfl rfl rfl (fun a hf => ?_)
                                  refine stepN hf rfl rfl rfl (fun a hf => ?_)
                                  refine stepN hf rfl rfl rfl (fun a hf => ?_)
                                  refine stepN hf rfl rfl rfl (fun a hf => ?_)
                                  refine stq hf rfl rfl rfl (ex_pickT hf rfl rfl) (fun a hf => ?_)
                                  refine stq hf rfl rfl rfl (ex_move hf rfl) (fun a hf => ?_)
                                  refine stepN hf rfl rfl rfl (fun a hf => ?_)
                                  refine stepN hf rfl rfl rfl (fun a hf => ?_)
                                  refine stepN hf rfl rfl rfl (fun a hf => ?_)
                                  refine stepN hf rfl rfl rfl (fun a hf => ?_)
                                  refine stq hf rfl rfl rfl (ex_pickT hf rfl rfl) (fun a hf => ?_)
                                  refine hK75 _ _ ?_
                                  replace hs := hs.pick (.k (.k (.k (.k (.k (.c .nil))))))
                                  replace hs := hs.pick (.k (.k (.k (.c (.k (.k .nil))))))
                                  replace hs := hs.pick (.k (.k (.k (.k (.k (.c .nil))))))
                                  replace hs := hs.pick (.k (.k (.k (.k (.c (.k .nil))))))
                                  replace hs := hs.pick (.k (.k (.k (.k (.k (.c .nil))))))
                                  have e67 := some_eq H; subst e67
                                  exact hJ67 _ _ ⟨hf.sub ⟨rfl, rfl, rfl, rfl, rfl, rfl, rfl, rfl, rfl, rfl, rfl, rfl, trivial⟩, hs⟩
                                · -- not (IntKind.i64.wrap (y46 + 1)) < s60.2.2.1
                                  refine itt H (fun hc76 H => ?_) (fun hc76 H => ?_)
                                  · -- s60.2.2.1 < (IntKind.i64.wrap (y46 - 1))
                                    refine region_k (fun K77 hK77 => ?_)
                                    refine stq hf rfl rfl rfl (ex_move hf rfl) (fun a hf => ?_)
                                    refine stq hf rfl rfl rfl (ex_neq hf rfl rfl) (fun a hf => ?_)
                                    refine stq hf rfl rfl rfl (ex_move hf rfl) (fun a hf => ?_)
                                    replace hf := hf.castB (t := 71) rfl (ndec_f hc68)
                                    replace hf := hf.castB (t := 72) rfl (ndec_f hc68)
                                    refine stq hf rfl rfl rfl (ex_move hf rfl) (fun a hf => ?_)
                                    refine stq hf rfl rfl rfl (ex_lenS Try.underlying52 (rsl_isSl (osl_rsl _ (hs.get (i := 0) rfl))) hf rfl) (fun a hf => ?_)
                                    refine stq hf rfl rfl rfl (ex_move hf rfl) (fun a hf => ?_)
                                    refine stq hf rfl rfl rfl (ex_lenS Try.underlying22 (rsl_isSl (osl_rsl _ (hs.get (i := 3) rfl))) hf rfl) (fun a hf => ?_)
                                    refine stq hf rfl rfl rfl (ex_neq hf rfl rfl) (fun a hf => ?_)
                                    refine stq hf rfl rfl rfl (ex_pickF hf rfl rfl) (fun a hf => ?_)
                                    refine stq hf rfl rfl rfl (ex_move hf rfl) (fun a hf => ?_)
                                    replace hf := hf.castB (t := 77) rfl (ndec_f hc69)
                                    replace hf := hf.castB (t := 78) rfl (ndec_f hc69)
                                    replace hf := hf.castB (t := 79) rfl (ndec_f hc69)
                                    refine stq hf rfl rfl rfl (ex_move hf rfl) (fun a hf => ?_)
                                    refine stq hf rfl rfl rfl (ex_lss hf rfl rfl) (fun a hf => ?_)
                                    refine stq hf rfl rfl rfl (ex_pickF hf rfl rfl) (fun a hf => ?_)
                                    refine stq hf rfl rfl rfl (ex_move hf rfl) (fun a hf => ?_)
                                    replace hf := hf.castB (t := 81) rfl (dec_f hc70)
                                    replace hf := hf.castB (t := 82) rfl (dec_f hc70)
                                    replace hf := hf.castB (t := 83) rfl (dec_f hc70)
                                    refine stq hf rfl rfl rfl (ex_move hf rfl) (fun a hf => ?_)
                                    refine stq hf rfl rfl rfl (ex_move hf rfl) (fun a hf => ?_)
                                    refine stq hf rfl rfl rfl (ex_gtr hf rfl rfl) (fun a hf => ?_)
                                    refine stq hf rfl rfl rfl (ex_pickF hf rfl rfl) (fun a hf => ?_)
                                    refine stq hf rfl rfl rfl (ex_move hf rfl) (fun a hf => ?_)
                                    replace hf := hf.castB (t := 86) rfl (dec_f hc72)
                                    replace hf := hf.castB (t := 87) rfl (dec_f hc72)
                                    replace hf := hf.castB (t := 88) rfl (dec_f hc72)
                                    refine stq hf rfl rfl rfl (ex_move hf rfl) (fun a hf => ?_)
                                    refine stq hf rfl rfl rfl (ex_move hf rfl) (fun a hf => ?_)
                                    refine stq hf rfl rfl rfl (ex_add hf rfl rfl) (fun a hf => ?_)
                                    refine stq hf rfl rfl rfl (ex_gtr hf rfl rfl) (fun a hf => ?_)
                                    refine stq hf rfl rfl rfl (ex_pickF hf rfl rfl) (fun a hf => ?_)
                                    refine stq hf rfl rfl rfl (ex_move hf rfl) (fun a hf => ?_)
                                    replace hf := hf.castB (t := 92) rfl (dec_f hc74)
                                    replace hf := hf.castB (t := 93) rfl (dec_f hc74)
                                    replace hf := hf.castB (t := 94) rfl (dec_f hc74)
                                    refine stq hf rfl rfl rfl (ex_move hf rfl) (fun a hf => ?_)
                                    refine stq hf rfl rfl rfl (ex_move hf rfl) (fun a hf => ?_)
                                    refine stq hf rfl rfl rfl (ex_sub hf rfl rfl) (fun a hf => ?_)
                                    refine stq hf rfl rfl rfl (ex_lss hf rfl rfl) (fun a hf => ?_)
                                    refine stq hf rfl rfl rfl (ex_pickF hf rfl rfl) (fun a hf => ?_)
                                    refine stq hf rfl rfl rfl (ex_move hf rfl) (fun a hf => ?_)
                                    replace hf := hf.castB (t := 98) rfl (dec_t hc76)
                                    replace hf := hf.castB (t := 99) rfl (dec_t hc76)
                                    replace hf := hf.castB (t := 100) rfl (dec_t hc76)
                                    refine stepN hf rfl rfl rfl (fun a hf => ?_)
                                    refine stepN hf rfl rfl rfl (fun a hf => ?_)
                                    refine stepN hf rfl rfl rfl (fun a hf => ?_)
                                    refine stepN hf rfl rfl rfl (fun a hf => ?_)
                                    refine stq hf rfl rfl rfl (ex_pickT hf rfl rfl) (fun a hf => ?_)
                                    refine hK77 _ _ ?_
                                    replace hs := hs.pick (.k (.k (.k (.k (.k (.c .nil))))))
                                    replace hs := hs.pick (.k (.k (.k (.c (.k (.k .nil))))))
                                    replace hs := hs.pick (.k (.k (.k (.k (.k (.c .nil))))))
                                    replace hs := hs.pick (.k (.k (.k (.k (.c (.k .nil))))))
                                    replace hs := hs.pick (.k (.k (.k (.k (.k (.c .nil))))))
                                    have e67 := some_eq H; subst e67
                                    exact hJ67 _ _ ⟨hf.sub ⟨rfl, rfl, rfl, rfl, rfl, rfl, rfl, rfl, rfl, rfl, rfl, rfl, trivial⟩, hs⟩
                                  · -- not s60.2.2.1 < (IntKind.i64.wrap (y46 - 1))
                                    refine bnd H (fun s78 hs78 H => ?_)
                                    refine region_k (fun K79 hK79 => ?_)
                                    refine stq hf rfl rfl rfl (ex_move hf rfl) (fun a hf => ?_)
                                    refine stq hf rfl rfl rfl (ex_neq hf rfl rfl) (fun a hf => ?_)
                                    refine stq hf rfl rfl rfl (ex_move hf rfl) (fun a hf => ?_)
                                    replace hf := hf.castB (t := 71) rfl (ndec_f hc68)
                                    replace hf := hf.castB (t := 72) rfl (ndec_f hc68)
                                    refine stq hf rfl rfl rfl (ex_move hf rfl) (fun a hf => ?_)
                                    refine stq hf rfl rfl rfl (ex_lenS Try.underlying52 (rsl_isSl (osl_rsl _ (hs.get (i := 0) rfl))) hf rfl) (fun a hf => ?_)
                                    refine stq hf rfl rfl rfl (ex_move hf rfl) (fun a hf => ?_)
                                    refine stq hf rfl rfl rfl (ex_lenS Try.underlying22 (rsl_isSl (osl_rsl _ (hs.get (i := 3) rfl))) hf rfl) (fun a hf => ?_)
                                    refine stq hf rfl rfl rfl (ex_neq hf rfl rfl) (fun a hf => ?_)
                                    refine stq hf rfl rfl rfl (ex_pickF hf rfl rfl) (fun a hf => ?_)
                                    refine stq hf rfl rfl rfl (ex_move hf rfl) (fun a hf => ?_)
                                    replace hf := hf.castB (t := 77) rfl (ndec_f hc69)
                                    replace hf := hf.castB (t := 78) rfl (ndec_f hc69)
                                    replace hf := hf.castB (t := 79) rfl (ndec_f hc69)
                                    refine stq hf rfl rfl rfl (ex_move hf rfl) (fun a hf => ?_)
                                    refine stq hf rfl rfl rfl (ex_lss hf rfl rfl) (fun a hf => ?_)
                                    refine stq hf rfl rfl rfl (ex_pickF hf rfl rfl) (fun a hf => ?_)
                                    refine stq hf rfl rfl rfl (ex_move hf rfl) (fun a hf => ?_)
                                    replace hf := hf.castB (t := 81) rfl (dec_f hc70)
                                    replace hf := hf.castB (t := 82) rfl (dec_f hc70)
                                    replace hf := hf.castB (t := 83) rfl (dec_f hc70)
                                    refine stq hf rfl rfl rfl (ex_move hf rfl) (fun a hf => ?_)
                                    refine stq hf rfl rfl rfl (ex_move hf rfl) (fun a hf => ?_)
                                    refine stq hf rfl rfl rfl (ex_gtr hf rfl rfl) (fun a hf => ?_)
                                    refine stq hf rfl rfl rfl (ex_pickF hf rfl rfl) (fun a hf => ?_)
                                    refine stq hf rfl rfl rfl (ex_move hf rfl) (fun a hf => ?_)
                                    replace hf := hf.castB (t := 86) rfl (dec_f hc72)
                                    replace hf := hf.castB (t := 87) rfl (dec_f hc72)
                                    replace hf := hf.castB (t := 88) rfl (dec_f hc72)
                                    refine stq hf rfl rfl rfl (ex_move hf rfl) (fun a hf => ?_)
                                    refine stq hf rfl rfl rfl (ex_move hf rfl) (fun a hf => ?_)
                                    refine stq hf rfl rfl rfl (ex_add hf rfl rfl) (fun a hf => ?_)
                                    refine stq hf rfl rfl rfl (ex_gtr hf rfl rfl) (fun a hf => ?_)
                                    refine stq hf rfl rfl rfl (ex_pickF hf rfl rfl) (fun a hf => ?_)
                                    refine stq hf rfl rfl rfl (ex_move hf rfl) (fun a hf => ?_)
                                    replace hf := hf.castB (t := 92) rfl (dec_f hc74)
                                    replace hf := hf.castB (t := 93) rfl (dec_f hc74)
                                    replace hf := hf.castB (t := 94) rfl (dec_f hc74)
                                    refine stq hf rfl rfl rfl (ex_move hf rfl) (fun a hf => ?_)
                                    refine stq hf rfl rfl rfl (ex_move hf rfl) (fun a hf => ?_)
                                    refine stq hf rfl rfl rfl (ex_sub hf rfl rfl) (fun a hf => ?_)
                                    refine stq hf rfl rfl rfl (ex_lss hf rfl rfl) (fun a hf => ?_)
                                    refine stq hf rfl rfl rfl (ex_pickF hf rfl rfl) (fun a hf => ?_)
                                    refine stq hf rfl rfl rfl (ex_move hf rfl) (fun a hf => ?_)
                                    replace hf := hf.castB (t := 98) rfl (dec_f hc76)
                                    replace hf := hf.castB (t := 99) rfl (dec_f hc76)
                                    replace hf := hf.castB (t := 100) rfl (dec_f hc76)
                                    refine stq hf rfl rfl rfl (ex_move hf rfl) (fun a hf => ?_)
                                    refine stq hf rfl rfl rfl (ex_move hf rfl) (fun a hf => ?_)
                                    refine stepF hf rfl rfl rfl (ex_call cf_24 hf rfl) (thermal_Zone_Level.calls k49 c16.1 s60.2.1 c16.2.2.1 s60.1 b24 v25 v61 (hs.enter (.k (.k (.k (.k (.k (.k .nil))))))) (Sr.own hs (.k (.k (.k (.k (.k (.k .nil)))))) (i := 1) rfl (fun _ h => h) (fun _ h => h) (Sr.own hs (.k (.k (.k (.k (.k (.k .nil)))))) (i := 4) rfl osl_rsl (fun _ h => h.1) (Sr.own hs (.k (.k (.k (.k (.k (.k .nil)))))) (i := 2) rfl osl_rsl (fun _ h => h.1) (Sr.nil _ _)))) hs78) (fun v w hR a hf => ?_)
                                    obtain ⟨rfl, hs'⟩ := hR
                                    replace hs := hs.step (.k (.k (.k (.k (.k (.k .nil)))))) hs'
                                    clear hs'
                                    refine stq hf rfl rfl rfl (ex_neq hf rfl rfl) (fun a hf => ?_)
                                    refine stq hf rfl rfl rfl (ex_pickF hf rfl rfl) (fun a hf => ?_)
                                    refine hK79 _ _ ?_
                                    replace hs := hs.pick (.k (.k (.k (.k (.k (.c .nil))))))
                                    replace hs := hs.pick (.k (.k (.k (.c (.k (.k .nil))))))
                                    replace hs := hs.pick (.k (.k (.k (.k (.k (.c .nil))))))
                                    replace hs := hs.pick (.k (.k (.k (.k (.c (.k .nil))))))
                                    replace hs := hs.pick (.k (.k (.k (.k (.k (.c .nil))))))
                                    have e67 := some_eq H; subst e67
                                    exact hJ67 _ _ ⟨hf.sub ⟨rfl, rfl, rfl, rfl, rfl, rfl, rfl, rfl, rfl, rfl, rfl, rfl, trivial⟩, hs⟩
                          · -- not (s63.length : Int) = (s10.length : Int)
                            refine region_k (fun K80 hK80 => ?_)
                            refine stq hf rfl rfl rfl (ex_move hf rfl) (fun a hf => ?_)
                            refine stq hf rfl rfl rfl (ex_neq hf rfl rfl) (fun a hf => ?_)
                            refine stq hf rfl rfl rfl (ex_move hf rfl) (fun a hf => ?_)
                            replace hf := hf.castB (t := 71) rfl (ndec_f hc68)
                            replace hf := hf.castB (t := 72) rfl (ndec_f hc68)
                            refine stq hf rfl rfl rfl (ex_move hf rfl) (fun a hf => ?_)
                            refine stq hf rfl rfl rfl (ex_lenS Try.underlying52 (rsl_isSl (osl_rsl _ (hs.get (i := 0) rfl))) hf rfl) (fun a hf => ?_)
                            refine stq hf rfl rfl rfl (ex_move hf rfl) (fun a hf => ?_)
                            refine stq hf rfl rfl rfl (ex_lenS Try.underlying22 (rsl_isSl (osl_rsl _ (hs.get (i := 3) rfl))) hf rfl) (fun a hf => ?_)
                            refine stq hf rfl rfl rfl (ex_neq hf rfl rfl) (fun a hf => ?_)
                            refine stq hf rfl rfl rfl (ex_pickF hf rfl rfl) (fun a hf => ?_)
                            refine stq hf rfl rfl rfl (ex_move hf rfl) (fun a hf => ?_)
                            replace hf := hf.castB (t := 77) rfl (ndec_t hc69)
                            replace hf := hf.castB (t := 78) rfl (ndec_t hc69)
                            replace hf := hf.castB (t := 79) rfl (ndec_t hc69)
                            refine stepN hf rfl rfl rfl (fun a hf => ?_)
                            refine stepN hf rfl rfl rfl (fun a hf => ?_)
                            refine stq hf rfl rfl rfl (ex_pickT hf rfl rfl) (fun a hf => ?_)
                            refine stq hf rfl rfl rfl (ex_move hf rfl) (fun a hf => ?_)
                            refine stepN hf rfl rfl rfl (fun a hf => ?_)
                            refine stepN hf rfl rfl rfl (fun a hf => ?_)
                            refine stepN hf rfl rfl rfl (fun a hf => ?_)
                            refine stq hf rfl rfl rfl (ex_pickT hf rfl rfl) (fun a hf => ?_)
                            refine stq hf rfl rfl rfl (ex_move hf rfl) (fun a hf => ?_)
                            refine stepN hf rfl rfl rfl (fun a hf => ?_)
                            refine stepN hf rfl rfl rfl (fun a hf => ?_)
                            refine stepN hf rfl rfl rfl (fun a hf => ?_)
                            refine stepN hf rfl rfl rfl (fun a hf => ?_)
                            refine stq hf rfl rfl rfl (ex_pickT hf rfl rfl) (fun a hf => ?_)
                            refine stq hf rfl rfl rfl (ex_move hf rfl) (fun a hf => ?_)
                            refine stepN hf rfl rfl rfl (fun a hf => ?_)
                            refine stepN hf rfl rfl rfl (fun a hf => ?_)
                            refine stepN hf rfl rfl rfl (fun a hf => ?_)
                            refine stepN hf rfl rfl rfl (fun a hf => ?_)
                            refine stq hf rfl rfl rfl (ex_pickT hf rfl rfl) (fun a hf => ?_)
                            refine stq hf rfl rfl rfl (ex_move hf rfl) (fun a hf => ?_)
                            refine stepN hf rfl rfl rfl (fun a hf => ?_)
                            refine stepN hf rfl rfl rfl (fun a hf => ?_)
                            refine stepN hf rfl rfl rfl (fun a hf => ?_)
                            refine stepN hf rfl rfl rfl (fun a hf => ?_)
                            refine stq hf rfl rfl rfl (ex_pickT hf rfl rfl) (fun a hf => ?_)
                            refine hK80 _ _ ?_
                            replace hs := hs.pick (.k (.k (.k (.k (.k (.c .nil))))))
                            replace hs := hs.pick (.k (.k (.k (.c (.k (.k .nil))))))
                            replace hs := hs.pick (.k (.k (.k (.k (.k (.c .nil))))))
                            replace hs := hs.pick (.k (.k (.k (.k (.c (.k .nil))))))
                            replace hs := hs.pick (.k (.k (.k (.k (.k (.c .nil))))))
                            have e67 := some_eq H; subst e67
                            exact hJ67 _ _ ⟨hf.sub ⟨rfl, rfl, rfl, rfl, rfl, rfl, rfl, rfl, rfl, rfl, rfl, rfl, trivial⟩, hs⟩
                        · -- not s60.2.2.2.2 = 0
                          refine region_k (fun K81 hK81 => ?_)
                          refine stq hf rfl rfl rfl (ex_move hf rfl) (fun a hf => ?_)
                          refine stq hf rfl rfl rfl (ex_neq hf rfl rfl) (fun a hf => ?_)
                          refine stq hf rfl rfl rfl (ex_move hf rfl) (fun a hf => ?_)
                          replace hf := hf.castB (t := 71) rfl (ndec_t hc68)
                          replace hf := hf.castB (t := 72) rfl (ndec_t hc68)
                          refine stepN hf rfl rfl rfl (fun a hf => ?_)
                          refine stepN hf rfl rfl rfl (fun a hf => ?_)
                          refine stepN hf rfl rfl rfl (fun a hf => ?_)
                          refine stepN hf rfl rfl rfl (fun a hf => ?_)
                          refine stepN hf rfl rfl rfl (fun a hf => ?_)
                          refine stq hf rfl rfl rfl (ex_pickT hf rfl rfl) (fun a hf => ?_)
                          refine stq hf rfl rfl rfl (ex_move hf rfl) (fun a hf => ?_)
                          refine stepN hf rfl rfl rfl (fun a hf => ?_)
                          refine stepN hf rfl rfl rfl (fun a hf => ?_)
                          refine stq hf rfl rfl rfl (ex_pickT hf rfl rfl) (fun a hf => ?_)
                          refine stq hf rfl rfl rfl (ex_move hf rfl) (fun a hf => ?_)
                          refine stepN hf rfl rfl rfl (fun a hf => ?_)
                          refine stepN hf rfl rfl rfl (fun a hf => ?_)
                          refine stepN hf rfl rfl rfl (fun a hf => ?_)
                          refine stq hf rfl rfl rfl (ex_pickT hf rfl rfl) (fun a hf => ?_)
                          refine stq hf rfl rfl rfl (ex_move hf rfl) (fun a hf => ?_)
                          refine stepN hf rfl rfl rfl (fun a hf => ?_)
                          refine stepN hf rfl rfl rfl (fun a hf => ?_)
                          refine stepN hf rfl rfl rfl (fun a hf => ?_)
                          refine stepN hf rfl rfl rfl (fun a hf => ?_)
                          refine stq hf rfl rfl rfl (ex_pickT hf rfl rfl) (fun a hf => ?_)
                          refine stq hf rfl rfl rfl (ex_move hf rfl) (fun a hf => ?_)
                          refine stepN hf rfl rfl rfl (fun a hf => ?_)
                          refine stepN hf rfl rfl rfl (fun a hf => ?_)
                          refine stepN hf rfl rfl rfl (fun a hf => ?_)
                          refine stepN hf rfl rfl rfl (fun a hf => ?_)
                          refine stq hf rfl rfl rfl (ex_pickT hf rfl rfl) (fun a hf => ?_)
                          refine stq hf rfl rfl rfl (ex_move hf rfl) (fun a hf => ?_)
                          refine stepN hf rfl rfl rfl (fun a hf => ?_)
                          refine stepN hf rfl rfl rfl (fun a hf => ?_)
                          refine stepN hf rfl rfl rfl (fun a hf => ?_)
                          refine stepN hf rfl rfl rfl (fun a hf => ?_)
                          refine stq hf rfl rfl rfl (ex_pickT hf rfl rfl) (fun a hf => ?_)
                          refine hK81 _ _ ?_
                          replace hs := hs.pick (.k (.k (.k (.k (.k (.c .nil))))))
                          replace hs := hs.pick (.k (.k (.k (.c (.k (.k .nil))))))
                          replace hs := hs.pick (.k (.k (.k (.k (.k (.c .nil))))))
                          replace hs := hs.pick (.k (.k (.k (.k (.c (.k .nil))))))
                          replace hs := hs.pick (.k (.k (.k (.k (.k (.c .nil))))))
                          have e67 := some_eq H; subst e67
                          exact hJ67 _ _ ⟨hf.sub ⟨rfl, rfl, rfl, rfl, rfl, rfl, rfl, rfl, rfl, rfl, rfl, rfl, trivial⟩, hs⟩
                      · obtain ⟨hf, hs⟩ := hJ
                        replace H := HO67
                        clear HO67
                        refine itt H (fun hc82 H => ?_) (fun hc82 H => ?_)
                        · -- x67 = true
                          replace hf := hf.castB (t := 105) rfl hc82
                          refine cond_T hf rfl ?_
                          refine seq_reg (fun K83 hK83 => ?_)
                          refine stq hf rfl rfl rfl (ex_assign hf rfl) (fun a hf => ?_)
                          refine hK83 _ _ ?_
                          refine wp_ret ?_
                          refine hR66 _ _ ?_
                          refine hR56 _ _ ?_
                          have e53 := some_eq H; subst e53; replace H := el_rt HO53
                          refine hR53 _ _ ?_
                          refine hR49 _ _ ?_
                          refine hR40 _ _ ?_
                          have e38 := some_eq H; subst e38; replace H := el_rt HO38
                          refine hR38 _ _ ?_
                          have eR := some_eq H; subst eR
                          replace hs := hs.keep (.d (.d (.d (.d (.d (.d .nil))))))
                          exact ret1 Try.results7 hf rfl ⟨_, rfl, ⟨rfl, hs⟩⟩
                        · -- not x67 = true
                          replace hf := hf.castB (t := 105) rfl (bool_f hc82)
                          refine cond_F hf rfl ?_
                          refine wp_skip ?_
                          refine hN66 _ _ ?_
                          refine seq_reg (fun K84 hK84 => ?_)
                          refine stq hf rfl rfl rfl (ex_assign hf rfl) (fun a hf => ?_)
                          refine stq hf rfl rfl rfl (ex_assign hf rfl) (fun a hf => ?_)
                          refine hK84 _ _ ?_
                          refine bnd H (fun x85 H85 HO85 => ?_)
                          clear H
                          refine seq_cut (fun a w => ∃ (x85s : Bool × Bool), x85 = .go x85s ∧ Fr a 235 [(2, v2), (7, v11), (8, .int .i64 s12), (9, .pointer (some ⟨b24, 0, none⟩)), (12, .int .i64 y46), (13, .int .i64 y47), (15, .int .i64 s60.2.2.1), (16, .bool s60.2.2.2.1), (18, v64), (19, .bool x85s.1), (20, .bool x85s.2)] ∧ St M w0 w [osl K_api_Trip v11 s10, bx b24 62 [v25, v61, .int .i64 c16.2.2.1, .int .i64 s60.1], osl K_api_Trip v25 c16.1, osl K_bool v61 s60.2.1, osl K_bool v64 s63]) (fun Q85 hJ85 hR85 hX85 => ?_) (fun a w hJ => ?_)
                          · replace H := H85
                            refine seq_reg (fun K86 hK86 => ?_)
                            refine stq hf rfl rfl rfl (ex_assign hf rfl) (fun a hf => ?_)
                            refine hK86 _ _ ?_
                            refine block_k (fun Q87 hN87 hR87 hX87 hY87 => ?_)
                            refine loop_k (fun n a w => ∃ (y88 : Bool) (y89 : Bool) (y90 : Int), Fr a 235 [(2, v2), (7, v11), (8, .int .i64 s12), (9, .pointer (some ⟨b24, 0, none⟩)), (11, v42), (12, .int .i64 y46), (13, .int .i64 y47), (14, .int .i64 s58), (15, .int .i64 s60.2.2.1), (16, .bool s60.2.2.2.1), (18, v64), (19, .bool y88), (20, .bool y89), (21, .int .i64 y90)] ∧ St M w0 w [osl K_api_Trip v11 s10, bx b24 62 [v25, v61, .int .i64 c16.2.2.1, .int .i64 s60.1], osl K_api_Trip v25 c16.1, osl K_bool v61 s60.2.1, osl K_bool v42 y45, osl K_bool v64 s63] ∧ law39_ThermalHysteresis.l2 n s10 s58 s63 y45 y88 y89 y90 = some x85) k49 ?_ (fun n92 a w hI Q92 hL92 hR92 hX92 => ?_)
                            · -- at the start
                              exact ⟨false, false, 0, hf.sub ⟨rfl, rfl, rfl, rfl, rfl, rfl, rfl, rfl, rfl, rfl, rfl, rfl, rfl, rfl, trivial⟩, hs, H⟩
                            · obtain ⟨y88, y89, y90, hf, hs, H⟩ := hI
                              cases n92 with
                              | zero => exact absurd H (by rw [law39_ThermalHysteresis.l2.eq_1]; intro h; cases h)
                              | succ k92 =>
                                replace H := (law39_ThermalHysteresis.l2.eq_2 ..).symm.trans H
                                refine seq_n (fun Q93 hN93 hR93 hX93 => ?_)
                                refine seq_reg (fun K94 hK94 => ?_)
                                refine stq hf rfl rfl rfl (ex_move hf rfl) (fun a hf => ?_)
                                refine stq hf rfl rfl rfl (ex_move hf rfl) (fun a hf => ?_)
                                refine stq hf rfl rfl rfl (ex_lenS Try.underlying22 (rsl_isSl (osl_rsl _ (hs.get (i := 0) rfl))) hf rfl) (fun a hf => ?_)
                                refine stq hf rfl rfl rfl (ex_lss hf rfl rfl) (fun a hf => ?_)
                                refine hK94 _ _ ?_
                                refine itt H (fun hc95 H => ?_) (fun hc95 H => ?_)
                                · -- y90 < (s10.length : Int)
                                  replace hf := hf.castB (t := 109) rfl (dec_t hc95)
                                  refine cond_T hf rfl ?_
                                  refine wp_skip ?_
                                  refine hN93 _ _ ?_
                                  refine bnd H (fun x96 H96 HO96 => ?_)
                                  clear H
                                  refine seq_cut (fun a w => ∃ (x96s : Bool × Bool), x96 = .go x96s ∧ Fr a 235 [(2, v2), (7, v11), (8, .int .i64 s12), (9, .pointer (some ⟨b24, 0, none⟩)), (11, v42), (12, .int .i64 y46), (13, .int .i64 y47), (14, .int .i64 s58), (15, .int .i64 s60.2.2.1), (16, .bool s60.2.2.2.1), (18, v64), (19, .bool x96s.1), (20, .bool x96s.2), (21, .int .i64 y90)] ∧ St M w0 w [osl K_api_Trip v11 s10, bx b24 62 [v25, v61, .int .i64 c16.2.2.1, .int .i64 s60.1], osl K_api_Trip v25 c16.1, osl K_bool v61 s60.2.1, osl K_bool v42 y45, osl K_bool v64 s63]) (fun Q96 hJ96 hR96 hX96 => ?_) (fun a w hJ => ?_)
                                  · replace H := H96
                                    refine block_k (fun Q97 hN97 hR97 hX97 hY97 => ?_)
                                    refine seq_n (fun Q98 hN98 hR98 hX98 => ?_)
                                    refine bnd H (fun x99 H99 HO99 => ?_)
                                    clear H
                                    refine seq_cut (fun a w => Fr a 235 [(2, v2), (7, v11), (8, .int .i64 s12), (9, .pointer (some ⟨b24, 0, none⟩)), (11, v42), (12, .int .i64 y46), (13, .int .i64 y47), (14, .int .i64 s58), (15, .int .i64 s60.2.2.1), (16, .bool s60.2.2.2.1), (18, v64), (19, .bool y88), (20, .bool y89), (21, .int .i64 y90), (181, .bool x99)] ∧ St M w0 w [osl K_api_Trip v11 s10, bx b24 62 [v25, v61, .int .i64 c16.2.2.1, .int .i64 s60.1], osl K_api_Trip v25 c16.1, osl K_bool v61 s60.2.1, osl K_bool v42 y45, osl K_bool v64 s63]) (fun Q99 hJ99 hR99 hX99 => ?_) (fun a w hJ => ?_)
                                    · replace H := H99
                                      refine ck_some H (fun hc100 H => ?_)
                                      refine itt H (fun hc101 H => ?_) (fun hc101 H => ?_)
                                      · -- ((gd Trip.zero s10 y90).Temperature) ≤ s58
                                        refine ck_some H (fun hc102 H => ?_)
                                        refine itt H (fun hc103 H => ?_) (fun hc103 H => ?_)
                                        · -- (gd false s63 y90) = true
                                          refine itt H (fun hc104 H => ?_) (fun hc104 H => ?_)
                                          · -- s58 < (IntKind.i64.wrap (((gd Trip.zero s10 y90).Temperature
                                            refine region_d fol 70 [(2, v2), (7, v11), (8, .int .i64 s12), (9, .pointer (some ⟨b24, 0, none⟩)), (11, v42), (12, .int .i64 y46), (13, .int .i64 y47), (14, .int .i64 s58), (15, .int .i64 s60.2.2.1), (16, .bool s60.2.2.2.1), (18, v64), (19, .bool y88), (20, .bool y89), (21, .int .i64 y90)] [(0, .int .i64 s58), (1, v11), (2, .int .i64 y90), (3, .pointer (some (sla v11 (y90.toNat * 3)))), (4, .pointer (some (sla v11 (y90.toNat * 3 + 1)))), (5, .int .i64 ((gd Trip.zero s10 y90).Temperature)), (6, .bool true), (7, .bool true), (8, v64), (9, .int .i64 y90), (10, .pointer (some (sla v64 (y90.toNat * 1)))), (11, .bool true), (12, .bool false), (13, .bool false), (14, .bool false), (15, .int .i64 s58), (16, v11), (17, .int .i64 y90), (18, .pointer (some (sla v11 (y90.toNat * 3)))), (19, .pointer (some (sla v11 (y90.toNat * 3 + 1)))), (20, .int .i64 ((gd Trip.zero s10 y90).Temperature)), (21, v11), (22, .int .i64 y90), (23, .pointer (some (sla v11 (y90.toNat * 3)))), (24, .pointer (some (sla v11 (y90.toNat * 3 + 2)))), (25, .int .i64 ((gd Trip.zero s10 y90).Hysteresis)), (26, .int .i64 (IntKind.i64.wrap (((gd Trip.zero s10 y90).Temperature) - ((gd Trip.zero s10 y90).Hysteresis)))), (27, .bool true), (28, .bool true), (29, v64), (30, .int .i64 y90), (31, .pointer (some (sla v64 (y90.toNat * 1)))), (32, .bool true), (33, .bool true), (34, .bool true), (35, .bool true), (36, undef), (37, undef), (38, undef), (39, undef), (40, undef), (41, undef), (42, undef), (43, undef), (44, undef), (45, undef), (46, undef), (47, undef), (48, undef), (49, undef), (50, undef), (51, undef), (52, undef), (53, undef), (54, undef), (55, undef), (56, undef), (57, undef), (58, undef), (59, undef), (60, undef), (61, undef), (62, undef), (63, undef), (64, undef), (65, undef), (66, undef), (67, undef), (68, undef), (69, .bool true)] [] (fun w => (osl K_api_Trip v11 s10).ok w ∧ (osl K_bool v64 s63).ok w ∧ True) (fun w => St M w0 w [osl K_api_Trip v11 s10, bx b24 62 [v25, v61, .int .i64 c16.2.2.1, .int .i64 s60.1], osl K_api_Trip v25 c16.1, osl K_bool v61 s60.2.1, osl K_bool v42 y45, osl K_bool v64 s63]) hf ⟨rfl, rfl, rfl, rfl, rfl, rfl, rfl, rfl, rfl, rfl, rfl, rfl, rfl, rfl, trivial⟩ (by kernel_rfl) (by kernel_rfl) rfl (by decide) ⟨hs.drew.get (i := 0) rfl, hs.drew.get (i := 5) rfl, trivial⟩ hs.drew (.cons (⟨_, _, rfl, rfl, rfl, rfl, fun a w hR hf => .inl ⟨wanted_yes hf rfl, ex_move hf rfl⟩⟩) (.cons (⟨_, _, rfl, rfl, rfl, rfl, fun a w hR hf => .inl ⟨wanted_yes hf rfl, ex_move hf rfl⟩⟩) (.cons (⟨_, _, rfl, rfl, rfl, rfl, fun a w hR hf => .inl ⟨wanted_yes hf rfl, ex_move hf rfl⟩⟩) (.cons (⟨_, _, rfl, rfl, rfl, rfl, fun a w hR hf => .inl ⟨wanted_yes hf rfl, ex_indexAddr sa_22 (rsl_isSl (osl_rsl _ hR.1)) hc100.1 hc100.2 hf rfl rfl⟩⟩) (.cons (⟨_, _, rfl, rfl, rfl, rfl, fun a w hR hf => .inl ⟨wanted_yes hf rfl, ex_fieldAddrS fa_24_1 rfl hf rfl⟩⟩) (.cons (⟨_, _, rfl, rfl, rfl, rfl, fun a w hR hf => .inl ⟨wanted_yes hf rfl, ex_load sc_2 hf rfl (el_cell (K := K_api_Trip) (f := 1) (rsl_rd (osl_rsl _ hR.1)) hc100.1 hc100.2 rfl)⟩⟩) (.cons (⟨_, _, rfl, rfl, rfl, rfl, fun a w hR hf => .inl ⟨wanted_yes hf rfl, ex_castB (ex_geq hf rfl rfl) (dec_t hc101)⟩⟩) (.cons (⟨_, _, rfl, rfl, rfl, rfl, fun a w hR hf => .inl ⟨wanted_yes hf rfl, ex_move hf rfl⟩⟩) (.cons (⟨_, _, rfl, rfl, rfl, rfl, fun a w hR hf => .inl ⟨wanted_yes hf rfl, ex_move hf rfl⟩⟩) (.cons (⟨_, _, rfl, rfl, rfl, rfl, fun a w hR hf => .inl ⟨wanted_yes hf rfl, ex_move hf rfl⟩⟩) (.cons (⟨_, _, rfl, rfl, rfl, rfl, fun a w hR hf => .inl ⟨wanted_yes hf rfl, ex_indexAddr sa_52 (rsl_isSl (osl_rsl _ hR.2.1)) hc102.1 hc102.2 hf rfl rfl⟩⟩) (.cons (⟨_, _, rfl, rfl, rfl, rfl, fun a w hR hf => .inl ⟨wanted_yes hf rfl, ex_castB (ex_load sc_4 hf rfl (el_cell (K := K_bool) (f := 0) (rsl_rd (osl_rsl _ hR.2.1)) hc102.1 hc102.2 rfl)) hc103⟩⟩) (.cons (⟨_, _, rfl, rfl, rfl, rfl, fun a w hR hf => .inl ⟨wanted_yes hf rfl, ex_not (b := true) hf rfl⟩⟩) (.cons (⟨_, _, rfl, rfl, rfl, rfl, fun a w hR hf => .inl ⟨wanted_yes hf rfl, ex_pickT hf rfl rfl⟩⟩) (.cons (⟨_, _, rfl, rfl, rfl, rfl, fun a w hR hf => .inl ⟨wanted_yes hf rfl, ex_move hf rfl⟩⟩) (.cons (⟨_, _, rfl, rfl, rfl, rfl, fun a w hR hf => .inl ⟨wanted_yes hf rfl, ex_move hf rfl⟩⟩) (.cons (⟨_, _, rfl, rfl, rfl, rfl, fun a w hR hf => .inl ⟨wanted_yes hf rfl, ex_move hf rfl⟩⟩) (.cons (⟨_, _, rfl, rfl, rfl, rfl, fun a w hR hf => .inl ⟨wanted_yes hf rfl, ex_move hf rfl⟩⟩) (.cons (⟨_, _, rfl, rfl, rfl, rfl, fun a w hR hf => .inl ⟨wanted_yes hf rfl, ex_indexAddr sa_22 (rsl_isSl (osl_rsl _ hR.1)) hc100.1 hc100.2 hf rfl rfl⟩⟩) (.cons (⟨_, _, rfl, rfl, rfl, rfl, fun a w hR hf => .inl ⟨wanted_yes hf rfl, ex_fieldAddrS fa_24_1 rfl hf rfl⟩⟩) (.cons (⟨_, _, rfl, rfl, rfl, rfl, fun a w hR hf => .inl ⟨wanted_yes hf rfl, ex_load sc_2 hf rfl (el_cell (K := K_api_Trip) (f := 1) (rsl_rd (osl_rsl _ hR.1)) hc100.1 hc100.2 rfl)⟩⟩) (.cons (⟨_, _, rfl, rfl, rfl, rfl, fun a w hR hf => .inl ⟨wanted_yes hf rfl, ex_move hf rfl⟩⟩) (.cons (⟨_, _, rfl, rfl, rfl, rfl, fun a w hR hf => .inl ⟨wanted_yes hf rfl, ex_move hf rfl⟩⟩) (.cons (⟨_, _, rfl, rfl, rfl, rfl, fun a w hR hf => .inl ⟨wanted_yes hf rfl, ex_indexAddr sa_22 (rsl_isSl (osl_rsl _ hR.1)) hc100.1 hc100.2 hf rfl rfl⟩⟩) (.cons (⟨_, _, rfl, rfl, rfl, rfl, fun a w hR hf => .inl ⟨wanted_yes hf rfl, ex_fieldAddrS fa_24_2 rfl hf rfl⟩⟩) (.cons (⟨_, _, rfl, rfl, rfl, rfl, fun a w hR hf => .inl ⟨wanted_yes hf rfl, ex_load sc_2 hf rfl (el_cell (K := K_api_Trip) (f := 2) (rsl_rd (osl_rsl _ hR.1)) hc100.1 hc100.2 rfl)⟩⟩) (.cons (⟨_, _, rfl, rfl, rfl, rfl, fun a w hR hf => .inl ⟨wanted_yes hf rfl, ex_sub hf rfl rfl⟩⟩) (.cons (⟨_, _, rfl, rfl, rfl, rfl, fun a w hR hf => .inl ⟨wanted_yes hf rfl, ex_castB (ex_lss hf rfl rfl) (dec_t hc104)⟩⟩) (.cons (⟨_, _, rfl, rfl, rfl, rfl, fun a w hR hf => .inl ⟨wanted_yes hf rfl, ex_move hf rfl⟩⟩) (.cons (⟨_, _, rfl, rfl, rfl, rfl, fun a w hR hf => .inl ⟨wanted_yes hf rfl, ex_move hf rfl⟩⟩) (.cons (⟨_, _, rfl, rfl, rfl, rfl, fun a w hR hf => .inl ⟨wanted_yes hf rfl, ex_move hf rfl⟩⟩) (.cons (⟨_, _, rfl, rfl, rfl, rfl, fun a w hR hf => .inl ⟨wanted_yes hf rfl, ex_indexAddr sa_52 (rsl_isSl (osl_rsl _ hR.2.1)) hc102.1 hc102.2 hf rfl rfl⟩⟩) (.cons (⟨_, _, rfl, rfl, rfl, rfl, fun a w hR hf => .inl ⟨wanted_yes hf rfl, ex_castB (ex_load sc_4 hf rfl (el_cell (K := K_bool) (f := 0) (rsl_rd (osl_rsl _ hR.2.1)) hc102.1 hc102.2 rfl)) hc103⟩⟩) (.cons (⟨_, _, rfl, rfl, rfl, rfl, fun a w hR hf => .inl ⟨wanted_yes hf rfl, ex_pickT hf rfl rfl⟩⟩) (.cons (⟨_, _, rfl, rfl, rfl, rfl, fun a w hR hf => .inl ⟨wanted_yes hf rfl, ex_pickF hf rfl rfl⟩⟩) (.cons (⟨_, _, rfl, rfl, rfl, rfl, fun a w hR hf => .inl ⟨wanted_yes hf rfl, ex_move hf rfl⟩⟩) (.cons (⟨_, _, rfl, rfl, rfl, rfl, fun a w hR hf => .inr ⟨wanted_no hf rfl, rfl⟩⟩) (.cons (⟨_, _, rfl, rfl, rfl, rfl, fun a w hR hf => .inr ⟨wanted_no hf rfl, rfl⟩⟩) (.cons (⟨_, _, rfl, rfl, rfl, rfl, fun a w hR hf => .inr ⟨wanted_no hf rfl, rfl⟩⟩) (.cons (⟨_, _, rfl, rfl, rfl, rfl, fun a w hR hf => .inr ⟨wanted_no hf rfl, rfl⟩⟩) (.cons (⟨_, _, rfl, rfl, rfl, rfl, fun a w hR hf => .inr ⟨wanted_no hf rfl, rfl⟩⟩) (.cons (⟨_, _, rfl, rfl, rfl, rfl, fun a w hR hf => .inr ⟨wanted_no hf rfl, rfl⟩⟩) (.cons (⟨_, _, rfl, rfl, rfl, rfl, fun a w hR hf => .inr ⟨wanted_no hf rfl, rfl⟩⟩) (.cons (⟨_, _, rfl, rfl, rfl, rfl, fun a w hR hf => .inr ⟨wanted_no hf rfl, rfl⟩⟩) (.cons (⟨_, _, rfl, rfl, rfl, rfl, fun a w hR hf => .inr ⟨wanted_no hf rfl, rfl⟩⟩) (.cons (⟨_, _, rfl, rfl, rfl, rfl, fun a w hR hf => .inr ⟨wanted_no hf rfl, rfl⟩⟩) (.cons (⟨_, _, rfl, rfl, rfl, rfl, fun a w hR hf => .inr ⟨wanted_no hf rfl, rfl⟩⟩) (.cons (⟨_, _, rfl, rfl, rfl, rfl, fun a w hR hf => .inr ⟨wanted_no hf rfl, rfl⟩⟩) (.cons (⟨_, _, rfl, rfl, rfl, rfl, fun a w hR hf => .inr ⟨wanted_no hf rfl, rfl⟩⟩) (.cons (⟨_, _, rfl, rfl, rfl, rfl, fun a w hR hf => .inr ⟨wanted_no hf rfl, rfl⟩⟩) (.cons (⟨_, _, rfl, rfl, rfl, rfl, fun a w hR hf => .inr ⟨wanted_no hf rfl, rfl⟩⟩) (.cons (⟨_, _, rfl, rfl, rfl, rfl, fun a w hR hf => .inr ⟨wanted_no hf rfl, rfl⟩⟩) (.cons (⟨_, _, rfl, rfl, rfl, rfl, fun a w hR hf => .inr ⟨wanted_no hf rfl, rfl⟩⟩) (.cons (⟨_, _, rfl, rfl, rfl, rfl, fun a w hR hf => .inr ⟨wanted_no hf rfl, rfl⟩⟩) (.cons (⟨_, _, rfl, rfl, rfl, rfl, fun a w hR hf => .inr ⟨wanted_no hf rfl, rfl⟩⟩) (.cons (⟨_, _, rfl, rfl, rfl, rfl, fun a w hR hf => .inr ⟨wanted_no hf rfl, rfl⟩⟩) (.cons (⟨_, _, rfl, rfl, rfl, rfl, fun a w hR hf => .inr ⟨wanted_no hf rfl, rfl⟩⟩) (.cons (⟨_, _, rfl, rfl, rfl, rfl, fun a w hR hf => .inr ⟨wanted_no hf rfl, rfl⟩⟩) (.cons (⟨_, _, rfl, rfl, rfl, rfl, fun a w hR hf => .inr ⟨wanted_no hf rfl, rfl⟩⟩) (.cons (⟨_, _, rfl, rfl, rfl, rfl, fun a w hR hf => .inr ⟨wanted_no hf rfl, rfl⟩⟩) (.cons (⟨_, _, rfl, rfl, rfl, rfl, fun a w hR hf => .inr ⟨wanted_no hf rfl, rfl⟩⟩) (.cons (⟨_, _, rfl, rfl, rfl, rfl, fun a w hR hf => .inr ⟨wanted_no hf rfl, rfl⟩⟩) (.cons (⟨_, _, rfl, rfl, rfl, rfl, fun a w hR hf => .inr ⟨wanted_no hf rfl, rfl⟩⟩) (.cons (⟨_, _, rfl, rfl, rfl, rfl, fun a w hR hf => .inr ⟨wanted_no hf rfl, rfl⟩⟩) (.cons (⟨_, _, rfl, rfl, rfl, rfl, fun a w hR hf => .inr ⟨wanted_no hf rfl, rfl⟩⟩) (.cons (⟨_, _, rfl, rfl, rfl, rfl, fun a w hR hf => .inr ⟨wanted_no hf rfl, rfl⟩⟩) (.cons (⟨_, _, rfl, rfl, rfl, rfl, fun a w hR hf => .inr ⟨wanted_no hf rfl, rfl⟩⟩) (.cons (⟨_, _, rfl, rfl, rfl, rfl, fun a w hR hf => .inr ⟨wanted_no hf rfl, rfl⟩⟩) (.cons (⟨_, _, rfl, rfl, rfl, rfl, fun a w hR hf => .inr ⟨wanted_no hf rfl, rfl⟩⟩) (.cons (⟨_, _, rfl, rfl, rfl, rfl, fun a w hR hf => .inl ⟨wanted_yes hf rfl, ex_pickT hf rfl rfl⟩⟩) (.nil))))))))))))))))))))))))))))))))))))))))))))))))))))))))))))))))))))))) (fun K105 hK105 => ?_)
                                            refine RW.zero (by kernel_rfl) (by kernel_rfl) [(2, v2), (7, v11), (8, .int .i64 s12), (9, .pointer (some ⟨b24, 0, none⟩)), (11, v42), (12, .int .i64 y46), (13, .int .i64 y47), (14, .int .i64 s58), (15, .int .i64 s60.2.2.1), (16, .bool s60.2.2.2.1), (18, v64), (19, .bool y88), (20, .bool y89), (21, .int .i64 y90), (181, .bool true)] ⟨rfl, rfl, rfl, rfl, rfl, rfl, rfl, rfl, rfl, rfl, rfl, rfl, rfl, rfl, rfl, trivial⟩ (fun a w hR hs hf => ?_)
                                            refine hK105 _ _ ?_
                                            have e99 := some_eq H; subst e99
                                            exact hJ99 _ _ ⟨hf.sub ⟨rfl, rfl, rfl, rfl, rfl, rfl, rfl, rfl, rfl, rfl, rfl, rfl, rfl, rfl, rfl, trivial⟩, hs⟩
                                          · -- not s58 < (IntKind.i64.wrap (((gd Trip.zero s10 y90).Temperature
                                            refine itt H (fun hc106 H => ?_) (fun hc106 H => ?_)
                                            · -- s58 < ((gd Trip.zero s10 y90).Temperature)
                                              refine itt H (fun hc107 H => ?_) (fun hc107 H => ?_)
                                              · -- (IntKind.i64.wrap (((gd Trip.zero s10 y90).Temperature) - ((
                                                refine ck_some H (fun hc108 H => ?_)
                                                refine region_d fol 70 [(2, v2), (7, v11), (8, .int .i64 s12), (9, .pointer (some ⟨b24, 0, none⟩)), (11, v42), (12, .int .i64 y46), (13, .int .i64 y47), (14, .int .i64 s58), (15, .int .i64 s60.2.2.1), (16, .bool s60.2.2.2.1), (18, v64), (19, .bool y88), (20, .bool y89), (21, .int .i64 y90)] [(0, .int .i64 s58), (1, v11), (2, .int .i64 y90), (3, .pointer (some (sla v11 (y90.toNat * 3)))), (4, .pointer (some (sla v11 (y90.toNat * 3 + 1)))), (5, .int .i64 ((gd Trip.zero s10 y90).Temperature)), (6, .bool true), (7, .bool true), (8, v64), (9, .int .i64 y90), (10, .pointer (some (sla v64 (y90.toNat * 1)))), (11, .bool true), (12, .bool false), (13, .bool false), (14, .bool false), (15, .int .i64 s58), (16, v11), (17, .int .i64 y90), (18, .pointer (some (sla v11 (y90.toNat * 3)))), (19, .pointer (some (sla v11 (y90.toNat * 3 + 1)))), (20, .int .i64 ((gd Trip.zero s10 y90).Temperature)), (21, v11), (22, .int .i64 y90), (23, .pointer (some (sla v11 (y90.toNat * 3)))), (24, .pointer (some (sla v11 (y90.toNat * 3 + 2)))), (25, .int .i64 ((gd Trip.zero s10 y90).Hysteresis)), (26, .int .i64 (IntKind.i64.wrap (((gd Trip.zero s10 y90).Temperature) - ((gd Trip.zero s10 y90).Hysteresis)))), (27, .bool false), (28, .bool false), (29, undef), (30, undef), (31, undef), (32, undef), (33, .bool false), (34, .bool false), (35, .bool false), (36, .int .i64 s58), (37, v11), (38, .int .i64 y90), (39, .pointer (some (sla v11 (y90.toNat * 3)))), (40, .pointer (some (sla v11 (y90.toNat * 3 + 1)))), (41, .int .i64 ((gd Trip.zero s10 y90).Temperature)), (42, .bool true), (43, .bool true), (44, .int .i64 s58), (45, v11), (46, .int .i64 y90), (47, .pointer (some (sla v11 (y90.toNat * 3)))), (48, .pointer (some (sla v11 (y90.toNat * 3 + 1)))), (49, .int .i64 ((gd Trip.zero s10 y90).Temperature)), (50, v11), (51, .int .i64 y90), (52, .pointer (some (sla v11 (y90.toNat * 3)))), (53, .pointer (some (sla v11 (y90.toNat * 3 + 2)))), (54, .int .i64 ((gd Trip.zero s10 y90).Hysteresis)), (55, .int .i64 (IntKind.i64.wrap (((gd Trip.zero s10 y90).Temperature) - ((gd Trip.zero s10 y90).Hysteresis)))), (56, .bool true), (57, .bool true), (58, .bool true), (59, v64), (60, .int .i64 y90), (61, .pointer (some (sla v64 (y90.toNat * 1)))), (62, .bool true), (63, v42), (64, .int .i64 y90), (65, .pointer (some (sla v42 (y90.toNat * 1)))), (66, .bool (gd false y45 y90)), (67, .bool (!(true == (gd false y45 y90)))), (68, .bool (!(true == (gd false y45 y90)))), (69, .bool (!(true == (gd false y45 y90))))] [] (fun w => (osl K_api_Trip v11 s10).ok w ∧ (osl K_bool v64 s63).ok w ∧ (osl K_bool v42 y45).ok w ∧ True) (fun w => St M w0 w [osl K_api_Trip v11 s10, bx b24 62 [v25, v61, .int .i64 c16.2.2.1, .int .i64 s60.1], osl K_api_Trip v25 c16.1, osl K_bool v61 s60.2.1, osl K_bool v42 y45, osl K_bool v64 s63]) hf ⟨rfl, rfl, rfl, rfl, rfl, rfl, rfl, rfl, rfl, rfl, rfl, rfl, rfl, rfl, trivial⟩ (by kernel_rfl) (by kernel_rfl) rfl (by decide) ⟨hs.drew.get (i := 0) rfl, hs.drew.get (i := 5) rfl, hs.drew.get (i := 4) rfl, trivial⟩ hs.drew (.cons (⟨_, _, rfl, rfl, rfl, rfl, fun a w hR hf => .inl ⟨wanted_yes hf rfl, ex_move hf rfl⟩⟩) (.cons (⟨_, _, rfl, rfl, rfl, rfl, fun a w hR hf => .inl ⟨wanted_yes hf rfl, ex_move hf rfl⟩⟩) (.cons (⟨_, _, rfl, rfl, rfl, rfl, fun a w hR hf => .inl ⟨wanted_yes hf rfl, ex_move hf rfl⟩⟩) (.cons (⟨_, _, rfl, rfl, rfl, rfl, fun a w hR hf => .inl ⟨wanted_yes hf rfl, ex_indexAddr sa_22 (rsl_isSl (osl_rsl _ hR.1)) hc100.1 hc100.2 hf rfl rfl⟩⟩) (.cons (⟨_, _, rfl, rfl, rfl, rfl, fun a w hR hf => .inl ⟨wanted_yes hf rfl, ex_fieldAddrS fa_24_1 rfl hf rfl⟩⟩) (.cons (⟨_, _, rfl, rfl, rfl, rfl, fun a w hR hf => .inl ⟨wanted_yes hf rfl, ex_load sc_2 hf rfl (el_cell (K := K_api_Trip) (f := 1) (rsl_rd (osl_rsl _ hR.1)) hc100.1 hc100.2 rfl)⟩⟩) (.cons (⟨_, _, rfl, rfl, rfl, rfl, fun a w hR hf => .inl ⟨wanted_yes hf rfl, ex_castB (ex_geq hf rfl rfl) (dec_t hc101)⟩⟩) (.cons (⟨_, _, rfl, rfl, rfl, rfl, fun a w hR hf => .inl ⟨wanted_yes hf rfl, ex_move hf rfl⟩⟩) (.cons (⟨_, _, rfl, rfl, rfl, rfl, fun a w hR hf => .inl ⟨wanted_yes hf rfl, ex_move hf rfl⟩⟩) (.cons (⟨_, _, rfl, rfl, rfl, rfl, fun a w hR hf => .inl ⟨wanted_yes hf rfl, ex_move hf rfl⟩⟩) (.cons (⟨_, _, rfl, rfl, rfl, rfl, fun a w hR hf => .inl ⟨wanted_yes hf rfl, ex_indexAddr sa_52 (rsl_isSl (osl_rsl _ hR.2.1)) hc102.1 hc102.2 hf rfl rfl⟩⟩) (.cons (⟨_, _, rfl, rfl, rfl, rfl, fun a w hR hf => .inl ⟨wanted_yes hf rfl, ex_castB (ex_load sc_4 hf rfl (el_cell (K := K_bool) (f := 0) (rsl_rd (osl_rsl _ hR.2.1)) hc102.1 hc102.2 rfl)) hc103⟩⟩) (.cons (⟨_, _, rfl, rfl, rfl, rfl, fun a w hR hf => .inl ⟨wanted_yes hf rfl, ex_not (b := true) hf rfl⟩⟩) (.cons (⟨_, _, rfl, rfl, rfl, rfl, fun a w hR hf => .inl ⟨wanted_yes hf rfl, ex_pickT hf rfl rfl⟩⟩) (.cons (⟨_, _, rfl, rfl, rfl, rfl, fun a w hR hf => .inl ⟨wanted_yes hf rfl, ex_move hf rfl⟩⟩) (.cons (⟨_, _, rfl, rfl, rfl, rfl, fun a w hR hf => .inl ⟨wanted_yes hf rfl, ex_move hf rfl⟩⟩) (.cons (⟨_, _, rfl, rfl, rfl, rfl, fun a w hR hf => .inl ⟨wanted_yes hf rfl, ex_move hf rfl⟩⟩) (.cons (⟨_, _, rfl, rfl, rfl, rfl, fun a w hR hf => .inl ⟨wanted_yes hf rfl, ex_move hf rfl⟩⟩) (.cons (⟨_, _, rfl, rfl, rfl, rfl, fun a w hR hf => .inl ⟨wanted_yes hf rfl, ex_indexAddr sa_22 (rsl_isSl (osl_rsl _ hR.1)) hc100.1 hc100.2 hf rfl rfl⟩⟩) (.cons (⟨_, _, rfl, rfl, rfl, rfl, fun a w hR hf => .inl ⟨wanted_yes hf rfl, ex_fieldAddrS fa_24_1 rfl hf rfl⟩⟩) (.cons (⟨_, _, rfl, rfl, rfl, rfl, fun a w hR hf => .inl ⟨wanted_yes hf rfl, ex_load sc_2 hf rfl (el_cell (K := K_api_Trip) (f := 1) (rsl_rd (osl_rsl _ hR.1)) hc100.1 hc100.2 rfl)⟩⟩) (.cons (⟨_, _, rfl, rfl, rfl, rfl, fun a w hR hf => .inl ⟨wanted_yes hf rfl, ex_move hf rfl⟩⟩) (.cons (⟨_, _, rfl, rfl, rfl, rfl, fun a w hR hf => .inl ⟨wanted_yes hf rfl, ex_move hf rfl⟩⟩) (.cons (⟨_, _, rfl, rfl, rfl, rfl, fun a w hR hf => .inl ⟨wanted_yes hf rfl, ex_indexAddr sa_22 (rsl_isSl (osl_rsl _ hR.1)) hc100.1 hc100.2 hf rfl rfl⟩⟩) (.cons (⟨_, _, rfl, rfl, rfl, rfl, fun a w hR hf => .inl ⟨wanted_yes hf rfl, ex_fieldAddrS fa_24_2 rfl hf rfl⟩⟩) (.cons (⟨_, _, rfl, rfl, rfl, rfl, fun a w hR hf => .inl ⟨wanted_yes hf rfl, ex_load sc_2 hf rfl (el_cell (K := K_api_Trip) (f := 2) (rsl_rd (osl_rsl _ hR.1)) hc100.1 hc100.2 rfl)⟩⟩) (.cons (⟨_, _, rfl, rfl, rfl, rfl, fun a w hR hf => .inl ⟨wanted_yes hf rfl, ex_sub hf rfl rfl⟩⟩) (.cons (⟨_, _, rfl, rfl, rfl, rfl, fun a w hR hf => .inl ⟨wanted_yes hf rfl, ex_castB (ex_lss hf rfl rfl) (dec_f hc104)⟩⟩) (.cons (⟨_, _, rfl, rfl, rfl, rfl, fun a w hR hf => .inl ⟨wanted_yes hf rfl, ex_move hf rfl⟩⟩) (.cons (⟨_, _, rfl, rfl, rfl, rfl, fun a w hR hf => .inr ⟨wanted_no hf rfl, rfl⟩⟩) (.cons (⟨_, _, rfl, rfl, rfl, rfl, fun a w hR hf => .inr ⟨wanted_no hf rfl, rfl⟩⟩) (.cons (⟨_, _, rfl, rfl, rfl, rfl, fun a w hR hf => .inr ⟨wanted_no hf rfl, rfl⟩⟩) (.cons (⟨_, _, rfl, rfl, rfl, rfl, fun a w hR hf => .inr ⟨wanted_no hf rfl, rfl⟩⟩) (.cons (⟨_, _, rfl, rfl, rfl, rfl, fun a w hR hf => .inl ⟨wanted_yes hf rfl, ex_pickF hf rfl rfl⟩⟩) (.cons (⟨_, _, rfl, rfl, rfl, rfl, fun a w hR hf => .inl ⟨wanted_yes hf rfl, ex_pickF hf rfl rfl⟩⟩) (.cons (⟨_, _, rfl, rfl, rfl, rfl, fun a w hR hf => .inl ⟨wanted_yes hf rfl, ex_move hf rfl⟩⟩) (.cons (⟨_, _, rfl, rfl, rfl, rfl, fun a w hR hf => .inl ⟨wanted_yes hf rfl, ex_move hf rfl⟩⟩) (.cons (⟨_, _, rfl, rfl, rfl, rfl, fun a w hR hf => .inl ⟨wanted_yes hf rfl, ex_move hf rfl⟩⟩) (.cons (⟨_, _, rfl, rfl, rfl, rfl, fun a w hR hf => .inl ⟨wanted_yes hf rfl, ex_move hf rfl⟩⟩) (.cons (⟨_, _, rfl, rfl, rfl, rfl, fun a w hR hf => .inl ⟨wanted_yes hf rfl, ex_indexAddr sa_22 (rsl_isSl (osl_rsl _ hR.1)) hc100.1 hc100.2 hf rfl rfl⟩⟩) (.cons (⟨_, _, rfl, rfl, rfl, rfl, fun a w hR hf => .inl ⟨wanted_yes hf rfl, ex_fieldAddrS fa_24_1 rfl hf rfl⟩⟩) (.cons (⟨_, _, rfl, rfl, rfl, rfl, fun a w hR hf => .inl ⟨wanted_yes hf rfl, ex_load sc_2 hf rfl (el_cell (K := K_api_Trip) (f := 1) (rsl_rd (osl_rsl _ hR.1)) hc100.1 hc100.2 rfl)⟩⟩) (.cons (⟨_, _, rfl, rfl, rfl, rfl, fun a w hR hf => .inl ⟨wanted_yes hf rfl, ex_castB (ex_lss hf rfl rfl) (dec_t hc106)⟩⟩) (.cons (⟨_, _, rfl, rfl, rfl, rfl, fun a w hR hf => .inl ⟨wanted_yes hf rfl, ex_move hf rfl⟩⟩) (.cons (⟨_, _, rfl, rfl, rfl, rfl, fun a w hR hf => .inl ⟨wanted_yes hf rfl, ex_move hf rfl⟩⟩) (.cons (⟨_, _, rfl, rfl, rfl, rfl, fun a w hR hf => .inl ⟨wanted_yes hf rfl, ex_move hf rfl⟩⟩) (.cons (⟨_, _, rfl, rfl, rfl, rfl, fun a w hR hf => .inl ⟨wanted_yes hf rfl, ex_move hf rfl⟩⟩) (.cons (⟨_, _, rfl, rfl, rfl, rfl, fun a w hR hf => .inl ⟨wanted_yes hf rfl, ex_indexAddr sa_22 (rsl_isSl (osl_rsl _ hR.1)) hc100.1 hc100.2 hf rfl rfl⟩⟩) (.cons (⟨_, _, rfl, rfl, rfl, rfl, fun a w hR hf => .inl ⟨wanted_yes hf rfl, ex_fieldAddrS fa_24_1 rfl hf rfl⟩⟩) (.cons (⟨_, _, rfl, rfl, rfl, rfl, fun a w hR hf => .inl ⟨wanted_yes hf rfl, ex_load sc_2 hf rfl (el_cell (K := K_api_Trip) (f := 1) (rsl_rd (osl_rsl _ hR.1)) hc100.1 hc100.2 rfl)⟩⟩) (.cons (⟨_, _, rfl, rfl, rfl, rfl, fun a w hR hf => .inl ⟨wanted_yes hf rfl, ex_move hf rfl⟩⟩) (.cons (⟨_, _, rfl, rfl, rfl, rfl, fun a w hR hf => .inl ⟨wanted_yes hf rfl, ex_move hf rfl⟩⟩) (.cons (⟨_, _, rfl, rfl, rfl, rfl, fun a w hR hf => .inl ⟨wanted_yes hf rfl, ex_indexAddr sa_22 (rsl_isSl (osl_rsl _ hR.1)) hc100.1 hc100.2 hf rfl rfl⟩⟩) (.cons (⟨_, _, rfl, rfl, rfl, rfl, fun a w hR hf => .inl ⟨wanted_yes hf rfl, ex_fieldAddrS fa_24_2 rfl hf rfl⟩⟩) (.cons (⟨_, _, rfl, rfl, rfl, rfl, fun a w hR hf => .inl ⟨wanted_yes hf rfl, ex_load sc_2 hf rfl (el_cell (K := K_api_Trip) (f := 2) (rsl_rd (osl_rsl _ hR.1)) hc100.1 hc100.2 rfl)⟩⟩) (.cons (⟨_, _, rfl, rfl, rfl, rfl, fun a w hR hf => .inl ⟨wanted_yes hf rfl, ex_sub hf rfl rfl⟩⟩) (.cons (⟨_, _, rfl, rfl, rfl, rfl, fun a w hR hf => .inl ⟨wanted_yes hf rfl, ex_castB (ex_geq hf rfl rfl) (dec_t hc107)⟩⟩) (.cons (⟨_, _, rfl, rfl, rfl, rfl, fun a w hR hf => .inl ⟨wanted_yes hf rfl, ex_pickT hf rfl rfl⟩⟩) (.cons (⟨_, _, rfl, rfl, rfl, rfl, fun a w hR hf => .inl ⟨wanted_yes hf rfl, ex_move hf rfl⟩⟩) (.cons (⟨_, _, rfl, rfl, rfl, rfl, fun a w hR hf => .inl ⟨wanted_yes hf rfl, ex_move hf rfl⟩⟩) (.cons (⟨_, _, rfl, rfl, rfl, rfl, fun a w hR hf => .inl ⟨wanted_yes hf rfl, ex_move hf rfl⟩⟩) (.cons (⟨_, _, rfl, rfl, rfl, rfl, fun a w hR hf => .inl ⟨wanted_yes hf rfl, ex_indexAddr sa_52 (rsl_isSl (osl_rsl _ hR.2.1)) hc102.1 hc102.2 hf rfl rfl⟩⟩) (.cons (⟨_, _, rfl, rfl, rfl, rfl, fun a w hR hf => .inl ⟨wanted_yes hf rfl, ex_castB (ex_load sc_4 hf rfl (el_cell (K := K_bool) (f := 0) (rsl_rd (osl_rsl _ hR.2.1)) hc102.1 hc102.2 rfl)) hc103⟩⟩) (.cons (⟨_, _, rfl, rfl, rfl, rfl, fun a w hR hf => .inl ⟨wanted_yes hf rfl, ex_move hf rfl⟩⟩) (.cons (⟨_, _, rfl, rfl, rfl, rfl, fun a w hR hf => .inl ⟨wanted_yes hf rfl, ex_move hf rfl⟩⟩) (.cons (⟨_, _, rfl, rfl, rfl, rfl, fun a w hR hf => .inl ⟨wanted_yes hf rfl, ex_indexAddr sa_52 (rsl_isSl (osl_rsl _ hR.2.2.1)) hc108.1 hc108.2 hf rfl rfl⟩⟩) (.cons (⟨_, _, rfl, rfl, rfl, rfl, fun a w hR hf => .inl ⟨wanted_yes hf rfl, ex_load sc_4 hf rfl (el_cell (K := K_bool) (f := 0) (rsl_rd (osl_rsl _ hR.2.2.1)) hc108.1 hc108.2 rfl)⟩⟩) (.cons (⟨_, _, rfl, rfl, rfl, rfl, fun a w hR hf => .inl ⟨wanted_yes hf rfl, ex_neb Try.underlying4 hf rfl rfl⟩⟩) (.cons (⟨_, _, rfl, rfl, rfl, rfl, fun a w hR hf => .inl ⟨wanted_yes hf rfl, ex_pickT hf rfl rfl⟩⟩) (.cons (⟨_, _, rfl, rfl, rfl, rfl, fun a w hR hf => .inl ⟨wanted_yes hf rfl, ex_pickF hf rfl rfl⟩⟩) (.nil))))))))))))))))))))))))))))))))))))))))))))))))))))))))))))))))))))))) (fun K109 hK109 => ?_)
                                                refine RW.zero (by kernel_rfl) (by kernel_rfl) [(2, v2), (7, v11), (8, .int .i64 s12), (9, .pointer (some ⟨b24, 0, none⟩)), (11, v42), (12, .int .i64 y46), (13, .int .i64 y47), (14, .int .i64 s58), (15, .int .i64 s60.2.2.1), (16, .bool s60.2.2.2.1), (18, v64), (19, .bool y88), (20, .bool y89), (21, .int .i64 y90), (181, .bool (!(true == (gd false y45 y90))))] ⟨rfl, rfl, rfl, rfl, rfl, rfl, rfl, rfl, rfl, rfl, rfl, rfl, rfl, rfl, rfl, trivial⟩ (fun a w hR hs hf => ?_)
                                                refine hK109 _ _ ?_
                                                have e99 := some_eq H; subst e99
                                                exact hJ99 _ _ ⟨hf.sub ⟨rfl, rfl, rfl, rfl, rfl, rfl, rfl, rfl, rfl, rfl, rfl, rfl, rfl, rfl, rfl, trivial⟩, hs⟩
                                              · -- not (IntKind.i64.wrap (((gd Trip.zero s10 y90).Temperature) - ((
                                                refine region_d fol 70 [(2, v2), (7, v11), (8, .int .i64 s12), (9, .pointer (some ⟨b24, 0, none⟩)), (11, v42), (12, .int .i64 y46), (13, .int .i64 y47), (14, .int .i64 s58), (15, .int .i64 s60.2.2.1), (16, .bool s60.2.2.2.1), (18, v64), (19, .bool y88), (20, .bool y89), (21, .int .i64 y90)] [(0, .int .i64 s58), (1, v11), (2, .int .i64 y90), (3, .pointer (some (sla v11 (y90.toNat * 3)))), (4, .pointer (some (sla v11 (y90.toNat * 3 + 1)))), (5, .int .i64 ((gd Trip.zero s10 y90).Temperature)), (6, .bool true), (7, .bool true), (8, v64), (9, .int .i64 y90), (10, .pointer (some (sla v64 (y90.toNat * 1)))), (11, .bool true), (12, .bool false), (13, .bool false), (14, .bool false), (15, .int .i64 s58), (16, v11), (17, .int .i64 y90), (18, .pointer (some (sla v11 (y90.toNat * 3)))), (19, .pointer (some (sla v11 (y90.toNat * 3 + 1)))), (20, .int .i64 ((gd Trip.zero s10 y90).Temperature)), (21, v11), (22, .int .i64 y90), (23, .pointer (some (sla v11 (y90.toNat * 3)))), (24, .pointer (some (sla v11 (y90.toNat * 3 + 2)))), (25, .int .i64 ((gd Trip.zero s10 y90).Hysteresis)), (26, .int .i64 (IntKind.i64.wrap (((gd Trip.zero s10 y90).Temperature) - ((gd Trip.zero s10 y90).Hysteresis)))), (27, .bool false), (28, .bool false), (29, undef), (30, undef), (31, undef), (32, undef), (33, .bool false), (34, .bool false), (35, .bool false), (36, .int .i64 s58), (37, v11), (38, .int .i64 y90), (39, .pointer (some (sla v11 (y90.toNat * 3)))), (40, .pointer (some (sla v11 (y90.toNat * 3 + 1)))), (41, .int .i64 ((gd Trip.zero s10 y90).Temperature)), (42, .bool true), (43, .bool true), (44, .int .i64 s58), (45, v11), (46, .int .i64 y90), (47, .pointer (some (sla v11 (y90.toNat * 3)))), (48, .pointer (some (sla v11 (y90.toNat * 3 + 1)))), (49, .int .i64 ((gd Trip.zero s10 y90).Temperature)), (50, v11), (51, .int .i64 y90), (52, .pointer (some (sla v11 (y90.toNat * 3)))), (53, .pointer (some (sla v11 (y90.toNat * 3 + 2)))), (54, .int .i64 ((gd Trip.zero s10 y90).Hysteresis)), (55, .int .i64 (IntKind.i64.wrap (((gd Trip.zero s10 y90).Temperature) - ((gd Trip.zero s10 y90).Hysteresis)))), (56, .bool false), (57, .bool false), (58, .bool false), (59, undef), (60, undef), (61, undef), (62, undef), (63, undef), (64, undef), (65, undef), (66, undef), (67, undef), (68, .bool false), (69, .bool false)] [] (fun w => (osl K_api_Trip v11 s10).ok w ∧ (osl K_bool v64 s63).ok w ∧ (osl K_bool v42 y45).ok w ∧ True) (fun w => St M w0 w [osl K_api_Trip v11 s10, bx b24 62 [v25, v61, .int .i64 c16.2.2.1, .int .i64 s60.1], osl K_api_Trip v25 c16.1, osl K_bool v61 s60.2.1, osl K_bool v42 y45, osl K_bool v64 s63]) hf ⟨rfl, rfl, rfl, rfl, rfl, rfl, rfl, rfl, rfl, rfl, rfl, rfl, rfl, rfl, trivial⟩ (by kernel_rfl) (by kernel_rfl) rfl (by decide) ⟨hs.drew.get (i := 0) rfl, hs.drew.get (i := 5) rfl, hs.drew.get (i := 4) rfl, trivial⟩ hs.drew (.cons (⟨_, _, rfl, rfl, rfl, rfl, fun a w hR hf => .inl ⟨wanted_yes hf rfl, ex_move hf rfl⟩⟩) (.cons (⟨_, _, rfl, rfl, rfl, rfl, fun a w hR hf => .inl ⟨wanted_yes hf rfl, ex_move hf rfl⟩⟩) (.cons (⟨_, _, rfl, rfl, rfl, rfl, fun a w hR hf => .inl ⟨wanted_yes hf rfl, ex_move hf rfl⟩⟩) (.cons (⟨_, _, rfl, rfl, rfl, rfl, fun a w hR hf => .inl ⟨wanted_yes hf rfl, ex_indexAddr sa_22 (rsl_isSl (osl_rsl _ hR.1)) hc100.1 hc100.2 hf rfl rfl⟩⟩) (.cons (⟨_, _, rfl, rfl, rfl, rfl, fun a w hR hf => .inl ⟨wanted_yes hf rfl, ex_fieldAddrS fa_24_1 rfl hf rfl⟩⟩) (.cons (⟨_, _, rfl, rfl, rfl, rfl, fun a w hR hf => .inl ⟨wanted_yes hf rfl, ex_load sc_2 hf rfl (el_cell (K := K_api_Trip) (f := 1) (rsl_rd (osl_rsl _ hR.1)) hc100.1 hc100.2 rfl)⟩⟩) (.cons (⟨_, _, rfl, rfl, rfl, rfl, fun a w hR hf => .inl ⟨wanted_yes hf rfl, ex_castB (ex_geq hf rfl rfl) (dec_t hc101)⟩⟩) (.cons (⟨_, _, rfl, rfl, rfl, rfl, fun a w hR hf => .inl ⟨wanted_yes hf rfl, ex_move hf rfl⟩⟩) (.cons (⟨_, _, rfl, rfl, rfl, rfl, fun a w hR hf => .inl ⟨wanted_yes hf rfl, ex_move hf rfl⟩⟩) (.cons (⟨_, _, rfl, rfl, rfl, rfl, fun a w hR hf => .inl ⟨wanted_yes hf rfl, ex_move hf rfl⟩⟩) (.cons (⟨_, _, rfl, rfl, rfl, rfl, fun a w hR hf => .inl ⟨wanted_yes hf rfl, ex_indexAddr sa_52 (rsl_isSl (osl_rsl _ hR.2.1)) hc102.1 hc102.2 hf rfl rfl⟩⟩) (.cons (⟨_, _, rfl, rfl, rfl, rfl, fun a w hR hf => .inl ⟨wanted_yes hf rfl, ex_castB (ex_load sc_4 hf rfl (el_cell (K := K_bool) (f := 0) (rsl_rd (osl_rsl _ hR.2.1)) hc102.1 hc102.2 rfl)) hc103⟩⟩) (.cons (⟨_, _, rfl, rfl, rfl, rfl, fun a w hR hf => .inl ⟨wanted_yes hf rfl, ex_not (b := true) hf rfl⟩⟩) (.cons (⟨_, _, rfl, rfl, rfl, rfl, fun a w hR hf => .inl ⟨wanted_yes hf rfl, ex_pickT hf rfl rfl⟩⟩) (.cons (⟨_, _, rfl, rfl, rfl, rfl, fun a w hR hf => .inl ⟨wanted_yes hf rfl, ex_move hf rfl⟩⟩) (.cons (⟨_, _, rfl, rfl, rfl, rfl, fun a w hR hf => .inl ⟨wanted_yes hf rfl, ex_move hf rfl⟩⟩) (.cons (⟨_, _, rfl, rfl, rfl, rfl, fun a w hR hf => .inl ⟨wanted_yes hf rfl, ex_move hf rfl⟩⟩) (.cons (⟨_, _, rfl, rfl, rfl, rfl, fun a w hR hf => .inl ⟨wanted_yes hf rfl, ex_move hf rfl⟩⟩) (.cons (⟨_, _, rfl, rfl, rfl, rfl, fun a w hR hf => .inl ⟨wanted_yes hf rfl, ex_indexAddr sa_22 (rsl_isSl (osl_rsl _ hR.1)) hc100.1 hc100.2 hf rfl rfl⟩⟩) (.cons (⟨_, _, rfl, rfl, rfl, rfl, fun a w hR hf => .inl ⟨wanted_yes hf rfl, ex_fieldAddrS fa_24_1 rfl hf rfl⟩⟩) (.cons (⟨_, _, rfl, rfl, rfl, rfl, fun a w hR hf => .inl ⟨wanted_yes hf rfl, ex_load sc_2 hf rfl (el_cell (K := K_api_Trip) (f := 1) (rsl_rd (osl_rsl _ hR.1)) hc100.1 hc100.2 rfl)⟩⟩) (.cons (⟨_, _, rfl, rfl, rfl, rfl, fun a w hR hf => .inl ⟨wanted_yes hf rfl, ex_move hf rfl⟩⟩) (.cons (⟨_, _, rfl, rfl, rfl, rfl, fun a w hR hf => .inl ⟨wanted_yes hf rfl, ex_move hf rfl⟩⟩) (.cons (⟨_, _, rfl, rfl, rfl, rfl, fun a w hR hf => .inl ⟨wanted_yes hf rfl, ex_indexAddr sa_22 (rsl_isSl (osl_rsl _ hR.1)) hc100.1 hc100.2 hf rfl rfl⟩⟩) (.cons (⟨_, _, rfl, rfl, rfl, rfl, fun a w hR hf => .inl ⟨wanted_yes hf rfl, ex_fieldAddrS fa_24_2 rfl hf rfl⟩⟩) (.cons (⟨_, _, rfl, rfl, rfl, rfl, fun a w hR hf => .inl ⟨wanted_yes hf rfl, ex_load sc_2 hf rfl (el_cell (K := K_api_Trip) (f := 2) (rsl_rd (osl_rsl _ hR.1)) hc100.1 hc100.2 rfl)⟩⟩) (.cons (⟨_, _, rfl, rfl, rfl, rfl, fun a w hR hf => .inl ⟨wanted_yes hf rfl, ex_sub hf rfl rfl⟩⟩) (.cons (⟨_, _, rfl, rfl, rfl, rfl, fun a w hR hf => .inl ⟨wanted_yes hf rfl, ex_castB (ex_lss hf rfl rfl) (dec_f hc104)⟩⟩) (.cons (⟨_, _, rfl, rfl, rfl, rfl, fun a w hR hf => .inl ⟨wanted_yes hf rfl, ex_move hf rfl⟩⟩) (.cons (⟨_, _, rfl, rfl, rfl, rfl, fun a w hR hf => .inr ⟨wanted_no hf rfl, rfl⟩⟩) (.cons (⟨_, _, rfl, rfl, rfl, rfl, fun a w hR hf => .inr ⟨wanted_no hf rfl, rfl⟩⟩) (.cons (⟨_, _, rfl, rfl, rfl, rfl, fun a w hR hf => .inr ⟨wanted_no hf rfl, rfl⟩⟩) (.cons (⟨_, _, rfl, rfl, rfl, rfl, fun a w hR hf => .inr ⟨wanted_no hf rfl, rfl⟩⟩) (.cons (⟨_, _, rfl, rfl, rfl, rfl, fun a w hR hf => .inl ⟨wanted_yes hf rfl, ex_pickF hf rfl rfl⟩⟩) (.cons (⟨_, _, rfl, rfl, rfl, rfl, fun a w hR hf => .inl ⟨wanted_yes hf rfl, ex_pickF hf rfl rfl⟩⟩) (.cons (⟨_, _, rfl, rfl, rfl, rfl, fun a w hR hf => .inl ⟨wanted_yes hf rfl, ex_move hf rfl⟩⟩) (.cons (⟨_, _, rfl, rfl, rfl, rfl, fun a w hR hf => .inl ⟨wanted_yes hf rfl, ex_move hf rfl⟩⟩) (.cons (⟨_, _, rfl, rfl, rfl, rfl, fun a w hR hf => .inl ⟨wanted_yes hf rfl, ex_move hf rfl⟩⟩) (.cons (⟨_, _, rfl, rfl, rfl, rfl, fun a w hR hf => .inl ⟨wanted_yes hf rfl, ex_move hf rfl⟩⟩) (.cons (⟨_, _, rfl, rfl, rfl, rfl, fun a w hR hf => .inl ⟨wanted_yes hf rfl, ex_indexAddr sa_22 (rsl_isSl (osl_rsl _ hR.1)) hc100.1 hc100.2 hf rfl rfl⟩⟩) (.cons (⟨_, _, rfl, rfl, rfl, rfl, fun a w hR hf => .inl ⟨wanted_yes hf rfl, ex_fieldAddrS fa_24_1 rfl hf rfl⟩⟩) (.cons (⟨_, _, rfl, rfl, rfl, rfl, fun a w hR hf => .inl ⟨wanted_yes hf rfl, ex_load sc_2 hf rfl (el_cell (K := K_api_Trip) (f := 1) (rsl_rd (osl_rsl _ hR.1)) hc100.1 hc100.2 rfl)⟩⟩) (.cons (⟨_, _, rfl, rfl, rfl, rfl, fun a w hR hf => .inl ⟨wanted_yes hf rfl, ex_castB (ex_lss hf rfl rfl) (dec_t hc106)⟩⟩) (.cons (⟨_, _, rfl, rfl, rfl, rfl, fun a w hR hf => .inl ⟨wanted_yes hf rfl, ex_move hf rfl⟩⟩) (.cons (⟨_, _, rfl, rfl, rfl, rfl, fun a w hR hf => .inl ⟨wanted_yes hf rfl, ex_move hf rfl⟩⟩) (.cons (⟨_, _, rfl, rfl, rfl, rfl, fun a w hR hf => .inl ⟨wanted_yes hf rfl, ex_move hf rfl⟩⟩) (.cons (⟨_, _, rfl, rfl, rfl, rfl, fun a w hR hf => .inl ⟨wanted_yes hf rfl, ex_move hf rfl⟩⟩) (.cons (⟨_, _, rfl, rfl, rfl, rfl, fun a w hR hf => .inl ⟨wanted_yes hf rfl, ex_indexAddr sa_22 (rsl_isSl (osl_rsl _ hR.1)) hc100.1 hc100.2 hf rfl rfl⟩⟩) (.cons (⟨_, _, rfl, rfl, rfl, rfl, fun a w hR hf => .inl ⟨wanted_yes hf rfl, ex_fieldAddrS fa_24_1 rfl hf rfl⟩⟩) (.cons (⟨_, _, rfl, rfl, rfl, rfl, fun a w hR hf => .inl ⟨wanted_yes hf rfl, ex_load sc_2 hf rfl (el_cell (K := K_api_Trip) (f := 1) (rsl_rd (osl_rsl _ hR.1)) hc100.1 hc100.2 rfl)⟩⟩) (.cons (⟨_, _, rfl, rfl, rfl, rfl, fun a w hR hf => .inl ⟨wanted_yes hf rfl, ex_move hf rfl⟩⟩) (.cons (⟨_, _, rfl, rfl, rfl, rfl, fun a w hR hf => .inl ⟨wanted_yes hf rfl, ex_move hf rfl⟩⟩) (.cons (⟨_, _, rfl, rfl, rfl, rfl, fun a w hR hf => .inl ⟨wanted_yes hf rfl, ex_indexAddr sa_22 (rsl_isSl (osl_rsl _ hR.1)) hc100.1 hc100.2 hf rfl rfl⟩⟩) (.cons (⟨_, _, rfl, rfl, rfl, rfl, fun a w hR hf => .inl ⟨wanted_yes hf rfl, ex_fieldAddrS fa_24_2 rfl hf rfl⟩⟩) (.cons (⟨_, _, rfl, rfl, rfl, rfl, fun a w hR hf => .inl ⟨wanted_yes hf rfl, ex_load sc_2 hf rfl (el_cell (K := K_api_Trip) (f := 2) (rsl_rd (osl_rsl _ hR.1)) hc100.1 hc100.2 rfl)⟩⟩) (.cons (⟨_, _, rfl, rfl, rfl, rfl, fun a w hR hf => .inl ⟨wanted_yes hf rfl, ex_sub hf rfl rfl⟩⟩) (.cons (⟨_, _, rfl, rfl, rfl, rfl, fun a w hR hf => .inl ⟨wanted_yes hf rfl, ex_castB (ex_geq hf rfl rfl) (dec_f hc107)⟩⟩) (.cons (⟨_, _, rfl, rfl, rfl, rfl, fun a w hR hf => .inl ⟨wanted_yes hf rfl, ex_pickT hf rfl rfl⟩⟩) (.cons (⟨_, _, rfl, rfl, rfl, rfl, fun a w hR hf => .inl ⟨wanted_yes hf rfl, ex_move hf rfl⟩⟩) (.cons (⟨_, _, rfl, rfl, rfl, rfl, fun a w hR hf => .inr ⟨wanted_no hf rfl, rfl⟩⟩) (.cons (⟨_, _, rfl, rfl, rfl, rfl, fun a w hR hf => .inr ⟨wanted_no hf rfl, rfl⟩⟩) (.cons (⟨_, _, rfl, rfl, rfl, rfl, fun a w hR hf => .inr ⟨wanted_no hf rfl, rfl⟩⟩) (.cons (⟨_, _, rfl, rfl, rfl, rfl, fun a w hR hf => .inr ⟨wanted_no hf rfl, rfl⟩⟩) (.cons (⟨_, _, rfl, rfl, rfl, rfl, fun a w hR hf => .inr ⟨wanted_no hf rfl, rfl⟩⟩) (.cons (⟨_, _, rfl, rfl, rfl, rfl, fun a w hR hf => .inr ⟨wanted_no hf rfl, rfl⟩⟩) (.cons (⟨_, _, rfl, rfl, rfl, rfl, fun a w hR hf => .inr ⟨wanted_no hf rfl, rfl⟩⟩) (.cons (⟨_, _, rfl, rfl, rfl, rfl, fun a w hR hf => .inr ⟨wanted_no hf rfl, rfl⟩⟩) (.cons (⟨_, _, rfl, rfl, rfl, rfl, fun a w hR hf => .inr ⟨wanted_no hf rfl, rfl⟩⟩) (.cons (⟨_, _, rfl, rfl, rfl, rfl, fun a w hR hf => .inl ⟨wanted_yes hf rfl, ex_pickF hf rfl rfl⟩⟩) (.cons (⟨_, _, rfl, rfl, rfl, rfl, fun a w hR hf => .inl ⟨wanted_yes hf rfl, ex_pickF hf rfl rfl⟩⟩) (.nil))))))))))))))))))))))))))))))))))))))))))))))))))))))))))))))))))))))) (fun K110 hK110 => ?_)
                                                refine RW.zero (by kernel_rfl) (by kernel_rfl) [(2, v2), (7, v11), (8, .int .i64 s12), (9, .pointer (some ⟨b24, 0, none⟩)), (11, v42), (12, .int .i64 y46), (13, .int .i64 y47), (14, .int .i64 s58), (15, .int .i64 s60.2.2.1), (16, .bool s60.2.2.2.1), (18, v64), (19, .bool y88), (20, .bool y89), (21, .int .i64 y90), (181, .bool false)] ⟨rfl, rfl, rfl, rfl, rfl, rfl, rfl, rfl, rfl, rfl, rfl, rfl, rfl, rfl, rfl, trivial⟩ (fun a w hR hs hf => ?_)
                                                refine hK110 _ _ ?_
                                                have e99 := some_eq H; subst e99
                                                exact hJ99 _ _ ⟨hf.sub ⟨rfl, rfl, rfl, rfl, rfl, rfl, rfl, rfl, rfl, rfl, rfl, rfl, rfl, rfl, rfl, trivial⟩, hs⟩
                                            · -- not s58 < ((gd Trip.zero s10 y90).Temperature)
                                              refine region_d fol 70 [(2, v2), (7, v11), (8, .int .i64 s12), (9, .pointer (some ⟨b24, 0, none⟩)), (11, v42), (12, .int .i64 y46), (13, .int .i64 y47), (14, .int .i64 s58), (15, .int .i64 s60.2.2.1), (16, .bool s60.2.2.2.1), (18, v64), (19, .bool y88), (20, .bool y89), (21, .int .i64 y90)] [(0, .int .i64 s58), (1, v11), (2, .int .i64 y90), (3, .pointer (some (sla v11 (y90.toNat * 3)))), (4, .pointer (some (sla v11 (y90.toNat * 3 + 1)))), (5, .int .i64 ((gd Trip.zero s10 y90).Temperature)), (6, .bool true), (7, .bool true), (8, v64), (9, .int .i64 y90), (10, .pointer (some (sla v64 (y90.toNat * 1)))), (11, .bool true), (12, .bool false), (13, .bool false), (14, .bool false), (15, .int .i64 s58), (16, v11), (17, .int .i64 y90), (18, .pointer (some (sla v11 (y90.toNat * 3)))), (19, .pointer (some (sla v11 (y90.toNat * 3 + 1)))), (20, .int .i64 ((gd Trip.zero s10 y90).Temperature)), (21, v11), (22, .int .i64 y90), (23, .pointer (some (sla v11 (y90.toNat * 3)))), (24, .pointer (some (sla v11 (y90.toNat * 3 + 2)))), (25, .int .i64 ((gd Trip.zero s10 y90).Hysteresis)), (26, .int .i64 (IntKind.i64.wrap (((gd Trip.zero s10 y90).Temperature) - ((gd Trip.zero s10 y90).Hysteresis)))), (27, .bool false), (28, .bool false), (29, undef), (30, undef), (31, undef), (32, undef), (33, .bool false), (34, .bool false), (35, .bool false), (36, .int .i64 s58), (37, v11), (38, .int .i64 y90), (39, .pointer (some (sla v11 (y90.toNat * 3)))), (40, .pointer (some (sla v11 (y90.toNat * 3 + 1)))), (41, .int .i64 ((gd Trip.zero s10 y90).Temperature)), (42, .bool false), (43, .bool false), (44, undef), (45, undef), (46, undef), (47, undef), (48, undef), (49, undef), (50, undef), (51, undef), (52, undef), (53, undef), (54, undef), (55, undef), (56, undef), (57, .bool false), (58, .bool false), (59, undef), (60, undef), (61, undef), (62, undef), (63, undef), (64, undef), (65, undef), (66, undef), (67, undef), (68, .bool false), (69, .bool false)] [] (fun w => (osl K_api_Trip v11 s10).ok w ∧ (osl K_bool v64 s63).ok w ∧ (osl K_bool v42 y45).ok w ∧ True) (fun w => St M w0 w [osl K_api_Trip v11 s10, bx b24 62 [v25, v61, .int .i64 c16.2.2.1, .int .i64 s60.1], osl K_api_Trip v25 c16.1, osl K_bool v61 s60.2.1, osl K_bool v42 y45, osl K_bool v64 s63]) hf ⟨rfl, rfl, rfl, rfl, rfl, rfl, rfl, rfl, rfl, rfl, rfl, rfl, rfl, rfl, trivial⟩ (by kernel_rfl) (by kernel_rfl) rfl (by decide) ⟨hs.drew.get (i := 0) rfl, hs.drew.get (i := 5) rfl, hs.drew.get (i := 4) rfl, trivial⟩ hs.drew (.cons (⟨_, _, rfl, rfl, rfl, rfl, fun a w hR hf => .inl ⟨wanted_yes hf rfl, ex_move hf rfl⟩⟩) (.cons (⟨_, _, rfl, rfl, rfl, rfl, fun a w hR hf => .inl ⟨wanted_yes hf rfl, ex_move hf rfl⟩⟩) (.cons (⟨_, _, rfl, rfl, rfl, rfl, fun a w hR hf => .inl ⟨wanted_yes hf rfl, ex_move hf rfl⟩⟩) (.cons (⟨_, _, rfl, rfl, rfl, rfl, fun a w hR hf => .inl ⟨wanted_yes hf rfl, ex_indexAddr sa_22 (rsl_isSl (osl_rsl _ hR.1)) hc100.1 hc100.2 hf rfl rfl⟩⟩) (.cons (⟨_, _, rfl, rfl, rfl, rfl, fun a w hR hf => .inl ⟨wanted_yes hf rfl, ex_fieldAddrS fa_24_1 rfl hf rfl⟩⟩) (.cons (⟨_, _, rfl, rfl, rfl, rfl, fun a w hR hf => .inl ⟨wanted_yes hf rfl, ex_load sc_2 hf rfl (el_cell (K := K_api_Trip) (f := 1) (rsl_rd (osl_rsl _ hR.1)) hc100.1 hc100.2 rfl)⟩⟩) (.cons (⟨_, _, rfl, rfl, rfl, rfl, fun a w hR hf => .inl ⟨wanted_yes hf rfl, ex_castB (ex_geq hf rfl rfl) (dec_t hc101)⟩⟩) (.cons (⟨_, _, rfl, rfl, rfl, rfl, fun a w hR hf => .inl ⟨wanted_yes hf rfl, ex_move hf rfl⟩⟩) (.cons (⟨_, _, rfl, rfl, rfl, rfl, fun a w hR hf => .inl ⟨wanted_yes hf rfl, ex_move hf rfl⟩⟩) (.cons (⟨_, _, rfl, rfl, rfl, rfl, fun a w hR hf => .inl ⟨wanted_yes hf rfl, ex_move hf rfl⟩⟩) (.cons (⟨_, _, rfl, rfl, rfl, rfl, fun a w hR hf => .inl ⟨wanted_yes hf rfl, ex_indexAddr sa_52 (rsl_isSl (osl_rsl _ hR.2.1)) hc102.1 hc102.2 hf rfl rfl⟩⟩) (.cons (⟨_, _, rfl, rfl, rfl, rfl, fun a w hR hf => .inl ⟨wanted_yes hf rfl, ex_castB (ex_load sc_4 hf rfl (el_cell (K := K_bool) (f := 0) (rsl_rd (osl_rsl _ hR.2.1)) hc102.1 hc102.2 rfl)) hc103⟩⟩) (.cons (⟨_, _, rfl, rfl, rfl, rfl, fun a w hR hf => .inl ⟨wanted_yes hf rfl, ex_not (b := true) hf rfl⟩⟩) (.cons (⟨_, _, rfl, rfl, rfl, rfl, fun a w hR hf => .inl ⟨wanted_yes hf rfl, ex_pickT hf rfl rfl⟩⟩) (.cons (⟨_, _, rfl, rfl, rfl, rfl, fun a w hR hf => .inl ⟨wanted_yes hf rfl, ex_move hf rfl⟩⟩) (.cons (⟨_, _, rfl, rfl, rfl, rfl, fun a w hR hf => .inl ⟨wanted_yes hf rfl, ex_move hf rfl⟩⟩) (.cons (⟨_, _, rfl, rfl, rfl, rfl, fun a w hR hf => .inl ⟨wanted_yes hf rfl, ex_move hf rfl⟩⟩) (.cons (⟨_, _, rfl, rfl, rfl, rfl, fun a w hR hf => .inl ⟨wanted_yes hf rfl, ex_move hf rfl⟩⟩) (.cons (⟨_, _, rfl, rfl, rfl, rfl, fun a w hR hf => .inl ⟨wanted_yes hf rfl, ex_indexAddr sa_22 (rsl_isSl (osl_rsl _ hR.1)) hc100.1 hc100.2 hf rfl rfl⟩⟩) (.cons (⟨_, _, rfl, rfl, rfl, rfl, fun a w hR hf => .inl ⟨wanted_yes hf rfl, ex_fieldAddrS fa_24_1 rfl hf rfl⟩⟩) (.cons (⟨_, _, rfl, rfl, rfl, rfl, fun a w hR hf => .inl ⟨wanted_yes hf rfl, ex_load sc_2 hf rfl (el_cell (K := K_api_Trip) (f := 1) (rsl_rd (osl_rsl _ hR.1)) hc100.1 hc100.2 rfl)⟩⟩) (.cons (⟨_, _, rfl, rfl, rfl, rfl, fun a w hR hf => .inl ⟨wanted_yes hf rfl, ex_move hf rfl⟩⟩) (.cons (⟨_, _, rfl, rfl, rfl, rfl, fun a w hR hf => .inl ⟨wanted_yes hf rfl, ex_move hf rfl⟩⟩) (.cons (⟨_, _, rfl, rfl, rfl, rfl, fun a w hR hf => .inl ⟨wanted_yes hf rfl, ex_indexAddr sa_22 (rsl_isSl (osl_rsl _ hR.1)) hc100.1 hc100.2 hf rfl rfl⟩⟩) (.cons (⟨_, _, rfl, rfl, rfl, rfl, fun a w hR hf => .inl ⟨wanted_yes hf rfl, ex_fieldAddrS fa_24_2 rfl hf rfl⟩⟩) (.cons (⟨_, _, rfl, rfl, rfl, rfl, fun a w hR hf => .inl ⟨wanted_yes hf rfl, ex_load sc_2 hf rfl (el_cell (K := K_api_Trip) (f := 2) (rsl_rd (osl_rsl _ hR.1)) hc100.1 hc100.2 rfl)⟩⟩) (.cons (⟨_, _, rfl, rfl, rfl, rfl, fun a w hR hf => .inl ⟨wanted_yes hf rfl, ex_sub hf rfl rfl⟩⟩) (.cons (⟨_, _, rfl, rfl, rfl, rfl, fun a w hR hf => .inl ⟨wanted_yes hf rfl, ex_castB (ex_lss hf rfl rfl) (dec_f hc104)⟩⟩) (.cons (⟨_, _, rfl, rfl, rfl, rfl, fun a w hR hf => .inl ⟨wanted_yes hf rfl, ex_move hf rfl⟩⟩) (.cons (⟨_, _, rfl, rfl, rfl, rfl, fun a w hR hf => .inr ⟨wanted_no hf rfl, rfl⟩⟩) (.cons (⟨_, _, rfl, rfl, rfl, rfl, fun a w hR hf => .inr ⟨wanted_no hf rfl, rfl⟩⟩) (.cons (⟨_, _, rfl, rfl, rfl, rfl, fun a w hR hf => .inr ⟨wanted_no hf rfl, rfl⟩⟩) (.cons (⟨_, _, rfl, rfl, rfl, rfl, fun a w hR hf => .inr ⟨wanted_no hf rfl, rfl⟩⟩) (.cons (⟨_, _, rfl, rfl, rfl, rfl, fun a w hR hf => .inl ⟨wanted_yes hf rfl, ex_pickF hf rfl rfl⟩⟩) (.cons (⟨_, _, rfl, rfl, rfl, rfl, fun a w hR hf => .inl ⟨wanted_yes hf rfl, ex_pickF hf rfl rfl⟩⟩) (.cons (⟨_, _, rfl, rfl, rfl, rfl, fun a w hR hf => .inl ⟨wanted_yes hf rfl, ex_move hf rfl⟩⟩) (.cons (⟨_, _, rfl, rfl, rfl, rfl, fun a w hR hf => .inl ⟨wanted_yes hf rfl, ex_move hf rfl⟩⟩) (.cons (⟨_, _, rfl, rfl, rfl, rfl, fun a w hR hf => .inl ⟨wanted_yes hf rfl, ex_move hf rfl⟩⟩) (.cons (⟨_, _, rfl, rfl, rfl, rfl, fun a w hR hf => .inl ⟨wanted_yes hf rfl, ex_move hf rfl⟩⟩) (.cons (⟨_, _, rfl, rfl, rfl, rfl, fun a w hR hf => .inl ⟨wanted_yes hf rfl, ex_indexAddr sa_22 (rsl_isSl (osl_rsl _ hR.1)) hc100.1 hc100.2 hf rfl rfl⟩⟩) (.cons (⟨_, _, rfl, rfl, rfl, rfl, fun a w hR hf => .inl ⟨wanted_yes hf rfl, ex_fieldAddrS fa_24_1 rfl hf rfl⟩⟩) (.cons (⟨_, _, rfl, rfl, rfl, rfl, fun a w hR hf => .inl ⟨wanted_yes hf rfl, ex_load sc_2 hf rfl (el_cell (K := K_api_Trip) (f := 1) (rsl_rd (osl_rsl _ hR.1)) hc100.1 hc100.2 rfl)⟩⟩) (.cons (⟨_, _, rfl, rfl, rfl, rfl, fun a w hR hf => .inl ⟨wanted_yes hf rfl, ex_castB (ex_lss hf rfl rfl) (dec_f hc106)⟩⟩) (.cons (⟨_, _, rfl, rfl, rfl, rfl, fun a w hR hf => .inl ⟨wanted_yes hf rfl, ex_move hf rfl⟩⟩) (.cons (⟨_, _, rfl, rfl, rfl, rfl, fun a w hR hf => .inr ⟨wanted_no hf rfl, rfl⟩⟩) (.cons (⟨_, _, rfl, rfl, rfl, rfl, fun a w hR hf => .inr ⟨wanted_no hf rfl, rfl⟩⟩) (.cons (⟨_, _, rfl, rfl, rfl, rfl, fun a w hR hf => .inr ⟨wanted_no hf rfl, rfl⟩⟩) (.cons (⟨_, _, rfl, rfl, rfl, rfl, fun a w hR hf => .inr ⟨wanted_no hf rfl, rfl⟩⟩) (.cons (⟨_, _, rfl, rfl, rfl, rfl, fun a w hR hf => .inr ⟨wanted_no hf rfl, rfl⟩⟩) (.cons (⟨_, _, rfl, rfl, rfl, rfl, fun a w hR hf => .inr ⟨wanted_no hf rfl, rfl⟩⟩) (.cons (⟨_, _, rfl, rfl, rfl, rfl, fun a w hR hf => .inr ⟨wanted_no hf rfl, rfl⟩⟩) (.cons (⟨_, _, rfl, rfl, rfl, rfl, fun a w hR hf => .inr ⟨wanted_no hf rfl, rfl⟩⟩) (.cons (⟨_, _, rfl, rfl, rfl, rfl, fun a w hR hf => .inr ⟨wanted_no hf rfl, rfl⟩⟩) (.cons (⟨_, _, rfl, rfl, rfl, rfl, fun a w hR hf => .inr ⟨wanted_no hf rfl, rfl⟩⟩) (.cons (⟨_, _, rfl, rfl, rfl, rfl, fun a w hR hf => .inr ⟨wanted_no hf rfl, rfl⟩⟩) (.cons (⟨_, _, rfl, rfl, rfl, rfl, fun a w hR hf => .inr ⟨wanted_no hf rfl, rfl⟩⟩) (.cons (⟨_, _, rfl, rfl, rfl, rfl, fun a w hR hf => .inr ⟨wanted_no hf rfl, rfl⟩⟩) (.cons (⟨_, _, rfl, rfl, rfl, rfl, fun a w hR hf => .inl ⟨wanted_yes hf rfl, ex_pickF hf rfl rfl⟩⟩) (.cons (⟨_, _, rfl, rfl, rfl, rfl, fun a w hR hf => .inl ⟨wanted_yes hf rfl, ex_move hf rfl⟩⟩) (.cons (⟨_, _, rfl, rfl, rfl, rfl, fun a w hR hf => .inr ⟨wanted_no hf rfl, rfl⟩⟩) (.cons (⟨_, _, rfl, rfl, rfl, rfl, fun a w hR hf => .inr ⟨wanted_no hf rfl, rfl⟩⟩) (.cons (⟨_, _, rfl, rfl, rfl, rfl, fun a w hR hf => .inr ⟨wanted_no hf rfl, rfl⟩⟩) (.cons (⟨_, _, rfl, rfl, rfl, rfl, fun a w hR hf => .inr ⟨wanted_no hf rfl, rfl⟩⟩) (.cons (⟨_, _, rfl, rfl, rfl, rfl, fun a w hR hf => .inr ⟨wanted_no hf rfl, rfl⟩⟩) (.cons (⟨_, _, rfl, rfl, rfl, rfl, fun a w hR hf => .inr ⟨wanted_no hf rfl, rfl⟩⟩) (.cons (⟨_, _, rfl, rfl, rfl, rfl, fun a w hR hf => .inr ⟨wanted_no hf rfl, rfl⟩⟩) (.cons (⟨_, _, rfl, rfl, rfl, rfl, fun a w hR hf => .inr ⟨wanted_no hf rfl, rfl⟩⟩) (.cons (⟨_, _, rfl, rfl, rfl, rfl, fun a w hR hf => .inr ⟨wanted_no hf rfl, rfl⟩⟩) (.cons (⟨_, _, rfl, rfl, rfl, rfl, fun a w hR hf => .inl ⟨wanted_yes hf rfl, ex_pickF hf rfl rfl⟩⟩) (.cons (⟨_, _, rfl, rfl, rfl, rfl, fun a w hR hf => .inl ⟨wanted_yes hf rfl, ex_pickF hf rfl rfl⟩⟩) (.nil))))))))))))))))))))))))))))))))))))))))))))))))))))))))))))))))))))))) (fun K111 hK111 => ?_)
                                              refine RW.zero (by kernel_rfl) (by kernel_rfl) [(2, v2), (7, v11), (8, .int .i64 s12), (9, .pointer (some ⟨b24, 0, none⟩)), (11, v42), (12, .int .i64 y46), (13, .int .i64 y47), (14, .int .i64 s58), (15, .int .i64 s60.2.2.1), (16, .bool s60.2.2.2.1), (18, v64), (19, .bool y88), (20, .bool y89), (21, .int .i64 y90), (181, .bool false)] ⟨rfl, rfl, rfl, rfl, rfl, rfl, rfl, rfl, rfl, rfl, rfl, rfl, rfl, rfl, rfl, trivial⟩ (fun a w hR hs hf => ?_)
                                              refine hK111 _ _ ?_
                                              have e99 := some_eq H; subst e99
                                              exact hJ99 _ _ ⟨hf.sub ⟨rfl, rfl, rfl, rfl, rfl, rfl, rfl, rfl, rfl, rfl, rfl, rfl, rfl, rfl, rfl, trivial⟩, hs⟩
                                        · -- not (gd false s63 y90) = true
                                          refine region_d fol 70 [(2, v2), (7, v11), (8, .int .i64 s12), (9, .pointer (some ⟨b24, 0, none⟩)), (11, v42), (12, .int .i64 y46), (13, .int .i64 y47), (14, .int .i64 s58), (15, .int .i64 s60.2.2.1), (16, .bool s60.2.2.2.1), (18, v64), (19, .bool y88), (20, .bool y89), (21, .int .i64 y90)] [(0, .int .i64 s58), (1, v11), (2, .int .i64 y90), (3, .pointer (some (sla v11 (y90.toNat * 3)))), (4, .pointer (some (sla v11 (y90.toNat * 3 + 1)))), (5, .int .i64 ((gd Trip.zero s10 y90).Temperature)), (6, .bool true), (7, .bool true), (8, v64), (9, .int .i64 y90), (10, .pointer (some (sla v64 (y90.toNat * 1)))), (11, .bool false), (12, .bool true), (13, .bool true), (14, .bool true), (15, undef), (16, undef), (17, undef), (18, undef), (19, undef), (20, undef), (21, undef), (22, undef), (23, undef), (24, undef), (25, undef), (26, undef), (27, undef), (28, undef), (29, undef), (30, undef), (31, undef), (32, undef), (33, undef), (34, .bool true), (35, .bool true), (36, undef), (37, undef), (38, undef), (39, undef), (40, undef), (41, undef), (42, undef), (43, undef), (44, undef), (45, undef), (46, undef), (47, undef), (48, undef), (49, undef), (50, undef), (51, undef), (52, undef), (53, undef), (54, undef), (55, undef), (56, undef), (57, undef), (58, undef), (59, undef), (60, undef), (61, undef), (62, undef), (63, undef), (64, undef), (65, undef), (66, undef), (67, undef), (68, undef), (69, .bool true)] [] (fun w => (osl K_api_Trip v11 s10).ok w ∧ (osl K_bool v64 s63).ok w ∧ (osl K_bool v42 y45).ok w ∧ True) (fun w => St M w0 w [osl K_api_Trip v11 s10, bx b24 62 [v25, v61, .int .i64 c16.2.2.1, .int .i64 s60.1], osl K_api_Trip v25 c16.1, osl K_bool v61 s60.2.1, osl K_bool v42 y45, osl K_bool v64 s63]) hf ⟨rfl, rfl, rfl, rfl, rfl, rfl, rfl, rfl, rfl, rfl, rfl, rfl, rfl, rfl, trivial⟩ (by kernel_rfl) (by kernel_rfl) rfl (by decide) ⟨hs.drew.get (i := 0) rfl, hs.drew.get (i := 5) rfl, hs.drew.get (i := 4) rfl, trivial⟩ hs.drew (.cons (⟨_, _, rfl, rfl, rfl, rfl, fun a w hR hf => .inl ⟨wanted_yes hf rfl, ex_move hf rfl⟩⟩) (.cons (⟨_, _, rfl, rfl, rfl, rfl, fun a w hR hf => .inl ⟨wanted_yes hf rfl, ex_move hf rfl⟩⟩) (.cons (⟨_, _, rfl, rfl, rfl, rfl, fun a w hR hf => .inl ⟨wanted_yes hf rfl, ex_move hf rfl⟩⟩) (.cons (⟨_, _, rfl, rfl, rfl, rfl, fun a w hR hf => .inl ⟨wanted_yes hf rfl, ex_indexAddr sa_22 (rsl_isSl (osl_rsl _ hR.1)) hc100.1 hc100.2 hf rfl rfl⟩⟩) (.cons (⟨_, _, rfl, rfl, rfl, rfl, fun a w hR hf => .inl ⟨wanted_yes hf rfl, ex_fieldAddrS fa_24_1 rfl hf rfl⟩⟩) (.cons (⟨_, _, rfl, rfl, rfl, rfl, fun a w hR hf => .inl ⟨wanted_yes hf rfl, ex_load sc_2 hf rfl (el_cell (K := K_api_Trip) (f := 1) (rsl_rd (osl_rsl _ hR.1)) hc100.1 hc100.2 rfl)⟩⟩) (.cons (⟨_, _, rfl, rfl, rfl, rfl, fun a w hR hf => .inl ⟨wanted_yes hf rfl, ex_castB (ex_geq hf rfl rfl) (dec_t hc101)⟩⟩) (.cons (⟨_, _, rfl, rfl, rfl, rfl, fun a w hR hf => .inl ⟨wanted_yes hf rfl, ex_move hf rfl⟩⟩) (.cons (⟨_, _, rfl, rfl, rfl, rfl, fun a w hR hf => .inl ⟨wanted_yes hf rfl, ex_move hf rfl⟩⟩) (.cons (⟨_, _, rfl, rfl, rfl, rfl, fun a w hR hf => .inl ⟨wanted_yes hf rfl, ex_move hf rfl⟩⟩) (.cons (⟨_, _, rfl, rfl, rfl, rfl, fun a w hR hf => .inl ⟨wanted_yes hf rfl, ex_indexAddr sa_52 (rsl_isSl (osl_rsl _ hR.2.1)) hc102.1 hc102.2 hf rfl rfl⟩⟩) (.cons (⟨_, _, rfl, rfl, rfl, rfl, fun a w hR hf => .inl ⟨wanted_yes hf rfl, ex_castB (ex_load sc_4 hf rfl (el_cell (K := K_bool) (f := 0) (rsl_rd (osl_rsl _ hR.2.1)) hc102.1 hc102.2 rfl)) (bool_f hc103)⟩⟩) (.cons (⟨_, _, rfl, rfl, rfl, rfl, fun a w hR hf => .inl ⟨wanted_yes hf rfl, ex_not (b := false) hf rfl⟩⟩) (.cons (⟨_, _, rfl, rfl, rfl, rfl, fun a w hR hf => .inl ⟨wanted_yes hf rfl, ex_pickT hf rfl rfl⟩⟩) (.cons (⟨_, _, rfl, rfl, rfl, rfl, fun a w hR hf => .inl ⟨wanted_yes hf rfl, ex_move hf rfl⟩⟩) (.cons (⟨_, _, rfl, rfl, rfl, rfl, fun a w hR hf => .inr ⟨wanted_no hf rfl, rfl⟩⟩) (.cons (⟨_, _, rfl, rfl, rfl, rfl, fun a w hR hf => .inr ⟨wanted_no hf rfl, rfl⟩⟩) (.cons (⟨_, _, rfl, rfl, rfl, rfl, fun a w hR hf => .inr ⟨wanted_no hf rfl, rfl⟩⟩) (.cons (⟨_, _, rfl, rfl, rfl, rfl, fun a w hR hf => .inr ⟨wanted_no hf rfl, rfl⟩⟩) (.cons (⟨_, _, rfl, rfl, rfl, rfl, fun a w hR hf => .inr ⟨wanted_no hf rfl, rfl⟩⟩) (.cons (⟨_, _, rfl, rfl, rfl, rfl, fun a w hR hf => .inr ⟨wanted_no hf rfl, rfl⟩⟩) (.cons (⟨_, _, rfl, rfl, rfl, rfl, fun a w hR hf => .inr ⟨wanted_no hf rfl, rfl⟩⟩) (.cons (⟨_, _, rfl, rfl, rfl, rfl, fun a w hR hf => .inr ⟨wanted_no hf rfl, rfl⟩⟩) (.cons (⟨_, _, rfl, rfl, rfl, rfl, fun a w hR hf => .inr ⟨wanted_no hf rfl, rfl⟩⟩) (.cons (⟨_, _, rfl, rfl, rfl, rfl, fun a w hR hf => .inr ⟨wanted_no hf rfl, rfl⟩⟩) (.cons (⟨_, _, rfl, rfl, rfl, rfl, fun a w hR hf => .inr ⟨wanted_no hf rfl, rfl⟩⟩) (.cons (⟨_, _, rfl, rfl, rfl, rfl, fun a w hR hf => .inr ⟨wanted_no hf rfl, rfl⟩⟩) (.cons (⟨_, _, rfl, rfl, rfl, rfl, fun a w hR hf => .inr ⟨wanted_no hf rfl, rfl⟩⟩) (.cons (⟨_, _, rfl, rfl, rfl, rfl, fun a w hR hf => .inr ⟨wanted_no hf rfl, rfl⟩⟩) (.cons (⟨_, _, rfl, rfl, rfl, rfl, fun a w hR hf => .inr ⟨wanted_no hf rfl, rfl⟩⟩) (.cons (⟨_, _, rfl, rfl, rfl, rfl, fun a w hR hf => .inr ⟨wanted_no hf rfl, rfl⟩⟩) (.cons (⟨_, _, rfl, rfl, rfl, rfl, fun a w hR hf => .inr ⟨wanted_no hf rfl, rfl⟩⟩) (.cons (⟨_, _, rfl, rfl, rfl, rfl, fun a w hR hf => .inr ⟨wanted_no hf rfl, rfl⟩⟩) (.cons (⟨_, _, rfl, rfl, rfl, rfl, fun a w hR hf => .inr ⟨wanted_no hf rfl, rfl⟩⟩) (.cons (⟨_, _, rfl, rfl, rfl, rfl, fun a w hR hf => .inl ⟨wanted_yes hf rfl, ex_pickT hf rfl rfl⟩⟩) (.cons (⟨_, _, rfl, rfl, rfl, rfl, fun a w hR hf => .inl ⟨wanted_yes hf rfl, ex_move hf rfl⟩⟩) (.cons (⟨_, _, rfl, rfl, rfl, rfl, fun a w hR hf => .inr ⟨wanted_no hf rfl, rfl⟩⟩) (.cons (⟨_, _, rfl, rfl, rfl, rfl, fun a w hR hf => .inr ⟨wanted_no hf rfl, rfl⟩⟩) (.cons (⟨_, _, rfl, rfl, rfl, rfl, fun a w hR hf => .inr ⟨wanted_no hf rfl, rfl⟩⟩) (.cons (⟨_, _, rfl, rfl, rfl, rfl, fun a w hR hf => .inr ⟨wanted_no hf rfl, rfl⟩⟩) (.cons (⟨_, _, rfl, rfl, rfl, rfl, fun a w hR hf => .inr ⟨wanted_no hf rfl, rfl⟩⟩) (.cons (⟨_, _, rfl, rfl, rfl, rfl, fun a w hR hf => .inr ⟨wanted_no hf rfl, rfl⟩⟩) (.cons (⟨_, _, rfl, rfl, rfl, rfl, fun a w hR hf => .inr ⟨wanted_no hf rfl, rfl⟩⟩) (.cons (⟨_, _, rfl, rfl, rfl, rfl, fun a w hR hf => .inr ⟨wanted_no hf rfl, rfl⟩⟩) (.cons (⟨_, _, rfl, rfl, rfl, rfl, fun a w hR hf => .inr ⟨wanted_no hf rfl, rfl⟩⟩) (.cons (⟨_, _, rfl, rfl, rfl, rfl, fun a w hR hf => .inr ⟨wanted_no hf rfl, rfl⟩⟩) (.cons (⟨_, _, rfl, rfl, rfl, rfl, fun a w hR hf => .inr ⟨wanted_no hf rfl, rfl⟩⟩) (.cons (⟨_, _, rfl, rfl, rfl, rfl, fun a w hR hf => .inr ⟨wanted_no hf rfl, rfl⟩⟩) (.cons (⟨_, _, rfl, rfl, rfl, rfl, fun a w hR hf => .inr ⟨wanted_no hf rfl, rfl⟩⟩) (.cons (⟨_, _, rfl, rfl, rfl, rfl, fun a w hR hf => .inr ⟨wanted_no hf rfl, rfl⟩⟩) (.cons (⟨_, _, rfl, rfl, rfl, rfl, fun a w hR hf => .inr ⟨wanted_no hf rfl, rfl⟩⟩) (.cons (⟨_, _, rfl, rfl, rfl, rfl, fun a w hR hf => .inr ⟨wanted_no hf rfl, rfl⟩⟩) (.cons (⟨_, _, rfl, rfl, rfl, rfl, fun a w hR hf => .inr ⟨wanted_no hf rfl, rfl⟩⟩) (.cons (⟨_, _, rfl, rfl, rfl, rfl, fun a w hR hf => .inr ⟨wanted_no hf rfl, rfl⟩⟩) (.cons (⟨_, _, rfl, rfl, rfl, rfl, fun a w hR hf => .inr ⟨wanted_no hf rfl, rfl⟩⟩) (.cons (⟨_, _, rfl, rfl, rfl, rfl, fun a w hR hf => .inr ⟨wanted_no hf rfl, rfl⟩⟩) (.cons (⟨_, _, rfl, rfl, rfl, rfl, fun a w hR hf => .inr ⟨wanted_no hf rfl, rfl⟩⟩) (.cons (⟨_, _, rfl, rfl, rfl, rfl, fun a w hR hf => .inr ⟨wanted_no hf rfl, rfl⟩⟩) (.cons (⟨_, _, rfl, rfl, rfl, rfl, fun a w hR hf => .inr ⟨wanted_no hf rfl, rfl⟩⟩) (.cons (⟨_, _, rfl, rfl, rfl, rfl, fun a w hR hf => .inr ⟨wanted_no hf rfl, rfl⟩⟩) (.cons (⟨_, _, rfl, rfl, rfl, rfl, fun a w hR hf => .inr ⟨wanted_no hf rfl, rfl⟩⟩) (.cons (⟨_, _, rfl, rfl, rfl, rfl, fun a w hR hf => .inr ⟨wanted_no hf rfl, rfl⟩⟩) (.cons (⟨_, _, rfl, rfl, rfl, rfl, fun a w hR hf => .inr ⟨wanted_no hf rfl, rfl⟩⟩) (.cons (⟨_, _, rfl, rfl, rfl, rfl, fun a w hR hf => .inr ⟨wanted_no hf rfl, rfl⟩⟩) (.cons (⟨_, _, rfl, rfl, rfl, rfl, fun a w hR hf => .inr ⟨wanted_no hf rfl, rfl⟩⟩) (.cons (⟨_, _, rfl, rfl, rfl, rfl, fun a w hR hf => .inr ⟨wanted_no hf rfl, rfl⟩⟩) (.cons (⟨_, _, rfl, rfl, rfl, rfl, fun a w hR hf => .inr ⟨wanted_no hf rfl, rfl⟩⟩) (.cons (⟨_, _, rfl, rfl, rfl, rfl, fun a w hR hf => .inr ⟨wanted_no hf rfl, rfl⟩⟩) (.cons (⟨_, _, rfl, rfl, rfl, rfl, fun a w hR hf => .inr ⟨wanted_no hf rfl, rfl⟩⟩) (.cons (⟨_, _, rfl, rfl, rfl, rfl, fun a w hR hf => .inl ⟨wanted_yes hf rfl, ex_pickT hf rfl rfl⟩⟩) (.nil))))))))))))))))))))))))))))))))))))))))))))))))))))))))))))))))))))))) (fun K112 hK112 => ?_)
                                          refine RW.zero (by kernel_rfl) (by kernel_rfl) [(2, v2), (7, v11), (8, .int .i64 s12), (9, .pointer (some ⟨b24, 0, none⟩)), (11, v42), (12, .int .i64 y46), (13, .int .i64 y47), (14, .int .i64 s58), (15, .int .i64 s60.2.2.1), (16, .bool s60.2.2.2.1), (18, v64), (19, .bool y88), (20, .bool y89), (21, .int .i64 y90), (181, .bool true)] ⟨rfl, rfl, rfl, rfl, rfl, rfl, rfl, rfl, rfl, rfl, rfl, rfl, rfl, rfl, rfl, trivial⟩ (fun a w hR hs hf => ?_)
                                          refine hK112 _ _ ?_
                                          have e99 := some_eq H; subst e99
                                          exact hJ99 _ _ ⟨hf.sub ⟨rfl, rfl, rfl, rfl, rfl, rfl, rfl, rfl, rfl, rfl, rfl, rfl, rfl, rfl, rfl, trivial⟩, hs⟩
                                      · -- not ((gd Trip.zero s10 y90).Temperature) ≤ s58
                                        refine itt H (fun hc113 H => ?_) (fun hc113 H => ?_)
                                        · -- s58 < (IntKind.i64.wrap (((gd Trip.zero s10 y90).Temperature
                                          refine ck_some H (fun hc114 H => ?_)
                                          refine itt H (fun hc115 H => ?_) (fun hc115 H => ?_)
                                          · -- (gd false s63 y90) = true
                                            refine region_d fol 70 [(2, v2), (7, v11), (8, .int .i64 s12), (9, .pointer (some ⟨b24, 0, none⟩)), (11, v42), (12, .int .i64 y46), (13, .int .i64 y47), (14, .int .i64 s58), (15, .int .i64 s60.2.2.1), (16, .bool s60.2.2.2.1), (18, v64), (19, .bool y88), (20, .bool y89), (21, .int .i64 y90)] [(0, .int .i64 s58), (1, v11), (2, .int .i64 y90), (3, .pointer (some (sla v11 (y90.toNat * 3)))), (4, .pointer (some (sla v11 (y90.toNat * 3 + 1)))), (5, .int .i64 ((gd Trip.zero s10 y90).Temperature)), (6, .bool false), (7, .bool false), (8, undef), (9, undef), (10, undef), (11, undef), (12, undef), (13, .bool false), (14, .bool false), (15, .int .i64 s58), (16, v11), (17, .int .i64 y90), (18, .pointer (some (sla v11 (y90.toNat * 3)))), (19, .pointer (some (sla v11 (y90.toNat * 3 + 1)))), (20, .int .i64 ((gd Trip.zero s10 y90).Temperature)), (21, v11), (22, .int .i64 y90), (23, .pointer (some (sla v11 (y90.toNat * 3)))), (24, .pointer (some (sla v11 (y90.toNat * 3 + 2)))), (25, .int .i64 ((gd Trip.zero s10 y90).Hysteresis)), (26, .int .i64 (IntKind.i64.wrap (((gd Trip.zero s10 y90).Temperature) - ((gd Trip.zero s10 y90).Hysteresis)))), (27, .bool true), (28, .bool true), (29, v64), (30, .int .i64 y90), (31, .pointer (some (sla v64 (y90.toNat * 1)))), (32, .bool true), (33, .bool true), (34, .bool true), (35, .bool true), (36, undef), (37, undef), (38, undef), (39, undef), (40, undef), (41, undef), (42, undef), (43, undef), (44, undef), (45, undef), (46, undef), (47, undef), (48, undef), (49, undef), (50, undef), (51, undef), (52, undef), (53, undef), (54, undef), (55, undef), (56, undef), (57, undef), (58, undef), (59, undef), (60, undef), (61, undef), (62, undef), (63, undef), (64, undef), (65, undef), (66, undef), (67, undef), (68, undef), (69, .bool true)] [] (fun w => (osl K_api_Trip v11 s10).ok w ∧ (osl K_bool v64 s63).ok w ∧ (osl K_bool v42 y45).ok w ∧ True) (fun w => St M w0 w [osl K_api_Trip v11 s10, bx b24 62 [v25, v61, .int .i64 c16.2.2.1, .int .i64 s60.1], osl K_api_Trip v25 c16.1, osl K_bool v61 s60.2.1, osl K_bool v42 y45, osl K_bool v64 s63]) hf ⟨rfl, rfl, rfl, rfl, rfl, rfl, rfl, rfl, rfl, rfl, rfl, rfl, rfl, rfl, trivial⟩ (by kernel_rfl) (by kernel_rfl) rfl (by decide) ⟨hs.drew.get (i := 0) rfl, hs.drew.get (i := 5) rfl, hs.drew.get (i := 4) rfl, trivial⟩ hs.drew (.cons (⟨_, _, rfl, rfl, rfl, rfl, fun a w hR hf => .inl ⟨wanted_yes hf rfl, ex_move hf rfl⟩⟩) (.cons (⟨_, _, rfl, rfl, rfl, rfl, fun a w hR hf => .inl ⟨wanted_yes hf rfl, ex_move hf rfl⟩⟩) (.cons (⟨_, _, rfl, rfl, rfl, rfl, fun a w hR hf => .inl ⟨wanted_yes hf rfl, ex_move hf rfl⟩⟩) (.cons (⟨_, _, rfl, rfl, rfl, rfl, fun a w hR hf => .inl ⟨wanted_yes hf rfl, ex_indexAddr sa_22 (rsl_isSl (osl_rsl _ hR.1)) hc100.1 hc100.2 hf rfl rfl⟩⟩) (.cons (⟨_, _, rfl, rfl, rfl, rfl, fun a w hR hf => .inl ⟨wanted_yes hf rfl, ex_fieldAddrS fa_24_1 rfl hf rfl⟩⟩) (.cons (⟨_, _, rfl, rfl, rfl, rfl, fun a w hR hf => .inl ⟨wanted_yes hf rfl, ex_load sc_2 hf rfl (el_cell (K := K_api_Trip) (f := 1) (rsl_rd (osl_rsl _ hR.1)) hc100.1 hc100.2 rfl)⟩⟩) (.cons (⟨_, _, rfl, rfl, rfl, rfl, fun a w hR hf => .inl ⟨wanted_yes hf rfl, ex_castB (ex_geq hf rfl rfl) (dec_f hc101)⟩⟩) (.cons (⟨_, _, rfl, rfl, rfl, rfl, fun a w hR hf => .inl ⟨wanted_yes hf rfl, ex_move hf rfl⟩⟩) (.cons (⟨_, _, rfl, rfl, rfl, rfl, fun a w hR hf => .inr ⟨wanted_no hf rfl, rfl⟩⟩) (.cons (⟨_, _, rfl, rfl, rfl, rfl, fun a w hR hf => .inr ⟨wanted_no hf rfl, rfl⟩⟩) (.cons (⟨_, _, rfl, rfl, rfl, rfl, fun a w hR hf => .inr ⟨wanted_no hf rfl, rfl⟩⟩) (.cons (⟨_, _, rfl, rfl, rfl, rfl, fun a w hR hf => .inr ⟨wanted_no hf rfl, rfl⟩⟩) (.cons (⟨_, _, rfl, rfl, rfl, rfl, fun a w hR hf => .inr ⟨wanted_no hf rfl, rfl⟩⟩) (.cons (⟨_, _, rfl, rfl, rfl, rfl, fun a w hR hf => .inl ⟨wanted_yes hf rfl, ex_pickF hf rfl rfl⟩⟩) (.cons (⟨_, _, rfl, rfl, rfl, rfl, fun a w hR hf => .inl ⟨wanted_yes hf rfl, ex_move hf rfl⟩⟩) (.cons (⟨_, _, rfl, rfl, rfl, rfl, fun a w hR hf => .inl ⟨wanted_yes hf rfl, ex_move hf rfl⟩⟩) (.cons (⟨_, _, rfl, rfl, rfl, rfl, fun a w hR hf => .inl ⟨wanted_yes hf rfl, ex_move hf rfl⟩⟩) (.cons (⟨_, _, rfl, rfl, rfl, rfl, fun a w hR hf => .inl ⟨wanted_yes hf rfl, ex_move hf rfl⟩⟩) (.cons (⟨_, _, rfl, rfl, rfl, rfl, fun a w hR hf => .inl ⟨wanted_yes hf rfl, ex_indexAddr sa_22 (rsl_isSl (osl_rsl _ hR.1)) hc100.1 hc100.2 hf rfl rfl⟩⟩) (.cons (⟨_, _, rfl, rfl, rfl, rfl, fun a w hR hf => .inl ⟨wanted_yes hf rfl, ex_fieldAddrS fa_24_1 rfl hf rfl⟩⟩) (.cons (⟨_, _, rfl, rfl, rfl, rfl, fun a w hR hf => .inl ⟨wanted_yes hf rfl, ex_load sc_2 hf rfl (el_cell (K := K_api_Trip) (f := 1) (rsl_rd (osl_rsl _ hR.1)) hc100.1 hc100.2 rfl)⟩⟩) (.cons (⟨_, _, rfl, rfl, rfl, rfl, fun a w hR hf => .inl ⟨wanted_yes hf rfl, ex_move hf rfl⟩⟩) (.cons (⟨_, _, rfl, rfl, rfl, rfl, fun a w hR hf => .inl ⟨wanted_yes hf rfl, ex_move hf rfl⟩⟩) (.cons (⟨_, _, rfl, rfl, rfl, rfl, fun a w hR hf => .inl ⟨wanted_yes hf rfl, ex_indexAddr sa_22 (rsl_isSl (osl_rsl _ hR.1)) hc100.1 hc100.2 hf rfl rfl⟩⟩) (.cons (⟨_, _, rfl, rfl, rfl, rfl, fun a w hR hf => .inl ⟨wanted_yes hf rfl, ex_fieldAddrS fa_24_2 rfl hf rfl⟩⟩) (.cons (⟨_, _, rfl, rfl, rfl, rfl, fun a w hR hf => .inl ⟨wanted_yes hf rfl, ex_load sc_2 hf rfl (el_cell (K := K_api_Trip) (f := 2) (rsl_rd (osl_rsl _ hR.1)) hc100.1 hc100.2 rfl)⟩⟩) (.cons (⟨_, _, rfl, rfl, rfl, rfl, fun a w hR hf => .inl ⟨wanted_yes hf rfl, ex_sub hf rfl rfl⟩⟩) (.cons (⟨_, _, rfl, rfl, rfl, rfl, fun a w hR hf => .inl ⟨wanted_yes hf rfl, ex_castB (ex_lss hf rfl rfl) (dec_t hc113)⟩⟩) (.cons (⟨_, _, rfl, rfl, rfl, rfl, fun a w hR hf => .inl ⟨wanted_yes hf rfl, ex_move hf rfl⟩⟩) (.cons (⟨_, _, rfl, rfl, rfl, rfl, fun a w hR hf => .inl ⟨wanted_yes hf rfl, ex_move hf rfl⟩⟩) (.cons (⟨_, _, rfl, rfl, rfl, rfl, fun a w hR hf => .inl ⟨wanted_yes hf rfl, ex_move hf rfl⟩⟩) (.cons (⟨_, _, rfl, rfl, rfl, rfl, fun a w hR hf => .inl ⟨wanted_yes hf rfl, ex_indexAddr sa_52 (rsl_isSl (osl_rsl _ hR.2.1)) hc114.1 hc114.2 hf rfl rfl⟩⟩) (.cons (⟨_, _, rfl, rfl, rfl, rfl, fun a w hR hf => .inl ⟨wanted_yes hf rfl, ex_castB (ex_load sc_4 hf rfl (el_cell (K := K_bool) (f := 0) (rsl_rd (osl_rsl _ hR.2.1)) hc114.1 hc114.2 rfl)) hc115⟩⟩) (.cons (⟨_, _, rfl, rfl, rfl, rfl, fun a w hR hf => .inl ⟨wanted_yes hf rfl, ex_pickT hf rfl rfl⟩⟩) (.cons (⟨_, _, rfl, rfl, rfl, rfl, fun a w hR hf => .inl ⟨wanted_yes hf rfl, ex_pickF hf rfl rfl⟩⟩) (.cons (⟨_, _, rfl, rfl, rfl, rfl, fun a w hR hf => .inl ⟨wanted_yes hf rfl, ex_move hf rfl⟩⟩) (.cons (⟨_, _, rfl, rfl, rfl, rfl, fun a w hR hf => .inr ⟨wanted_no hf rfl, rfl⟩⟩) (.cons (⟨_, _, rfl, rfl, rfl, rfl, fun a w hR hf => .inr ⟨wanted_no hf rfl, rfl⟩⟩) (.cons (⟨_, _, rfl, rfl, rfl, rfl, fun a w hR hf => .inr ⟨wanted_no hf rfl, rfl⟩⟩) (.cons (⟨_, _, rfl, rfl, rfl, rfl, fun a w hR hf => .inr ⟨wanted_no hf rfl, rfl⟩⟩) (.cons (⟨_, _, rfl, rfl, rfl, rfl, fun a w hR hf => .inr ⟨wanted_no hf rfl, rfl⟩⟩) (.cons (⟨_, _, rfl, rfl, rfl, rfl, fun a w hR hf => .inr ⟨wanted_no hf rfl, rfl⟩⟩) (.cons (⟨_, _, rfl, rfl, rfl, rfl, fun a w hR hf => .inr ⟨wanted_no hf rfl, rfl⟩⟩) (.cons (⟨_, _, rfl, rfl, rfl, rfl, fun a w hR hf => .inr ⟨wanted_no hf rfl, rfl⟩⟩) (.cons (⟨_, _, rfl, rfl, rfl, rfl, fun a w hR hf => .inr ⟨wanted_no hf rfl, rfl⟩⟩) (.cons (⟨_, _, rfl, rfl, rfl, rfl, fun a w hR hf => .inr ⟨wanted_no hf rfl, rfl⟩⟩) (.cons (⟨_, _, rfl, rfl, rfl, rfl, fun a w hR hf => .inr ⟨wanted_no hf rfl, rfl⟩⟩) (.cons (⟨_, _, rfl, rfl, rfl, rfl, fun a w hR hf => .inr ⟨wanted_no hf rfl, rfl⟩⟩) (.cons (⟨_, _, rfl, rfl, rfl, rfl, fun a w hR hf => .inr ⟨wanted_no hf rfl, rfl⟩⟩) (.cons (⟨_, _, rfl, rfl, rfl, rfl, fun a w hR hf => .inr ⟨wanted_no hf rfl, rfl⟩⟩) (.cons (⟨_, _, rfl, rfl, rfl, rfl, fun a w hR hf => .inr ⟨wanted_no hf rfl, rfl⟩⟩) (.cons (⟨_, _, rfl, rfl, rfl, rfl, fun a w hR hf => .inr ⟨wanted_no hf rfl, rfl⟩⟩) (.cons (⟨_, _, rfl, rfl, rfl, rfl, fun a w hR hf => .inr ⟨wanted_no hf rfl, rfl⟩⟩) (.cons (⟨_, _, rfl, rfl, rfl, rfl, fun a w hR hf => .inr ⟨wanted_no hf rfl, rfl⟩⟩) (.cons (⟨_, _, rfl, rfl, rfl, rfl, fun a w hR hf => .inr ⟨wanted_no hf rfl, rfl⟩⟩) (.cons (⟨_, _, rfl, rfl, rfl, rfl, fun a w hR hf => .inr ⟨wanted_no hf rfl, rfl⟩⟩) (.cons (⟨_, _, rfl, rfl, rfl, rfl, fun a w hR hf => .inr ⟨wanted_no hf rfl, rfl⟩⟩) (.cons (⟨_, _, rfl, rfl, rfl, rfl, fun a w hR hf => .inr ⟨wanted_no hf rfl, rfl⟩⟩) (.cons (⟨_, _, rfl, rfl, rfl, rfl, fun a w hR hf => .inr ⟨wanted_no hf rfl, rfl⟩⟩) (.cons (⟨_, _, rfl, rfl, rfl, rfl, fun a w hR hf => .inr ⟨wanted_no hf rfl, rfl⟩⟩) (.cons (⟨_, _, rfl, rfl, rfl, rfl, fun a w hR hf => .inr ⟨wanted_no hf rfl, rfl⟩⟩) (.cons (⟨_, _, rfl, rfl, rfl, rfl, fun a w hR hf => .inr ⟨wanted_no hf rfl, rfl⟩⟩) (.cons (⟨_, _, rfl, rfl, rfl, rfl, fun a w hR hf => .inr ⟨wanted_no hf rfl, rfl⟩⟩) (.cons (⟨_, _, rfl, rfl, rfl, rfl, fun a w hR hf => .inr ⟨wanted_no hf rfl, rfl⟩⟩) (.cons (⟨_, _, rfl, rfl, rfl, rfl, fun a w hR hf => .inr ⟨wanted_no hf rfl, rfl⟩⟩) (.cons (⟨_, _, rfl, rfl, rfl, rfl, fun a w hR hf => .inr ⟨wanted_no hf rfl, rfl⟩⟩) (.cons (⟨_, _, rfl, rfl, rfl, rfl, fun a w hR hf => .inr ⟨wanted_no hf rfl, rfl⟩⟩) (.cons (⟨_, _, rfl, rfl, rfl, rfl, fun a w hR hf => .inr ⟨wanted_no hf rfl, rfl⟩⟩) (.cons (⟨_, _, rfl, rfl, rfl, rfl, fun a w hR hf => .inr ⟨wanted_no hf rfl, rfl⟩⟩) (.cons (⟨_, _, rfl, rfl, rfl, rfl, fun a w hR hf => .inl ⟨wanted_yes hf rfl, ex_pickT hf rfl rfl⟩⟩) (.nil))))))))))))))))))))))))))))))))))))))))))))))))))))))))))))))))))))))) (fun K116 hK116 => ?_)
                                            refine RW.zero (by kernel_rfl) (by kernel_rfl) [(2, v2), (7, v11), (8, .int .i64 s12), (9, .pointer (some ⟨b24, 0, none⟩)), (11, v42), (12, .int .i64 y46), (13, .int .i64 y47), (14, .int .i64 s58), (15, .int .i64 s60.2.2.1), (16, .bool s60.2.2.2.1), (18, v64), (19, .bool y88), (20, .bool y89), (21, .int .i64 y90), (181, .bool true)] ⟨rfl, rfl, rfl, rfl, rfl, rfl, rfl, rfl, rfl, rfl, rfl, rfl, rfl, rfl, rfl, trivial⟩ (fun a w hR hs hf => ?_)
                                            refine hK116 _ _ ?_
                                            have e99 := some_eq H; subst e99
                                            exact hJ99 _ _ ⟨hf.sub ⟨rfl, rfl, rfl, rfl, rfl, rfl, rfl, rfl, rfl, rfl, rfl, rfl, rfl, rfl, rfl, trivial⟩, hs⟩
                                          · -- not (gd false s63 y90) = true
                                            refine itt H (fun hc117 H => ?_) (fun hc117 H => ?_)
                                            · -- s58 < ((gd Trip.zero s10 y90).Temperature)
                                              refine itt H (fun hc118 H => ?_) (fun hc118 H => ?_)
                                              · -- (IntKind.i64.wrap (((gd Trip.zero s10 y90).Temperature) - ((
                                                refine ck_some H (fun hc119 H => ?_)
                                                refine region_d fol 70 [(2, v2), (7, v11), (8, .int .i64 s12), (9, .pointer (some ⟨b24, 0, none⟩)), (11, v42), (12, .int .i64 y46), (13, .int .i64 y47), (14, .int .i64 s58), (15, .int .i64 s60.2.2.1), (16, .bool s60.2.2.2.1), (18, v64), (19, .bool y88), (20, .bool y89), (21, .int .i64 y90)] [(0, .int .i64 s58), (1, v11), (2, .int .i64 y90), (3, .pointer (some (sla v11 (y90.toNat * 3)))), (4, .pointer (some (sla v11 (y90.toNat * 3 + 1)))), (5, .int .i64 ((gd Trip.zero s10 y90).Temperature)), (6, .bool false), (7, .bool false), (8, undef), (9, undef), (10, undef), (11, undef), (12, undef), (13, .bool false), (14, .bool false), (15, .int .i64 s58), (16, v11), (17, .int .i64 y90), (18, .pointer (some (sla v11 (y90.toNat * 3)))), (19, .pointer (some (sla v11 (y90.toNat * 3 + 1)))), (20, .int .i64 ((gd Trip.zero s10 y90).Temperature)), (21, v11), (22, .int .i64 y90), (23, .pointer (some (sla v11 (y90.toNat * 3)))), (24, .pointer (some (sla v11 (y90.toNat * 3 + 2)))), (25, .int .i64 ((gd Trip.zero s10 y90).Hysteresis)), (26, .int .i64 (IntKind.i64.wrap (((gd Trip.zero s10 y90).Temperature) - ((gd Trip.zero s10 y90).Hysteresis)))), (27, .bool true), (28, .bool true), (29, v64), (30, .int .i64 y90), (31, .pointer (some (sla v64 (y90.toNat * 1)))), (32, .bool false), (33, .bool false), (34, .bool false), (35, .bool false), (36, .int .i64 s58), (37, v11), (38, .int .i64 y90), (39, .pointer (some (sla v11 (y90.toNat * 3)))), (40, .pointer (some (sla v11 (y90.toNat * 3 + 1)))), (41, .int .i64 ((gd Trip.zero s10 y90).Temperature)), (42, .bool true), (43, .bool true), (44, .int .i64 s58), (45, v11), (46, .int .i64 y90), (47, .pointer (some (sla v11 (y90.toNat * 3)))), (48, .pointer (some (sla v11 (y90.toNat * 3 + 1)))), (49, .int .i64 ((gd Trip.zero s10 y90).Temperature)), (50, v11), (51, .int .i64 y90), (52, .pointer (some (sla v11 (y90.toNat * 3)))), (53, .pointer (some (sla v11 (y90.toNat * 3 + 2)))), (54, .int .i64 ((gd Trip.zero s10 y90).Hysteresis)), (55, .int .i64 (IntKind.i64.wrap (((gd Trip.zero s10 y90).Temperature) - ((gd Trip.zero s10 y90).Hysteresis)))), (56, .bool true), (57, .bool true), (58, .bool true), (59, v64), (60, .int .i64 y90), (61, .pointer (some (sla v64 (y90.toNat * 1)))), (62, .bool false), (63, v42), (64, .int .i64 y90), (65, .pointer (some (sla v42 (y90.toNat * 1)))), (66, .bool (gd false y45 y90)), (67, .bool (!(false == (gd false y45 y90)))), (68, .bool (!(false == (gd false y45 y90)))), (69, .bool (!(false == (gd false y45 y90))))] [] (fun w => (osl K_api_Trip v11 s10).ok w ∧ (osl K_bool v64 s63).ok w ∧ (osl K_bool v42 y45).ok w ∧ True) (fun w => St M w0 w [osl K_api_Trip v11 s10, bx b24 62 [v25, v61, .int .i64 c16.2.2.1, .int .i64 s60.1], osl K_api_Trip v25 c16.1, osl K_bool v61 s60.2.1, osl K_bool v42 y45, osl K_bool v64 s63]) hf ⟨rfl, rfl, rfl, rfl, rfl, rfl, rfl, rfl, rfl, rfl, rfl, rfl, rfl, rfl, trivial⟩ (by kernel_rfl) (by kernel_rfl) rfl (by decide) ⟨hs.drew.get (i := 0) rfl, hs.drew.get (i := 5) rfl, hs.drew.get (i := 4) rfl, trivial⟩ hs.drew (.cons (⟨_, _, rfl, rfl, rfl, rfl, fun a w hR hf => .inl ⟨wanted_yes hf rfl, ex_move hf rfl⟩⟩) (.cons (⟨_, _, rfl, rfl, rfl, rfl, fun a w hR hf => .inl ⟨wanted_yes hf rfl, ex_move hf rfl⟩⟩) (.cons (⟨_, _, rfl, rfl, rfl, rfl, fun a w hR hf => .inl ⟨wanted_yes hf rfl, ex_move hf rfl⟩⟩) (.cons (⟨_, _, rfl, rfl, rfl, rfl, fun a w hR hf => .inl ⟨wanted_yes hf rfl, ex_indexAddr sa_22 (rsl_isSl (osl_rsl _ hR.1)) hc100.1 hc100.2 hf rfl rfl⟩⟩) (.cons (⟨_, _, rfl, rfl, rfl, rfl, fun a w hR hf => .inl ⟨wanted_yes hf rfl, ex_fieldAddrS fa_24_1 rfl hf rfl⟩⟩) (.cons (⟨_, _, rfl, rfl, rfl, rfl, fun a w hR hf => .inl ⟨wanted_yes hf rfl, ex_load sc_2 hf rfl (el_cell (K := K_api_Trip) (f := 1) (rsl_rd (osl_rsl _ hR.1)) hc100.1 hc100.2 rfl)⟩⟩) (.cons (⟨_, _, rfl, rfl, rfl, rfl, fun a w hR hf => .inl ⟨wanted_yes hf rfl, ex_castB (ex_geq hf rfl rfl) (dec_f hc101)⟩⟩) (.cons (⟨_, _, rfl, rfl, rfl, rfl, fun a w hR hf => .inl ⟨wanted_yes hf rfl, ex_move hf rfl⟩⟩) (.cons (⟨_, _, rfl, rfl, rfl, rfl, fun a w hR hf => .inr ⟨wanted_no hf rfl, rfl⟩⟩) (.cons (⟨_, _, rfl, rfl, rfl, rfl, fun a w hR hf => .inr ⟨wanted_no hf rfl, rfl⟩⟩) (.cons (⟨_, _, rfl, rfl, rfl, rfl, fun a w hR hf => .inr ⟨wanted_no hf rfl, rfl⟩⟩) (.cons (⟨_, _, rfl, rfl, rfl, rfl, fun a w hR hf => .inr ⟨wanted_no hf rfl, rfl⟩⟩) (.cons (⟨_, _, rfl, rfl, rfl, rfl, fun a w hR hf => .inr ⟨wanted_no hf rfl, rfl⟩⟩) (.cons (⟨_, _, rfl, rfl, rfl, rfl, fun a w hR hf => .inl ⟨wanted_yes hf rfl, ex_pickF hf rfl rfl⟩⟩) (.cons (⟨_, _, rfl, rfl, rfl, rfl, fun a w hR hf => .inl ⟨wanted_yes hf rfl, ex_move hf rfl⟩⟩) (.cons (⟨_, _, rfl, rfl, rfl, rfl, fun a w hR hf => .inl ⟨wanted_yes hf rfl, ex_move hf rfl⟩⟩) (.cons (⟨_, _, rfl, rfl, rfl, rfl, fun a w hR hf => .inl ⟨wanted_yes hf rfl, ex_move hf rfl⟩⟩) (.cons (⟨_, _, rfl, rfl, rfl, rfl, fun a w hR hf => .inl ⟨wanted_yes hf rfl, ex_move hf rfl⟩⟩) (.cons (⟨_, _, rfl, rfl, rfl, rfl, fun a w hR hf => .inl ⟨wanted_yes hf rfl, ex_indexAddr sa_22 (rsl_isSl (osl_rsl _ hR.1)) hc100.1 hc100.2 hf rfl rfl⟩⟩) (.cons (⟨_, _, rfl, rfl, rfl, rfl, fun a w hR hf => .inl ⟨wanted_yes hf rfl, ex_fieldAddrS fa_24_1 rfl hf rfl⟩⟩) (.cons (⟨_, _, rfl, rfl, rfl, rfl, fun a w hR hf => .inl ⟨wanted_yes hf rfl, ex_load sc_2 hf rfl (el_cell (K := K_api_Trip) (f := 1) (rsl_rd (osl_rsl _ hR.1)) hc100.1 hc100.2 rfl)⟩⟩) (.cons (⟨_, _, rfl, rfl, rfl, rfl, fun a w hR hf => .inl ⟨wanted_yes hf rfl, ex_move hf rfl⟩⟩) (.cons (⟨_, _, rfl, rfl, rfl, rfl, fun a w hR hf => .inl ⟨wanted_yes hf rfl, ex_move hf rfl⟩⟩) (.cons (⟨_, _, rfl, rfl, rfl, rfl, fun a w hR hf => .inl ⟨wanted_yes hf rfl, ex_indexAddr sa_22 (rsl_isSl (osl_rsl _ hR.1)) hc100.1 hc100.2 hf rfl rfl⟩⟩) (.cons (⟨_, _, rfl, rfl, rfl, rfl, fun a w hR hf => .inl ⟨wanted_yes hf rfl, ex_fieldAddrS fa_24_2 rfl hf rfl⟩⟩) (.cons (⟨_, _, rfl, rfl, rfl, rfl, fun a w hR hf => .inl ⟨wanted_yes hf rfl, ex_load sc_2 hf rfl (el_cell (K := K_api_Trip) (f := 2) (rsl_rd (osl_rsl _ hR.1)) hc100.1 hc100.2 rfl)⟩⟩) (.cons (⟨_, _, rfl, rfl, rfl, rfl, fun a w hR hf => .inl ⟨wanted_yes hf rfl, ex_sub hf rfl rfl⟩⟩) (.cons (⟨_, _, rfl, rfl, rfl, rfl, fun a w hR hf => .inl ⟨wanted_yes hf rfl, ex_castB (ex_lss hf rfl rfl) (dec_t hc113)⟩⟩) (.cons (⟨_, _, rfl, rfl, rfl, rfl, fun a w hR hf => .inl ⟨wanted_yes hf rfl, ex_move hf rfl⟩⟩) (.cons (⟨_, _, rfl, rfl, rfl, rfl, fun a w hR hf => .inl ⟨wanted_yes hf rfl, ex_move hf rfl⟩⟩) (.cons (⟨_, _, rfl, rfl, rfl, rfl, fun a w hR hf => .inl ⟨wanted_yes hf rfl, ex_move hf rfl⟩⟩) (.cons (⟨_, _, rfl, rfl, rfl, rfl, fun a w hR hf => .inl ⟨wanted_yes hf rfl, ex_indexAddr sa_52 (rsl_isSl (osl_rsl _ hR.2.1)) hc114.1 hc114.2 hf rfl rfl⟩⟩) (.cons (⟨_, _, rfl, rfl, rfl, rfl, fun a w hR hf => .inl ⟨wanted_yes hf rfl, ex_castB (ex_load sc_4 hf rfl (el_cell (K := K_bool) (f := 0) (rsl_rd (osl_rsl _ hR.2.1)) hc114.1 hc114.2 rfl)) (bool_f hc115)⟩⟩) (.cons (⟨_, _, rfl, rfl, rfl, rfl, fun a w hR hf => .inl ⟨wanted_yes hf rfl, ex_pickT hf rfl rfl⟩⟩) (.cons (⟨_, _, rfl, rfl, rfl, rfl, fun a w hR hf => .inl ⟨wanted_yes hf rfl, ex_pickF hf rfl rfl⟩⟩) (.cons (⟨_, _, rfl, rfl, rfl, rfl, fun a w hR hf => .inl ⟨wanted_yes hf rfl, ex_move hf rfl⟩⟩) (.cons (⟨_, _, rfl, rfl, rfl, rfl, fun a w hR hf => .inl ⟨wanted_yes hf rfl, ex_move hf rfl⟩⟩) (.cons (⟨_, _, rfl, rfl, rfl, rfl, fun a w hR hf => .inl ⟨wanted_yes hf rfl, ex_move hf rfl⟩⟩) (.cons (⟨_, _, rfl, rfl, rfl, rfl, fun a w hR hf => .inl ⟨wanted_yes hf rfl, ex_move hf rfl⟩⟩) (.cons (⟨_, _, rfl, rfl, rfl, rfl, fun a w hR hf => .inl ⟨wanted_yes hf rfl, ex_indexAddr sa_22 (rsl_isSl (osl_rsl _ hR.1)) hc100.1 hc100.2 hf rfl rfl⟩⟩) (.cons (⟨_, _, rfl, rfl, rfl, rfl, fun a w hR hf => .inl ⟨wanted_yes hf rfl, ex_fieldAddrS fa_24_1 rfl hf rfl⟩⟩) (.cons (⟨_, _, rfl, rfl, rfl, rfl, fun a w hR hf => .inl ⟨wanted_yes hf rfl, ex_load sc_2 hf rfl (el_cell (K := K_api_Trip) (f := 1) (rsl_rd (osl_rsl _ hR.1)) hc100.1 hc100.2 rfl)⟩⟩) (.cons (⟨_, _, rfl, rfl, rfl, rfl, fun a w hR hf => .inl ⟨wanted_yes hf rfl, ex_castB (ex_lss hf rfl rfl) (dec_t hc117)⟩⟩) (.cons (⟨_, _, rfl, rfl, rfl, rfl, fun a w hR hf => .inl ⟨wanted_yes hf rfl, ex_move hf rfl⟩⟩) (.cons (⟨_, _, rfl, rfl, rfl, rfl, fun a w hR hf => .inl ⟨wanted_yes hf rfl, ex_move hf rfl⟩⟩) (.cons (⟨_, _, rfl, rfl, rfl, rfl, fun a w hR hf => .inl ⟨wanted_yes hf rfl, ex_move hf rfl⟩⟩) (.cons (⟨_, _, rfl, rfl, rfl, rfl, fun a w hR hf => .inl ⟨wanted_yes hf rfl, ex_move hf rfl⟩⟩) (.cons (⟨_, _, rfl, rfl, rfl, rfl, fun a w hR hf => .inl ⟨wanted_yes hf rfl, ex_indexAddr sa_22 (rsl_isSl (osl_rsl _ hR.1)) hc100.1 hc100.2 hf rfl rfl⟩⟩) (.cons (⟨_, _, rfl, rfl, rfl, rfl, fun a w hR hf => .inl ⟨wanted_yes hf rfl, ex_fieldAddrS fa_24_1 rfl hf rfl⟩⟩) (.cons (⟨_, _, rfl, rfl, rfl, rfl, fun a w hR hf => .inl ⟨wanted_yes hf rfl, ex_load sc_2 hf rfl (el_cell (K := K_api_Trip) (f := 1) (rsl_rd (osl_rsl _ hR.1)) hc100.1 hc100.2 rfl)⟩⟩) (.cons (⟨_, _, rfl, rfl, rfl, rfl, fun a w hR hf => .inl ⟨wanted_yes hf rfl, ex_move hf rfl⟩⟩) (.cons (⟨_, _, rfl, rfl, rfl, rfl, fun a w hR hf => .inl ⟨wanted_yes hf rfl, ex_move hf rfl⟩⟩) (.cons (⟨_, _, rfl, rfl, rfl, rfl, fun a w hR hf => .inl ⟨wanted_yes hf rfl, ex_indexAddr sa_22 (rsl_isSl (osl_rsl _ hR.1)) hc100.1 hc100.2 hf rfl rfl⟩⟩) (.cons (⟨_, _, rfl, rfl, rfl, rfl, fun a w hR hf => .inl ⟨wanted_yes hf rfl, ex_fieldAddrS fa_24_2 rfl hf rfl⟩⟩) (.cons (⟨_, _, rfl, rfl, rfl, rfl, fun a w hR hf => .inl ⟨wanted_yes hf rfl, ex_load sc_2 hf rfl (el_cell (K := K_api_Trip) (f := 2) (rsl_rd (osl_rsl _ hR.1)) hc100.1 hc100.2 rfl)⟩⟩) (.cons (⟨_, _, rfl, rfl, rfl, rfl, fun a w hR hf => .inl ⟨wanted_yes hf rfl, ex_sub hf rfl rfl⟩⟩) (.cons (⟨_, _, rfl, rfl, rfl, rfl, fun a w hR hf => .inl ⟨wanted_yes hf rfl, ex_castB (ex_geq hf rfl rfl) (dec_t hc118)⟩⟩) (.cons (⟨_, _, rfl, rfl, rfl, rfl, fun a w hR hf => .inl ⟨wanted_yes hf rfl, ex_pickT hf rfl rfl⟩⟩) (.cons (⟨_, _, rfl, rfl, rfl, rfl, fun a w hR hf => .inl ⟨wanted_yes hf rfl, ex_move hf rfl⟩⟩) (.cons (⟨_, _, rfl, rfl, rfl, rfl, fun a w hR hf => .inl ⟨wanted_yes hf rfl, ex_move hf rfl⟩⟩) (.cons (⟨_, _, rfl, rfl, rfl, rfl, fun a w hR hf => .inl ⟨wanted_yes hf rfl, ex_move hf rfl⟩⟩) (.cons (⟨_, _, rfl, rfl, rfl, rfl, fun a w hR hf => .inl ⟨wanted_yes hf rfl, ex_indexAddr sa_52 (rsl_isSl (osl_rsl _ hR.2.1)) hc114.1 hc114.2 hf rfl rfl⟩⟩) (.cons (⟨_, _, rfl, rfl, rfl, rfl, fun a w hR hf => .inl ⟨wanted_yes hf rfl, ex_castB (ex_load sc_4 hf rfl (el_cell (K := K_bool) (f := 0) (rsl_rd (osl_rsl _ hR.2.1)) hc114.1 hc114.2 rfl)) (bool_f hc115)⟩⟩) (.cons (⟨_, _, rfl, rfl, rfl, rfl, fun a w hR hf => .inl ⟨wanted_yes hf rfl, ex_move hf rfl⟩⟩) (.cons (⟨_, _, rfl, rfl, rfl, rfl, fun a w hR hf => .inl ⟨wanted_yes hf rfl, ex_move hf rfl⟩⟩) (.cons (⟨_, _, rfl, rfl, rfl, rfl, fun a w hR hf => .inl ⟨wanted_yes hf rfl, ex_indexAddr sa_52 (rsl_isSl (osl_rsl _ hR.2.2.1)) hc119.1 hc119.2 hf rfl rfl⟩⟩) (.cons (⟨_, _, rfl, rfl, rfl, rfl, fun a w hR hf => .inl ⟨wanted_yes hf rfl, ex_load sc_4 hf rfl (el_cell (K := K_bool) (f := 0) (rsl_rd (osl_rsl _ hR.2.2.1)) hc119.1 hc119.2 rfl)⟩⟩) (.cons (⟨_, _, rfl, rfl, rfl, rfl, fun a w hR hf => .inl ⟨wanted_yes hf rfl, ex_neb Try.underlying4 hf rfl rfl⟩⟩) (.cons (⟨_, _, rfl, rfl, rfl, rfl, fun a w hR hf => .inl ⟨wanted_yes hf rfl, ex_pickT hf rfl rfl⟩⟩) (.cons (⟨_, _, rfl, rfl, rfl, rfl, fun a w hR hf => .inl ⟨wanted_yes hf rfl, ex_pickF hf rfl rfl⟩⟩) (.nil))))))))))))))))))))))))))))))))))))))))))))))))))))))))))))))))))))))) (fun K120 hK120 => ?_)
                                                refine RW.zero (by kernel_rfl) (by kernel_rfl) [(2, v2), (7, v11), (8, .int .i64 s12), (9, .pointer (some ⟨b24, 0, none⟩)), (11, v42), (12, .int .i64 y46), (13, .int .i64 y47), (14, .int .i64 s58), (15, .int .i64 s60.2.2.1), (16, .bool s60.2.2.2.1), (18, v64), (19, .bool y88), (20, .bool y89), (21, .int .i64 y90), (181, .bool (!(false == (gd false y45 y90))))] ⟨rfl, rfl, rfl, rfl, rfl, rfl, rfl, rfl, rfl, rfl, rfl, rfl, rfl, rfl, rfl, trivial⟩ (fun a w hR hs hf => ?_)
                                                refine hK120 _ _ ?_
                                                have e99 := some_eq H; subst e99
                                                exact hJ99 _ _ ⟨hf.sub ⟨rfl, rfl, rfl, rfl, rfl, rfl, rfl, rfl, rfl, rfl, rfl, rfl, rfl, rfl, rfl, trivial⟩, hs⟩
                                              · -- not (IntKind.i64.wrap (((gd Trip.zero s10 y90).Temperature) - ((
                                                refine region_d fol 70 [(2, v2), (7, v11), (8, .int .i64 s12), (9, .pointer (some ⟨b24, 0, none⟩)), (11, v42), (12, .int .i64 y46), (13, .int .i64 y47), (14, .int .i64 s58), (15, .int .i64 s60.2.2.1), (16, .bool s60.2.2.2.1), (18, v64), (19, .bool y88), (20, .bool y89), (21, .int .i64 y90)] [(0, .int .i64 s58), (1, v11), (2, .int .i64 y90), (3, .pointer (some (sla v11 (y90.toNat * 3)))), (4, .pointer (some (sla v11 (y90.toNat * 3 + 1)))), (5, .int .i64 ((gd Trip.zero s10 y90).Temperature)), (6, .bool false), (7, .bool false), (8, undef), (9, undef), (10, undef), (11, undef), (12, undef), (13, .bool false), (14, .bool false), (15, .int .i64 s58), (16, v11), (17, .int .i64 y90), (18, .pointer (some (sla v11 (y90.toNat * 3)))), (19, .pointer (some (sla v11 (y90.toNat * 3 + 1)))), (20, .int .i64 ((gd Trip.zero s10 y90).Temperature)), (21, v11), (22, .int .i64 y90), (23, .pointer (some (sla v11 (y90.toNat * 3)))), (24, .pointer (some (sla v11 (y90.toNat * 3 + 2)))), (25, .int .i64 ((gd Trip.zero s10 y90).Hysteresis)), (26, .int .i64 (IntKind.i64.wrap (((gd Trip.zero s10 y90).Temperature) - ((gd Trip.zero s10 y90).Hysteresis)))), (27, .bool true), (28, .bool true), (29, v64), (30, .int .i64 y90), (31, .pointer (some (sla v64 (y90.toNat * 1)))), (32, .bool false), (33, .bool false), (34, .bool false), (35, .bool false), (36, .int .i64 s58), (37, v11), (38, .int .i64 y90), (39, .pointer (some (sla v11 (y90.toNat * 3)))), (40, .pointer (some (sla v11 (y90.toNat * 3 + 1)))), (41, .int .i64 ((gd Trip.zero s10 y90).Temperature)), (42, .bool true), (43, .bool true), (44, .int .i64 s58), (45, v11), (46, .int .i64 y90), (47, .pointer (some (sla v11 (y90.toNat * 3)))), (48, .pointer (some (sla v11 (y90.toNat * 3 + 1)))), (49, .int .i64 ((gd Trip.zero s10 y90).Temperature)), (50, v11), (51, .int .i64 y90), (52, .pointer (some (sla v11 (y90.toNat * 3)))), (53, .pointer (some (sla v11 (y90.toNat * 3 + 2)))), (54, .int .i64 ((gd Trip.zero s10 y90).Hysteresis)), (55, .int .i64 (IntKind.i64.wrap (((gd Trip.zero s10 y90).Temperature) - ((gd Trip.zero s10 y90).Hysteresis)))), (56, .bool false), (57, .bool false), (58, .bool false), (59, undef), (60, undef), (61, undef), (62, undef), (63, undef), (64, undef), (65, undef), (66, undef), (67, undef), (68, .bool false), (69, .bool false)] [] (fun w => (osl K_api_Trip v11 s10).ok w ∧ (osl K_bool v64 s63).ok w ∧ (osl K_bool v42 y45).ok w ∧ True) (fun w => St M w0 w [osl K_api_Trip v11 s10, bx b24 62 [v25, v61, .int .i64 c16.2.2.1, .int .i64 s60.1], osl K_api_Trip v25 c16.1, osl K_bool v61 s60.2.1, osl K_bool v42 y45, osl K_bool v64 s63]) hf ⟨rfl, rfl, rfl, rfl, rfl, rfl, rfl, rfl, rfl, rfl, rfl, rfl, rfl, rfl, trivial⟩ (by kernel_rfl) (by kernel_rfl) rfl (by decide) ⟨hs.drew.get (i := 0) rfl, hs.drew.get (i := 5) rfl, hs.drew.get (i := 4) rfl, trivial⟩ hs.drew (.cons (⟨_, _, rfl, rfl, rfl, rfl, fun a w hR hf => .inl ⟨wanted_yes hf rfl, ex_move hf rfl⟩⟩) (.cons (⟨_, _, rfl, rfl, rfl, rfl, fun a w hR hf => .inl ⟨wanted_yes hf rfl, ex_move hf rfl⟩⟩) (.cons (⟨_, _, rfl, rfl, rfl, rfl, fun a w hR hf => .inl ⟨wanted_yes hf rfl, ex_move hf rfl⟩⟩) (.cons (⟨_, _, rfl, rfl, rfl, rfl, fun a w hR hf => .inl ⟨wanted_yes hf rfl, ex_indexAddr sa_22 (rsl_isSl (osl_rsl _ hR.1)) hc100.1 hc100.2 hf rfl rfl⟩⟩) (.cons (⟨_, _, rfl, rfl, rfl, rfl, fun a w hR hf => .inl ⟨wanted_yes hf rfl, ex_fieldAddrS fa_24_1 rfl hf rfl⟩⟩) (.cons (⟨_, _, rfl, rfl, rfl, rfl, fun a w hR hf => .inl ⟨wanted_yes hf rfl, ex_load sc_2 hf rfl (el_cell (K := K_api_Trip) (f := 1) (rsl_rd (osl_rsl _ hR.1)) hc100.1 hc100.2 rfl)⟩⟩) (.cons (⟨_, _, rfl, rfl, rfl, rfl, fun a w hR hf => .inl ⟨wanted_yes hf rfl, ex_castB (ex_geq hf rfl rfl) (dec_f hc101)⟩⟩) (.cons (⟨_, _, rfl, rfl, rfl, rfl, fun a w hR hf => .inl ⟨wanted_yes hf rfl, ex_move hf rfl⟩⟩) (.cons (⟨_, _, rfl, rfl, rfl, rfl, fun a w hR hf => .inr ⟨wanted_no hf rfl, rfl⟩⟩) (.cons (⟨_, _, rfl, rfl, rfl, rfl, fun a w hR hf => .inr ⟨wanted_no hf rfl, rfl⟩⟩) (.cons (⟨_, _, rfl, rfl, rfl, rfl, fun a w hR hf => .inr ⟨wanted_no hf rfl, rfl⟩⟩) (.cons (⟨_, _, rfl, rfl, rfl, rfl, fun a w hR hf => .inr ⟨wanted_no hf rfl, rfl⟩⟩) (.cons (⟨_, _, rfl, rfl, rfl, rfl, fun a w hR hf => .inr ⟨wanted_no hf rfl, rfl⟩⟩) (.cons (⟨_, _, rfl, rfl, rfl, rfl, fun a w hR hf => .inl ⟨wanted_yes hf rfl, ex_pickF hf rfl rfl⟩⟩) (.cons (⟨_, _, rfl, rfl, rfl, rfl, fun a w hR hf => .inl ⟨wanted_yes hf rfl, ex_move hf rfl⟩⟩) (.cons (⟨_, _, rfl, rfl, rfl, rfl, fun a w hR hf => .inl ⟨wanted_yes hf rfl, ex_move hf rfl⟩⟩) (.cons (⟨_, _, rfl, rfl, rfl, rfl, fun a w hR hf => .inl ⟨wanted_yes hf rfl, ex_move hf rfl⟩⟩) (.cons (⟨_, _, rfl, rfl, rfl, rfl, fun a w hR hf => .inl ⟨wanted_yes hf rfl, ex_move hf rfl⟩⟩) (.cons (⟨_, _, rfl, rfl, rfl, rfl, fun a w hR hf => .inl ⟨wanted_yes hf rfl, ex_indexAddr sa_22 (rsl_isSl (osl_rsl _ hR.1)) hc100.1 hc100.2 hf rfl rfl⟩⟩) (.cons (⟨_, _, rfl, rfl, rfl, rfl, fun a w hR hf => .inl ⟨wanted_yes hf rfl, ex_fieldAddrS fa_24_1 rfl hf rfl⟩⟩) (.cons (⟨_, _, rfl, rfl, rfl, rfl, fun a w hR hf => .inl ⟨wanted_yes hf rfl, ex_load sc_2 hf rfl (el_cell (K := K_api_Trip) (f := 1) (rsl_rd (osl_rsl _ hR.1)) hc100.1 hc100.2 rfl)⟩⟩) (.cons (⟨_, _, rfl, rfl, rfl, rfl, fun a w hR hf => .inl ⟨wanted_yes hf rfl, ex_move hf rfl⟩⟩) (.cons (⟨_, _, rfl, rfl, rfl, rfl, fun a w hR hf => .inl ⟨wanted_yes hf rfl, ex_move hf rfl⟩⟩) (.cons (⟨_, _, rfl, rfl, rfl, rfl, fun a w hR hf => .inl ⟨wanted_yes hf rfl, ex_indexAddr sa_22 (rsl_isSl (osl_rsl _ hR.1)) hc100.1 hc100.2 hf rfl rfl⟩⟩) (.cons (⟨_, _, rfl, rfl, rfl, rfl, fun a w hR hf => .inl ⟨wanted_yes hf rfl, ex_fieldAddrS fa_24_2 rfl hf rfl⟩⟩) (.cons (⟨_, _, rfl, rfl, rfl, rfl, fun a w hR hf => .inl ⟨wanted_yes hf rfl, ex_load sc_2 hf rfl (el_cell (K := K_api_Trip) (f := 2) (rsl_rd (osl_rsl _ hR.1)) hc100.1 hc100.2 rfl)⟩⟩) (.cons (⟨_, _, rfl, rfl, rfl, rfl, fun a w hR hf => .inl ⟨wanted_yes hf rfl, ex_sub hf rfl rfl⟩⟩) (.cons (⟨_, _, rfl, rfl, rfl, rfl, fun a w hR hf => .inl ⟨wanted_yes hf rfl, ex_castB (ex_lss hf rfl rfl) (dec_t hc113)⟩⟩) (.cons (⟨_, _, rfl, rfl, rfl, rfl, fun a w hR hf => .inl ⟨wanted_yes hf rfl, ex_move hf rfl⟩⟩) (.cons (⟨_, _, rfl, rfl, rfl, rfl, fun a w hR hf => .inl ⟨wanted_yes hf rfl, ex_move hf rfl⟩⟩) (.cons (⟨_, _, rfl, rfl, rfl, rfl, fun a w hR hf => .inl ⟨wanted_yes hf rfl, ex_move hf rfl⟩⟩) (.cons (⟨_, _, rfl, rfl, rfl, rfl, fun a w hR hf => .inl ⟨wanted_yes hf rfl, ex_indexAddr sa_52 (rsl_isSl (osl_rsl _ hR.2.1)) hc114.1 hc114.2 hf rfl rfl⟩⟩) (.cons (⟨_, _, rfl, rfl, rfl, rfl, fun a w hR hf => .inl ⟨wanted_yes hf rfl, ex_castB (ex_load sc_4 hf rfl (el_cell (K := K_bool) (f := 0) (rsl_rd (osl_rsl _ hR.2.1)) hc114.1 hc114.2 rfl)) (bool_f hc115)⟩⟩) (.cons (⟨_, _, rfl, rfl, rfl, rfl, fun a w hR hf => .inl ⟨wanted_yes hf rfl, ex_pickT hf rfl rfl⟩⟩) (.cons (⟨_, _, rfl, rfl, rfl, rfl, fun a w hR hf => .inl ⟨wanted_yes hf rfl, ex_pickF hf rfl rfl⟩⟩) (.cons (⟨_, _, rfl, rfl, rfl, rfl, fun a w hR hf => .inl ⟨wanted_yes hf rfl, ex_move hf rfl⟩⟩) (.cons (⟨_, _, rfl, rfl, rfl, rfl, fun a w hR hf => .inl ⟨wanted_yes hf rfl, ex_move hf rfl⟩⟩) (.cons (⟨_, _, rfl, rfl, rfl, rfl, fun a w hR hf => .inl ⟨wanted_yes hf rfl, ex_move hf rfl⟩⟩) (.cons (⟨_, _, rfl, rfl, rfl, rfl, fun a w hR hf => .inl ⟨wanted_yes hf rfl, ex_move hf rfl⟩⟩) (.cons (⟨_, _, rfl, rfl, rfl, rfl, fun a w hR hf => .inl ⟨wanted_yes hf rfl, ex_indexAddr sa_22 (rsl_isSl (osl_rsl _ hR.1)) hc100.1 hc100.2 hf rfl rfl⟩⟩) (.cons (⟨_, _, rfl, rfl, rfl, rfl, fun a w hR hf => .inl ⟨wanted_yes hf rfl, ex_fieldAddrS fa_24_1 rfl hf rfl⟩⟩) (.cons (⟨_, _, rfl, rfl, rfl, rfl, fun a w hR hf => .inl ⟨wanted_yes hf rfl, ex_load sc_2 hf rfl (el_cell (K := K_api_Trip) (f := 1) (rsl_rd (osl_rsl _ hR.1)) hc100.1 hc100.2 rfl)⟩⟩) (.cons (⟨_, _, rfl, rfl, rfl, rfl, fun a w hR hf => .inl ⟨wanted_yes hf rfl, ex_castB (ex_lss hf rfl rfl) (dec_t hc117)⟩⟩) (.cons (⟨_, _, rfl, rfl, rfl, rfl, fun a w hR hf => .inl ⟨wanted_yes hf rfl, ex_move hf rfl⟩⟩) (.cons (⟨_, _, rfl, rfl, rfl, rfl, fun a w hR hf => .inl ⟨wanted_yes hf rfl, ex_move hf rfl⟩⟩) (.cons (⟨_, _, rfl, rfl, rfl, rfl, fun a w hR hf => .inl ⟨wanted_yes hf rfl, ex_move hf rfl⟩⟩) (.cons (⟨_, _, rfl, rfl, rfl, rfl, fun a w hR hf => .inl ⟨wanted_yes hf rfl, ex_move hf rfl⟩⟩) (.cons (⟨_, _, rfl, rfl, rfl, rfl, fun a w hR hf => .inl ⟨wanted_yes hf rfl, ex_indexAddr sa_22 (rsl_isSl (osl_rsl _ hR.1)) hc100.1 hc100.2 hf rfl rfl⟩⟩) (.cons (⟨_, _, rfl, rfl, rfl, rfl, fun a w hR hf => .inl ⟨wanted_yes hf rfl, ex_fieldAddrS fa_24_1 rfl hf rfl⟩⟩) (.cons (⟨_, _, rfl, rfl, rfl, rfl, fun a w hR hf => .inl ⟨wanted_yes hf rfl, ex_load sc_2 hf rfl (el_cell (K := K_api_Trip) (f := 1) (rsl_rd (osl_rsl _ hR.1)) hc100.1 hc100.2 rfl)⟩⟩) (.cons (⟨_, _, rfl, rfl, rfl, rfl, fun a w hR hf => .inl ⟨wanted_yes hf rfl, ex_move hf rfl⟩⟩) (.cons (⟨_, _, rfl, rfl, rfl, rfl, fun a w hR hf => .inl ⟨wanted_yes hf rfl, ex_move hf rfl⟩⟩) (.cons (⟨_, _, rfl, rfl, rfl, rfl, fun a w hR hf => .inl ⟨wanted_yes hf rfl, ex_indexAddr sa_22 (rsl_isSl (osl_rsl _ hR.1)) hc100.1 hc100.2 hf rfl rfl⟩⟩) (.cons (⟨_, _, rfl, rfl, rfl, rfl, fun a w hR hf => .inl ⟨wanted_yes hf rfl, ex_fieldAddrS fa_24_2 rfl hf rfl⟩⟩) (.cons (⟨_, _, rfl, rfl, rfl, rfl, fun a w hR hf => .inl ⟨wanted_yes hf rfl, ex_load sc_2 hf rfl (el_cell (K := K_api_Trip) (f := 2) (rsl_rd (osl_rsl _ hR.1)) hc100.1 hc100.2 rfl)⟩⟩) (.cons (⟨_, _, rfl, rfl, rfl, rfl, fun a w hR hf => .inl ⟨wanted_yes hf rfl, ex_sub hf rfl rfl⟩⟩) (.cons (⟨_, _, rfl, rfl, rfl, rfl, fun a w hR hf => .inl ⟨wanted_yes hf rfl, ex_castB (ex_geq hf rfl rfl) (dec_f hc118)⟩⟩) (.cons (⟨_, _, rfl, rfl, rfl, rfl, fun a w hR hf => .inl ⟨wanted_yes hf rfl, ex_pickT hf rfl rfl⟩⟩) (.cons (⟨_, _, rfl, rfl, rfl, rfl, fun a w hR hf => .inl ⟨wanted_yes hf rfl, ex_move hf rfl⟩⟩) (.cons (⟨_, _, rfl, rfl, rfl, rfl, fun a w hR hf => .inr ⟨wanted_no hf rfl, rfl⟩⟩) (.cons (⟨_, _, rfl, rfl, rfl, rfl, fun a w hR hf => .inr ⟨wanted_no hf rfl, rfl⟩⟩) (.cons (⟨_, _, rfl, rfl, rfl, rfl, fun a w hR hf => .inr ⟨wanted_no hf rfl, rfl⟩⟩) (.cons (⟨_, _, rfl, rfl, rfl, rfl, fun a w hR hf => .inr ⟨wanted_no hf rfl, rfl⟩⟩) (.cons (⟨_, _, rfl, rfl, rfl, rfl, fun a w hR hf => .inr ⟨wanted_no hf rfl, rfl⟩⟩) (.cons (⟨_, _, rfl, rfl, rfl, rfl, fun a w hR hf => .inr ⟨wanted_no hf rfl, rfl⟩⟩) (.cons (⟨_, _, rfl, rfl, rfl, rfl, fun a w hR hf => .inr ⟨wanted_no hf rfl, rfl⟩⟩) (.cons (⟨_, _, rfl, rfl, rfl, rfl, fun a w hR hf => .inr ⟨wanted_no hf rfl, rfl⟩⟩) (.cons (⟨_, _, rfl, rfl, rfl, rfl, fun a w hR hf => .inr ⟨wanted_no hf rfl, rfl⟩⟩) (.cons (⟨_, _, rfl, rfl, rfl, rfl, fun a w hR hf => .inl ⟨wanted_yes hf rfl, ex_pickF hf rfl rfl⟩⟩) (.cons (⟨_, _, rfl, rfl, rfl, rfl, fun a w hR hf => .inl ⟨wanted_yes hf rfl, ex_pickF hf rfl rfl⟩⟩) (.nil))))))))))))))))))))))))))))))))))))))))))))))))))))))))))))))))))))))) (fun K121 hK121 => ?_)
                                                refine RW.zero (by kernel_rfl) (by kernel_rfl) [(2, v2), (7, v11), (8, .int .i64 s12), (9, .pointer (some ⟨b24, 0, none⟩)), (11, v42), (12, .int .i64 y46), (13, .int .i64 y47), (14, .int .i64 s58), (15, .int .i64 s60.2.2.1), (16, .bool s60.2.2.2.1), (18, v64), (19, .bool y88), (20, .bool y89), (21, .int .i64 y90), (181, .bool false)] ⟨rfl, rfl, rfl, rfl, rfl, rfl, rfl, rfl, rfl, rfl, rfl, rfl, rfl, rfl, rfl, trivial⟩ (fun a w hR hs hf => ?_)
                                                refine hK121 _ _ ?_
                                                have e99 := some_eq H; subst e99
                                                exact hJ99 _ _ ⟨hf.sub ⟨rfl, rfl, rfl, rfl, rfl, rfl, rfl, rfl, rfl, rfl, rfl, rfl, rfl, rfl, rfl, trivial⟩, hs⟩
                                            · -- not s58 < ((gd Trip.zero s10 y90).Temperature)
                                              refine region_d fol 70 [(2, v2), (7, v11), (8, .int .i64 s12), (9, .pointer (some ⟨b24, 0, none⟩)), (11, v42), (12, .int .i64 y46), (13, .int .i64 y47), (14, .int .i64 s58), (15, .int .i64 s60.2.2.1), (16, .bool s60.2.2.2.1), (18, v64), (19, .bool y88), (20, .bool y89), (21, .int .i64 y90)] [(0, .int .i64 s58), (1, v11), (2, .int .i64 y90), (3, .pointer (some (sla v11 (y90.toNat * 3)))), (4, .pointer (some (sla v11 (y90.toNat * 3 + 1)))), (5, .int .i64 ((gd Trip.zero s10 y90).Temperature)), (6, .bool false), (7, .bool false), (8, undef), (9, undef), (10, undef), (11, undef), (12, undef), (13, .bool false), (14, .bool false), (15, .int .i64 s58), (16, v11), (17, .int .i64 y90), (18, .pointer (some (sla v11 (y90.toNat * 3)))), (19, .pointer (some (sla v11 (y90.toNat * 3 + 1)))), (20, .int .i64 ((gd Trip.zero s10 y90).Temperature)), (21, v11), (22, .int .i64 y90), (23, .pointer (some (sla v11 (y90.toNat * 3)))), (24, .pointer (some (sla v11 (y90.toNat * 3 + 2)))), (25, .int .i64 ((gd Trip.zero s10 y90).Hysteresis)), (26, .int .i64 (IntKind.i64.wrap (((gd Trip.zero s10 y90).Temperature) - ((gd Trip.zero s10 y90).Hysteresis)))), (27, .bool true), (28, .bool true), (29, v64), (30, .int .i64 y90), (31, .pointer (some (sla v64 (y90.toNat * 1)))), (32, .bool false), (33, .bool false), (34, .bool false), (35, .bool false), (36, .int .i64 s58), (37, v11), (38, .int .i64 y90), (39, .pointer (some (sla v11 (y90.toNat * 3)))), (40, .pointer (some (sla v11 (y90.toNat * 3 + 1)))), (41, .int .i64 ((gd Trip.zero s10 y90).Temperature)), (42, .bool false), (43, .bool false), (44, undef), (45, undef), (46, undef), (47, undef), (48, undef), (49, undef), (50, undef), (51, undef), (52, undef), (53, undef), (54, undef), (55, undef), (56, undef), (57, .bool false), (58, .bool false), (59, undef), (60, undef), (61, undef), (62, undef), (63, undef), (64, undef), (65, undef), (66, undef), (67, undef), (68, .bool false), (69, .bool false)] [] (fun w => (osl K_api_Trip v11 s10).ok w ∧ (osl K_bool v64 s63).ok w ∧ (osl K_bool v42 y45).ok w ∧ True) (fun w => St M w0 w [osl K_api_Trip v11 s10, bx b24 62 [v25, v61, .int .i64 c16.2.2.1, .int .i64 s60.1], osl K_api_Trip v25 c16.1, osl K_bool v61 s60.2.1, osl K_bool v42 y45, osl K_bool v64 s63]) hf ⟨rfl, rfl, rfl, rfl, rfl, rfl, rfl, rfl, rfl, rfl, rfl, rfl, rfl, rfl, trivial⟩ (by kernel_rfl) (by kernel_rfl) rfl (by decide) ⟨hs.drew.get (i := 0) rfl, hs.drew.get (i := 5) rfl, hs.drew.get (i := 4) rfl, trivial⟩ hs.drew (.cons (⟨_, _, rfl, rfl, rfl, rfl, fun a w hR hf => .inl ⟨wanted_yes hf rfl, ex_move hf rfl⟩⟩) (.cons (⟨_, _, rfl, rfl, rfl, rfl, fun a w hR hf => .inl ⟨wanted_yes hf rfl, ex_move hf rfl⟩⟩) (.cons (⟨_, _, rfl, rfl, rfl, rfl, fun a w hR hf => .inl ⟨wanted_yes hf rfl, ex_move hf rfl⟩⟩) (.cons (⟨_, _, rfl, rfl, rfl, rfl, fun a w hR hf => .inl ⟨wanted_yes hf rfl, ex_indexAddr sa_22 (rsl_isSl (osl_rsl _ hR.1)) hc100.1 hc100.2 hf rfl rfl⟩⟩) (.cons (⟨_, _, rfl, rfl, rfl, rfl, fun a w hR hf => .inl ⟨wanted_yes hf rfl, ex_fieldAddrS fa_24_1 rfl hf rfl⟩⟩) (.cons (⟨_, _, rfl, rfl, rfl, rfl, fun a w hR hf => .inl ⟨wanted_yes hf rfl, ex_load sc_2 hf rfl (el_cell (K := K_api_Trip) (f := 1) (rsl_rd (osl_rsl _ hR.1)) hc100.1 hc100.2 rfl)⟩⟩) (.cons (⟨_, _, rfl, rfl, rfl, rfl, fun a w hR hf => .inl ⟨wanted_yes hf rfl, ex_castB (ex_geq hf rfl rfl) (dec_f hc101)⟩⟩) (.cons (⟨_, _, rfl, rfl, rfl, rfl, fun a w hR hf => .inl ⟨wanted_yes hf rfl, ex_move hf rfl⟩⟩) (.cons (⟨_, _, rfl, rfl, rfl, rfl, fun a w hR hf => .inr ⟨wanted_no hf rfl, rfl⟩⟩) (.cons (⟨_, _, rfl, rfl, rfl, rfl, fun a w hR hf => .inr ⟨wanted_no hf rfl, rfl⟩⟩) (.cons (⟨_, _, rfl, rfl, rfl, rfl, fun a w hR hf => .inr ⟨wanted_no hf rfl, rfl⟩⟩) (.cons (⟨_, _, rfl, rfl, rfl, rfl, fun a w hR hf => .inr ⟨wanted_no hf rfl, rfl⟩⟩) (.cons (⟨_, _, rfl, rfl, rfl, rfl, fun a w hR hf => .inr ⟨wanted_no hf rfl, rfl⟩⟩) (.cons (⟨_, _, rfl, rfl, rfl, rfl, fun a w hR hf => .inl ⟨wanted_yes hf rfl, ex_pickF hf rfl rfl⟩⟩) (.cons (⟨_, _, rfl, rfl, rfl, rfl, fun a w hR hf => .inl ⟨wanted_yes hf rfl, ex_move hf rfl⟩⟩) (.cons (⟨_, _, rfl, rfl, rfl, rfl, fun a w hR hf => .inl ⟨wanted_yes hf rfl, ex_move hf rfl⟩⟩) (.cons (⟨_, _, rfl, rfl, rfl, rfl, fun a w hR hf => .inl ⟨wanted_yes hf rfl, ex_move hf rfl⟩⟩) (.cons (⟨_, _, rfl, rfl, rfl, rfl, fun a w hR hf => .inl ⟨wanted_yes hf rfl, ex_move hf rfl⟩⟩) (.cons (⟨_, _, rfl, rfl, rfl, rfl, fun a w hR hf => .inl ⟨wanted_yes hf rfl, ex_indexAddr sa_22 (rsl_isSl (osl_rsl _ hR.1)) hc100.1 hc100.2 hf rfl rfl⟩⟩) (.cons (⟨_, _, rfl, rfl, rfl, rfl, fun a w hR hf => .inl ⟨wanted_yes hf rfl, ex_fieldAddrS fa_24_1 rfl hf rfl⟩⟩) (.cons (⟨_, _, rfl, rfl, rfl, rfl, fun a w hR hf => .inl ⟨wanted_yes hf rfl, ex_load sc_2 hf rfl (el_cell (K := K_api_Trip) (f := 1) (rsl_rd (osl_rsl _ hR.1)) hc100.1 hc100.2 rfl)⟩⟩) (.cons (⟨_, _, rfl, rfl, rfl, rfl, fun a w hR hf => .inl ⟨wanted_yes hf rfl, ex_move hf rfl⟩⟩) (.cons (⟨_, _, rfl, rfl, rfl, rfl, fun a w hR hf => .inl ⟨wanted_yes hf rfl, ex_move hf rfl⟩⟩) (.cons (⟨_, _, rfl, rfl, rfl, rfl, fun a w hR hf => .inl ⟨wanted_yes hf rfl, ex_indexAddr sa_22 (rsl_isSl (osl_rsl _ hR.1)) hc100.1 hc100.2 hf rfl rfl⟩⟩) (.cons (⟨_, _, rfl, rfl, rfl, rfl, fun a w hR hf => .inl ⟨wanted_yes hf rfl, ex_fieldAddrS fa_24_2 rfl hf rfl⟩⟩) (.cons (⟨_, _, rfl, rfl, rfl, rfl, fun a w hR hf => .inl ⟨wanted_yes hf rfl, ex_load sc_2 hf rfl (el_cell (K := K_api_Trip) (f := 2) (rsl_rd (osl_rsl _ hR.1)) hc100.1 hc100.2 rfl)⟩⟩) (.cons (⟨_, _, rfl, rfl, rfl, rfl, fun a w hR hf => .inl ⟨wanted_yes hf rfl, ex_sub hf rfl rfl⟩⟩) (.cons (⟨_, _, rfl, rfl, rfl, rfl, fun a w hR hf => .inl ⟨wanted_yes hf rfl, ex_castB (ex_lss hf rfl rfl) (dec_t hc113)⟩⟩) (.cons (⟨_, _, rfl, rfl, rfl, rfl, fun a w hR hf => .inl ⟨wanted_yes hf rfl, ex_move hf rfl⟩⟩) (.cons (⟨_, _, rfl, rfl, rfl, rfl, fun a w hR hf => .inl ⟨wanted_yes hf rfl, ex_move hf rfl⟩⟩) (.cons (⟨_, _, rfl, rfl, rfl, rfl, fun a w hR hf => .inl ⟨wanted_yes hf rfl, ex_move hf rfl⟩⟩) (.cons (⟨_, _, rfl, rfl, rfl, rfl, fun a w hR hf => .inl ⟨wanted_yes hf rfl, ex_indexAddr sa_52 (rsl_isSl (osl_rsl _ hR.2.1)) hc114.1 hc114.2 hf rfl rfl⟩⟩) (.cons (⟨_, _, rfl, rfl, rfl, rfl, fun a w hR hf => .inl ⟨wanted_yes hf rfl, ex_castB (ex_load sc_4 hf rfl (el_cell (K := K_bool) (f := 0) (rsl_rd (osl_rsl _ hR.2.1)) hc114.1 hc114.2 rfl)) (bool_f hc115)⟩⟩) (.cons (⟨_, _, rfl, rfl, rfl, rfl, fun a w hR hf => .inl ⟨wanted_yes hf rfl, ex_pickT hf rfl rfl⟩⟩) (.cons (⟨_, _, rfl, rfl, rfl, rfl, fun a w hR hf => .inl ⟨wanted_yes hf rfl, ex_pickF hf rfl rfl⟩⟩) (.cons (⟨_, _, rfl, rfl, rfl, rfl, fun a w hR hf => .inl ⟨wanted_yes hf rfl, ex_move hf rfl⟩⟩) (.cons (⟨_, _, rfl, rfl, rfl, rfl, fun a w hR hf => .inl ⟨wanted_yes hf rfl, ex_move hf rfl⟩⟩) (.cons (⟨_, _, rfl, rfl, rfl, rfl, fun a w hR hf => .inl ⟨wanted_yes hf rfl, ex_move hf rfl⟩⟩) (.cons (⟨_, _, rfl, rfl, rfl, rfl, fun a w hR hf => .inl ⟨wanted_yes hf rfl, ex_move hf rfl⟩⟩) (.cons (⟨_, _, rfl, rfl, rfl, rfl, fun a w hR hf => .inl ⟨wanted_yes hf rfl, ex_indexAddr sa_22 (rsl_isSl (osl_rsl _ hR.1)) hc100.1 hc100.2 hf rfl rfl⟩⟩) (.cons (⟨_, _, rfl, rfl, rfl, rfl, fun a w hR hf => .inl ⟨wanted_yes hf rfl, ex_fieldAddrS fa_24_1 rfl hf rfl⟩⟩) (.cons (⟨_, _, rfl, rfl, rfl, rfl, fun a w hR hf => .inl ⟨wanted_yes hf rfl, ex_load sc_2 hf rfl (el_cell (K := K_api_Trip) (f := 1) (rsl_rd (osl_rsl _ hR.1)) hc100.1 hc100.2 rfl)⟩⟩) (.cons (⟨_, _, rfl, rfl, rfl, rfl, fun a w hR hf => .inl ⟨wanted_yes hf rfl, ex_castB (ex_lss hf rfl rfl) (dec_f hc117)⟩⟩) (.cons (⟨_, _, rfl, rfl, rfl, rfl, fun a w hR hf => .inl ⟨wanted_yes hf rfl, ex_move hf rfl⟩⟩) (.cons (⟨_, _, rfl, rfl, rfl, rfl, fun a w hR hf => .inr ⟨wanted_no hf rfl, rfl⟩⟩) (.cons (⟨_, _, rfl, rfl, rfl, rfl, fun a w hR hf => .inr ⟨wanted_no hf rfl, rfl⟩⟩) (.cons (⟨_, _, rfl, rfl, rfl, rfl, fun a w hR hf => .inr ⟨wanted_no hf rfl, rfl⟩⟩) (.cons (⟨_, _, rfl, rfl, rfl, rfl, fun a w hR hf => .inr ⟨wanted_no hf rfl, rfl⟩⟩) (.cons (⟨_, _, rfl, rfl, rfl, rfl, fun a w hR hf => .inr ⟨wanted_no hf rfl, rfl⟩⟩) (.cons (⟨_, _, rfl, rfl, rfl, rfl, fun a w hR hf => .inr ⟨wanted_no hf rfl, rfl⟩⟩) (.cons (⟨_, _, rfl, rfl, rfl, rfl, fun a w hR hf => .inr ⟨wanted_no hf rfl, rfl⟩⟩) (.cons (⟨_, _, rfl, rfl, rfl, rfl, fun a w hR hf => .inr ⟨wanted_no hf rfl, rfl⟩⟩) (.cons (⟨_, _, rfl, rfl, rfl, rfl, fun a w hR hf => .inr ⟨wanted_no hf rfl, rfl⟩⟩) (.cons (⟨_, _, rfl, rfl, rfl, rfl, fun a w hR hf => .inr ⟨wanted_no hf rfl, rfl⟩⟩) (.cons (⟨_, _, rfl, rfl, rfl, rfl, fun a w hR hf => .inr ⟨wanted_no hf rfl, rfl⟩⟩) (.cons (⟨_, _, rfl, rfl, rfl, rfl, fun a w hR hf => .inr ⟨wanted_no hf rfl, rfl⟩⟩) (.cons (⟨_, _, rfl, rfl, rfl, rfl, fun a w hR hf => .inr ⟨wanted_no hf rfl, rfl⟩⟩) (.cons (⟨_, _, rfl, rfl, rfl, rfl, fun a w hR hf => .inl ⟨wanted_yes hf rfl, ex_pickF hf rfl rfl⟩⟩) (.cons (⟨_, _, rfl, rfl, rfl, rfl, fun a w hR hf => .inl ⟨wanted_yes hf rfl, ex_move hf rfl⟩⟩) (.cons (⟨_, _, rfl, rfl, rfl, rfl, fun a w hR hf => .inr ⟨wanted_no hf rfl, rfl⟩⟩) (.cons (⟨_, _, rfl, rfl, rfl, rfl, fun a w hR hf => .inr ⟨wanted_no hf rfl, rfl⟩⟩) (.cons (⟨_, _, rfl, rfl, rfl, rfl, fun a w hR hf => .inr ⟨wanted_no hf rfl, rfl⟩⟩) (.cons (⟨_, _, rfl, rfl, rfl, rfl, fun a w hR hf => .inr ⟨wanted_no hf rfl, rfl⟩⟩) (.cons (⟨_, _, rfl, rfl, rfl, rfl, fun a w hR hf => .inr ⟨wanted_no hf rfl, rfl⟩⟩) (.cons (⟨_, _, rfl, rfl, rfl, rfl, fun a w hR hf => .inr ⟨wanted_no hf rfl, rfl⟩⟩) (.cons (⟨_, _, rfl, rfl, rfl, rfl, fun a w hR hf => .inr ⟨wanted_no hf rfl, rfl⟩⟩) (.cons (⟨_, _, rfl, rfl, rfl, rfl, fun a w hR hf => .inr ⟨wanted_no hf rfl, rfl⟩⟩) (.cons (⟨_, _, rfl, rfl, rfl, rfl, fun a w hR hf => .inr ⟨wanted_no hf rfl, rfl⟩⟩) (.cons (⟨_, _, rfl, rfl, rfl, rfl, fun a w hR hf => .inl ⟨wanted_yes hf rfl, ex_pickF hf rfl rfl⟩⟩) (.cons (⟨_, _, rfl, rfl, rfl, rfl, fun a w hR hf => .inl ⟨wanted_yes hf rfl, ex_pickF hf rfl rfl⟩⟩) (.nil))))))))))))))))))))))))))))))))))))))))))))))))))))))))))))))))))))))) (fun K122 hK122 => ?_)
                                              refine RW.zero (by kernel_rfl) (by kernel_rfl) [(2, v2), (7, v11), (8, .int .i64 s12), (9, .pointer (some ⟨b24, 0, none⟩)), (11, v42), (12, .int .i64 y46), (13, .int .i64 y47), (14, .int .i64 s58), (15, .int .i64 s60.2.2.1), (16, .bool s60.2.2.2.1), (18, v64), (19, .bool y88), (20, .bool y89), (21, .int .i64 y90), (181, .bool false)] ⟨rfl, rfl, rfl, rfl, rfl, rfl, rfl, rfl, rfl, rfl, rfl, rfl, rfl, rfl, rfl, trivial⟩ (fun a w hR hs hf => ?_)
                                              refine hK122 _ _ ?_
                                              have e99 := some_eq H; subst e99
                                              exact hJ99 _ _ ⟨hf.sub ⟨rfl, rfl, rfl, rfl, rfl, rfl, rfl, rfl, rfl, rfl, rfl, rfl, rfl, rfl, rfl, trivial⟩, hs⟩
                                        · -- not s58 < (IntKind.i64.wrap (((gd Trip.zero s10 y90).Temperature
                                          refine itt H (fun hc123 H => ?_) (fun hc123 H => ?_)
                                          · -- s58 < ((gd Trip.zero s10 y90).Temperature)
                                            refine itt H (fun hc124 H => ?_) (fun hc124 H => ?_)
                                            · -- (IntKind.i64.wrap (((gd Trip.zero s10 y90).Temperature) - ((
                                              refine ck_some H (fun hc125 H => ?_)
                                              refine ck_some H (fun hc126 H => ?_)
                                              refine region_d fol 70 [(2, v2), (7, v11), (8, .int .i64 s12), (9, .pointer (some ⟨b24, 0, none⟩)), (11, v42), (12, .int .i64 y46), (13, .int .i64 y47), (14, .int .i64 s58), (15, .int .i64 s60.2.2.1), (16, .bool s60.2.2.2.1), (18, v64), (19, .bool y88), (20, .bool y89), (21, .int .i64 y90)] [(0, .int .i64 s58), (1, v11), (2, .int .i64 y90), (3, .pointer (some (sla v11 (y90.toNat * 3)))), (4, .pointer (some (sla v11 (y90.toNat * 3 + 1)))), (5, .int .i64 ((gd Trip.zero s10 y90).Temperature)), (6, .bool false), (7, .bool false), (8, undef), (9, undef), (10, undef), (11, undef), (12, undef), (13, .bool false), (14, .bool false), (15, .int .i64 s58), (16, v11), (17, .int .i64 y90), (18, .pointer (some (sla v11 (y90.toNat * 3)))), (19, .pointer (some (sla v11 (y90.toNat * 3 + 1)))), (20, .int .i64 ((gd Trip.zero s10 y90).Temperature)), (21, v11), (22, .int .i64 y90), (23, .pointer (some (sla v11 (y90.toNat * 3)))), (24, .pointer (some (sla v11 (y90.toNat * 3 + 2)))), (25, .int .i64 ((gd Trip.zero s10 y90).Hysteresis)), (26, .int .i64 (IntKind.i64.wrap (((gd Trip.zero s10 y90).Temperature) - ((gd Trip.zero s10 y90).Hysteresis)))), (27, .bool false), (28, .bool false), (29, undef), (30, undef), (31, undef), (32, undef), (33, .bool false), (34, .bool false), (35, .bool false), (36, .int .i64 s58), (37, v11), (38, .int .i64 y90), (39, .pointer (some (sla v11 (y90.toNat * 3)))), (40, .pointer (some (sla v11 (y90.toNat * 3 + 1)))), (41, .int .i64 ((gd Trip.zero s10 y90).Temperature)), (42, .bool true), (43, .bool true), (44, .int .i64 s58), (45, v11), (46, .int .i64 y90), (47, .pointer (some (sla v11 (y90.toNat * 3)))), (48, .pointer (some (sla v11 (y90.toNat * 3 + 1)))), (49, .int .i64 ((gd Trip.zero s10 y90).Temperature)), (50, v11), (51, .int .i64 y90), (52, .pointer (some (sla v11 (y90.toNat * 3)))), (53, .pointer (some (sla v11 (y90.toNat * 3 + 2)))), (54, .int .i64 ((gd Trip.zero s10 y90).Hysteresis)), (55, .int .i64 (IntKind.i64.wrap (((gd Trip.zero s10 y90).Temperature) - ((gd Trip.zero s10 y90).Hysteresis)))), (56, .bool true), (57, .bool true), (58, .bool true), (59, v64), (60, .int .i64 y90), (61, .pointer (some (sla v64 (y90.toNat * 1)))), (62, .bool (gd false s63 y90)), (63, v42), (64, .int .i64 y90), (65, .pointer (some (sla v42 (y90.toNat * 1)))), (66, .bool (gd false y45 y90)), (67, .bool (!((gd false s63 y90) == (gd false y45 y90)))), (68, .bool (!((gd false s63 y90) == (gd false y45 y90)))), (69, .bool (!((gd false s63 y90) == (gd false y45 y90))))] [] (fun w => (osl K_api_Trip v11 s10).ok w ∧ (osl K_bool v64 s63).ok w ∧ (osl K_bool v42 y45).ok w ∧ True) (fun w => St M w0 w [osl K_api_Trip v11 s10, bx b24 62 [v25, v61, .int .i64 c16.2.2.1, .int .i64 s60.1], osl K_api_Trip v25 c16.1, osl K_bool v61 s60.2.1, osl K_bool v42 y45, osl K_bool v64 s63]) hf ⟨rfl, rfl, rfl, rfl, rfl, rfl, rfl, rfl, rfl, rfl, rfl, rfl, rfl, rfl, trivial⟩ (by kernel_rfl) (by kernel_rfl) rfl (by decide) ⟨hs.drew.get (i := 0) rfl, hs.drew.get (i := 5) rfl, hs.drew.get (i := 4) rfl, trivial⟩ hs.drew (.cons (⟨_, _, rfl, rfl, rfl, rfl, fun a w hR hf => .inl ⟨wanted_yes hf rfl, ex_move hf rfl⟩⟩) (.cons (⟨_, _, rfl, rfl, rfl, rfl, fun a w hR hf => .inl ⟨wanted_yes hf rfl, ex_move hf rfl⟩⟩) (.cons (⟨_, _, rfl, rfl, rfl, rfl, fun a w hR hf => .inl ⟨wanted_yes hf rfl, ex_move hf rfl⟩⟩) (.cons (⟨_, _, rfl, rfl, rfl, rfl, fun a w hR hf => .inl ⟨wanted_yes hf rfl, ex_indexAddr sa_22 (rsl_isSl (osl_rsl _ hR.1)) hc100.1 hc100.2 hf rfl rfl⟩⟩) (.cons (⟨_, _, rfl, rfl, rfl, rfl, fun a w hR hf => .inl ⟨wanted_yes hf rfl, ex_fieldAddrS fa_24_1 rfl hf rfl⟩⟩) (.cons (⟨_, _, rfl, rfl, rfl, rfl, fun a w hR hf => .inl ⟨wanted_yes hf rfl, ex_load sc_2 hf rfl (el_cell (K := K_api_Trip) (f := 1) (rsl_rd (osl_rsl _ hR.1)) hc100.1 hc100.2 rfl)⟩⟩) (.cons (⟨_, _, rfl, rfl, rfl, rfl, fun a w hR hf => .inl ⟨wanted_yes hf rfl, ex_castB (ex_geq hf rfl rfl) (dec_f hc101)⟩⟩) (.cons (⟨_, _, rfl, rfl, rfl, rfl, fun a w hR hf => .inl ⟨wanted_yes hf rfl, ex_move hf rfl⟩⟩) (.cons (⟨_, _, rfl, rfl, rfl, rfl, fun a w hR hf => .inr ⟨wanted_no hf rfl, rfl⟩⟩) (.cons (⟨_, _, rfl, rfl, rfl, rfl, fun a w hR hf => .inr ⟨wanted_no hf rfl, rfl⟩⟩) (.cons (⟨_, _, rfl, rfl, rfl, rfl, fun a w hR hf => .inr ⟨wanted_no hf rfl, rfl⟩⟩) (.cons (⟨_, _, rfl, rfl, rfl, rfl, fun a w hR hf => .inr ⟨wanted_no hf rfl, rfl⟩⟩) (.cons (⟨_, _, rfl, rfl, rfl, rfl, fun a w hR hf => .inr ⟨wanted_no hf rfl, rfl⟩⟩) (.cons (⟨_, _, rfl, rfl, rfl, rfl, fun a w hR hf => .inl ⟨wanted_yes hf rfl, ex_pickF hf rfl rfl⟩⟩) (.cons (⟨_, _, rfl, rfl, rfl, rfl, fun a w hR hf => .inl ⟨wanted_yes hf rfl, ex_move hf rfl⟩⟩) (.cons (⟨_, _, rfl, rfl, rfl, rfl, fun a w hR hf => .inl ⟨wanted_yes hf rfl, ex_move hf rfl⟩⟩) (.cons (⟨_, _, rfl, rfl, rfl, rfl, fun a w hR hf => .inl ⟨wanted_yes hf rfl, ex_move hf rfl⟩⟩) (.cons (⟨_, _, rfl, rfl, rfl, rfl, fun a w hR hf => .inl ⟨wanted_yes hf rfl, ex_move hf rfl⟩⟩) (.cons (⟨_, _, rfl, rfl, rfl, rfl, fun a w hR hf => .inl ⟨wanted_yes hf rfl, ex_indexAddr sa_22 (rsl_isSl (osl_rsl _ hR.1)) hc100.1 hc100.2 hf rfl rfl⟩⟩) (.cons (⟨_, _, rfl, rfl, rfl, rfl, fun a w hR hf => .inl ⟨wanted_yes hf rfl, ex_fieldAddrS fa_24_1 rfl hf rfl⟩⟩) (.cons (⟨_, _, rfl, rfl, rfl, rfl, fun a w hR hf => .inl ⟨wanted_yes hf rfl, ex_load sc_2 hf rfl (el_cell (K := K_api_Trip) (f := 1) (rsl_rd (osl_rsl _ hR.1)) hc100.1 hc100.2 rfl)⟩⟩) (.cons (⟨_, _, rfl, rfl, rfl, rfl, fun a w hR hf => .inl ⟨wanted_yes hf rfl, ex_move hf rfl⟩⟩) (.cons (⟨_, _, rfl, rfl, rfl, rfl, fun a w hR hf => .inl ⟨wanted_yes hf rfl, ex_move hf rfl⟩⟩) (.cons (⟨_, _, rfl, rfl, rfl, rfl, fun a w hR hf => .inl ⟨wanted_yes hf rfl, ex_indexAddr sa_22 (rsl_isSl (osl_rsl _ hR.1)) hc100.1 hc100.2 hf rfl rfl⟩⟩) (.cons (⟨_, _, rfl, rfl, rfl, rfl, fun a w hR hf => .inl ⟨wanted_yes hf rfl, ex_fieldAddrS fa_24_2 rfl hf rfl⟩⟩) (.cons (⟨_, _, rfl, rfl, rfl, rfl, fun a w hR hf => .inl ⟨wanted_yes hf rfl, ex_load sc_2 hf rfl (el_cell (K := K_api_Trip) (f := 2) (rsl_rd (osl_rsl _ hR.1)) hc100.1 hc100.2 rfl)⟩⟩) (.cons (⟨_, _, rfl, rfl, rfl, rfl, fun a w hR hf => .inl ⟨wanted_yes hf rfl, ex_sub hf rfl rfl⟩⟩) (.cons (⟨_, _, rfl, rfl, rfl, rfl, fun a w hR hf => .inl ⟨wanted_yes hf rfl, ex_castB (ex_lss hf rfl rfl) (dec_f hc113)⟩⟩) (.cons (⟨_, _, rfl, rfl, rfl, rfl, fun a w hR hf => .inl ⟨wanted_yes hf rfl, ex_move hf rfl⟩⟩) (.cons (⟨_, _, rfl, rfl, rfl, rfl, fun a w hR hf => .inr ⟨wanted_no hf rfl, rfl⟩⟩) (.cons (⟨_, _, rfl, rfl, rfl, rfl, fun a w hR hf => .inr ⟨wanted_no hf rfl, rfl⟩⟩) (.cons (⟨_, _, rfl, rfl, rfl, rfl, fun a w hR hf => .inr ⟨wanted_no hf rfl, rfl⟩⟩) (.cons (⟨_, _, rfl, rfl, rfl, rfl, fun a w hR hf => .inr ⟨wanted_no hf rfl, rfl⟩⟩) (.cons (⟨_, _, rfl, rfl, rfl, rfl, fun a w hR hf => .inl ⟨wanted_yes hf rfl, ex_pickF hf rfl rfl⟩⟩) (.cons (⟨_, _, rfl, rfl, rfl, rfl, fun a w hR hf => .inl ⟨wanted_yes hf rfl, ex_pickF hf rfl rfl⟩⟩) (.cons (⟨_, _, rfl, rfl, rfl, rfl, fun a w hR hf => .inl ⟨wanted_yes hf rfl, ex_move hf rfl⟩⟩) (.cons (⟨_, _, rfl, rfl, rfl, rfl, fun a w hR hf => .inl ⟨wanted_yes hf rfl, ex_move hf rfl⟩⟩) (.cons (⟨_, _, rfl, rfl, rfl, rfl, fun a w hR hf => .inl ⟨wanted_yes hf rfl, ex_move hf rfl⟩⟩) (.cons (⟨_, _, rfl, rfl, rfl, rfl, fun a w hR hf => .inl ⟨wanted_yes hf rfl, ex_move hf rfl⟩⟩) (.cons (⟨_, _, rfl, rfl, rfl, rfl, fun a w hR hf => .inl ⟨wanted_yes hf rfl, ex_indexAddr sa_22 (rsl_isSl (osl_rsl _ hR.1)) hc100.1 hc100.2 hf rfl rfl⟩⟩) (.cons (⟨_, _, rfl, rfl, rfl, rfl, fun a w hR hf => .inl ⟨wanted_yes hf rfl, ex_fieldAddrS fa_24_1 rfl hf rfl⟩⟩) (.cons (⟨_, _, rfl, rfl, rfl, rfl, fun a w hR hf => .inl ⟨wanted_yes hf rfl, ex_load sc_2 hf rfl (el_cell (K := K_api_Trip) (f := 1) (rsl_rd (osl_rsl _ hR.1)) hc100.1 hc100.2 rfl)⟩⟩) (.cons (⟨_, _, rfl, rfl, rfl, rfl, fun a w hR hf => .inl ⟨wanted_yes hf rfl, ex_castB (ex_lss hf rfl rfl) (dec_t hc123)⟩⟩) (.cons (⟨_, _, rfl, rfl, rfl, rfl, fun a w hR hf => .inl ⟨wanted_yes hf rfl, ex_move hf rfl⟩⟩) (.cons (⟨_, _, rfl, rfl, rfl, rfl, fun a w hR hf => .inl ⟨wanted_yes hf rfl, ex_move hf rfl⟩⟩) (.cons (⟨_, _, rfl, rfl, rfl, rfl, fun a w hR hf => .inl ⟨wanted_yes hf rfl, ex_move hf rfl⟩⟩) (.cons (⟨_, _, rfl, rfl, rfl, rfl, fun a w hR hf => .inl ⟨wanted_yes hf rfl, ex_move hf rfl⟩⟩) (.cons (⟨_, _, rfl, rfl, rfl, rfl, fun a w hR hf => .inl ⟨wanted_yes hf rfl, ex_indexAddr sa_22 (rsl_isSl (osl_rsl _ hR.1)) hc100.1 hc100.2 hf rfl rfl⟩⟩) (.cons (⟨_, _, rfl, rfl, rfl, rfl, fun a w hR hf => .inl ⟨wanted_yes hf rfl, ex_fieldAddrS fa_24_1 rfl hf rfl⟩⟩) (.cons (⟨_, _, rfl, rfl, rfl, rfl, fun a w hR hf => .inl ⟨wanted_yes hf rfl, ex_load sc_2 hf rfl (el_cell (K := K_api_Trip) (f := 1) (rsl_rd (osl_rsl _ hR.1)) hc100.1 hc100.2 rfl)⟩⟩) (.cons (⟨_, _, rfl, rfl, rfl, rfl, fun a w hR hf => .inl ⟨wanted_yes hf rfl, ex_move hf rfl⟩⟩) (.cons (⟨_, _, rfl, rfl, rfl, rfl, fun a w hR hf => .inl ⟨wanted_yes hf rfl, ex_move hf rfl⟩⟩) (.cons (⟨_, _, rfl, rfl, rfl, rfl, fun a w hR hf => .inl ⟨wanted_yes hf rfl, ex_indexAddr sa_22 (rsl_isSl (osl_rsl _ hR.1)) hc100.1 hc100.2 hf rfl rfl⟩⟩) (.cons (⟨_, _, rfl, rfl, rfl, rfl, fun a w hR hf => .inl ⟨wanted_yes hf rfl, ex_fieldAddrS fa_24_2 rfl hf rfl⟩⟩) (.cons (⟨_, _, rfl, rfl, rfl, rfl, fun a w hR hf => .inl ⟨wanted_yes hf rfl, ex_load sc_2 hf rfl (el_cell (K := K_api_Trip) (f := 2) (rsl_rd (osl_rsl _ hR.1)) hc100.1 hc100.2 rfl)⟩⟩) (.cons (⟨_, _, rfl, rfl, rfl, rfl, fun a w hR hf => .inl ⟨wanted_yes hf rfl, ex_sub hf rfl rfl⟩⟩) (.cons (⟨_, _, rfl, rfl, rfl, rfl, fun a w hR hf => .inl ⟨wanted_yes hf rfl, ex_castB (ex_geq hf rfl rfl) (dec_t hc124)⟩⟩) (.cons (⟨_, _, rfl, rfl, rfl, rfl, fun a w hR hf => .inl ⟨wanted_yes hf rfl, ex_pickT hf rfl rfl⟩⟩) (.cons (⟨_, _, rfl, rfl, rfl, rfl, fun a w hR hf => .inl ⟨wanted_yes hf rfl, ex_move hf rfl⟩⟩) (.cons (⟨_, _, rfl, rfl, rfl, rfl, fun a w hR hf => .inl ⟨wanted_yes hf rfl, ex_move hf rfl⟩⟩) (.cons (⟨_, _, rfl, rfl, rfl, rfl, fun a w hR hf => .inl ⟨wanted_yes hf rfl, ex_move hf rfl⟩⟩) (.cons (⟨_, _, rfl, rfl, rfl, rfl, fun a w hR hf => .inl ⟨wanted_yes hf rfl, ex_indexAddr sa_52 (rsl_isSl (osl_rsl _ hR.2.1)) hc125.1 hc125.2 hf rfl rfl⟩⟩) (.cons (⟨_, _, rfl, rfl, rfl, rfl, fun a w hR hf => .inl ⟨wanted_yes hf rfl, ex_load sc_4 hf rfl (el_cell (K := K_bool) (f := 0) (rsl_rd (osl_rsl _ hR.2.1)) hc125.1 hc125.2 rfl)⟩⟩) (.cons (⟨_, _, rfl, rfl, rfl, rfl, fun a w hR hf => .inl ⟨wanted_yes hf rfl, ex_move hf rfl⟩⟩) (.cons (⟨_, _, rfl, rfl, rfl, rfl, fun a w hR hf => .inl ⟨wanted_yes hf rfl, ex_move hf rfl⟩⟩) (.cons (⟨_, _, rfl, rfl, rfl, rfl, fun a w hR hf => .inl ⟨wanted_yes hf rfl, ex_indexAddr sa_52 (rsl_isSl (osl_rsl _ hR.2.2.1)) hc126.1 hc126.2 hf rfl rfl⟩⟩) (.cons (⟨_, _, rfl, rfl, rfl, rfl, fun a w hR hf => .inl ⟨wanted_yes hf rfl, ex_load sc_4 hf rfl (el_cell (K := K_bool) (f := 0) (rsl_rd (osl_rsl _ hR.2.2.1)) hc126.1 hc126.2 rfl)⟩⟩) (.cons (⟨_, _, rfl, rfl, rfl, rfl, fun a w hR hf => .inl ⟨wanted_yes hf rfl, ex_neb Try.underlying4 hf rfl rfl⟩⟩) (.cons (⟨_, _, rfl, rfl, rfl, rfl, fun a w hR hf => .inl ⟨wanted_yes hf rfl, ex_pickT hf rfl rfl⟩⟩) (.cons (⟨_, _, rfl, rfl, rfl, rfl, fun a w hR hf => .inl ⟨wanted_yes hf rfl, ex_pickF hf rfl rfl⟩⟩) (.nil))))))))))))))))))))))))))))))))))))))))))))))))))))))))))))))))))))))) (fun K127 hK127 => ?_)
                                              refine RW.zero (by kernel_rfl) (by kernel_rfl) [(2, v2), (7, v11), (8, .int .i64 s12), (9, .pointer (some ⟨b24, 0, none⟩)), (11, v42), (12, .int .i64 y46), (13, .int .i64 y47), (14, .int .i64 s58), (15, .int .i64 s60.2.2.1), (16, .bool s60.2.2.2.1), (18, v64), (19, .bool y88), (20, .bool y89), (21, .int .i64 y90), (181, .bool (!((gd false s63 y90) == (gd false y45 y90))))] ⟨rfl, rfl, rfl, rfl, rfl, rfl, rfl, rfl, rfl, rfl, rfl, rfl, rfl, rfl, rfl, trivial⟩ (fun a w hR hs hf => ?_)
                                              refine hK127 _ _ ?_
                                              have e99 := some_eq H; subst e99
                                              exact hJ99 _ _ ⟨hf.sub ⟨rfl, rfl, rfl, rfl, rfl, rfl, rfl, rfl, rfl, rfl, rfl, rfl, rfl, rfl, rfl, trivial⟩, hs⟩
                                            · -- not (IntKind.i64.wrap (((gd Trip.zero s10 y90).Temperature) - ((
                                              refine region_d fol 70 [(2, v2), (7, v11), (8, .int .i64 s12), (9, .pointer (some ⟨b24, 0, none⟩)), (11, v42), (12, .int .i64 y46), (13, .int .i64 y47), (14, .int .i64 s58), (15, .int .i64 s60.2.2.1), (16, .bool s60.2.2.2.1), (18, v64), (19, .bool y88), (20, .bool y89), (21, .int .i64 y90)] [(0, .int .i64 s58), (1, v11), (2, .int .i64 y90), (3, .pointer (some (sla v11 (y90.toNat * 3)))), (4, .pointer (some (sla v11 (y90.toNat * 3 + 1)))), (5, .int .i64 ((gd Trip.zero s10 y90).Temperature)), (6, .bool false), (7, .bool false), (8, undef), (9, undef), (10, undef), (11, undef), (12, undef), (13, .bool false), (14, .bool false), (15, .int .i64 s58), (16, v11), (17, .int .i64 y90), (18, .pointer (some (sla v11 (y90.toNat * 3)))), (19, .pointer (some (sla v11 (y90.toNat * 3 + 1)))), (20, .int .i64 ((gd Trip.zero s10 y90).Temperature)), (21, v11), (22, .int .i64 y90), (23, .pointer (some (sla v11 (y90.toNat * 3)))), (24, .pointer (some (sla v11 (y90.toNat * 3 + 2)))), (25, .int .i64 ((gd Trip.zero s10 y90).Hysteresis)), (26, .int .i64 (IntKind.i64.wrap (((gd Trip.zero s10 y90).Temperature) - ((gd Trip.zero s10 y90).Hysteresis)))), (27, .bool false), (28, .bool false), (29, undef), (30, undef), (31, undef), (32, undef), (33, .bool false), (34, .bool false), (35, .bool false), (36, .int .i64 s58), (37, v11), (38, .int .i64 y90), (39, .pointer (some (sla v11 (y90.toNat * 3)))), (40, .pointer (some (sla v11 (y90.toNat * 3 + 1)))), (41, .int .i64 ((gd Trip.zero s10 y90).Temperature)), (42, .bool true), (43, .bool true), (44, .int .i64 s58), (45, v11), (46, .int .i64 y90), (47, .pointer (some (sla v11 (y90.toNat * 3)))), (48, .pointer (some (sla v11 (y90.toNat * 3 + 1)))), (49, .int .i64 ((gd Trip.zero s10 y90).Temperature)), (50, v11), (51, .int .i64 y90), (52, .pointer (some (sla v11 (y90.toNat * 3)))), (53, .pointer (some (sla v11 (y90.toNat * 3 + 2)))), (54, .int .i64 ((gd Trip.zero s10 y90).Hysteresis)), (55, .int .i64 (IntKind.i64.wrap (((gd Trip.zero s10 y90).Temperature) - ((gd Trip.zero s10 y90).Hysteresis)))), (56, .bool false), (57, .bool false), (58, .bool false), (59, undef), (60, undef), (61, undef), (62, undef), (63, undef), (64, undef), (65, undef), (66, undef), (67, undef), (68, .bool false), (69, .bool false)] [] (fun w => (osl K_api_Trip v11 s10).ok w ∧ (osl K_bool v64 s63).ok w ∧ (osl K_bool v42 y45).ok w ∧ True) (fun w => St M w0 w [osl K_api_Trip v11 s10, bx b24 62 [v25, v61, .int .i64 c16.2.2.1, .int .i64 s60.1], osl K_api_Trip v25 c16.1, osl K_bool v61 s60.2.1, osl K_bool v42 y45, osl K_bool v64 s63]) hf ⟨rfl, rfl, rfl, rfl, rfl, rfl, rfl, rfl, rfl, rfl, rfl, rfl, rfl, rfl, trivial⟩ (by kernel_rfl) (by kernel_rfl) rfl (by decide) ⟨hs.drew.get (i := 0) rfl, hs.drew.get (i := 5) rfl, hs.drew.get (i := 4) rfl, trivial⟩ hs.drew (.cons (⟨_, _, rfl, rfl, rfl, rfl, fun a w hR hf => .inl ⟨wanted_yes hf rfl, ex_move hf rfl⟩⟩) (.cons (⟨_, _, rfl, rfl, rfl, rfl, fun a w hR hf => .inl ⟨wanted_yes hf rfl, ex_move hf rfl⟩⟩) (.cons (⟨_, _, rfl, rfl, rfl, rfl, fun a w hR hf => .inl ⟨wanted_yes hf rfl, ex_move hf rfl⟩⟩) (.cons (⟨_, _, rfl, rfl, rfl, rfl, fun a w hR hf => .inl ⟨wanted_yes hf rfl, ex_indexAddr sa_22 (rsl_isSl (osl_rsl _ hR.1)) hc100.1 hc100.2 hf rfl rfl⟩⟩) (.cons (⟨_, _, rfl, rfl, rfl, rfl, fun a w hR hf => .inl ⟨wanted_yes hf rfl, ex_fieldAddrS fa_24_1 rfl hf rfl⟩⟩) (.cons (⟨_, _, rfl, rfl, rfl, rfl, fun a w hR hf => .inl ⟨wanted_yes hf rfl, ex_load sc_2 hf rfl (el_cell (K := K_api_Trip) (f := 1) (rsl_rd (osl_rsl _ hR.1)) hc100.1 hc100.2 rfl)⟩⟩) (.cons (⟨_, _, rfl, rfl, rfl, rfl, fun a w hR hf => .inl ⟨wanted_yes hf rfl, ex_castB (ex_geq hf rfl rfl) (dec_f hc101)⟩⟩) (.cons (⟨_, _, rfl, rfl, rfl, rfl, fun a w hR hf => .inl ⟨wanted_yes hf rfl, ex_move hf rfl⟩⟩) (.cons (⟨_, _, rfl, rfl, rfl, rfl, fun a w hR hf => .inr ⟨wanted_no hf rfl, rfl⟩⟩) (.cons (⟨_, _, rfl, rfl, rfl, rfl, fun a w hR hf => .inr ⟨wanted_no hf rfl, rfl⟩⟩) (.cons (⟨_, _, rfl, rfl, rfl, rfl, fun a w hR hf => .inr ⟨wanted_no hf rfl, rfl⟩⟩) (.cons (⟨_, _, rfl, rfl, rfl, rfl, fun a w hR hf => .inr ⟨wanted_no hf rfl, rfl⟩⟩) (.cons (⟨_, _, rfl, rfl, rfl, rfl, fun a w hR hf => .inr ⟨wanted_no hf rfl, rfl⟩⟩) (.cons (⟨_, _, rfl, rfl, rfl, rfl, fun a w hR hf => .inl ⟨wanted_yes hf rfl, ex_pickF hf rfl rfl⟩⟩) (.cons (⟨_, _, rfl, rfl, rfl, rfl, fun a w hR hf => .inl ⟨wanted_yes hf rfl, ex_move hf rfl⟩⟩) (.cons (⟨_, _, rfl, rfl, rfl, rfl, fun a w hR hf => .inl ⟨wanted_yes hf rfl, ex_move hf rfl⟩⟩) (.cons (⟨_, _, rfl, rfl, rfl, rfl, fun a w hR hf => .inl ⟨wanted_yes hf rfl, ex_move hf rfl⟩⟩) (.cons (⟨_, _, rfl, rfl, rfl, rfl, fun a w hR hf => .inl ⟨wanted_yes hf rfl, ex_move hf rfl⟩⟩) (.cons (⟨_, _, rfl, rfl, rfl, rfl, fun a w hR hf => .inl ⟨wanted_yes hf rfl, ex_indexAddr sa_22 (rsl_isSl (osl_rsl _ hR.1)) hc100.1 hc100.2 hf rfl rfl⟩⟩) (.cons (⟨_, _, rfl, rfl, rfl, rfl, fun a w hR hf => .inl ⟨wanted_yes hf rfl, ex_fieldAddrS fa_24_1 rfl hf rfl⟩⟩) (.cons (⟨_, _, rfl, rfl, rfl, rfl, fun a w hR hf => .inl ⟨wanted_yes hf rfl, ex_load sc_2 hf rfl (el_cell (K := K_api_Trip) (f := 1) (rsl_rd (osl_rsl _ hR.1)) hc100.1 hc100.2 rfl)⟩⟩) (.cons (⟨_, _, rfl, rfl, rfl, rfl, fun a w hR hf => .inl ⟨wanted_yes hf rfl, ex_move hf rfl⟩⟩) (.cons (⟨_, _, rfl, rfl, rfl, rfl, fun a w hR hf => .inl ⟨wanted_yes hf rfl, ex_move hf rfl⟩⟩) (.cons (⟨_, _, rfl, rfl, rfl, rfl, fun a w hR hf => .inl ⟨wanted_yes hf rfl, ex_indexAddr sa_22 (rsl_isSl (osl_rsl _ hR.1)) hc100.1 hc100.2 hf rfl rfl⟩⟩) (.cons (⟨_, _, rfl, rfl, rfl, rfl, fun a w hR hf => .inl ⟨wanted_yes hf rfl, ex_fieldAddrS fa_24_2 rfl hf rfl⟩⟩) (.cons (⟨_, _, rfl, rfl, rfl, rfl, fun a w hR hf => .inl ⟨wanted_yes hf rfl, ex_load sc_2 hf rfl (el_cell (K := K_api_Trip) (f := 2) (rsl_rd (osl_rsl _ hR.1)) hc100.1 hc100.2 rfl)⟩⟩) (.cons (⟨_, _, rfl, rfl, rfl, rfl, fun a w hR hf => .inl ⟨wanted_yes hf rfl, ex_sub hf rfl rfl⟩⟩) (.cons (⟨_, _, rfl, rfl, rfl, rfl, fun a w hR hf => .inl ⟨wanted_yes hf rfl, ex_castB (ex_lss hf rfl rfl) (dec_f hc113)⟩⟩) (.cons (⟨_, _, rfl, rfl, rfl, rfl, fun a w hR hf => .inl ⟨wanted_yes hf rfl, ex_move hf rfl⟩⟩) (.cons (⟨_, _, rfl, rfl, rfl, rfl, fun a w hR hf => .inr ⟨wanted_no hf rfl, rfl⟩⟩) (.cons (⟨_, _, rfl, rfl, rfl, rfl, fun a w hR hf => .inr ⟨wanted_no hf rfl, rfl⟩⟩) (.cons (⟨_, _, rfl, rfl, rfl, rfl, fun a w hR hf => .inr ⟨wanted_no hf rfl, rfl⟩⟩) (.cons (⟨_, _, rfl, rfl, rfl, rfl, fun a w hR hf => .inr ⟨wanted_no hf rfl, rfl⟩⟩) (.cons (⟨_, _, rfl, rfl, rfl, rfl, fun a w hR hf => .inl ⟨wanted_yes hf rfl, ex_pickF hf rfl rfl⟩⟩) (.cons (⟨_, _, rfl, rfl, rfl, rfl, fun a w hR hf => .inl ⟨wanted_yes hf rfl, ex_pickF hf rfl rfl⟩⟩) (.cons (⟨_, _, rfl, rfl, rfl, rfl, fun a w hR hf => .inl ⟨wanted_yes hf rfl, ex_move hf rfl⟩⟩) (.cons (⟨_, _, rfl, rfl, rfl, rfl, fun a w hR hf => .inl ⟨wanted_yes hf rfl, ex_move hf rfl⟩⟩) (.cons (⟨_, _, rfl, rfl, rfl, rfl, fun a w hR hf => .inl ⟨wanted_yes hf rfl, ex_move hf rfl⟩⟩) (.cons (⟨_, _, rfl, rfl, rfl, rfl, fun a w hR hf => .inl ⟨wanted_yes hf rfl, ex_move hf rfl⟩⟩) (.cons (⟨_, _, rfl, rfl, rfl, rfl, fun a w hR hf => .inl ⟨wanted_yes hf rfl, ex_indexAddr sa_22 (rsl_isSl (osl_rsl _ hR.1)) hc100.1 hc100.2 hf rfl rfl⟩⟩) (.cons (⟨_, _, rfl, rfl, rfl, rfl, fun a w hR hf => .inl ⟨wanted_yes hf rfl, ex_fieldAddrS fa_24_1 rfl hf rfl⟩⟩) (.cons (⟨_, _, rfl, rfl, rfl, rfl, fun a w hR hf => .inl ⟨wanted_yes hf rfl, ex_load sc_2 hf rfl (el_cell (K := K_api_Trip) (f := 1) (rsl_rd (osl_rsl _ hR.1)) hc100.1 hc100.2 rfl)⟩⟩) (.cons (⟨_, _, rfl, rfl, rfl, rfl, fun a w hR hf => .inl ⟨wanted_yes hf rfl, ex_castB (ex_lss hf rfl rfl) (dec_t hc123)⟩⟩) (.cons (⟨_, _, rfl, rfl, rfl, rfl, fun a w hR hf => .inl ⟨wanted_yes hf rfl, ex_move hf rfl⟩⟩) (.cons (⟨_, _, rfl, rfl, rfl, rfl, fun a w hR hf => .inl ⟨wanted_yes hf rfl, ex_move hf rfl⟩⟩) (.cons (⟨_, _, rfl, rfl, rfl, rfl, fun a w hR hf => .inl ⟨wanted_yes hf rfl, ex_move hf rfl⟩⟩) (.cons (⟨_, _, rfl, rfl, rfl, rfl, fun a w hR hf => .inl ⟨wanted_yes hf rfl, ex_move hf rfl⟩⟩) (.cons (⟨_, _, rfl, rfl, rfl, rfl, fun a w hR hf => .inl ⟨wanted_yes hf rfl, ex_indexAddr sa_22 (rsl_isSl (osl_rsl _ hR.1)) hc100.1 hc100.2 hf rfl rfl⟩⟩) (.cons (⟨_, _, rfl, rfl, rfl, rfl, fun a w hR hf => .inl ⟨wanted_yes hf rfl, ex_fieldAddrS fa_24_1 rfl hf rfl⟩⟩) (.cons (⟨_, _, rfl, rfl, rfl, rfl, fun a w hR hf => .inl ⟨wanted_yes hf rfl, ex_load sc_2 hf rfl (el_cell (K := K_api_Trip) (f := 1) (rsl_rd (osl_rsl _ hR.1)) hc100.1 hc100.2 rfl)⟩⟩) (.cons (⟨_, _, rfl, rfl, rfl, rfl, fun a w hR hf => .inl ⟨wanted_yes hf rfl, ex_move hf rfl⟩⟩) (.cons (⟨_, _, rfl, rfl, rfl, rfl, fun a w hR hf => .inl ⟨wanted_yes hf rfl, ex_move hf rfl⟩⟩) (.cons (⟨_, _, rfl, rfl, rfl, rfl, fun a w hR hf => .inl ⟨wanted_yes hf rfl, ex_indexAddr sa_22 (rsl_isSl (osl_rsl _ hR.1)) hc100.1 hc100.2 hf rfl rfl⟩⟩) (.cons (⟨_, _, rfl, rfl, rfl, rfl, fun a w hR hf => .inl ⟨wanted_yes hf rfl, ex_fieldAddrS fa_24_2 rfl hf rfl⟩⟩) (.cons (⟨_, _, rfl, rfl, rfl, rfl, fun a w hR hf => .inl ⟨wanted_yes hf rfl, ex_load sc_2 hf rfl (el_cell (K := K_api_Trip) (f := 2) (rsl_rd (osl_rsl _ hR.1)) hc100.1 hc100.2 rfl)⟩⟩) (.cons (⟨_, _, rfl, rfl, rfl, rfl, fun a w hR hf => .inl ⟨wanted_yes hf rfl, ex_sub hf rfl rfl⟩⟩) (.cons (⟨_, _, rfl, rfl, rfl, rfl, fun a w hR hf => .inl ⟨wanted_yes hf rfl, ex_castB (ex_geq hf rfl rfl) (dec_f hc124)⟩⟩) (.cons (⟨_, _, rfl, rfl, rfl, rfl, fun a w hR hf => .inl ⟨wanted_yes hf rfl, ex_pickT hf rfl rfl⟩⟩) (.cons (⟨_, _, rfl, rfl, rfl, rfl, fun a w hR hf => .inl ⟨wanted_yes hf rfl, ex_move hf rfl⟩⟩) (.cons (⟨_, _, rfl, rfl, rfl, rfl, fun a w hR hf => .inr ⟨wanted_no hf rfl, rfl⟩⟩) (.cons (⟨_, _, rfl, rfl, rfl, rfl, fun a w hR hf => .inr ⟨wanted_no hf rfl, rfl⟩⟩) (.cons (⟨_, _, rfl, rfl, rfl, rfl, fun a w hR hf => .inr ⟨wanted_no hf rfl, rfl⟩⟩) (.cons (⟨_, _, rfl, rfl, rfl, rfl, fun a w hR hf => .inr ⟨wanted_no hf rfl, rfl⟩⟩) (.cons (⟨_, _, rfl, rfl, rfl, rfl, fun a w hR hf => .inr ⟨wanted_no hf rfl, rfl⟩⟩) (.cons (⟨_, _, rfl, rfl, rfl, rfl, fun a w hR hf => .inr ⟨wanted_no hf rfl, rfl⟩⟩) (.cons (⟨_, _, rfl, rfl, rfl, rfl, fun a w hR hf => .inr ⟨wanted_no hf rfl, rfl⟩⟩) (.cons (⟨_, _, rfl, rfl, rfl, rfl, fun a w hR hf => .inr ⟨wanted_no hf rfl, rfl⟩⟩) (.cons (⟨_, _, rfl, rfl, rfl, rfl, fun a w hR hf => .inr ⟨wanted_no hf rfl, rfl⟩⟩) (.cons (⟨_, _, rfl, rfl, rfl, rfl, fun a w hR hf => .inl ⟨wanted_yes hf rfl, ex_pickF hf rfl rfl⟩⟩) (.cons (⟨_, _, rfl, rfl, rfl, rfl, fun a w hR hf => .inl ⟨wanted_yes hf rfl, ex_pickF hf rfl rfl⟩⟩) (.nil))))))))))))))))))))))))))))))))))))))))))))))))))))))))))))))))))))))) (fun K128 hK128 => ?_)
                                              refine RW.zero (by kernel_rfl) (by kernel_rfl) [(2, v2), (7, v11), (8, .int .i64 s12), (9, .pointer (some ⟨b24, 0, none⟩)), (11, v42), (12, .int .i64 y46), (13, .int .i64 y47), (14, .int .i64 s58), (15, .int .i64 s60.2.2.1), (16, .bool s60.2.2.2.1), (18, v64), (19, .bool y88), (20, .bool y89), (21, .int .i64 y90), (181, .bool false)] ⟨rfl, rfl, rfl, rfl, rfl, rfl, rfl, rfl, rfl, rfl, rfl, rfl, rfl, rfl, rfl, trivial⟩ (fun a w hR hs hf => ?_)
                                              refine hK128 _ _ ?_
                                              have e99 := some_eq H; subst e99
                                              exact hJ99 _ _ ⟨hf.sub ⟨rfl, rfl, rfl, rfl, rfl, rfl, rfl, rfl, rfl, rfl, rfl, rfl, rfl, rfl, rfl, trivial⟩, hs⟩
                                          · -- not s58 < ((gd Trip.zero s10 y90).Temperature)
                                            refine region_d fol 70 [(2, v2), (7, v11), (8, .int .i64 s12), (9, .pointer (some ⟨b24, 0, none⟩)), (11, v42), (12, .int .i64 y46), (13, .int .i64 y47), (14, .int .i64 s58), (15, .int .i64 s60.2.2.1), (16, .bool s60.2.2.2.1), (18, v64), (19, .bool y88), (20, .bool y89), (21, .int .i64 y90)] [(0, .int .i64 s58), (1, v11), (2, .int .i64 y90), (3, .pointer (some (sla v11 (y90.toNat * 3)))), (4, .pointer (some (sla v11 (y90.toNat * 3 + 1)))), (5, .int .i64 ((gd Trip.zero s10 y90).Temperature)), (6, .bool false), (7, .bool false), (8, undef), (9, undef), (10, undef), (11, undef), (12, undef), (13, .bool false), (14, .bool false), (15, .int .i64 s58), (16, v11), (17, .int .i64 y90), (18, .pointer (some (sla v11 (y90.toNat * 3)))), (19, .pointer (some (sla v11 (y90.toNat * 3 + 1)))), (20, .int .i64 ((gd Trip.zero s10 y90).Temperature)), (21, v11), (22, .int .i64 y90), (23, .pointer (some (sla v11 (y90.toNat * 3)))), (24, .pointer (some (sla v11 (y90.toNat * 3 + 2)))), (25, .int .i64 ((gd Trip.zero s10 y90).Hysteresis)), (26, .int .i64 (IntKind.i64.wrap (((gd Trip.zero s10 y90).Temperature) - ((gd Trip.zero s10 y90).Hysteresis)))), (27, .bool false), (28, .bool false), (29, undef), (30, undef), (31, undef), (32, undef), (33, .bool false), (34, .bool false), (35, .bool false), (36, .int .i64 s58), (37, v11), (38, .int .i64 y90), (39, .pointer (some (sla v11 (y90.toNat * 3)))), (40, .pointer (some (sla v11 (y90.toNat * 3 + 1)))), (41, .int .i64 ((gd Trip.zero s10 y90).Temperature)), (42, .bool false), (43, .bool false), (44, undef), (45, undef), (46, undef), (47, undef), (48, undef), (49, undef), (50, undef), (51, undef), (52, undef), (53, undef), (54, undef), (55, undef), (56, undef), (57, .bool false), (58, .bool false), (59, undef), (60, undef), (61, undef), (62, undef), (63, undef), (64, undef), (65, undef), (66, undef), (67, undef), (68, .bool false), (69, .bool false)] [] (fun w => (osl K_api_Trip v11 s10).ok w ∧ (osl K_bool v64 s63).ok w ∧ (osl K_bool v42 y45).ok w ∧ True) (fun w => St M w0 w [osl K_api_Trip v11 s10, bx b24 62 [v25, v61, .int .i64 c16.2.2.1, .int .i64 s60.1], osl K_api_Trip v25 c16.1, osl K_bool v61 s60.2.1, osl K_bool v42 y45, osl K_bool v64 s63]) hf ⟨rfl, rfl, rfl, rfl, rfl, rfl, rfl, rfl, rfl, rfl, rfl, rfl, rfl, rfl, trivial⟩ (by kernel_rfl) (by kernel_rfl) rfl (by decide) ⟨hs.drew.get (i := 0) rfl, hs.drew.get (i := 5) rfl, hs.drew.get (i := 4) rfl, trivial⟩ hs.drew (.cons (⟨_, _, rfl, rfl, rfl, rfl, fun a w hR hf => .inl ⟨wanted_yes hf rfl, ex_move hf rfl⟩⟩) (.cons (⟨_, _, rfl, rfl, rfl, rfl, fun a w hR hf => .inl ⟨wanted_yes hf rfl, ex_move hf rfl⟩⟩) (.cons (⟨_, _, rfl, rfl, rfl, rfl, fun a w hR hf => .inl ⟨wanted_yes hf rfl, ex_move hf rfl⟩⟩) (.cons (⟨_, _, rfl, rfl, rfl, rfl, fun a w hR hf => .inl ⟨wanted_yes hf rfl, ex_indexAddr sa_22 (rsl_isSl (osl_rsl _ hR.1)) hc100.1 hc100.2 hf rfl rfl⟩⟩) (.cons (⟨_, _, rfl, rfl, rfl, rfl, fun a w hR hf => .inl ⟨wanted_yes hf rfl, ex_fieldAddrS fa_24_1 rfl hf rfl⟩⟩) (.cons (⟨_, _, rfl, rfl, rfl, rfl, fun a w hR hf => .inl ⟨wanted_yes hf rfl, ex_load sc_2 hf rfl (el_cell (K := K_api_Trip) (f := 1) (rsl_rd (osl_rsl _ hR.1)) hc100.1 hc100.2 rfl)⟩⟩) (.cons (⟨_, _, rfl, rfl, rfl, rfl, fun a w hR hf => .inl ⟨wanted_yes hf rfl, ex_castB (ex_geq hf rfl rfl) (dec_f hc101)⟩⟩) (.cons (⟨_, _, rfl, rfl, rfl, rfl, fun a w hR hf => .inl ⟨wanted_yes hf rfl, ex_move hf rfl⟩⟩) (.cons (⟨_, _, rfl, rfl, rfl, rfl, fun a w hR hf => .inr ⟨wanted_no hf rfl, rfl⟩⟩) (.cons (⟨_, _, rfl, rfl, rfl, rfl, fun a w hR hf => .inr ⟨wanted_no hf rfl, rfl⟩⟩) (.cons (⟨_, _, rfl, rfl, rfl, rfl, fun a w hR hf => .inr ⟨wanted_no hf rfl, rfl⟩⟩) (.cons (⟨_, _, rfl, rfl, rfl, rfl, fun a w hR hf => .inr ⟨wanted_no hf rfl, rfl⟩⟩) (.cons (⟨_, _, rfl, rfl, rfl, rfl, fun a w hR hf => .inr ⟨wanted_no hf rfl, rfl⟩⟩) (.cons (⟨_, _, rfl, rfl, rfl, rfl, fun a w hR hf => .inl ⟨wanted_yes hf rfl, ex_pickF hf rfl rfl⟩⟩) (.cons (⟨_, _, rfl, rfl, rfl, rfl, fun a w hR hf => .inl ⟨wanted_yes hf rfl, ex_move hf rfl⟩⟩) (.cons (⟨_, _, rfl, rfl, rfl, rfl, fun a w hR hf => .inl ⟨wanted_yes hf rfl, ex_move hf rfl⟩⟩) (.cons (⟨_, _, rfl, rfl, rfl, rfl, fun a w hR hf => .inl ⟨wanted_yes hf rfl, ex_move hf rfl⟩⟩) (.cons (⟨_, _, rfl, rfl, rfl, rfl, fun a w hR hf => .inl ⟨wanted_yes hf rfl, ex_move hf rfl⟩⟩) (.cons (⟨_, _, rfl, rfl, rfl, rfl, fun a w hR hf => .inl ⟨wanted_yes hf rfl, ex_indexAddr sa_22 (rsl_isSl (osl_rsl _ hR.1)) hc100.1 hc100.2 hf rfl rfl⟩⟩) (.cons (⟨_, _, rfl, rfl, rfl, rfl, fun a w hR hf => .inl ⟨wanted_yes hf rfl, ex_fieldAddrS fa_24_1 rfl hf rfl⟩⟩) (.cons (⟨_, _, rfl, rfl, rfl, rfl, fun a w hR hf => .inl ⟨wanted_yes hf rfl, ex_load sc_2 hf rfl (el_cell (K := K_api_Trip) (f := 1) (rsl_rd (osl_rsl _ hR.1)) hc100.1 hc100.2 rfl)⟩⟩) (.cons (⟨_, _, rfl, rfl, rfl, rfl, fun a w hR hf => .inl ⟨wanted_yes hf rfl, ex_move hf rfl⟩⟩) (.cons (⟨_, _, rfl, rfl, rfl, rfl, fun a w hR hf => .inl ⟨wanted_yes hf rfl, ex_move hf rfl⟩⟩) (.cons (⟨_, _, rfl, rfl, rfl, rfl, fun a w hR hf => .inl ⟨wanted_yes hf rfl, ex_indexAddr sa_22 (rsl_isSl (osl_rsl _ hR.1)) hc100.1 hc100.2 hf rfl rfl⟩⟩) (.cons (⟨_, _, rfl, rfl, rfl, rfl, fun a w hR hf => .inl ⟨wanted_yes hf rfl, ex_fieldAddrS fa_24_2 rfl hf rfl⟩⟩) (.cons (⟨_, _, rfl, rfl, rfl, rfl, fun a w hR hf => .inl ⟨wanted_yes hf rfl, ex_load sc_2 hf rfl (el_cell (K := K_api_Trip) (f := 2) (rsl_rd (osl_rsl _ hR.1)) hc100.1 hc100.2 rfl)⟩⟩) (.cons (⟨_, _, rfl, rfl, rfl, rfl, fun a w hR hf => .inl ⟨wanted_yes hf rfl, ex_sub hf rfl rfl⟩⟩) (.cons (⟨_, _, rfl, rfl, rfl, rfl, fun a w hR hf => .inl ⟨wanted_yes hf rfl, ex_castB (ex_lss hf rfl rfl) (dec_f hc113)⟩⟩) (.cons (⟨_, _, rfl, rfl, rfl, rfl, fun a w hR hf => .inl ⟨wanted_yes hf rfl, ex_move hf rfl⟩⟩) (.cons (⟨_, _, rfl, rfl, rfl, rfl, fun a w hR hf => .inr ⟨wanted_no hf rfl, rfl⟩⟩) (.cons (⟨_, _, rfl, rfl, rfl, rfl, fun a w hR hf => .inr ⟨wanted_no hf rfl, rfl⟩⟩) (.cons (⟨_, _, rfl, rfl, rfl, rfl, fun a w hR hf => .inr ⟨wanted_no hf rfl, rfl⟩⟩) (.cons (⟨_, _, rfl, rfl, rfl, rfl, fun a w hR hf => .inr ⟨wanted_no hf rfl, rfl⟩⟩) (.cons (⟨_, _, rfl, rfl, rfl, rfl, fun a w hR hf => .inl ⟨wanted_yes hf rfl, ex_pickF hf rfl rfl⟩⟩) (.cons (⟨_, _, rfl, rfl, rfl, rfl, fun a w hR hf => .inl ⟨wanted_yes hf rfl, ex_pickF hf rfl rfl⟩⟩) (.cons (⟨_, _, rfl, rfl, rfl, rfl, fun a w hR hf => .inl ⟨wanted_yes hf rfl, ex_move hf rfl⟩⟩) (.cons (⟨_, _, rfl, rfl, rfl, rfl, fun a w hR hf => .inl ⟨wanted_yes hf rfl, ex_move hf rfl⟩⟩) (.cons (⟨_, _, rfl, rfl, rfl, rfl, fun a w hR hf => .inl ⟨wanted_yes hf rfl, ex_move hf rfl⟩⟩) (.cons (⟨_, _, rfl, rfl, rfl, rfl, fun a w hR hf => .inl ⟨wanted_yes hf rfl, ex_move hf rfl⟩⟩) (.cons (⟨_, _, rfl, rfl, rfl, rfl, fun a w hR hf => .inl ⟨wanted_yes hf rfl, ex_indexAddr sa_22 (rsl_isSl (osl_rsl _ hR.1)) hc100.1 hc100.2 hf rfl rfl⟩⟩) (.cons (⟨_, _, rfl, rfl, rfl, rfl, fun a w hR hf => .inl ⟨wanted_yes hf rfl, ex_fieldAddrS fa_24_1 rfl hf rfl⟩⟩) (.cons (⟨_, _, rfl, rfl, rfl, rfl, fun a w hR hf => .inl ⟨wanted_yes hf rfl, ex_load sc_2 hf rfl (el_cell (K := K_api_Trip) (f := 1) (rsl_rd (osl_rsl _ hR.1)) hc100.1 hc100.2 rfl)⟩⟩) (.cons (⟨_, _, rfl, rfl, rfl, rfl, fun a w hR hf => .inl ⟨wanted_yes hf rfl, ex_castB (ex_lss hf rfl rfl) (dec_f hc123)⟩⟩) (.cons (⟨_, _, rfl, rfl, rfl, rfl, fun a w hR hf => .inl ⟨wanted_yes hf rfl, ex_move hf rfl⟩⟩) (.cons (⟨_, _, rfl, rfl, rfl, rfl, fun a w hR hf => .inr ⟨wanted_no hf rfl, rfl⟩⟩) (.cons (⟨_, _, rfl, rfl, rfl, rfl, fun a w hR hf => .inr ⟨wanted_no hf rfl, rfl⟩⟩) (.cons (⟨_, _, rfl, rfl, rfl, rfl, fun a w hR hf => .inr ⟨wanted_no hf rfl, rfl⟩⟩) (.cons (⟨_, _, rfl, rfl, rfl, rfl, fun a w hR hf => .inr ⟨wanted_no hf rfl, rfl⟩⟩) (.cons (⟨_, _, rfl, rfl, rfl, rfl, fun a w hR hf => .inr ⟨wanted_no hf rfl, rfl⟩⟩) (.cons (⟨_, _, rfl, rfl, rfl, rfl, fun a w hR hf => .inr ⟨wanted_no hf rfl, rfl⟩⟩) (.cons (⟨_, _, rfl, rfl, rfl, rfl, fun a w hR hf => .inr ⟨wanted_no hf rfl, rfl⟩⟩) (.cons (⟨_, _, rfl, rfl, rfl, rfl, fun a w hR hf => .inr ⟨wanted_no hf rfl, rfl⟩⟩) (.cons (⟨_, _, rfl, rfl, rfl, rfl, fun a w hR hf => .inr ⟨wanted_no hf rfl, rfl⟩⟩) (.cons (⟨_, _, rfl, rfl, rfl, rfl, fun a w hR hf => .inr ⟨wanted_no hf rfl, rfl⟩⟩) (.cons (⟨_, _, rfl, rfl, rfl, rfl, fun a w hR hf => .inr ⟨wanted_no hf rfl, rfl⟩⟩) (.cons (⟨_, _, rfl, rfl, rfl, rfl, fun a w hR hf => .inr ⟨wanted_no hf rfl, rfl⟩⟩) (.cons (⟨_, _, rfl, rfl, rfl, rfl, fun a w hR hf => .inr ⟨wanted_no hf rfl, rfl⟩⟩) (.cons (⟨_, _, rfl, rfl, rfl, rfl, fun a w hR hf => .inl ⟨wanted_yes hf rfl, ex_pickF hf rfl rfl⟩⟩) (.cons (⟨_, _, rfl, rfl, rfl, rfl, fun a w hR hf => .inl ⟨wanted_yes hf rfl, ex_move hf rfl⟩⟩) (.cons (⟨_, _, rfl, rfl, rfl, rfl, fun a w hR hf => .inr ⟨wanted_no hf rfl, rfl⟩⟩) (.cons (⟨_, _, rfl, rfl, rfl, rfl, fun a w hR hf => .inr ⟨wanted_no hf rfl, rfl⟩⟩) (.cons (⟨_, _, rfl, rfl, rfl, rfl, fun a w hR hf => .inr ⟨wanted_no hf rfl, rfl⟩⟩) (.cons (⟨_, _, rfl, rfl, rfl, rfl, fun a w hR hf => .inr ⟨wanted_no hf rfl, rfl⟩⟩) (.cons (⟨_, _, rfl, rfl, rfl, rfl, fun a w hR hf => .inr ⟨wanted_no hf rfl, rfl⟩⟩) (.cons (⟨_, _, rfl, rfl, rfl, rfl, fun a w hR hf => .inr ⟨wanted_no hf rfl, rfl⟩⟩) (.cons (⟨_, _, rfl, rfl, rfl, rfl, fun a w hR hf => .inr ⟨wanted_no hf rfl, rfl⟩⟩) (.cons (⟨_, _, rfl, rfl, rfl, rfl, fun a w hR hf => .inr ⟨wanted_no hf rfl, rfl⟩⟩) (.cons (⟨_, _, rfl, rfl, rfl, rfl, fun a w hR hf => .inr ⟨wanted_no hf rfl, rfl⟩⟩) (.cons (⟨_, _, rfl, rfl, rfl, rfl, fun a w hR hf => .inl ⟨wanted_yes hf rfl, ex_pickF hf rfl rfl⟩⟩) (.cons (⟨_, _, rfl, rfl, rfl, rfl, fun a w hR hf => .inl ⟨wanted_yes hf rfl, ex_pickF hf rfl rfl⟩⟩) (.nil))))))))))))))))))))))))))))))))))))))))))))))))))))))))))))))))))))))) (fun K129 hK129 => ?_)
                                            refine RW.zero (by kernel_rfl) (by kernel_rfl) [(2, v2), (7, v11), (8, .int .i64 s12), (9, .pointer (some ⟨b24, 0, none⟩)), (11, v42), (12, .int .i64 y46), (13, .int .i64 y47), (14, .int .i64 s58), (15, .int .i64 s60.2.2.1), (16, .bool s60.2.2.2.1), (18, v64), (19, .bool y88), (20, .bool y89), (21, .int .i64 y90), (181, .bool false)] ⟨rfl, rfl, rfl, rfl, rfl, rfl, rfl, rfl, rfl, rfl, rfl, rfl, rfl, rfl, rfl, trivial⟩ (fun a w hR hs hf => ?_)
                                            refine hK129 _ _ ?_
                                            have e99 := some_eq H; subst e99
                                            exact hJ99 _ _ ⟨hf.sub ⟨rfl, rfl, rfl, rfl, rfl, rfl, rfl, rfl, rfl, rfl, rfl, rfl, rfl, rfl, rfl, trivial⟩, hs⟩
                                    · obtain ⟨hf, hs⟩ := hJ
                                      replace H := HO99
                                      clear HO99
                                      refine itt H (fun hc130 H => ?_) (fun hc130 H => ?_)
                                      · -- x99 = true
                                        replace hf := hf.castB (t := 181) rfl hc130
                                        refine cond_T hf rfl ?_
                                        refine seq_reg (fun K131 hK131 => ?_)
                                        refine stq hf rfl rfl rfl (ex_assign hf rfl) (fun a hf => ?_)
                                        refine hK131 _ _ ?_
                                        refine wp_ret ?_
                                        refine hR98 _ _ ?_
                                        refine hR97 _ _ ?_
                                        have e96 := some_eq H; subst e96; replace H := el_rt HO96
                                        refine hR96 _ _ ?_
                                        refine hR92 _ _ ?_
                                        refine hR87 _ _ ?_
                                        have e85 := some_eq H; subst e85; replace H := el_rt HO85
                                        refine hR85 _ _ ?_
                                        refine hR56 _ _ ?_
                                        have e53 := some_eq H; subst e53; replace H := el_rt HO53
                                        refine hR53 _ _ ?_
                                        refine hR49 _ _ ?_
                                        refine hR40 _ _ ?_
                                        have e38 := some_eq H; subst e38; replace H := el_rt HO38
                                        refine hR38 _ _ ?_
                                        have eR := some_eq H; subst eR
                                        replace hs := hs.keep (.d (.d (.d (.d (.d (.d .nil))))))
                                        exact ret1 Try.results7 hf rfl ⟨_, rfl, ⟨rfl, hs⟩⟩
                                      · -- not x99 = true
                                        replace hf := hf.castB (t := 181) rfl (bool_f hc130)
                                        refine cond_F hf rfl ?_
                                        refine wp_skip ?_
                                        refine hN98 _ _ ?_
                                        refine bnd H (fun x132 H132 HO132 => ?_)
                                        clear H
                                        refine seq_cut (fun a w => Fr a 235 [(2, v2), (7, v11), (8, .int .i64 s12), (9, .pointer (some ⟨b24, 0, none⟩)), (11, v42), (12, .int .i64 y46), (13, .int .i64 y47), (14, .int .i64 s58), (15, .int .i64 s60.2.2.1), (16, .bool s60.2.2.2.1), (18, v64), (19, .bool x132), (20, .bool y89), (21, .int .i64 y90)] ∧ St M w0 w [osl K_api_Trip v11 s10, bx b24 62 [v25, v61, .int .i64 c16.2.2.1, .int .i64 s60.1], osl K_api_Trip v25 c16.1, osl K_bool v61 s60.2.1, osl K_bool v42 y45, osl K_bool v64 s63]) (fun Q132 hJ132 hR132 hX132 => ?_) (fun a w hJ => ?_)
                                        · replace H := H132
                                          refine itt H (fun hc133 H => ?_) (fun hc133 H => ?_)
                                          · -- y88 = true
                                            refine region_k (fun K134 hK134 => ?_)
                                            refine stq hf rfl rfl rfl (ex_move hf rfl) (fun a hf => ?_)
                                            refine stq hf rfl rfl rfl (ex_move hf rfl) (fun a hf => ?_)
                                            replace hf := hf.castB (t := 19) rfl hc133
                                            replace hf := hf.castB (t := 182) rfl hc133
                                            replace hf := hf.castB (t := 183) rfl hc133
                                            refine stepN hf rfl rfl rfl (fun a hf => ?_)
                                            refine stepN hf rfl rfl rfl (fun a hf => ?_)
                                            refine stepN hf rfl rfl rfl (fun a hf => ?_)
                                            refine stepN hf rfl rfl rfl (fun a hf => ?_)
                                            refine stepN hf rfl rfl rfl (fun a hf => ?_)
                                            refine stepN hf rfl rfl rfl (fun a hf => ?_)
                                            refine stepN hf rfl rfl rfl (fun a hf => ?_)
                                            refine stepN hf rfl rfl rfl (fun a hf => ?_)
                                            refine stepN hf rfl rfl rfl (fun a hf => ?_)
                                            refine stepN hf rfl rfl rfl (fun a hf => ?_)
                                            refine stepN hf rfl rfl rfl (fun a hf => ?_)
                                            refine stepN hf rfl rfl rfl (fun a hf => ?_)
                                            refine stq hf rfl rfl rfl (ex_pickT hf rfl rfl) (fun a hf => ?_)
                                            refine stq hf rfl rfl rfl (ex_assign hf rfl) (fun a hf => ?_)
                                            refine hK134 _ _ ?_
                                            have e132 := some_eq H; subst e132
                                            exact hJ132 _ _ ⟨hf.sub ⟨rfl, rfl, rfl, rfl, rfl, rfl, rfl, rfl, rfl, rfl, rfl, rfl, rfl, rfl, trivial⟩, hs⟩
                                          · -- not y88 = true
                                            refine ck_some H (fun hc135 H => ?_)
                                            refine itt H (fun hc136 H => ?_) (fun hc136 H => ?_)
                                            · -- (gd false s63 y90) = true
                                              refine ck_some H (fun hc137 H => ?_)
                                              refine region_k (fun K138 hK138 => ?_)
                                              refine stq hf rfl rfl rfl (ex_move hf rfl) (fun a hf => ?_)
                                              refine stq hf rfl rfl rfl (ex_move hf rfl) (fun a hf => ?_)
                                              replace hf := hf.castB (t := 19) rfl (bool_f hc133)
                                              replace hf := hf.castB (t := 182) rfl (bool_f hc133)
                                              replace hf := hf.castB (t := 183) rfl (bool_f hc133)
                                              refine stq hf rfl rfl rfl (ex_move hf rfl) (fun a hf => ?_)
                                              refine stq hf rfl rfl rfl (ex_move hf rfl) (fun a hf => ?_)
                                              refine stq hf rfl rfl rfl (ex_indexAddr sa_52 (rsl_isSl (osl_rsl _ (hs.get (i := 5) rfl))) hc135.1 hc135.2 hf rfl rfl) (fun a hf => ?_)
                                              refine stq hf rfl rfl rfl (ex_load sc_4 hf rfl (el_cell (K := K_bool) (f := 0) (rsl_rd (osl_rsl _ (hs.get (i := 5) rfl))) hc135.1 hc135.2 rfl)) (fun a hf => ?_)
                                              refine stq hf rfl rfl rfl (ex_move hf rfl) (fun a hf => ?_)
                                              replace hf := hf.castB (t := 187) rfl hc136
                                              replace hf := hf.castB (t := 188) rfl hc136
                                              refine stq hf rfl rfl rfl (ex_move hf rfl) (fun a hf => ?_)
                                              refine stq hf rfl rfl rfl (ex_move hf rfl) (fun a hf => ?_)
                                              refine stq hf rfl rfl rfl (ex_indexAddr sa_22 (rsl_isSl (osl_rsl _ (hs.get (i := 0) rfl))) hc137.1 hc137.2 hf rfl rfl) (fun a hf => ?_)
                                              refine stq hf rfl rfl rfl (ex_fieldAddrS fa_24_0 rfl hf rfl) (fun a hf => ?_)
                                              refine stq hf rfl rfl rfl (ex_load sc_3 hf rfl (el_cell (K := K_api_Trip) (f := 0) (rsl_rd (osl_rsl _ (hs.get (i := 0) rfl))) hc137.1 hc137.2 rfl)) (fun a hf => ?_)
                                              refine stq hf rfl rfl rfl (ex_eql hf rfl rfl) (fun a hf => ?_)
                                              refine stq hf rfl rfl rfl (ex_pickT hf rfl rfl) (fun a hf => ?_)
                                              refine stq hf rfl rfl rfl (ex_pickF hf rfl rfl) (fun a hf => ?_)
                                              refine stq hf rfl rfl rfl (ex_assign hf rfl) (fun a hf => ?_)
                                              refine hK138 _ _ ?_
                                              have e132 := some_eq H; subst e132
                                              exact hJ132 _ _ ⟨hf.sub ⟨rfl, rfl, rfl, rfl, rfl, rfl, rfl, rfl, rfl, rfl, rfl, rfl, rfl, rfl, trivial⟩, hs⟩
                                            · -- not (gd false s63 y90) = true
                                              refine region_k (fun K139 hK139 => ?_)
                                              refine stq hf rfl rfl rfl (ex_move hf rfl) (fun a hf => ?_)
                                              refine stq hf rfl rfl rfl (ex_move hf rfl) (fun a hf => ?_)
                                              replace hf := hf.castB (t := 19) rfl (bool_f hc133)
                                              replace hf := hf.castB (t := 182) rfl (bool_f hc133)
                                              replace hf := hf.castB (t := 183) rfl (bool_f hc133)
                                              refine stq hf rfl rfl rfl (ex_move hf rfl) (fun a hf => ?_)
                                              refine stq hf rfl rfl rfl (ex_move hf rfl) (fun a hf => ?_)
                                              refine stq hf rfl rfl rfl (ex_indexAddr sa_52 (rsl_isSl (osl_rsl _ (hs.get (i := 5) rfl))) hc135.1 hc135.2 hf rfl rfl) (fun a hf => ?_)
                                              refine stq hf rfl rfl rfl (ex_load sc_4 hf rfl (el_cell (K := K_bool) (f := 0) (rsl_rd (osl_rsl _ (hs.get (i := 5) rfl))) hc135.1 hc135.2 rfl)) (fun a hf => ?_)
                                              refine stq hf rfl rfl rfl (ex_move hf rfl) (fun a hf => ?_)
                                              replace hf := hf.castB (t := 187) rfl (bool_f hc136)
                                              replace hf := hf.castB (t := 188) rfl (bool_f hc136)
                                              refine stepN hf rfl rfl rfl (fun a hf => ?_)
                                              refine stepN hf rfl rfl rfl (fun a hf => ?_)
                                              refine stepN hf rfl rfl rfl (fun a hf => ?_)
                                              refine stepN hf rfl rfl rfl (fun a hf => ?_)
                                              refine stepN hf rfl rfl rfl (fun a hf => ?_)
                                              refine stepN hf rfl rfl rfl (fun a hf => ?_)
                                              refine stq hf rfl rfl rfl (ex_pickF hf rfl rfl) (fun a hf => ?_)
                                              refine stq hf rfl rfl rfl (ex_pickF hf rfl rfl) (fun a hf => ?_)
                                              refine stq hf rfl rfl rfl (ex_assign hf rfl) (fun a hf => ?_)
                                              refine hK139 _ _ ?_
                                              have e132 := some_eq H; subst e132
                                              exact hJ132 _ _ ⟨hf.sub ⟨rfl, rfl, rfl, rfl, rfl, rfl, rfl, rfl, rfl, rfl, rfl, rfl, rfl, rfl, trivial⟩, hs⟩
                                        · obtain ⟨hf, hs⟩ := hJ
                                          replace H := HO132
                                          clear HO132
                                          refine itt H (fun hc140 H => ?_) (fun hc140 H => ?_)
                                          · -- y89 = true
                                            refine region_k (fun K141 hK141 => ?_)
                                            refine stq hf rfl rfl rfl (ex_move hf rfl) (fun a hf => ?_)
                                            refine stq hf rfl rfl rfl (ex_move hf rfl) (fun a hf => ?_)
                                            replace hf := hf.castB (t := 20) rfl hc140
                                            replace hf := hf.castB (t := 197) rfl hc140
                                            replace hf := hf.castB (t := 198) rfl hc140
                                            refine stepN hf rfl rfl rfl (fun a hf => ?_)
                                            refine stepN hf rfl rfl rfl (fun a hf => ?_)
                                            refine stepN hf rfl rfl rfl (fun a hf => ?_)
                                            refine stepN hf rfl rfl rfl (fun a hf => ?_)
                                            refine stepN hf rfl rfl rfl (fun a hf => ?_)
                                            refine stepN hf rfl rfl rfl (fun a hf => ?_)
                                            refine stepN hf rfl rfl rfl (fun a hf => ?_)
                                            refine stepN hf rfl rfl rfl (fun a hf => ?_)
                                            refine stepN hf rfl rfl rfl (fun a hf => ?_)
                                            refine stepN hf rfl rfl rfl (fun a hf => ?_)
                                            refine stepN hf rfl rfl rfl (fun a hf => ?_)
                                            refine stepN hf rfl rfl rfl (fun a hf => ?_)
                                            refine stq hf rfl rfl rfl (ex_pickT hf rfl rfl) (fun a hf => ?_)
                                            refine stq hf rfl rfl rfl (ex_assign hf rfl) (fun a hf => ?_)
                                            refine hK141 _ _ ?_
                                            refine hN97 _ _ ?_
                                            have e96 := some_eq H; subst e96
                                            exact hJ96 _ _ ⟨_, rfl, hf.sub ⟨rfl, rfl, rfl, rfl, rfl, rfl, rfl, rfl, rfl, rfl, rfl, rfl, rfl, rfl, trivial⟩, hs⟩
                                          · -- not y89 = true
                                            refine ck_some H (fun hc142 H => ?_)
                                            refine itt H (fun hc143 H => ?_) (fun hc143 H => ?_)
                                            · -- (gd false s63 y90) = true
                                              refine ck_some H (fun hc144 H => ?_)
                                              refine region_k (fun K145 hK145 => ?_)
                                              refine stq hf rfl rfl rfl (ex_move hf rfl) (fun a hf => ?_)
                                              refine stq hf rfl rfl rfl (ex_move hf rfl) (fun a hf => ?_)
                                              replace hf := hf.castB (t := 20) rfl (bool_f hc140)
                                              replace hf := hf.castB (t := 197) rfl (bool_f hc140)
                                              replace hf := hf.castB (t := 198) rfl (bool_f hc140)
                                              refine stq hf rfl rfl rfl (ex_move hf rfl) (fun a hf => ?_)
                                              refine stq hf rfl rfl rfl (ex_move hf rfl) (fun a hf => ?_)
                                              refine stq hf rfl rfl rfl (ex_indexAddr sa_52 (rsl_isSl (osl_rsl _ (hs.get (i := 5) rfl))) hc142.1 hc142.2 hf rfl rfl) (fun a hf => ?_)
                                              refine stq hf rfl rfl rfl (ex_load sc_4 hf rfl (el_cell (K := K_bool) (f := 0) (rsl_rd (osl_rsl _ (hs.get (i := 5) rfl))) hc142.1 hc142.2 rfl)) (fun a hf => ?_)
                                              refine stq hf rfl rfl rfl (ex_move hf rfl) (fun a hf => ?_)
                                              replace hf := hf.castB (t := 202) rfl hc143
                                              replace hf := hf.castB (t := 203) rfl hc143
                                              refine stq hf rfl rfl rfl (ex_move hf rfl) (fun a hf => ?_)
                                              refine stq hf rfl rfl rfl (ex_move hf rfl) (fun a hf => ?_)
                                              refine stq hf rfl rfl rfl (ex_indexAddr sa_22 (rsl_isSl (osl_rsl _ (hs.get (i := 0) rfl))) hc144.1 hc144.2 hf rfl rfl) (fun a hf => ?_)
                                              refine stq hf rfl rfl rfl (ex_fieldAddrS fa_24_0 rfl hf rfl) (fun a hf => ?_)
                                              refine stq hf rfl rfl rfl (ex_load sc_3 hf rfl (el_cell (K := K_api_Trip) (f := 0) (rsl_rd (osl_rsl _ (hs.get (i := 0) rfl))) hc144.1 hc144.2 rfl)) (fun a hf => ?_)
                                              refine stq hf rfl rfl rfl (ex_eql hf rfl rfl) (fun a hf => ?_)
                                              refine stq hf rfl rfl rfl (ex_pickT hf rfl rfl) (fun a hf => ?_)
                                              refine stq hf rfl rfl rfl (ex_pickF hf rfl rfl) (fun a hf => ?_)
                                              refine stq hf rfl rfl rfl (ex_assign hf rfl) (fun a hf => ?_)
                                              refine hK145 _ _ ?_
                                              refine hN97 _ _ ?_
                                              have e96 := some_eq H; subst e96
                                              exact hJ96 _ _ ⟨_, rfl, hf.sub ⟨rfl, rfl, rfl, rfl, rfl, rfl, rfl, rfl, rfl, rfl, rfl, rfl, rfl, rfl, trivial⟩, hs⟩
                                            · -- not (gd false s63 y90) = true
                                              refine region_k (fun K146 hK146 => ?_)
                                              refine stq hf rfl rfl rfl (ex_move hf rfl) (fun a hf => ?_)
                                              refine stq hf rfl rfl rfl (ex_move hf rfl) (fun a hf => ?_)
                                              replace hf := hf.castB (t := 20) rfl (bool_f hc140)
                                              replace hf := hf.castB (t := 197) rfl (bool_f hc140)
                                              replace hf := hf.castB (t := 198) rfl (bool_f hc140)
                                              refine stq hf rfl rfl rfl (ex_move hf rfl) (fun a hf => ?_)
                                              refine stq hf rfl rfl rfl (ex_move hf rfl) (fun a hf => ?_)
                                              refine stq hf rfl rfl rfl (ex_indexAddr sa_52 (rsl_isSl (osl_rsl _ (hs.get (i := 5) rfl))) hc142.1 hc142.2 hf rfl rfl) (fun a hf => ?_)
                                              refine stq hf rfl rfl rfl (ex_load sc_4 hf rfl (el_cell (K := K_bool) (f := 0) (rsl_rd (osl_rsl _ (hs.get (i := 5) rfl))) hc142.1 hc142.2 rfl)) (fun a hf => ?_)
                                              refine stq hf rfl rfl rfl (ex_move hf rfl) (fun a hf => ?_)
                                              replace hf := hf.castB (t := 202) rfl (bool_f hc143)
                                              replace hf := hf.castB (t := 203) rfl (bool_f hc143)
                                              refine stepN hf rfl rfl rfl (fun a hf => ?_)
                                              refine stepN hf rfl rfl rfl (fun a hf => ?_)
                                              refine stepN hf rfl rfl rfl (fun a hf => ?_)
                                              refine stepN hf rfl rfl rfl (fun a hf => ?_)
                                              refine stepN hf rfl rfl rfl (fun a hf => ?_)
                                              refine stepN hf rfl rfl rfl (fun a hf => ?_)
                                              refine stq hf rfl rfl rfl (ex_pickF hf rfl rfl) (fun a hf => ?_)
                                              refine stq hf rfl rfl rfl (ex_pickF hf rfl rfl) (fun a hf => ?_)
                                              refine stq hf rfl rfl rfl (ex_assign hf rfl) (fun a hf => ?_)
                                              refine hK146 _ _ ?_
                                              refine hN97 _ _ ?_
                                              have e96 := some_eq H; subst e96
                                              exact hJ96 _ _ ⟨_, rfl, hf.sub ⟨rfl, rfl, rfl, rfl, rfl, rfl, rfl, rfl, rfl, rfl, rfl, rfl, rfl, rfl, trivial⟩, hs⟩
                                  · obtain ⟨x96s, rfl, hf, hs⟩ := hJ
                                    replace H := el_go HO96
                                    clear HO96
                                    refine region_k (fun K147 hK147 => ?_)
                                    refine stq hf rfl rfl rfl (ex_move hf rfl) (fun a hf => ?_)
                                    refine stq hf rfl rfl rfl (ex_add hf rfl rfl) (fun a hf => ?_)
                                    refine stq hf rfl rfl rfl (ex_assign hf rfl) (fun a hf => ?_)
                                    refine hK147 _ _ ?_
                                    exact hL92 k92 _ _ (Nat.lt_succ_self _) ⟨x96s.1, x96s.2, (IntKind.i64.wrap (y90 + 1)), hf.sub ⟨rfl, rfl, rfl, rfl, rfl, rfl, rfl, rfl, rfl, rfl, rfl, rfl, rfl, rfl, trivial⟩, hs, H⟩
                                · -- not y90 < (s10.length : Int)
                                  replace hf := hf.castB (t := 109) rfl (dec_f hc95)
                                  refine cond_F hf rfl ?_
                                  refine wp_exit ?_
                                  refine hX93 2 _ _ ?_
                                  refine hX92 2 _ _ ?_
                                  refine hX87 _ _ ?_
                                  replace hs := hs.keep (.k (.k (.k (.k (.d (.k .nil))))))
                                  have e85 := some_eq H; subst e85
                                  exact hJ85 _ _ ⟨_, rfl, hf.sub ⟨rfl, rfl, rfl, rfl, rfl, rfl, rfl, rfl, rfl, rfl, rfl, trivial⟩, hs⟩
                          · obtain ⟨x85s, rfl, hf, hs⟩ := hJ
                            replace H := el_go HO85
                            clear HO85
                            refine seq_n (fun Q148 hN148 hR148 hX148 => ?_)
                            refine bnd H (fun x149 H149 HO149 => ?_)
                            clear H
                            refine seq_cut (fun a w => Fr a 235 [(2, v2), (7, v11), (8, .int .i64 s12), (9, .pointer (some ⟨b24, 0, none⟩)), (13, .int .i64 y47), (15, .int .i64 s60.2.2.1), (18, v64), (231, .bool x149)] ∧ St M w0 w [osl K_api_Trip v11 s10, bx b24 62 [v25, v61, .int .i64 c16.2.2.1, .int .i64 s60.1], osl K_api_Trip v25 c16.1, osl K_bool v61 s60.2.1, osl K_bool v64 s63]) (fun Q149 hJ149 hR149 hX149 => ?_) (fun a w hJ => ?_)
                            · replace H := H149
                              refine itt H (fun hc150 H => ?_) (fun hc150 H => ?_)
                              · -- (s60.2.2.2.1 == x85s.2) = true
                                refine itt H (fun hc151 H => ?_) (fun hc151 H => ?_)
                                · -- x85s.1 = true
                                  refine itt H (fun hc152 H => ?_) (fun hc152 H => ?_)
                                  · -- s60.2.2.1 < y46
                                    refine region_k (fun K153 hK153 => ?_)
                                    refine stq hf rfl rfl rfl (ex_move hf rfl) (fun a hf => ?_)
                                    refine stq hf rfl rfl rfl (ex_move hf rfl) (fun a hf => ?_)
                                    refine stq hf rfl rfl rfl (ex_neb Try.underlying4 hf rfl rfl) (fun a hf => ?_)
                                    refine stq hf rfl rfl rfl (ex_move hf rfl) (fun a hf => ?_)
                                    replace hf := hf.castB (t := 214) rfl (nbool_f hc150)
                                    replace hf := hf.castB (t := 215) rfl (nbool_f hc150)
                                    refine stq hf rfl rfl rfl (ex_move hf rfl) (fun a hf => ?_)
                                    refine stq hf rfl rfl rfl (ex_move hf rfl) (fun a hf => ?_)
                                    replace hf := hf.castB (t := 19) rfl hc151
                                    replace hf := hf.castB (t := 216) rfl hc151
                                    replace hf := hf.castB (t := 217) rfl hc151
                                    refine stq hf rfl rfl rfl (ex_move hf rfl) (fun a hf => ?_)
                                    refine stq hf rfl rfl rfl (ex_move hf rfl) (fun a hf => ?_)
                                    refine stq hf rfl rfl rfl (ex_lss hf rfl rfl) (fun a hf => ?_)
                                    refine stq hf rfl rfl rfl (ex_pickT hf rfl rfl) (fun a hf => ?_)
                                    refine stq hf rfl rfl rfl (ex_pickF hf rfl rfl) (fun a hf => ?_)
                                    refine stq hf rfl rfl rfl (ex_move hf rfl) (fun a hf => ?_)
                                    replace hf := hf.castB (t := 220) rfl (dec_t hc152)
                                    replace hf := hf.castB (t := 221) rfl (dec_t hc152)
                                    replace hf := hf.castB (t := 222) rfl (dec_t hc152)
                                    replace hf := hf.castB (t := 223) rfl (dec_t hc152)
                                    refine stepN hf rfl rfl rfl (fun a hf => ?_)
                                    refine stepN hf rfl rfl rfl (fun a hf => ?_)
                                    refine stepN hf rfl rfl rfl (fun a hf => ?_)
                                    refine stepN hf rfl rfl rfl (fun a hf => ?_)
                                    refine stepN hf rfl rfl rfl (fun a hf => ?_)
                                    refine stepN hf rfl rfl rfl (fun a hf => ?_)
                                    refine stepN hf rfl rfl rfl (fun a hf => ?_)
                                    refine stq hf rfl rfl rfl (ex_pickT hf rfl rfl) (fun a hf => ?_)
                                    refine hK153 _ _ ?_
                                    have e149 := some_eq H; subst e149
                                    exact hJ149 _ _ ⟨hf.sub ⟨rfl, rfl, rfl, rfl, rfl, rfl, rfl, rfl, trivial⟩, hs⟩
                                  · -- not s60.2.2.1 < y46
                                    refine region_k (fun K154 hK154 => ?_)
                                    refine stq hf rfl rfl rfl (ex_move hf rfl) (fun a hf => ?_)
                                    refine stq hf rfl rfl rfl (ex_move hf rfl) (fun a hf => ?_)
                                    refine stq hf rfl rfl rfl (ex_neb Try.underlying4 hf rfl rfl) (fun a hf => ?_)
                                    refine stq hf rfl rfl rfl (ex_move hf rfl) (fun a hf => ?_)
                                    replace hf := hf.castB (t := 214) rfl (nbool_f hc150)
                                    replace hf := hf.castB (t := 215) rfl (nbool_f hc150)
                                    refine stq hf rfl rfl rfl (ex_move hf rfl) (fun a hf => ?_)
                                    refine stq hf rfl rfl rfl (ex_move hf rfl) (fun a hf => ?_)
                                    replace hf := hf.castB (t := 19) rfl hc151
                                    replace hf := hf.castB (t := 216) rfl hc151
                                    replace hf := hf.castB (t := 217) rfl hc151
                                    refine stq hf rfl rfl rfl (ex_move hf rfl) (fun a hf => ?_)
                                    refine stq hf rfl rfl rfl (ex_move hf rfl) (fun a hf => ?_)
                                    refine stq hf rfl rfl rfl (ex_lss hf rfl rfl) (fun a hf => ?_)
                                    refine stq hf rfl rfl rfl (ex_pickT hf rfl rfl) (fun a hf => ?_)
                                    refine stq hf rfl rfl rfl (ex_pickF hf rfl rfl) (fun a hf => ?_)
                                    refine stq hf rfl rfl rfl (ex_move hf rfl) (fun a hf => ?_)
                                    replace hf := hf.castB (t := 220) rfl (dec_f hc152)
                                    replace hf := hf.castB (t := 221) rfl (dec_f hc152)
                                    replace hf := hf.castB (t := 222) rfl (dec_f hc152)
                                    replace hf := hf.castB (t := 223) rfl (dec_f hc152)
                                    refine stq hf rfl rfl rfl (ex_move hf rfl) (fun a hf => ?_)
                                    refine stq hf rfl rfl rfl (ex_not hf rfl) (fun a hf => ?_)
                                    refine stq hf rfl rfl rfl (ex_move hf rfl) (fun a hf => ?_)
                                    refine stepN hf rfl rfl rfl (fun a hf => ?_)
                                    refine stepN hf rfl rfl rfl (fun a hf => ?_)
                                    refine stepN hf rfl rfl rfl (fun a hf => ?_)
                                    refine stq hf rfl rfl rfl (ex_pickF hf rfl rfl) (fun a hf => ?_)
                                    refine stq hf rfl rfl rfl (ex_pickF hf rfl rfl) (fun a hf => ?_)
                                    refine hK154 _ _ ?_
                                    have e149 := some_eq H; subst e149
                                    exact hJ149 _ _ ⟨hf.sub ⟨rfl, rfl, rfl, rfl, rfl, rfl, rfl, rfl, trivial⟩, hs⟩
                                · -- not x85s.1 = true
                                  refine region_k (fun K155 hK155 => ?_)
                                  refine stq hf rfl rfl rfl (ex_move hf rfl) (fun a hf => ?_)
                                  refine stq hf rfl rfl rfl (ex_move hf rfl) (fun a hf => ?_)
                                  refine stq hf rfl rfl rfl (ex_neb Try.underlying4 hf rfl rfl) (fun a hf => ?_)
                                  refine stq hf rfl rfl rfl (ex_move hf rfl) (fun a hf => ?_)
                                  replace hf := hf.castB (t := 214) rfl (nbool_f hc150)
                                  replace hf := hf.castB (t := 215) rfl (nbool_f hc150)
                                  refine stq hf rfl rfl rfl (ex_move hf rfl) (fun a hf => ?_)
                                  refine stq hf rfl rfl rfl (ex_move hf rfl) (fun a hf => ?_)
                                  replace hf := hf.castB (t := 19) rfl (bool_f hc151)
                                  replace hf := hf.castB (t := 216) rfl (bool_f hc151)
                                  replace hf := hf.castB (t := 217) rfl (bool_f hc151)
                                  refine stepN hf rfl rfl rfl (fun a hf => ?_)
                                  refine stepN hf rfl rfl rfl (fun a hf => ?_)
                                  refine stepN hf rfl rfl rfl (fun a hf => ?_)
                                  refine stq hf rfl rfl rfl (ex_pickF hf rfl rfl) (fun a hf => ?_)
                                  refine stq hf rfl rfl rfl (ex_pickF hf rfl rfl) (fun a hf => ?_)
                                  refine stq hf rfl rfl rfl (ex_move hf rfl) (fun a hf => ?_)
                                  refine stq hf rfl rfl rfl (ex_move hf rfl) (fun a hf => ?_)
                                  refine stq hf rfl rfl rfl (ex_not hf rfl) (fun a hf => ?_)
                                  refine stq hf rfl rfl rfl (ex_move hf rfl) (fun a hf => ?_)
                                  refine stq hf rfl rfl rfl (ex_move hf rfl) (fun a hf => ?_)
                                  refine stq hf rfl rfl rfl (ex_move hf rfl) (fun a hf => ?_)
                                  refine stq hf rfl rfl rfl (ex_gtr hf rfl rfl) (fun a hf => ?_)
                                  refine stq hf rfl rfl rfl (ex_pickT hf rfl rfl) (fun a hf => ?_)
                                  refine stq hf rfl rfl rfl (ex_pickF hf rfl rfl) (fun a hf => ?_)
                                  refine hK155 _ _ ?_
                                  have e149 := some_eq H; subst e149
                                  exact hJ149 _ _ ⟨hf.sub ⟨rfl, rfl, rfl, rfl, rfl, rfl, rfl, rfl, trivial⟩, hs⟩
                              · -- not (s60.2.2.2.1 == x85s.2) = true
                                refine region_k (fun K156 hK156 => ?_)
                                refine stq hf rfl rfl rfl (ex_move hf rfl) (fun a hf => ?_)
                                refine stq hf rfl rfl rfl (ex_move hf rfl) (fun a hf => ?_)
                                refine stq hf rfl rfl rfl (ex_neb Try.underlying4 hf rfl rfl) (fun a hf => ?_)
                                refine stq hf rfl rfl rfl (ex_move hf rfl) (fun a hf => ?_)
                                replace hf := hf.castB (t := 214) rfl (nbool_t hc150)
                                replace hf := hf.castB (t := 215) rfl (nbool_t hc150)
                                refine stepN hf rfl rfl rfl (fun a hf => ?_)
                                refine stepN hf rfl rfl rfl (fun a hf => ?_)
                                refine stepN hf rfl rfl rfl (fun a hf => ?_)
                                refine stepN hf rfl rfl rfl (fun a hf => ?_)
                                refine stepN hf rfl rfl rfl (fun a hf => ?_)
                                refine stepN hf rfl rfl rfl (fun a hf => ?_)
                                refine stq hf rfl rfl rfl (ex_pickT hf rfl rfl) (fun a hf => ?_)
                                refine stq hf rfl rfl rfl (ex_move hf rfl) (fun a hf => ?_)
                                refine stepN hf rfl rfl rfl (fun a hf => ?_)
                                refine stepN hf rfl rfl rfl (fun a hf => ?_)
                                refine stepN hf rfl rfl rfl (fun a hf => ?_)
                                refine stepN hf rfl rfl rfl (fun a hf => ?_)
                                refine stepN hf rfl rfl rfl (fun a hf => ?_)
                                refine stepN hf rfl rfl rfl (fun a hf => ?_)
                                refine stepN hf rfl rfl rfl (fun a hf => ?_)
                                refine stq hf rfl rfl rfl (ex_pickT hf rfl rfl) (fun a hf => ?_)
                                refine hK156 _ _ ?_
                                have e149 := some_eq H; subst e149
                                exact hJ149 _ _ ⟨hf.sub ⟨rfl, rfl, rfl, rfl, rfl, rfl, rfl, rfl, trivial⟩, hs⟩
                            · obtain ⟨hf, hs⟩ := hJ
                              replace H := HO149
                              clear HO149
                              refine itt H (fun hc157 H => ?_) (fun hc157 H => ?_)
                              · -- x149 = true
                                replace hf := hf.castB (t := 231) rfl hc157
                                refine cond_T hf rfl ?_
                                refine seq_reg (fun K158 hK158 => ?_)
                                refine stq hf rfl rfl rfl (ex_assign hf rfl) (fun a hf => ?_)
                                refine hK158 _ _ ?_
                                refine wp_ret ?_
                                refine hR148 _ _ ?_
                                refine hR56 _ _ ?_
                                have e53 := some_eq H; subst e53; replace H := el_rt HO53
                                refine hR53 _ _ ?_
                                refine hR49 _ _ ?_
                                refine hR40 _ _ ?_
                                have e38 := some_eq H; subst e38; replace H := el_rt HO38
                                refine hR38 _ _ ?_
                                have eR := some_eq H; subst eR
                                replace hs := hs.keep (.d (.d (.d (.d (.d .nil)))))
                                exact ret1 Try.results7 hf rfl ⟨_, rfl, ⟨rfl, hs⟩⟩
                              · -- not x149 = true
                                replace hf := hf.castB (t := 231) rfl (bool_f hc157)
                                refine cond_F hf rfl ?_
                                refine wp_skip ?_
                                refine hN148 _ _ ?_
                                refine region_k (fun K159 hK159 => ?_)
                                refine stq hf rfl rfl rfl (ex_move hf rfl) (fun a hf => ?_)
                                refine stq hf rfl rfl rfl (ex_move hf rfl) (fun a hf => ?_)
                                refine stq hf rfl rfl rfl (ex_assign hf rfl) (fun a hf => ?_)
                                refine stq hf rfl rfl rfl (ex_assign hf rfl) (fun a hf => ?_)
                                refine hK159 _ _ ?_
                                refine hN56 _ _ ?_
                                have e53 := some_eq H; subst e53
                                exact hJ53 _ _ ⟨_, v61, v64, rfl, hf.sub ⟨rfl, rfl, rfl, rfl, rfl, rfl, rfl, trivial⟩, hs⟩
                    · obtain ⟨x53s, v54, v55, rfl, hf, hs⟩ := hJ
                      replace H := el_go HO53
                      clear HO53
                      refine region_k (fun K160 hK160 => ?_)
                      refine stq hf rfl rfl rfl (ex_move hf rfl) (fun a hf => ?_)
                      refine stq hf rfl rfl rfl (ex_add hf rfl rfl) (fun a hf => ?_)
                      refine stq hf rfl rfl rfl (ex_assign hf rfl) (fun a hf => ?_)
                      refine hK160 _ _ ?_
                      exact hL49 k49 _ _ (Nat.lt_succ_self _) ⟨x53s.1, x53s.2.1, x53s.2.2.1, x53s.2.2.2, (IntKind.i64.wrap (y47 + 1)), v54, v55, hf.sub ⟨rfl, rfl, rfl, rfl, rfl, rfl, rfl, trivial⟩, hs, H⟩
                  · -- not y47 < (a2.length : Int)
                    replace hf := hf.castB (t := 53) rfl (dec_f hc52)
                    refine cond_F hf rfl ?_
                    refine wp_exit ?_
                    refine hX50 0 _ _ ?_
                    refine hX49 0 _ _ ?_
                    refine hX40 _ _ ?_
                    replace hs := hs.keep (.d (.d (.d (.d (.d .nil)))))
                    have e38 := some_eq H; subst e38
                    exact hJ38 _ _ ⟨_, rfl, hf.sub trivial, hs⟩
            · obtain ⟨x38s, rfl, hf, hs⟩ := hJ
              replace H := el_go HO38
              clear HO38
              refine bnd H (fun s161 hs161 H => ?_)
              refine seq_reg (fun K162 hK162 => ?_)
              refine stepF hf rfl rfl rfl (ex_call cf_10 hf rfl) (law39_awake.calls k (hs.enter .nil) (Sr.nil _ _) hs161) (fun v w hR a hf => ?_)
              obtain ⟨rfl, hs'⟩ := hR
              replace hs := hs.step .nil hs'
              clear hs'
              refine stq hf rfl rfl rfl (ex_assign hf rfl) (fun a hf => ?_)
              refine hK162 _ _ ?_
              refine wp_ret ?_
              have eR := some_eq H; subst eR
              exact ret1 Try.results7 hf rfl ⟨_, rfl, ⟨rfl, hs⟩⟩

end Go.Proofs.Ytkcmohmnmapnbaa.X
