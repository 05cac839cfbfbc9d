/- Each function of the machine comes to what its pure function says. -/
import Derived.Test.YtkcmohmnmapnbaaFc2
import Derived.Test.YtkcmohmnmapnbaaFc3
import Derived.Test.YtkcmohmnmapnbaaFc4
import Derived.Test.YtkcmohmnmapnbaaFb
namespace Go.Proofs.Ytkcmohmnmapnbaa.X
open Go Go.RowKit Go.Sx
set_option linter.unusedVariables false

set_option maxRecDepth 100000 in
theorem law39_ThermalFairAgrees.calls {M : Nat → Prop} {w0 : World} (k : Nat) (a0 : Int) (a1 : (List Actor)) (a2 : (List Int)) (a3 : Int) (a4 : Int) (v1 : Value) (v2 : Value) {r : Bool} (hs : St M w0 w0 []) (hr : Sr M w0 [rsl K_api_Actor v1 a1, rsl K_uint64 v2 a2])
    (h : law39_ThermalFairAgrees.f k a0 a1 a2 a3 a4 = some r) : Calls Try.prog 9 #[.int .u64 a0, v1, v2, .int .i64 a3, .int .i64 a4] w0 fun e w => ∃ v, e = .returned v ∧ (.bool r = v ∧ St M w0 w []) := by
  have H := (law39_ThermalFairAgrees.f.eq_1 ..).symm.trans h
  clear h
  refine enter Try.func9 rfl Try.ntmps9 rfl (fun a hf => ?_)
  refine seq_reg (fun K1 hK1 => ?_)
  refine stq hf rfl rfl rfl (ex_assign hf rfl) (fun a hf => ?_)
  refine hK1 _ _ ?_
  refine seq_n (fun Q2 hN2 hR2 hX2 => ?_)
  refine bnd H (fun x3 H3 HO3 => ?_)
  clear H
  refine seq_cut (fun a w => Fr a 123 [(0, .int .u64 a0), (1, v1), (2, v2), (3, .int .i64 a3), (4, .int .i64 a4), (26, .bool x3)] ∧ St M w0 w []) (fun Q3 hJ3 hR3 hX3 => ?_) (fun a w hJ => ?_)
  · replace H := H3
    refine itt H (fun hc4 H => ?_) (fun hc4 H => ?_)
    · -- 40 < (a1.length : Int)
      refine region_k (fun K5 hK5 => ?_)
      refine stq hf rfl rfl rfl (ex_move hf rfl) (fun a hf => ?_)
      refine stq hf rfl rfl rfl (ex_lenS Try.underlying38 (rsl_isSl (hr.now hs (i := 0) rfl)) hf rfl) (fun a hf => ?_)
      refine stq hf rfl rfl rfl (ex_gtr hf rfl rfl) (fun a hf => ?_)
      refine stq hf rfl rfl rfl (ex_move hf rfl) (fun a hf => ?_)
      replace hf := hf.castB (t := 21) rfl (dec_t hc4)
      replace hf := hf.castB (t := 22) rfl (dec_t hc4)
      refine stepN hf rfl rfl rfl (fun a hf => ?_)
      refine stepN hf rfl rfl rfl (fun a hf => ?_)
      refine stepN hf rfl rfl rfl (fun a hf => ?_)
      refine stq hf rfl rfl rfl (ex_pickT hf rfl rfl) (fun a hf => ?_)
      refine hK5 _ _ ?_
      have e3 := some_eq H; subst e3
      exact hJ3 _ _ ⟨hf.sub ⟨rfl, rfl, rfl, rfl, rfl, rfl, trivial⟩, hs⟩
    · -- not 40 < (a1.length : Int)
      refine region_k (fun K6 hK6 => ?_)
      refine stq hf rfl rfl rfl (ex_move hf rfl) (fun a hf => ?_)
      refine stq hf rfl rfl rfl (ex_lenS Try.underlying38 (rsl_isSl (hr.now hs (i := 0) rfl)) hf rfl) (fun a hf => ?_)
      refine stq hf rfl rfl rfl (ex_gtr hf rfl rfl) (fun a hf => ?_)
      refine stq hf rfl rfl rfl (ex_move hf rfl) (fun a hf => ?_)
      replace hf := hf.castB (t := 21) rfl (dec_f hc4)
      replace hf := hf.castB (t := 22) rfl (dec_f hc4)
      refine stq hf rfl rfl rfl (ex_move hf rfl) (fun a hf => ?_)
      refine stq hf rfl rfl rfl (ex_lenS Try.underlying40 (rsl_isSl (hr.now hs (i := 1) rfl)) hf rfl) (fun a hf => ?_)
      refine stq hf rfl rfl rfl (ex_gtr hf rfl rfl) (fun a hf => ?_)
      refine stq hf rfl rfl rfl (ex_pickF hf rfl rfl) (fun a hf => ?_)
      refine hK6 _ _ ?_
      have e3 := some_eq H; subst e3
      exact hJ3 _ _ ⟨hf.sub ⟨rfl, rfl, rfl, rfl, rfl, rfl, trivial⟩, hs⟩
  · obtain ⟨hf, hs⟩ := hJ
    replace H := HO3
    clear HO3
    refine itt H (fun hc7 H => ?_) (fun hc7 H => ?_)
    · -- x3 = true
      replace hf := hf.castB (t := 26) rfl hc7
      refine cond_T hf rfl ?_
      refine bnd H (fun s8 hs8 H => ?_)
      refine seq_reg (fun K9 hK9 => ?_)
      refine stepF hf rfl rfl rfl (ex_call cf_10 hf rfl) (law39_awake.calls k (hs.enter .nil) (Sr.nil _ _) hs8) (fun v w hR a hf => ?_)
      obtain ⟨rfl, hs'⟩ := hR
      replace hs := hs.step .nil hs'
      clear hs'
      refine stq hf rfl rfl rfl (ex_assign hf rfl) (fun a hf => ?_)
      refine hK9 _ _ ?_
      refine wp_ret ?_
      refine hR2 _ _ ?_
      have eR := some_eq H; subst eR
      exact ret1 Try.results9 hf rfl ⟨_, rfl, ⟨rfl, hs⟩⟩
    · -- not x3 = true
      replace hf := hf.castB (t := 26) rfl (bool_f hc7)
      refine cond_F hf rfl ?_
      refine wp_skip ?_
      refine hN2 _ _ ?_
      refine bnd H (fun s10 hs10 H => ?_)
      refine seq_reg (fun K12 hK12 => ?_)
      refine stq hf rfl rfl rfl (ex_move hf rfl) (fun a hf => ?_)
      refine stepF hf rfl rfl rfl (ex_call cf_17 hf rfl) (law39_Actors.calls k a1 v1 (hs.enter .nil) (Sr.old hr hs .nil (i := 0) rfl (fun _ h => h) (fun _ h => h) (Sr.nil _ _)) hs10) (fun v w hR a hf => ?_)
      obtain ⟨v11, rfl, hs'⟩ := hR
      replace hs := hs.step .nil hs'
      clear hs'
      refine stq hf rfl rfl rfl (ex_assign hf rfl) (fun a hf => ?_)
      refine hK12 _ _ ?_
      refine seq_reg (fun K13 hK13 => ?_)
      refine stq hf rfl rfl rfl (ex_move hf rfl) (fun a hf => ?_)
      refine stq hf rfl rfl rfl (ex_rem hf rfl rfl (by decide)) (fun a hf => ?_)
      refine stq hf rfl rfl rfl (ex_assign hf rfl) (fun a hf => ?_)
      refine hK13 _ _ ?_
      refine seq_reg (fun K14 hK14 => ?_)
      refine stq hf rfl rfl rfl (ex_assign hf rfl) (fun a hf => ?_)
      refine hK14 _ _ ?_
      refine bnd H (fun x15 H15 HO15 => ?_)
      clear H
      refine seq_cut (fun a w => ∃ (v16 : Value), Fr a 123 [(0, .int .u64 a0), (1, v1), (2, v2), (3, .int .i64 a3), (4, .int .i64 a4), (11, v11), (12, .int .u64 (Int.tmod a0 200)), (13, v16)] ∧ St M w0 w [osl K_api_Actor v11 s10, osl K_uint64 v16 x15]) (fun Q15 hJ15 hR15 hX15 => ?_) (fun a w hJ => ?_)
      · replace H := H15
        refine seq_reg (fun K17 hK17 => ?_)
        refine stq hf rfl rfl rfl (ex_assign hf rfl) (fun a hf => ?_)
        refine hK17 _ _ ?_
        refine block_k (fun Q18 hN18 hR18 hX18 hY18 => ?_)
        refine loop_k (fun n a w => ∃ (y20 : (List Int)) (y21 : Int) (v19 : Value), Fr a 123 [(0, .int .u64 a0), (1, v1), (2, v2), (3, .int .i64 a3), (4, .int .i64 a4), (11, v11), (12, .int .u64 (Int.tmod a0 200)), (13, v19), (14, .int .i64 y21)] ∧ St M w0 w [osl K_api_Actor v11 s10, osl K_uint64 v19 y20] ∧ law39_ThermalFairAgrees.l1 n s10 a2 y20 y21 = some x15) k ?_ (fun n23 a w hI Q23 hL23 hR23 hX23 => ?_)
        · -- at the start
          replace hs := hs.nilS K_uint64
          replace hs := hs.pick (.k (.c .nil))
          exact ⟨[], 0, (.slice none 0 0), hf.sub ⟨rfl, rfl, rfl, rfl, rfl, rfl, rfl, rfl, rfl, trivial⟩, hs, H⟩
        · obtain ⟨y20, y21, v19, hf, hs, H⟩ := hI
          cases n23 with
          | zero => exact absurd H (by rw [law39_ThermalFairAgrees.l1.eq_1]; intro h; cases h)
          | succ k23 =>
            replace H := (law39_ThermalFairAgrees.l1.eq_2 ..).symm.trans H
            refine seq_n (fun Q24 hN24 hR24 hX24 => ?_)
            refine bnd H (fun x25 H25 HO25 => ?_)
            clear H
            refine seq_cut (fun a w => Fr a 123 [(0, .int .u64 a0), (1, v1), (2, v2), (3, .int .i64 a3), (4, .int .i64 a4), (11, v11), (12, .int .u64 (Int.tmod a0 200)), (13, v19), (14, .int .i64 y21), (41, .bool x25)] ∧ St M w0 w [osl K_api_Actor v11 s10, osl K_uint64 v19 y20]) (fun Q25 hJ25 hR25 hX25 => ?_) (fun a w hJ => ?_)
            · replace H := H25
              refine itt H (fun hc26 H => ?_) (fun hc26 H => ?_)
              · -- y21 < (s10.length : Int)
                refine region_k (fun K27 hK27 => ?_)
                refine stq hf rfl rfl rfl (ex_move hf rfl) (fun a hf => ?_)
                refine stq hf rfl rfl rfl (ex_move hf rfl) (fun a hf => ?_)
                refine stq hf rfl rfl rfl (ex_lenS Try.underlying38 (rsl_isSl (osl_rsl _ (hs.get (i := 0) rfl))) hf rfl) (fun a hf => ?_)
                refine stq hf rfl rfl rfl (ex_lss hf rfl rfl) (fun a hf => ?_)
                refine stq hf rfl rfl rfl (ex_move hf rfl) (fun a hf => ?_)
                replace hf := hf.castB (t := 35) rfl (dec_t hc26)
                replace hf := hf.castB (t := 36) rfl (dec_t hc26)
                refine stq hf rfl rfl rfl (ex_move hf rfl) (fun a hf => ?_)
                refine stq hf rfl rfl rfl (ex_move hf rfl) (fun a hf => ?_)
                refine stq hf rfl rfl rfl (ex_lenS Try.underlying40 (rsl_isSl (hr.now hs (i := 1) rfl)) hf rfl) (fun a hf => ?_)
                refine stq hf rfl rfl rfl (ex_lss hf rfl rfl) (fun a hf => ?_)
                refine stq hf rfl rfl rfl (ex_pickT hf rfl rfl) (fun a hf => ?_)
                refine hK27 _ _ ?_
                have e25 := some_eq H; subst e25
                exact hJ25 _ _ ⟨hf.sub ⟨rfl, rfl, rfl, rfl, rfl, rfl, rfl, rfl, rfl, rfl, trivial⟩, hs⟩
              · -- not y21 < (s10.length : Int)
                refine region_k (fun K28 hK28 => ?_)
                refine stq hf rfl rfl rfl (ex_move hf rfl) (fun a hf => ?_)
                refine stq hf rfl rfl rfl (ex_move hf rfl) (fun a hf => ?_)
                refine stq hf rfl rfl rfl (ex_lenS Try.underlying38 (rsl_isSl (osl_rsl _ (hs.get (i := 0) rfl))) hf rfl) (fun a hf => ?_)
                refine stq hf rfl rfl rfl (ex_lss hf rfl rfl) (fun a hf => ?_)
                refine stq hf rfl rfl rfl (ex_move hf rfl) (fun a hf => ?_)
                replace hf := hf.castB (t := 35) rfl (dec_f hc26)
                replace hf := hf.castB (t := 36) rfl (dec_f hc26)
                refine stepN hf rfl rfl rfl (fun a hf => ?_)
                refine stepN hf rfl rfl rfl (fun a hf => ?_)
                refine stepN hf rfl rfl rfl (fun a hf => ?_)
                refine stepN hf rfl rfl rfl (fun a hf => ?_)
                refine stq hf rfl rfl rfl (ex_pickF hf rfl rfl) (fun a hf => ?_)
                refine hK28 _ _ ?_
                have e25 := some_eq H; subst e25
                exact hJ25 _ _ ⟨hf.sub ⟨rfl, rfl, rfl, rfl, rfl, rfl, rfl, rfl, rfl, rfl, trivial⟩, hs⟩
            · obtain ⟨hf, hs⟩ := hJ
              replace H := HO25
              clear HO25
              refine itt H (fun hc29 H => ?_) (fun hc29 H => ?_)
              · -- x25 = true
                replace hf := hf.castB (t := 41) rfl hc29
                refine cond_T hf rfl ?_
                refine wp_skip ?_
                refine hN24 _ _ ?_
                refine seq_n (fun Q30 hN30 hR30 hX30 => ?_)
                refine block_k (fun Q31 hN31 hR31 hX31 hY31 => ?_)
                refine ck_some H (fun hc32 H => ?_)
                refine ck_some H (fun hc34 H => ?_)
                refine region_k (fun K36 hK36 => ?_)
                refine stq hf rfl rfl rfl (ex_move hf rfl) (fun a hf => ?_)
                refine stq hf rfl rfl rfl (ex_move hf rfl) (fun a hf => ?_)
                refine stq hf rfl rfl rfl (ex_move hf rfl) (fun a hf => ?_)
                refine stq hf rfl rfl rfl (ex_indexAddr sa_40 (rsl_isSl (hr.now hs (i := 1) rfl)) hc32.1 hc32.2 hf rfl rfl) (fun a hf => ?_)
                refine stq hf rfl rfl rfl (ex_load sc_37 hf rfl (el_cell (K := K_uint64) (f := 0) (rsl_rd (hr.now hs (i := 1) rfl)) hc32.1 hc32.2 rfl)) (fun a hf => ?_)
                refine stq hf rfl rfl rfl (ex_rem hf rfl rfl (by decide)) (fun a hf => ?_)
                refine stepV hf rfl rfl rfl (er_buildSlice (K := K_uint64) (xs := [(Int.tmod (gd 0 a2 y21) 40)]) hs Try.underlying40 ep_37 rfl rfl hf rfl (.cons rfl .nil) rfl rfl) (fun v33 w hs a hf => ?_)
                refine stepV hf rfl rfl rfl (er_append (K := K_uint64) hs (.k (.k (.c .nil))) (osl_rsl _ (hs.get (i := 0) rfl)) rfl Try.underlying40 ep_37 hc34 rfl hf rfl rfl) (fun v35 w hs a hf => ?_)
                refine stq hf rfl rfl rfl (ex_assign hf rfl) (fun a hf => ?_)
                refine hK36 _ _ ?_
                refine hN31 _ _ ?_
                refine hN30 _ _ ?_
                refine region_k (fun K37 hK37 => ?_)
                refine stq hf rfl rfl rfl (ex_move hf rfl) (fun a hf => ?_)
                refine stq hf rfl rfl rfl (ex_add hf rfl rfl) (fun a hf => ?_)
                refine stq hf rfl rfl rfl (ex_assign hf rfl) (fun a hf => ?_)
                refine hK37 _ _ ?_
                replace hs := hs.keep (.k (.d (.k .nil)))
                replace hs := hs.pick (.k (.c .nil))
                exact hL23 k23 _ _ (Nat.lt_succ_self _) ⟨(y20 ++ [(Int.tmod (gd 0 a2 y21) 40)]), (IntKind.i64.wrap (y21 + 1)), v35, hf.sub ⟨rfl, rfl, rfl, rfl, rfl, rfl, rfl, rfl, rfl, trivial⟩, hs, H⟩
              · -- not x25 = true
                replace hf := hf.castB (t := 41) rfl (bool_f hc29)
                refine cond_F hf rfl ?_
                refine wp_exit ?_
                refine hX24 0 _ _ ?_
                refine hX23 0 _ _ ?_
                refine hX18 _ _ ?_
                have e15 := some_eq H; subst e15
                exact hJ15 _ _ ⟨v19, hf.sub ⟨rfl, rfl, rfl, rfl, rfl, rfl, rfl, rfl, trivial⟩, hs⟩
      · obtain ⟨v16, hf, hs⟩ := hJ
        replace H := HO15
        clear HO15
        refine seq_n (fun Q38 hN38 hR38 hX38 => ?_)
        refine bnd H (fun x39 H39 HO39 => ?_)
        clear H
        refine seq_cut (fun a w => Fr a 123 [(3, .int .i64 a3), (4, .int .i64 a4), (11, v11), (12, .int .u64 (Int.tmod a0 200)), (71, .bool x39)] ∧ St M w0 w [osl K_api_Actor v11 s10]) (fun Q39 hJ39 hR39 hX39 => ?_) (fun a w hJ => ?_)
        · replace H := H39
          refine bnd H (fun s40 hs40 H => ?_)
          refine bnd H (fun s41 hs41 H => ?_)
          refine itt H (fun hc42 H => ?_) (fun hc42 H => ?_)
          · -- (s40 == s41) = true
            refine bnd H (fun s43 hs43 H => ?_)
            refine bnd H (fun s44 hs44 H => ?_)
            refine region_k (fun K45 hK45 => ?_)
            refine stq hf rfl rfl rfl (ex_move hf rfl) (fun a hf => ?_)
            refine stq hf rfl rfl rfl (ex_move hf rfl) (fun a hf => ?_)
            refine stq hf rfl rfl rfl (ex_move hf rfl) (fun a hf => ?_)
            refine stepF hf rfl rfl rfl (ex_call cf_30 hf rfl) (thermal_Fair.calls k a0 a1 a2 v1 v2 (hs.enter (.k (.k .nil))) (Sr.old hr hs (.k (.k .nil)) (i := 0) rfl (fun _ h => h) (fun _ h => h) (Sr.old hr hs (.k (.k .nil)) (i := 1) rfl (fun _ h => h) (fun _ h => h) (Sr.nil _ _))) hs40) (fun v w hR a hf => ?_)
            obtain ⟨rfl, hs'⟩ := hR
            replace hs := hs.step (.k (.k .nil)) hs'
            clear hs'
            refine stq hf rfl rfl rfl (ex_move hf rfl) (fun a hf => ?_)
            refine stq hf rfl rfl rfl (ex_move hf rfl) (fun a hf => ?_)
            refine stq hf rfl rfl rfl (ex_move hf rfl) (fun a hf => ?_)
            refine stepF hf rfl rfl rfl (ex_call cf_31 hf rfl) (ref39_Fair.calls k a0 a1 a2 v1 v2 (hs.enter (.k (.k .nil))) (Sr.old hr hs (.k (.k .nil)) (i := 0) rfl (fun _ h => h) (fun _ h => h) (Sr.old hr hs (.k (.k .nil)) (i := 1) rfl (fun _ h => h) (fun _ h => h) (Sr.nil _ _))) hs41) (fun v w hR a hf => ?_)
            obtain ⟨rfl, hs'⟩ := hR
            replace hs := hs.step (.k (.k .nil)) hs'
            clear hs'
            refine stq hf rfl rfl rfl (ex_neb Try.underlying4 hf rfl rfl) (fun a hf => ?_)
            refine stq hf rfl rfl rfl (ex_move hf rfl) (fun a hf => ?_)
            replace hf := hf.castB (t := 60) rfl (nbool_f hc42)
            replace hf := hf.castB (t := 61) rfl (nbool_f hc42)
            refine stq hf rfl rfl rfl (ex_move hf rfl) (fun a hf => ?_)
            refine stq hf rfl rfl rfl (ex_move hf rfl) (fun a hf => ?_)
            refine stq hf rfl rfl rfl (ex_move hf rfl) (fun a hf => ?_)
            refine stepF hf rfl rfl rfl (ex_call cf_30 hf rfl) (thermal_Fair.calls k (Int.tmod a0 200) s10 x15 v11 v16 (hs.enter (.k (.k .nil))) (Sr.own hs (.k (.k .nil)) (i := 0) rfl osl_rsl (fun _ h => h.1) (Sr.own hs (.k (.k .nil)) (i := 1) rfl osl_rsl (fun _ h => h.1) (Sr.nil _ _))) hs43) (fun v w hR a hf => ?_)
            obtain ⟨rfl, hs'⟩ := hR
            replace hs := hs.step (.k (.k .nil)) hs'
            clear hs'
            refine stq hf rfl rfl rfl (ex_move hf rfl) (fun a hf => ?_)
            refine stq hf rfl rfl rfl (ex_move hf rfl) (fun a hf => ?_)
            refine stq hf rfl rfl rfl (ex_move hf rfl) (fun a hf => ?_)
            refine stepF hf rfl rfl rfl (ex_call cf_31 hf rfl) (ref39_Fair.calls k (Int.tmod a0 200) s10 x15 v11 v16 (hs.enter (.k (.k .nil))) (Sr.own hs (.k (.k .nil)) (i := 0) rfl osl_rsl (fun _ h => h.1) (Sr.own hs (.k (.k .nil)) (i := 1) rfl osl_rsl (fun _ h => h.1) (Sr.nil _ _))) hs44) (fun v w hR a hf => ?_)
            obtain ⟨rfl, hs'⟩ := hR
            replace hs := hs.step (.k (.k .nil)) hs'
            clear hs'
            refine stq hf rfl rfl rfl (ex_neb Try.underlying4 hf rfl rfl) (fun a hf => ?_)
            refine stq hf rfl rfl rfl (ex_pickF hf rfl rfl) (fun a hf => ?_)
            refine hK45 _ _ ?_
            replace hs := hs.keep (.k (.d .nil))
            have e39 := some_eq H; subst e39
            exact hJ39 _ _ ⟨hf.sub ⟨rfl, rfl, rfl, rfl, rfl, trivial⟩, hs⟩
          · -- not (s40 == s41) = true
            refine region_k (fun K46 hK46 => ?_)
            refine stq hf rfl rfl rfl (ex_move hf rfl) (fun a hf => ?_)
            refine stq hf rfl rfl rfl (ex_move hf rfl) (fun a hf => ?_)
            refine stq hf rfl rfl rfl (ex_move hf rfl) (fun a hf => ?_)
            refine stepF hf rfl rfl rfl (ex_call cf_30 hf rfl) (thermal_Fair.calls k a0 a1 a2 v1 v2 (hs.enter (.k (.k .nil))) (Sr.old hr hs (.k (.k .nil)) (i := 0) rfl (fun _ h => h) (fun _ h => h) (Sr.old hr hs (.k (.k .nil)) (i := 1) rfl (fun _ h => h) (fun _ h => h) (Sr.nil _ _))) hs40) (fun v w hR a hf => ?_)
            obtain ⟨rfl, hs'⟩ := hR
            replace hs := hs.step (.k (.k .nil)) hs'
            clear hs'
            refine stq hf rfl rfl rfl (ex_move hf rfl) (fun a hf => ?_)
            refine stq hf rfl rfl rfl (ex_move hf rfl) (fun a hf => ?_)
            refine stq hf rfl rfl rfl (ex_move hf rfl) (fun a hf => ?_)
            refine stepF hf rfl rfl rfl (ex_call cf_31 hf rfl) (ref39_Fair.calls k a0 a1 a2 v1 v2 (hs.enter (.k (.k .nil))) (Sr.old hr hs (.k (.k .nil)) (i := 0) rfl (fun _ h => h) (fun _ h => h) (Sr.old hr hs (.k (.k .nil)) (i := 1) rfl (fun _ h => h) (fun _ h => h) (Sr.nil _ _))) hs41) (fun v w hR a hf => ?_)
            obtain ⟨rfl, hs'⟩ := hR
            replace hs := hs.step (.k (.k .nil)) hs'
            clear hs'
            refine stq hf rfl rfl rfl (ex_neb Try.underlying4 hf rfl rfl) (fun a hf => ?_)
            refine stq hf rfl rfl rfl (ex_move hf rfl) (fun a hf => ?_)
            replace hf := hf.castB (t := 60) rfl (nbool_t hc42)
            replace hf := hf.castB (t := 61) rfl (nbool_t hc42)
            refine stepN hf rfl rfl rfl (fun a hf => ?_)
            refine stepN hf rfl rfl rfl (fun a hf => ?_)
            refine stepN hf rfl rfl rfl (fun a hf => ?_)
            refine stepN hf rfl rfl rfl (fun a hf => ?_)
            refine stepN hf rfl rfl rfl (fun a hf => ?_)
            refine stepN hf rfl rfl rfl (fun a hf => ?_)
            refine stepN hf rfl rfl rfl (fun a hf => ?_)
            refine stepN hf rfl rfl rfl (fun a hf => ?_)
            refine stepN hf rfl rfl rfl (fun a hf => ?_)
            refine stq hf rfl rfl rfl (ex_pickT hf rfl rfl) (fun a hf => ?_)
            refine hK46 _ _ ?_
            replace hs := hs.keep (.k (.d .nil))
            have e39 := some_eq H; subst e39
            exact hJ39 _ _ ⟨hf.sub ⟨rfl, rfl, rfl, rfl, rfl, trivial⟩, hs⟩
        · obtain ⟨hf, hs⟩ := hJ
          replace H := HO39
          clear HO39
          refine itt H (fun hc47 H => ?_) (fun hc47 H => ?_)
          · -- x39 = true
            replace hf := hf.castB (t := 71) rfl hc47
            refine cond_T hf rfl ?_
            refine seq_reg (fun K48 hK48 => ?_)
            refine stq hf rfl rfl rfl (ex_assign hf rfl) (fun a hf => ?_)
            refine hK48 _ _ ?_
            refine wp_ret ?_
            refine hR38 _ _ ?_
            have eR := some_eq H; subst eR
            replace hs := hs.keep (.d .nil)
            exact ret1 Try.results9 hf rfl ⟨_, rfl, ⟨rfl, hs⟩⟩
          · -- not x39 = true
            replace hf := hf.castB (t := 71) rfl (bool_f hc47)
            refine cond_F hf rfl ?_
            refine wp_skip ?_
            refine hN38 _ _ ?_
            refine bnd H (fun s49 hs49 H => ?_)
            refine seq_reg (fun K51 hK51 => ?_)
            refine stq hf rfl rfl rfl (ex_move hf rfl) (fun a hf => ?_)
            refine stq hf rfl rfl rfl (ex_move hf rfl) (fun a hf => ?_)
            refine stepF hf rfl rfl rfl (ex_call cf_19 hf rfl) (ref39_Allocate.calls k (Int.tmod a0 200) s10 v11 (hs.enter (.k .nil)) (Sr.own hs (.k .nil) (i := 0) rfl osl_rsl (fun _ h => h.1) (Sr.nil _ _)) hs49) (fun v w hR a hf => ?_)
            obtain ⟨v50, rfl, hs'⟩ := hR
            replace hs := hs.step (.k .nil) hs'
            clear hs'
            refine stq hf rfl rfl rfl (ex_move hf rfl) (fun a hf => ?_)
            refine stq hf rfl rfl rfl (ex_extract hf rfl rfl) (fun a hf => ?_)
            refine stq hf rfl rfl rfl (ex_extract hf rfl rfl) (fun a hf => ?_)
            refine stq hf rfl rfl rfl (ex_assign hf rfl) (fun a hf => ?_)
            refine stq hf rfl rfl rfl (ex_assign hf rfl) (fun a hf => ?_)
            refine hK51 _ _ ?_
            refine seq_n (fun Q52 hN52 hR52 hX52 => ?_)
            refine bnd H (fun x53 H53 HO53 => ?_)
            clear H
            refine seq_cut (fun a w => Fr a 123 [(3, .int .i64 a3), (4, .int .i64 a4), (11, v11), (12, .int .u64 (Int.tmod a0 200)), (15, v50), (84, .bool x53)] ∧ St M w0 w [osl K_api_Actor v11 s10, osl K_uint64 v50 s49.1]) (fun Q53 hJ53 hR53 hX53 => ?_) (fun a w hJ => ?_)
            · replace H := H53
              refine itt H (fun hc54 H => ?_) (fun hc54 H => ?_)
              · -- s49.2 = 0
                refine region_k (fun K55 hK55 => ?_)
                refine stq hf rfl rfl rfl (ex_move hf rfl) (fun a hf => ?_)
                refine stq hf rfl rfl rfl (ex_neq hf rfl rfl) (fun a hf => ?_)
                refine stq hf rfl rfl rfl (ex_move hf rfl) (fun a hf => ?_)
                replace hf := hf.castB (t := 79) rfl (ndec_f hc54)
                replace hf := hf.castB (t := 80) rfl (ndec_f hc54)
                refine stq hf rfl rfl rfl (ex_move hf rfl) (fun a hf => ?_)
                refine stq hf rfl rfl rfl (ex_lenS Try.underlying40 (rsl_isSl (osl_rsl _ (hs.get (i := 0) rfl))) hf rfl) (fun a hf => ?_)
                refine stq hf rfl rfl rfl (ex_eql hf rfl rfl) (fun a hf => ?_)
                refine stq hf rfl rfl rfl (ex_pickF hf rfl rfl) (fun a hf => ?_)
                refine hK55 _ _ ?_
                replace hs := hs.pick (.k (.c .nil))
                have e53 := some_eq H; subst e53
                exact hJ53 _ _ ⟨hf.sub ⟨rfl, rfl, rfl, rfl, rfl, rfl, trivial⟩, hs⟩
              · -- not s49.2 = 0
                refine region_k (fun K56 hK56 => ?_)
                refine stq hf rfl rfl rfl (ex_move hf rfl) (fun a hf => ?_)
                refine stq hf rfl rfl rfl (ex_neq hf rfl rfl) (fun a hf => ?_)
                refine stq hf rfl rfl rfl (ex_move hf rfl) (fun a hf => ?_)
                replace hf := hf.castB (t := 79) rfl (ndec_t hc54)
                replace hf := hf.castB (t := 80) rfl (ndec_t hc54)
                refine stepN hf rfl rfl rfl (fun a hf => ?_)
                refine stepN hf rfl rfl rfl (fun a hf => ?_)
                refine stepN hf rfl rfl rfl (fun a hf => ?_)
                refine stq hf rfl rfl rfl (ex_pickT hf rfl rfl) (fun a hf => ?_)
                refine hK56 _ _ ?_
                replace hs := hs.pick (.k (.c .nil))
                have e53 := some_eq H; subst e53
                exact hJ53 _ _ ⟨hf.sub ⟨rfl, rfl, rfl, rfl, rfl, rfl, trivial⟩, hs⟩
            · obtain ⟨hf, hs⟩ := hJ
              replace H := HO53
              clear HO53
              refine itt H (fun hc57 H => ?_) (fun hc57 H => ?_)
              · -- x53 = true
                replace hf := hf.castB (t := 84) rfl hc57
                refine cond_T hf rfl ?_
                refine bnd H (fun s58 hs58 H => ?_)
                refine seq_reg (fun K59 hK59 => ?_)
                refine stepF hf rfl rfl rfl (ex_call cf_10 hf rfl) (law39_awake.calls k (hs.enter (.k (.k .nil))) (Sr.nil _ _) hs58) (fun v w hR a hf => ?_)
                obtain ⟨rfl, hs'⟩ := hR
                replace hs := hs.step (.k (.k .nil)) hs'
                clear hs'
                refine stq hf rfl rfl rfl (ex_assign hf rfl) (fun a hf => ?_)
                refine hK59 _ _ ?_
                refine wp_ret ?_
                refine hR52 _ _ ?_
                have eR := some_eq H; subst eR
                replace hs := hs.keep (.d (.d .nil))
                exact ret1 Try.results9 hf rfl ⟨_, rfl, ⟨rfl, hs⟩⟩
              · -- not x53 = true
                replace hf := hf.castB (t := 84) rfl (bool_f hc57)
                refine cond_F hf rfl ?_
                refine wp_skip ?_
                refine hN52 _ _ ?_
                refine bnd H (fun s60 hs60 H => ?_)
                refine bnd H (fun s61 hs61 H => ?_)
                refine seq_reg (fun K62 hK62 => ?_)
                refine stq hf rfl rfl rfl (ex_move hf rfl) (fun a hf => ?_)
                refine stq hf rfl rfl rfl (ex_move hf rfl) (fun a hf => ?_)
                refine stq hf rfl rfl rfl (ex_lenS Try.underlying40 (rsl_isSl (osl_rsl _ (hs.get (i := 1) rfl))) hf rfl) (fun a hf => ?_)
                refine stepF hf rfl rfl rfl (ex_call cf_12 hf rfl) (help_Mod.calls k a3 (s49.1.length : Int) (hs.enter (.k (.k .nil))) (Sr.nil _ _) hs60) (fun v w hR a hf => ?_)
                obtain ⟨rfl, hs'⟩ := hR
                replace hs := hs.step (.k (.k .nil)) hs'
                clear hs'
                refine stq hf rfl rfl rfl (ex_move hf rfl) (fun a hf => ?_)
                refine stq hf rfl rfl rfl (ex_move hf rfl) (fun a hf => ?_)
                refine stq hf rfl rfl rfl (ex_lenS Try.underlying40 (rsl_isSl (osl_rsl _ (hs.get (i := 1) rfl))) hf rfl) (fun a hf => ?_)
                refine stepF hf rfl rfl rfl (ex_call cf_12 hf rfl) (help_Mod.calls k a4 (s49.1.length : Int) (hs.enter (.k (.k .nil))) (Sr.nil _ _) hs61) (fun v w hR a hf => ?_)
                obtain ⟨rfl, hs'⟩ := hR
                replace hs := hs.step (.k (.k .nil)) hs'
                clear hs'
                refine stq hf rfl rfl rfl (ex_assign hf rfl) (fun a hf => ?_)
                refine stq hf rfl rfl rfl (ex_assign hf rfl) (fun a hf => ?_)
                refine hK62 _ _ ?_
                refine bnd H (fun x63 H63 HO63 => ?_)
                clear H
                refine seq_cut (fun a w => Fr a 123 [(11, v11), (12, .int .u64 (Int.tmod a0 200)), (15, v50)] ∧ St M w0 w [osl K_api_Actor v11 s10, osl K_uint64 v50 x63]) (fun Q63 hJ63 hR63 hX63 => ?_) (fun a w hJ => ?_)
                · replace H := H63
                  refine ck_some H (fun hc64 H => ?_)
                  refine seq_reg (fun K65 hK65 => ?_)
                  refine stq hf rfl rfl rfl (ex_move hf rfl) (fun a hf => ?_)
                  refine stq hf rfl rfl rfl (ex_move hf rfl) (fun a hf => ?_)
                  refine stq hf rfl rfl rfl (ex_indexAddr sa_40 (rsl_isSl (osl_rsl _ (hs.get (i := 1) rfl))) hc64.1 hc64.2 hf rfl rfl) (fun a hf => ?_)
                  refine stq hf rfl rfl rfl (ex_load sc_37 hf rfl (el_cell (K := K_uint64) (f := 0) (rsl_rd (osl_rsl _ (hs.get (i := 1) rfl))) hc64.1 hc64.2 rfl)) (fun a hf => ?_)
                  refine stq hf rfl rfl rfl (ex_gtr hf rfl rfl) (fun a hf => ?_)
                  refine hK65 _ _ ?_
                  refine itt H (fun hc66 H => ?_) (fun hc66 H => ?_)
                  · -- 0 < (gd 0 s49.1 s60)
                    replace hf := hf.castB (t := 98) rfl (dec_t hc66)
                    refine cond_T hf rfl ?_
                    refine seq_reg (fun K67 hK67 => ?_)
                    refine stq hf rfl rfl rfl (ex_move hf rfl) (fun a hf => ?_)
                    refine stq hf rfl rfl rfl (ex_move hf rfl) (fun a hf => ?_)
                    refine stq hf rfl rfl rfl (ex_indexAddr sa_40 (rsl_isSl (osl_rsl _ (hs.get (i := 1) rfl))) hc64.1 hc64.2 hf rfl rfl) (fun a hf => ?_)
                    refine stq hf rfl rfl rfl (ex_load sc_37 hf rfl (el_cell (K := K_uint64) (f := 0) (rsl_rd (osl_rsl _ (hs.get (i := 1) rfl))) hc64.1 hc64.2 rfl)) (fun a hf => ?_)
                    refine stq hf rfl rfl rfl (ex_sub hf rfl rfl) (fun a hf => ?_)
                    refine stq hf rfl rfl rfl (ex_indexAddr sa_40 (rsl_isSl (osl_rsl _ (hs.get (i := 1) rfl))) hc64.1 hc64.2 hf rfl rfl) (fun a hf => ?_)
                    refine stepS hf rfl rfl (er_storeE (K := K_uint64) (f := 0) (x' := (IntKind.u64.wrap ((gd 0 s49.1 s60) - 1))) hs (.k (.c .nil)) hc64.1 hc64.2 hf rfl rfl rfl sz_37 rfl rfl) (fun w hs => ?_)
                    refine hK67 _ _ ?_
                    refine ck_some H (fun hc68 H => ?_)
                    refine region_k (fun K69 hK69 => ?_)
                    refine stq hf rfl rfl rfl (ex_move hf rfl) (fun a hf => ?_)
                    refine stq hf rfl rfl rfl (ex_move hf rfl) (fun a hf => ?_)
                    refine stq hf rfl rfl rfl (ex_indexAddr sa_40 (rsl_isSl (osl_rsl _ (hs.get (i := 0) rfl))) hc68.1 hc68.2 hf rfl rfl) (fun a hf => ?_)
                    refine stq hf rfl rfl rfl (ex_load sc_37 hf rfl (el_cell (K := K_uint64) (f := 0) (rsl_rd (osl_rsl _ (hs.get (i := 0) rfl))) hc68.1 hc68.2 rfl)) (fun a hf => ?_)
                    refine stq hf rfl rfl rfl (ex_add hf rfl rfl) (fun a hf => ?_)
                    refine stq hf rfl rfl rfl (ex_indexAddr sa_40 (rsl_isSl (osl_rsl _ (hs.get (i := 0) rfl))) hc68.1 hc68.2 hf rfl rfl) (fun a hf => ?_)
                    refine stepS hf rfl rfl (er_storeE (K := K_uint64) (f := 0) (x' := (IntKind.u64.wrap ((gd 0 (s49.1.set s60.toNat (IntKind.u64.wrap ((gd 0 s49.1 s60) - 1))) s61) + 1))) hs (.c (.k .nil)) hc68.1 hc68.2 hf rfl rfl rfl sz_37 rfl rfl) (fun w hs => ?_)
                    refine hK69 _ _ ?_
                    replace hs := hs.pick (.k (.c .nil))
                    have e63 := some_eq H; subst e63
                    exact hJ63 _ _ ⟨hf.sub ⟨rfl, rfl, rfl, trivial⟩, hs⟩
                  · -- not 0 < (gd 0 s49.1 s60)
                    replace hf := hf.castB (t := 98) rfl (dec_f hc66)
                    refine cond_F hf rfl ?_
                    refine wp_skip ?_
                    have e63 := some_eq H; subst e63
                    exact hJ63 _ _ ⟨hf.sub ⟨rfl, rfl, rfl, trivial⟩, hs⟩
                · obtain ⟨hf, hs⟩ := hJ
                  replace H := HO63
                  clear HO63
                  refine bnd H (fun s70 hs70 H => ?_)
                  refine bnd H (fun s71 hs71 H => ?_)
                  refine itt H (fun hc72 H => ?_) (fun hc72 H => ?_)
                  · -- (s70 == s71) = true
                    refine bnd H (fun s73 hs73 H => ?_)
                    refine seq_reg (fun K74 hK74 => ?_)
                    refine stq hf rfl rfl rfl (ex_move hf rfl) (fun a hf => ?_)
                    refine stq hf rfl rfl rfl (ex_move hf rfl) (fun a hf => ?_)
                    refine stq hf rfl rfl rfl (ex_move hf rfl) (fun a hf => ?_)
                    refine stepF hf rfl rfl rfl (ex_call cf_30 hf rfl) (thermal_Fair.calls k (Int.tmod a0 200) s10 x63 v11 v50 (hs.enter (.k (.k .nil))) (Sr.own hs (.k (.k .nil)) (i := 0) rfl osl_rsl (fun _ h => h.1) (Sr.own hs (.k (.k .nil)) (i := 1) rfl osl_rsl (fun _ h => h.1) (Sr.nil _ _))) hs70) (fun v w hR a hf => ?_)
                    obtain ⟨rfl, hs'⟩ := hR
                    replace hs := hs.step (.k (.k .nil)) hs'
                    clear hs'
                    refine stq hf rfl rfl rfl (ex_move hf rfl) (fun a hf => ?_)
                    refine stq hf rfl rfl rfl (ex_move hf rfl) (fun a hf => ?_)
                    refine stq hf rfl rfl rfl (ex_move hf rfl) (fun a hf => ?_)
                    refine stepF hf rfl rfl rfl (ex_call cf_31 hf rfl) (ref39_Fair.calls k (Int.tmod a0 200) s10 x63 v11 v50 (hs.enter (.k (.k .nil))) (Sr.own hs (.k (.k .nil)) (i := 0) rfl osl_rsl (fun _ h => h.1) (Sr.own hs (.k (.k .nil)) (i := 1) rfl osl_rsl (fun _ h => h.1) (Sr.nil _ _))) hs71) (fun v w hR a hf => ?_)
                    obtain ⟨rfl, hs'⟩ := hR
                    replace hs := hs.step (.k (.k .nil)) hs'
                    clear hs'
                    refine stq hf rfl rfl rfl (ex_eqb Try.underlying4 hf rfl rfl) (fun a hf => ?_)
                    refine stq hf rfl rfl rfl (ex_move hf rfl) (fun a hf => ?_)
                    replace hf := hf.castB (t := 119) rfl hc72
                    replace hf := hf.castB (t := 120) rfl hc72
                    refine stepF hf rfl rfl rfl (ex_call cf_10 hf rfl) (law39_awake.calls k (hs.enter (.k (.k .nil))) (Sr.nil _ _) hs73) (fun v w hR a hf => ?_)
                    obtain ⟨rfl, hs'⟩ := hR
                    replace hs := hs.step (.k (.k .nil)) hs'
                    clear hs'
                    refine stq hf rfl rfl rfl (ex_pickT hf rfl rfl) (fun a hf => ?_)
                    refine stq hf rfl rfl rfl (ex_assign hf rfl) (fun a hf => ?_)
                    refine hK74 _ _ ?_
                    refine wp_ret ?_
                    have eR := some_eq H; subst eR
                    replace hs := hs.keep (.d (.d .nil))
                    exact ret1 Try.results9 hf rfl ⟨_, rfl, ⟨rfl, hs⟩⟩
                  · -- not (s70 == s71) = true
                    refine seq_reg (fun K75 hK75 => ?_)
                    refine stq hf rfl rfl rfl (ex_move hf rfl) (fun a hf => ?_)
                    refine stq hf rfl rfl rfl (ex_move hf rfl) (fun a hf => ?_)
                    refine stq hf rfl rfl rfl (ex_move hf rfl) (fun a hf => ?_)
                    refine stepF hf rfl rfl rfl (ex_call cf_30 hf rfl) (thermal_Fair.calls k (Int.tmod a0 200) s10 x63 v11 v50 (hs.enter (.k (.k .nil))) (Sr.own hs (.k (.k .nil)) (i := 0) rfl osl_rsl (fun _ h => h.1) (Sr.own hs (.k (.k .nil)) (i := 1) rfl osl_rsl (fun _ h => h.1) (Sr.nil _ _))) hs70) (fun v w hR a hf => ?_)
                    obtain ⟨rfl, hs'⟩ := hR
                    replace hs := hs.step (.k (.k .nil)) hs'
                    clear hs'
                    refine stq hf rfl rfl rfl (ex_move hf rfl) (fun a hf => ?_)
                    refine stq hf rfl rfl rfl (ex_move hf rfl) (fun a hf => ?_)
                    refine stq hf rfl rfl rfl (ex_move hf rfl) (fun a hf => ?_)
                    refine stepF hf rfl rfl rfl (ex_call cf_31 hf rfl) (ref39_Fair.calls k (Int.tmod a0 200) s10 x63 v11 v50 (hs.enter (.k (.k .nil))) (Sr.own hs (.k (.k .nil)) (i := 0) rfl osl_rsl (fun _ h => h.1) (Sr.own hs (.k (.k .nil)) (i := 1) rfl osl_rsl (fun _ h => h.1) (Sr.nil _ _))) hs71) (fun v w hR a hf => ?_)
                    obtain ⟨rfl, hs'⟩ := hR
                    replace hs := hs.step (.k (.k .nil)) hs'
                    clear hs'
                    refine stq hf rfl rfl rfl (ex_eqb Try.underlying4 hf rfl rfl) (fun a hf => ?_)
                    refine stq hf rfl rfl rfl (ex_move hf rfl) (fun a hf => ?_)
                    replace hf := hf.castB (t := 119) rfl (bool_f hc72)
                    replace hf := hf.castB (t := 120) rfl (bool_f hc72)
                    refine stepN hf rfl rfl rfl (fun a hf => ?_)
                    refine stq hf rfl rfl rfl (ex_pickF hf rfl rfl) (fun a hf => ?_)
                    refine stq hf rfl rfl rfl (ex_assign hf rfl) (fun a hf => ?_)
                    refine hK75 _ _ ?_
                    refine wp_ret ?_
                    have eR := some_eq H; subst eR
                    replace hs := hs.keep (.d (.d .nil))
                    exact ret1 Try.results9 hf rfl ⟨_, rfl, ⟨rfl, hs⟩⟩

end Go.Proofs.Ytkcmohmnmapnbaa.X
