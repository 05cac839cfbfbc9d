/- Each function of the machine comes to what its pure function says. -/
import Derived.Test.YtakaooegofiloaaFc1
import Derived.Test.YtakaooegofiloaaFc2
import Derived.Test.YtakaooegofiloaaFc3
import Derived.Test.YtakaooegofiloaaFb
namespace Go.Proofs.Ytakaooegofiloaa.X
open Go Go.RowKit Go.Sx
set_option linter.unusedVariables false

set_option maxRecDepth 100000 in
theorem law38_HeatConservation.calls {M : Nat → Prop} {w0 : World} (k : Nat) (a0 : (List HeatDomain)) (a1 : (List HeatLink)) (a2 : Int) (a3 : (List (List Int))) (v0 : Value) (v1 : Value) (v3 : Value) (vs3 : (Nat → Value)) {r : Bool} (hs : St M w0 w0 []) (hr : Sr M w0 [rsl K_api_HeatDomain v0 a0, rsl K_api_HeatLink v1 a1, rsl2 K_int64 v3 vs3 a3])
    (h : law38_HeatConservation.f k a0 a1 a2 a3 = some r) : Calls Try.prog 3 #[v0, v1, .int .i64 a2, v3] w0 fun e w => ∃ v, e = .returned v ∧ (.bool r = v ∧ St M w0 w []) := by
  have H := (law38_HeatConservation.f.eq_1 ..).symm.trans h
  clear h
  refine enter Try.func3 rfl Try.ntmps3 rfl (fun a hf => ?_)
  refine seq_reg (fun K1 hK1 => ?_)
  refine stq hf rfl rfl rfl (ex_assign hf rfl) (fun a hf => ?_)
  refine hK1 _ _ ?_
  refine seq_n (fun Q2 hN2 hR2 hX2 => ?_)
  refine seq_reg (fun K3 hK3 => ?_)
  refine stq hf rfl rfl rfl (ex_move hf rfl) (fun a hf => ?_)
  refine stq hf rfl rfl rfl (ex_lenS Try.underlying24 (rsl2_isSl (hr.now hs (i := 2) rfl)) hf rfl) (fun a hf => ?_)
  refine stq hf rfl rfl rfl (ex_gtr hf rfl rfl) (fun a hf => ?_)
  refine hK3 _ _ ?_
  refine itt H (fun hc4 H => ?_) (fun hc4 H => ?_)
  · -- 40 < (a3.length : Int)
    replace hf := hf.castB (t := 23) rfl (dec_t hc4)
    refine cond_T hf rfl ?_
    refine bnd H (fun s5 hs5 H => ?_)
    refine seq_reg (fun K6 hK6 => ?_)
    refine stepF hf rfl rfl rfl (ex_call cf_11 hf rfl) (law38_awake.calls k (hs.enter .nil) (Sr.nil _ _) hs5) (fun v w hR a hf => ?_)
    obtain ⟨rfl, hs'⟩ := hR
    replace hs := hs.step .nil hs'
    clear hs'
    refine stq hf rfl rfl rfl (ex_assign hf rfl) (fun a hf => ?_)
    refine hK6 _ _ ?_
    refine wp_ret ?_
    refine hR2 _ _ ?_
    have eR := some_eq H; subst eR
    exact ret1 Try.results3 hf rfl ⟨_, rfl, ⟨rfl, hs⟩⟩
  · -- not 40 < (a3.length : Int)
    replace hf := hf.castB (t := 23) rfl (dec_f hc4)
    refine cond_F hf rfl ?_
    refine wp_skip ?_
    refine hN2 _ _ ?_
    refine bnd H (fun s7 hs7 H => ?_)
    refine seq_reg (fun K11 hK11 => ?_)
    refine stq hf rfl rfl rfl (ex_move hf rfl) (fun a hf => ?_)
    refine stq hf rfl rfl rfl (ex_move hf rfl) (fun a hf => ?_)
    refine stq hf rfl rfl rfl (ex_move hf rfl) (fun a hf => ?_)
    refine stepF hf rfl rfl rfl (ex_call cf_12 hf rfl) (law38_Some.calls k a0 a1 a2 v0 v1 (hs.enter .nil) (Sr.old hr hs .nil (i := 0) rfl (fun _ h => h) (fun _ h => h) (Sr.old hr hs .nil (i := 1) rfl (fun _ h => h) (fun _ h => h) (Sr.nil _ _))) hs7) (fun v w hR a hf => ?_)
    obtain ⟨v8, v9, rfl, hs'⟩ := hR
    replace hs := hs.step .nil hs'
    clear hs'
    refine stepV hf rfl rfl rfl (er_alloc hs ti_27 (cs := [(.slice none 0 0), (.slice none 0 0), .int .i64 0]) rfl) (fun v w hR a hf => ?_)
    obtain ⟨b10, rfl, hs⟩ := hR
    refine stepS hf rfl rfl (er_storeAB (vs := [v8, v9, .int .i64 s7.2.2]) (cs' := [v8, v9, .int .i64 s7.2.2]) hs (.c (.k (.k .nil))) sz_27 hf rfl rfl (all1 (IsSl.one (rsl_isSl (osl_rsl _ (hs.get (i := 1) rfl)))) (all1 (IsSl.one (rsl_isSl (osl_rsl _ (hs.get (i := 2) rfl)))) (all1 rfl (all1_nil)))) rfl rfl) (fun w hs => ?_)
    refine hK11 _ _ ?_
    refine seq_reg (fun K12 hK12 => ?_)
    refine stq hf rfl rfl rfl (ex_fieldAddrB fa_27_0 rfl hf rfl) (fun a hf => ?_)
    refine stq hf rfl rfl rfl (ex_load sc_22 hf rfl (bx_cell (hs.get (i := 0) rfl) _ rfl)) (fun a hf => ?_)
    refine stq hf rfl rfl rfl (ex_lenS Try.underlying22 (rsl_isSl (osl_rsl _ (hs.get (i := 1) rfl))) hf rfl) (fun a hf => ?_)
    refine stq hf rfl rfl rfl (ex_assign hf rfl) (fun a hf => ?_)
    refine hK12 _ _ ?_
    refine seq_n (fun Q13 hN13 hR13 hX13 => ?_)
    refine bnd H (fun s14 hs14 H => ?_)
    cases hps14 : s14.1 with
    | none =>
      replace H := elim_n hps14 H
      refine region_k (fun K16 hK16 => ?_)
      refine stq hf rfl rfl rfl (ex_fieldAddrB fa_27_0 rfl hf rfl) (fun a hf => ?_)
      refine stq hf rfl rfl rfl (ex_load sc_22 hf rfl (bx_cell (hs.get (i := 0) rfl) _ rfl)) (fun a hf => ?_)
      refine stq hf rfl rfl rfl (ex_fieldAddrB fa_27_1 rfl hf rfl) (fun a hf => ?_)
      refine stq hf rfl rfl rfl (ex_load sc_23 hf rfl (bx_cell (hs.get (i := 0) rfl) _ rfl)) (fun a hf => ?_)
      refine stq hf rfl rfl rfl (ex_fieldAddrB fa_27_2 rfl hf rfl) (fun a hf => ?_)
      refine stq hf rfl rfl rfl (ex_load sc_2 hf rfl (bx_cell (hs.get (i := 0) rfl) _ rfl)) (fun a hf => ?_)
      refine stepF hf rfl rfl rfl (ex_call cf_13 hf rfl) (heat_New.calls k s7.1 s7.2.1 s7.2.2 v8 v9 (hs.enter (.k (.k (.k .nil)))) (Sr.own hs (.k (.k (.k .nil))) (i := 1) rfl osl_rsl (fun _ h => h.1) (Sr.own hs (.k (.k (.k .nil))) (i := 2) rfl osl_rsl (fun _ h => h.1) (Sr.nil _ _))) hs14) (fun v w hR a hf => ?_)
      obtain ⟨_, rfl, hs'⟩ | ⟨_, hc', _⟩ := hR
      case inr => rw [hps14] at hc'; cases hc'
      replace hs := hs.step (.k (.k (.k .nil))) hs'
      clear hs'
      refine stq hf rfl rfl rfl (ex_move hf rfl) (fun a hf => ?_)
      refine stq hf rfl rfl rfl (ex_extract hf rfl rfl) (fun a hf => ?_)
      refine stq hf rfl rfl rfl (ex_extract hf rfl rfl) (fun a hf => ?_)
      refine stq hf rfl rfl rfl (ex_assign hf rfl) (fun a hf => ?_)
      refine stq hf rfl rfl rfl (ex_assign hf rfl) (fun a hf => ?_)
      refine hK16 _ _ ?_
      refine hN13 _ _ ?_
      refine seq_n (fun Q17 hN17 hR17 hX17 => ?_)
      refine bnd H (fun x18 H18 HO18 => ?_)
      clear H
      refine seq_cut (fun a w => Fr a 106 [(3, v3), (9, .pointer (some ⟨b10, 0, none⟩)), (10, .int .i64 (s7.1.length : Int)), (11, .pointer none), (47, .bool true)] ∧ St M w0 w [bx b10 27 [v8, v9, .int .i64 s7.2.2], osl K_api_HeatDomain v8 s7.1, osl K_api_HeatLink v9 s7.2.1]) (fun Q18 hJ18 hR18 hX18 => ?_) (fun a w hJ => ?_)
      · replace H := H18
        refine itt H (fun hc19 H => ?_) (fun hc19 H => ?_)
        · -- s14.2 = 0
          refine region_k (fun K20 hK20 => ?_)
          refine stq hf rfl rfl rfl (ex_move hf rfl) (fun a hf => ?_)
          refine stq hf rfl rfl rfl (ex_neq hf rfl rfl) (fun a hf => ?_)
          refine stq hf rfl rfl rfl (ex_move hf rfl) (fun a hf => ?_)
          replace hf := hf.castB (t := 43) rfl (ndec_f hc19)
          replace hf := hf.castB (t := 44) rfl (ndec_f hc19)
          refine stq hf rfl rfl rfl (ex_move hf rfl) (fun a hf => ?_)
          refine stq hf rfl rfl rfl (ex_eqp Try.underlying29 hf rfl rfl) (fun a hf => ?_)
          refine stq hf rfl rfl rfl (ex_pickF hf rfl rfl) (fun a hf => ?_)
          refine hK20 _ _ ?_
          have e18 := some_eq H; subst e18
          exact hJ18 _ _ ⟨hf.sub ⟨rfl, rfl, rfl, rfl, rfl, trivial⟩, hs⟩
        · -- not s14.2 = 0
          refine region_k (fun K21 hK21 => ?_)
          refine stq hf rfl rfl rfl (ex_move hf rfl) (fun a hf => ?_)
          refine stq hf rfl rfl rfl (ex_neq hf rfl rfl) (fun a hf => ?_)
          refine stq hf rfl rfl rfl (ex_move hf rfl) (fun a hf => ?_)
          replace hf := hf.castB (t := 43) rfl (ndec_t hc19)
          replace hf := hf.castB (t := 44) rfl (ndec_t hc19)
          refine stepN hf rfl rfl rfl (fun a hf => ?_)
          refine stepN hf rfl rfl rfl (fun a hf => ?_)
          refine stq hf rfl rfl rfl (ex_pickT hf rfl rfl) (fun a hf => ?_)
          refine hK21 _ _ ?_
          have e18 := some_eq H; subst e18
          exact hJ18 _ _ ⟨hf.sub ⟨rfl, rfl, rfl, rfl, rfl, trivial⟩, hs⟩
      · obtain ⟨hf, hs⟩ := hJ
        replace H := HO18
        clear HO18
        refine cond_T hf rfl ?_
        refine seq_reg (fun K22 hK22 => ?_)
        refine stq hf rfl rfl rfl (ex_assign hf rfl) (fun a hf => ?_)
        refine hK22 _ _ ?_
        refine wp_ret ?_
        refine hR17 _ _ ?_
        have eR := some_eq H; subst eR
        replace hs := hs.keep (.d (.d (.d .nil)))
        exact ret1 Try.results3 hf rfl ⟨_, rfl, ⟨rfl, hs⟩⟩
    | some c15 =>
      replace H := elim_s hps14 H
      refine region_k (fun K27 hK27 => ?_)
      refine stq hf rfl rfl rfl (ex_fieldAddrB fa_27_0 rfl hf rfl) (fun a hf => ?_)
      refine stq hf rfl rfl rfl (ex_load sc_22 hf rfl (bx_cell (hs.get (i := 0) rfl) _ rfl)) (fun a hf => ?_)
      refine stq hf rfl rfl rfl (ex_fieldAddrB fa_27_1 rfl hf rfl) (fun a hf => ?_)
      refine stq hf rfl rfl rfl (ex_load sc_23 hf rfl (bx_cell (hs.get (i := 0) rfl) _ rfl)) (fun a hf => ?_)
      refine stq hf rfl rfl rfl (ex_fieldAddrB fa_27_2 rfl hf rfl) (fun a hf => ?_)
      refine stq hf rfl rfl rfl (ex_load sc_2 hf rfl (bx_cell (hs.get (i := 0) rfl) _ rfl)) (fun a hf => ?_)
      refine stepF hf rfl rfl rfl (ex_call cf_13 hf rfl) (heat_New.calls k s7.1 s7.2.1 s7.2.2 v8 v9 (hs.enter (.k (.k (.k .nil)))) (Sr.own hs (.k (.k (.k .nil))) (i := 1) rfl osl_rsl (fun _ h => h.1) (Sr.own hs (.k (.k (.k .nil))) (i := 2) rfl osl_rsl (fun _ h => h.1) (Sr.nil _ _))) hs14) (fun v w hR a hf => ?_)
      obtain ⟨hc', _⟩ | ⟨cc, hc', b23, v24, v25, v26, rfl, hs'⟩ := hR
      case inl => rw [hps14] at hc'; cases hc'
      obtain rfl : c15 = cc := by rw [hps14] at hc'; exact Option.some.inj hc'
      replace hs := hs.step (.k (.k (.k .nil))) hs'
      clear hs'
      refine stq hf rfl rfl rfl (ex_move hf rfl) (fun a hf => ?_)
      refine stq hf rfl rfl rfl (ex_extract hf rfl rfl) (fun a hf => ?_)
      refine stq hf rfl rfl rfl (ex_extract hf rfl rfl) (fun a hf => ?_)
      refine stq hf rfl rfl rfl (ex_assign hf rfl) (fun a hf => ?_)
      refine stq hf rfl rfl rfl (ex_assign hf rfl) (fun a hf => ?_)
      refine hK27 _ _ ?_
      refine hN13 _ _ ?_
      refine seq_n (fun Q28 hN28 hR28 hX28 => ?_)
      refine bnd H (fun x29 H29 HO29 => ?_)
      clear H
      refine seq_cut (fun a w => Fr a 106 [(3, v3), (9, .pointer (some ⟨b10, 0, none⟩)), (10, .int .i64 (s7.1.length : Int)), (11, .pointer (some ⟨b23, 0, none⟩)), (47, .bool x29)] ∧ St M w0 w [bx b10 27 [v8, v9, .int .i64 s7.2.2], osl K_api_HeatDomain v8 s7.1, osl K_api_HeatLink v9 s7.2.1, bx b23 64 [v24, v25, .int .i64 c15.2.2.1, v26, .int .i64 c15.2.2.2.2], osl K_api_HeatDomain v24 c15.1, osl K_api_HeatLink v25 c15.2.1, osl K_int64 v26 c15.2.2.2.1]) (fun Q29 hJ29 hR29 hX29 => ?_) (fun a w hJ => ?_)
      · replace H := H29
        refine itt H (fun hc30 H => ?_) (fun hc30 H => ?_)
        · -- s14.2 = 0
          refine region_k (fun K31 hK31 => ?_)
          refine stq hf rfl rfl rfl (ex_move hf rfl) (fun a hf => ?_)
          refine stq hf rfl rfl rfl (ex_neq hf rfl rfl) (fun a hf => ?_)
          refine stq hf rfl rfl rfl (ex_move hf rfl) (fun a hf => ?_)
          replace hf := hf.castB (t := 43) rfl (ndec_f hc30)
          replace hf := hf.castB (t := 44) rfl (ndec_f hc30)
          refine stq hf rfl rfl rfl (ex_move hf rfl) (fun a hf => ?_)
          refine stq hf rfl rfl rfl (ex_eqp Try.underlying29 hf rfl rfl) (fun a hf => ?_)
          refine stq hf rfl rfl rfl (ex_pickF hf rfl rfl) (fun a hf => ?_)
          refine hK31 _ _ ?_
          replace hs := hs.pick (.k (.k (.k (.c (.k (.k (.k .nil)))))))
          replace hs := hs.pick (.k (.k (.k (.c (.k (.k (.k .nil)))))))
          replace hs := hs.pick (.k (.k (.k (.c (.k (.k (.k .nil)))))))
          replace hs := hs.pick (.k (.k (.k (.c (.k (.k (.k .nil)))))))
          replace hs := hs.pick (.k (.k (.k (.k (.k (.k (.c .nil)))))))
          replace hs := hs.pick (.k (.k (.k (.k (.k (.k (.c .nil)))))))
          replace hs := hs.pick (.k (.k (.k (.k (.k (.k (.c .nil)))))))
          have e29 := some_eq H; subst e29
          exact hJ29 _ _ ⟨hf.sub ⟨rfl, rfl, rfl, rfl, rfl, trivial⟩, hs⟩
        · -- not s14.2 = 0
          refine region_k (fun K32 hK32 => ?_)
          refine stq hf rfl rfl rfl (ex_move hf rfl) (fun a hf => ?_)
          refine stq hf rfl rfl rfl (ex_neq hf rfl rfl) (fun a hf => ?_)
          refine stq hf rfl rfl rfl (ex_move hf rfl) (fun a hf => ?_)
          replace hf := hf.castB (t := 43) rfl (ndec_t hc30)
          replace hf := hf.castB (t := 44) rfl (ndec_t hc30)
          refine stepN hf rfl rfl rfl (fun a hf => ?_)
          refine stepN hf rfl rfl rfl (fun a hf => ?_)
          refine stq hf rfl rfl rfl (ex_pickT hf rfl rfl) (fun a hf => ?_)
          refine hK32 _ _ ?_
          replace hs := hs.pick (.k (.k (.k (.c (.k (.k (.k .nil)))))))
          replace hs := hs.pick (.k (.k (.k (.c (.k (.k (.k .nil)))))))
          replace hs := hs.pick (.k (.k (.k (.c (.k (.k (.k .nil)))))))
          replace hs := hs.pick (.k (.k (.k (.c (.k (.k (.k .nil)))))))
          replace hs := hs.pick (.k (.k (.k (.k (.k (.k (.c .nil)))))))
          replace hs := hs.pick (.k (.k (.k (.k (.k (.k (.c .nil)))))))
          replace hs := hs.pick (.k (.k (.k (.k (.k (.k (.c .nil)))))))
          have e29 := some_eq H; subst e29
          exact hJ29 _ _ ⟨hf.sub ⟨rfl, rfl, rfl, rfl, rfl, trivial⟩, hs⟩
      · obtain ⟨hf, hs⟩ := hJ
        replace H := HO29
        clear HO29
        refine itt H (fun hc33 H => ?_) (fun hc33 H => ?_)
        · -- x29 = true
          replace hf := hf.castB (t := 47) rfl hc33
          refine cond_T hf rfl ?_
          refine seq_reg (fun K34 hK34 => ?_)
          refine stq hf rfl rfl rfl (ex_assign hf rfl) (fun a hf => ?_)
          refine hK34 _ _ ?_
          refine wp_ret ?_
          refine hR28 _ _ ?_
          have eR := some_eq H; subst eR
          replace hs := hs.keep (.d (.d (.d (.d (.d (.d (.d .nil)))))))
          exact ret1 Try.results3 hf rfl ⟨_, rfl, ⟨rfl, hs⟩⟩
        · -- not x29 = true
          replace hf := hf.castB (t := 47) rfl (bool_f hc33)
          refine cond_F hf rfl ?_
          refine wp_skip ?_
          refine hN28 _ _ ?_
          refine seq_reg (fun K35 hK35 => ?_)
          refine stq hf rfl rfl rfl (ex_assign hf rfl) (fun a hf => ?_)
          refine hK35 _ _ ?_
          refine bnd H (fun x36 H36 HO36 => ?_)
          clear H
          refine seq_cut (fun a w => Fr a 106 [(3, v3), (10, .int .i64 (s7.1.length : Int)), (11, .pointer (some ⟨b23, 0, none⟩)), (13, .int .i64 x36)] ∧ St M w0 w [bx b23 64 [v24, v25, .int .i64 c15.2.2.1, v26, .int .i64 c15.2.2.2.2], osl K_api_HeatDomain v24 c15.1, osl K_api_HeatLink v25 c15.2.1, osl K_int64 v26 c15.2.2.2.1]) (fun Q36 hJ36 hR36 hX36 => ?_) (fun a w hJ => ?_)
          · replace H := H36
            refine seq_reg (fun K37 hK37 => ?_)
            refine stq hf rfl rfl rfl (ex_assign hf rfl) (fun a hf => ?_)
            refine hK37 _ _ ?_
            refine block_k (fun Q38 hN38 hR38 hX38 hY38 => ?_)
            refine loop_k (fun n a w => ∃ (y39 : Int) (y40 : Int), Fr a 106 [(3, v3), (9, .pointer (some ⟨b10, 0, none⟩)), (10, .int .i64 (s7.1.length : Int)), (11, .pointer (some ⟨b23, 0, none⟩)), (13, .int .i64 y39), (14, .int .i64 y40)] ∧ St M w0 w [bx b10 27 [v8, v9, .int .i64 s7.2.2], osl K_api_HeatDomain v8 s7.1, osl K_api_HeatLink v9 s7.2.1, bx b23 64 [v24, v25, .int .i64 c15.2.2.1, v26, .int .i64 c15.2.2.2.2], osl K_api_HeatDomain v24 c15.1, osl K_api_HeatLink v25 c15.2.1, osl K_int64 v26 c15.2.2.2.1] ∧ law38_HeatConservation.l1 n s7 y39 y40 = some x36) k ?_ (fun n42 a w hI Q42 hL42 hR42 hX42 => ?_)
            · -- at the start
              exact ⟨0, 0, hf.sub ⟨rfl, rfl, rfl, rfl, rfl, rfl, trivial⟩, hs, H⟩
            · obtain ⟨y39, y40, hf, hs, H⟩ := hI
              cases n42 with
              | zero => exact absurd H (by rw [law38_HeatConservation.l1.eq_1]; intro h; cases h)
              | succ k42 =>
                replace H := (law38_HeatConservation.l1.eq_2 ..).symm.trans H
                refine seq_n (fun Q43 hN43 hR43 hX43 => ?_)
                refine seq_reg (fun K44 hK44 => ?_)
                refine stq hf rfl rfl rfl (ex_move hf rfl) (fun a hf => ?_)
                refine stq hf rfl rfl rfl (ex_move hf rfl) (fun a hf => ?_)
                refine stq hf rfl rfl rfl (ex_lss hf rfl rfl) (fun a hf => ?_)
                refine hK44 _ _ ?_
                refine itt H (fun hc45 H => ?_) (fun hc45 H => ?_)
                · -- y40 < (s7.1.length : Int)
                  replace hf := hf.castB (t := 50) rfl (dec_t hc45)
                  refine cond_T hf rfl ?_
                  refine wp_skip ?_
                  refine hN43 _ _ ?_
                  refine seq_n (fun Q46 hN46 hR46 hX46 => ?_)
                  refine block_k (fun Q47 hN47 hR47 hX47 hY47 => ?_)
                  refine ck_some H (fun hc48 H => ?_)
                  refine region_d fol 11 [(3, v3), (9, .pointer (some ⟨b10, 0, none⟩)), (10, .int .i64 (s7.1.length : Int)), (11, .pointer (some ⟨b23, 0, none⟩)), (13, .int .i64 y39), (14, .int .i64 y40)] [(0, .int .i64 y39), (1, .pointer (some ⟨b10, 0, none⟩)), (2, v8), (3, .int .i64 y40), (4, .pointer (some (sla v8 (y40.toNat * 2)))), (5, .pointer (some (sla v8 (y40.toNat * 2 + 0)))), (6, .int .i64 ((gd HeatDomain.zero s7.1 y40).Capacity)), (7, .pointer (some ⟨b10, 2, none⟩)), (8, .int .i64 s7.2.2), (9, .int .i64 (IntKind.i64.wrap (((gd HeatDomain.zero s7.1 y40).Capacity) * s7.2.2))), (10, .int .i64 (IntKind.i64.wrap (y39 + (IntKind.i64.wrap (((gd HeatDomain.zero s7.1 y40).Capacity) * s7.2.2)))))] [] (fun w => (bx b10 27 [v8, v9, .int .i64 s7.2.2]).ok w ∧ (osl K_api_HeatDomain v8 s7.1).ok w ∧ True) (fun w => St M w0 w [bx b10 27 [v8, v9, .int .i64 s7.2.2], osl K_api_HeatDomain v8 s7.1, osl K_api_HeatLink v9 s7.2.1, bx b23 64 [v24, v25, .int .i64 c15.2.2.1, v26, .int .i64 c15.2.2.2.2], osl K_api_HeatDomain v24 c15.1, osl K_api_HeatLink v25 c15.2.1, osl K_int64 v26 c15.2.2.2.1]) hf ⟨rfl, rfl, rfl, rfl, rfl, rfl, trivial⟩ (by kernel_rfl) (by kernel_rfl) rfl (by decide) ⟨hs.drew.get (i := 0) rfl, hs.drew.get (i := 1) rfl, trivial⟩ hs.drew (.cons (⟨_, _, rfl, rfl, rfl, rfl, fun a w hR hf => .inl ⟨wanted_yes hf rfl, ex_move hf rfl⟩⟩) (.cons (⟨_, _, rfl, rfl, rfl, rfl, fun a w hR hf => .inl ⟨wanted_yes hf rfl, ex_fieldAddrB fa_27_0 rfl hf rfl⟩⟩) (.cons (⟨_, _, rfl, rfl, rfl, rfl, fun a w hR hf => .inl ⟨wanted_yes hf rfl, ex_load sc_22 hf rfl (bx_cell (hR.1) _ rfl)⟩⟩) (.cons (⟨_, _, rfl, rfl, rfl, rfl, fun a w hR hf => .inl ⟨wanted_yes hf rfl, ex_move hf rfl⟩⟩) (.cons (⟨_, _, rfl, rfl, rfl, rfl, fun a w hR hf => .inl ⟨wanted_yes hf rfl, ex_indexAddr sa_22 (rsl_isSl (osl_rsl _ hR.2.1)) hc48.1 hc48.2 hf rfl rfl⟩⟩) (.cons (⟨_, _, rfl, rfl, rfl, rfl, fun a w hR hf => .inl ⟨wanted_yes hf rfl, ex_fieldAddrS fa_34_0 rfl hf rfl⟩⟩) (.cons (⟨_, _, rfl, rfl, rfl, rfl, fun a w hR hf => .inl ⟨wanted_yes hf rfl, ex_load sc_2 hf rfl (el_cell (K := K_api_HeatDomain) (f := 0) (rsl_rd (osl_rsl _ hR.2.1)) hc48.1 hc48.2 rfl)⟩⟩) (.cons (⟨_, _, rfl, rfl, rfl, rfl, fun a w hR hf => .inl ⟨wanted_yes hf rfl, ex_fieldAddrB fa_27_2 rfl hf rfl⟩⟩) (.cons (⟨_, _, rfl, rfl, rfl, rfl, fun a w hR hf => .inl ⟨wanted_yes hf rfl, ex_load sc_2 hf rfl (bx_cell (hR.1) _ rfl)⟩⟩) (.cons (⟨_, _, rfl, rfl, rfl, rfl, fun a w hR hf => .inl ⟨wanted_yes hf rfl, ex_mul hf rfl rfl⟩⟩) (.cons (⟨_, _, rfl, rfl, rfl, rfl, fun a w hR hf => .inl ⟨wanted_yes hf rfl, ex_add hf rfl rfl⟩⟩) (.nil)))))))))))) (fun K49 hK49 => ?_)
                  refine RW.zero (by kernel_rfl) (by kernel_rfl) [(3, v3), (9, .pointer (some ⟨b10, 0, none⟩)), (10, .int .i64 (s7.1.length : Int)), (11, .pointer (some ⟨b23, 0, none⟩)), (13, .int .i64 y39), (14, .int .i64 y40), (63, .int .i64 (IntKind.i64.wrap (y39 + (IntKind.i64.wrap (((gd HeatDomain.zero s7.1 y40).Capacity) * s7.2.2)))))] ⟨rfl, rfl, rfl, rfl, rfl, rfl, rfl, trivial⟩ (fun a w hR hs hf => ?_)
                  refine stq hf rfl rfl rfl (ex_assign hf rfl) (fun a hf => ?_)
                  refine hK49 _ _ ?_
                  refine hN47 _ _ ?_
                  refine hN46 _ _ ?_
                  refine region_k (fun K50 hK50 => ?_)
                  refine stq hf rfl rfl rfl (ex_move hf rfl) (fun a hf => ?_)
                  refine stq hf rfl rfl rfl (ex_add hf rfl rfl) (fun a hf => ?_)
                  refine stq hf rfl rfl rfl (ex_assign hf rfl) (fun a hf => ?_)
                  refine hK50 _ _ ?_
                  exact hL42 k42 _ _ (Nat.lt_succ_self _) ⟨(IntKind.i64.wrap (y39 + (IntKind.i64.wrap (((gd HeatDomain.zero s7.1 y40).Capacity) * s7.2.2)))), (IntKind.i64.wrap (y40 + 1)), hf.sub ⟨rfl, rfl, rfl, rfl, rfl, rfl, trivial⟩, hs, H⟩
                · -- not y40 < (s7.1.length : Int)
                  replace hf := hf.castB (t := 50) rfl (dec_f hc45)
                  refine cond_F hf rfl ?_
                  refine wp_exit ?_
                  refine hX43 0 _ _ ?_
                  refine hX42 0 _ _ ?_
                  refine hX38 _ _ ?_
                  replace hs := hs.keep (.d (.d (.d (.k (.k (.k (.k .nil)))))))
                  have e36 := some_eq H; subst e36
                  exact hJ36 _ _ ⟨hf.sub ⟨rfl, rfl, rfl, rfl, trivial⟩, hs⟩
          · obtain ⟨hf, hs⟩ := hJ
            replace H := HO36
            clear HO36
            refine bnd H (fun x51 H51 HO51 => ?_)
            clear H
            refine seq_cut (fun a w => ∃ (x51s : Unit), x51 = .go x51s ∧ Fr a 106 [] ∧ St M w0 w []) (fun Q51 hJ51 hR51 hX51 => ?_) (fun a w hJ => ?_)
            · replace H := H51
              refine seq_reg (fun K52 hK52 => ?_)
              refine stq hf rfl rfl rfl (ex_assign hf rfl) (fun a hf => ?_)
              refine hK52 _ _ ?_
              refine block_k (fun Q53 hN53 hR53 hX53 hY53 => ?_)
              refine loop_k (fun n a w => ∃ (y55 : (List Int)) (y56 : Int) (y57 : Int) (y58 : Int) (v54 : Value), Fr a 106 [(3, v3), (10, .int .i64 (s7.1.length : Int)), (11, .pointer (some ⟨b23, 0, none⟩)), (13, .int .i64 y57), (15, .int .i64 y58)] ∧ St M w0 w [bx b23 64 [v24, v25, .int .i64 c15.2.2.1, v54, .int .i64 y56], osl K_api_HeatDomain v24 c15.1, osl K_api_HeatLink v25 c15.2.1, osl K_int64 v54 y55] ∧ law38_HeatConservation.l2 n a3 s7 c15 y55 y56 y57 y58 = some x51) k ?_ (fun n60 a w hI Q60 hL60 hR60 hX60 => ?_)
              · -- at the start
                exact ⟨c15.2.2.2.1, c15.2.2.2.2, x36, 0, v26, hf.sub ⟨rfl, rfl, rfl, rfl, rfl, trivial⟩, hs, H⟩
              · obtain ⟨y55, y56, y57, y58, v54, hf, hs, H⟩ := hI
                cases n60 with
                | zero => exact absurd H (by rw [law38_HeatConservation.l2.eq_1]; intro h; cases h)
                | succ k60 =>
                  replace H := (law38_HeatConservation.l2.eq_2 ..).symm.trans H
                  refine seq_n (fun Q61 hN61 hR61 hX61 => ?_)
                  refine seq_reg (fun K62 hK62 => ?_)
                  refine stq hf rfl rfl rfl (ex_move hf rfl) (fun a hf => ?_)
                  refine stq hf rfl rfl rfl (ex_move hf rfl) (fun a hf => ?_)
                  refine stq hf rfl rfl rfl (ex_lenS Try.underlying24 (rsl2_isSl (hr.now hs (i := 2) rfl)) hf rfl) (fun a hf => ?_)
                  refine stq hf rfl rfl rfl (ex_lss hf rfl rfl) (fun a hf => ?_)
                  refine hK62 _ _ ?_
                  refine itt H (fun hc63 H => ?_) (fun hc63 H => ?_)
                  · -- y58 < (a3.length : Int)
                    replace hf := hf.castB (t := 67) rfl (dec_t hc63)
                    refine cond_T hf rfl ?_
                    refine wp_skip ?_
                    refine hN61 _ _ ?_
                    refine bnd H (fun x64 H64 HO64 => ?_)
                    clear H
                    refine seq_cut (fun a w => ∃ (x64s : (List Int) × Int × Int) (v65 : Value), x64 = .go x64s ∧ Fr a 106 [(3, v3), (10, .int .i64 (s7.1.length : Int)), (11, .pointer (some ⟨b23, 0, none⟩)), (13, .int .i64 x64s.2.2), (15, .int .i64 y58)] ∧ St M w0 w [bx b23 64 [v24, v25, .int .i64 c15.2.2.1, v65, .int .i64 x64s.2.1], osl K_api_HeatDomain v24 c15.1, osl K_api_HeatLink v25 c15.2.1, osl K_int64 v65 x64s.1]) (fun Q64 hJ64 hR64 hX64 => ?_) (fun a w hJ => ?_)
                    · replace H := H64
                      refine block_k (fun Q66 hN66 hR66 hX66 hY66 => ?_)
                      refine ck_some H (fun hc67 H => ?_)
                      refine bnd H (fun s68 hs68 H => ?_)
                      refine seq_reg (fun K70 hK70 => ?_)
                      refine stq hf rfl rfl rfl (ex_move hf rfl) (fun a hf => ?_)
                      refine stq hf rfl rfl rfl (ex_move hf rfl) (fun a hf => ?_)
                      refine stq hf rfl rfl rfl (ex_indexAddr sa_24 (rsl2_isSl (hr.now hs (i := 2) rfl)) hc67.1 hc67.2 hf rfl rfl) (fun a hf => ?_)
                      refine stq hf rfl rfl rfl (ex_load sc_35 hf rfl (rsl2_cell (hr.now hs (i := 2) rfl) hc67.1 hc67.2)) (fun a hf => ?_)
                      refine stq hf rfl rfl rfl (ex_move hf rfl) (fun a hf => ?_)
                      refine stepF hf rfl rfl rfl (ex_call cf_14 hf rfl) (law38_Powers.calls k60 (gd [] a3 y58) (s7.1.length : Int) 1000 (vs3 y58.toNat) (hs.enter (.k (.k (.k (.k .nil))))) (Sr.old hr hs (.k (.k (.k (.k .nil)))) (i := 2) rfl (fun _ h => rsl2_rsl _ h hc67.1 hc67.2) (fun _ h => rsl2_fs hc67.1 hc67.2 h) (Sr.nil _ _)) hs68) (fun v w hR a hf => ?_)
                      obtain ⟨v69, rfl, hs'⟩ := hR
                      replace hs := hs.step (.k (.k (.k (.k .nil)))) hs'
                      clear hs'
                      refine stq hf rfl rfl rfl (ex_assign hf rfl) (fun a hf => ?_)
                      refine hK70 _ _ ?_
                      refine seq_n (fun Q71 hN71 hR71 hX71 => ?_)
                      refine bnd H (fun s72 hs72 H => ?_)
                      refine seq_reg (fun K75 hK75 => ?_)
                      refine stq hf rfl rfl rfl (ex_move hf rfl) (fun a hf => ?_)
                      refine stq hf rfl rfl rfl (ex_move hf rfl) (fun a hf => ?_)
                      refine stepF hf rfl rfl rfl (ex_call cf_15 hf rfl) (heat_Model_Step.calls k60 c15.1 c15.2.1 c15.2.2.1 y55 y56 s68 b23 v24 v25 v54 v69 (hs.enter (.k (.c (.k (.k (.c .nil)))))) (Sr.own hs (.k (.c (.k (.k (.c .nil))))) (i := 1) rfl osl_rsl (fun _ h => h.1) (Sr.own hs (.k (.c (.k (.k (.c .nil))))) (i := 2) rfl osl_rsl (fun _ h => h.1) (Sr.own hs (.k (.c (.k (.k (.c .nil))))) (i := 0) rfl osl_rsl (fun _ h => h.1) (Sr.nil _ _)))) hs72) (fun v w hR a hf => ?_)
                      obtain ⟨v73, v74, rfl, hs'⟩ := hR
                      replace hs := hs.step (.k (.c (.k (.k (.c .nil))))) hs'
                      clear hs'
                      refine stq hf rfl rfl rfl (ex_move hf rfl) (fun a hf => ?_)
                      refine stq hf rfl rfl rfl (ex_extract hf rfl rfl) (fun a hf => ?_)
                      refine stq hf rfl rfl rfl (ex_extract hf rfl rfl) (fun a hf => ?_)
                      refine stq hf rfl rfl rfl (ex_assign hf rfl) (fun a hf => ?_)
                      refine stq hf rfl rfl rfl (ex_assign hf rfl) (fun a hf => ?_)
                      refine hK75 _ _ ?_
                      refine seq_reg (fun K76 hK76 => ?_)
                      refine stq hf rfl rfl rfl (ex_move hf rfl) (fun a hf => ?_)
                      refine stq hf rfl rfl rfl (ex_neq hf rfl rfl) (fun a hf => ?_)
                      refine hK76 _ _ ?_
                      refine itt H (fun hc77 H => ?_) (fun hc77 H => ?_)
                      · -- s72.2.2.2 = 0
                        replace hf := hf.castB (t := 83) rfl (ndec_f hc77)
                        refine cond_F hf rfl ?_
                        refine wp_skip ?_
                        refine hN71 _ _ ?_
                        refine bnd H (fun s78 hs78 H => ?_)
                        refine seq_reg (fun K79 hK79 => ?_)
                        refine stq hf rfl rfl rfl (ex_move hf rfl) (fun a hf => ?_)
                        refine stepF hf rfl rfl rfl (ex_call cf_16 hf rfl) (heat_Model_Released.calls k60 c15.1 c15.2.1 c15.2.2.1 s72.2.1 s72.1 b23 v24 v25 v73 (hs.enter (.k (.k (.k (.k (.k (.k .nil))))))) (Sr.own hs (.k (.k (.k (.k (.k (.k .nil)))))) (i := 0) rfl (fun _ h => h) (fun _ h => h) (Sr.own hs (.k (.k (.k (.k (.k (.k .nil)))))) (i := 4) rfl osl_rsl (fun _ h => h.1) (Sr.own hs (.k (.k (.k (.k (.k (.k .nil)))))) (i := 5) rfl osl_rsl (fun _ h => h.1) (Sr.own hs (.k (.k (.k (.k (.k (.k .nil)))))) (i := 1) rfl osl_rsl (fun _ h => h.1) (Sr.nil _ _))))) hs78) (fun v w hR a hf => ?_)
                        obtain ⟨rfl, hs'⟩ := hR
                        replace hs := hs.step (.k (.k (.k (.k (.k (.k .nil)))))) hs'
                        clear hs'
                        refine stq hf rfl rfl rfl (ex_assign hf rfl) (fun a hf => ?_)
                        refine hK79 _ _ ?_
                        refine bnd H (fun x80 H80 HO80 => ?_)
                        clear H
                        refine seq_cut (fun a w => Fr a 106 [(3, v3), (10, .int .i64 (s7.1.length : Int)), (11, .pointer (some ⟨b23, 0, none⟩)), (13, .int .i64 x80.1), (15, .int .i64 y58), (19, .int .i64 x80.2)] ∧ St M w0 w [bx b23 64 [v24, v25, .int .i64 c15.2.2.1, v73, .int .i64 s72.1], osl K_api_HeatDomain v24 c15.1, osl K_api_HeatLink v25 c15.2.1, osl K_int64 v73 s72.2.1]) (fun Q80 hJ80 hR80 hX80 => ?_) (fun a w hJ => ?_)
                        · replace H := H80
                          refine seq_reg (fun K81 hK81 => ?_)
                          refine stq hf rfl rfl rfl (ex_assign hf rfl) (fun a hf => ?_)
                          refine hK81 _ _ ?_
                          refine block_k (fun Q82 hN82 hR82 hX82 hY82 => ?_)
                          refine loop_k (fun n a w => ∃ (y83 : Int) (y84 : Int) (y85 : Int), Fr a 106 [(3, v3), (10, .int .i64 (s7.1.length : Int)), (11, .pointer (some ⟨b23, 0, none⟩)), (13, .int .i64 y83), (15, .int .i64 y58), (16, v69), (19, .int .i64 y84), (20, .int .i64 y85)] ∧ St M w0 w [bx b23 64 [v24, v25, .int .i64 c15.2.2.1, v73, .int .i64 s72.1], osl K_api_HeatDomain v24 c15.1, osl K_api_HeatLink v25 c15.2.1, osl K_int64 v73 s72.2.1, osl K_int64 v69 s68] ∧ law38_HeatConservation.l3 n s7 s68 c15 s72 y83 y84 y85 = some x80) k60 ?_ (fun n87 a w hI Q87 hL87 hR87 hX87 => ?_)
                          · -- at the start
                            replace hs := hs.keep (.k (.k (.d (.k (.k (.k .nil))))))
                            replace hs := hs.pick (.k (.k (.c (.k (.k .nil)))))
                            replace hs := hs.pick (.k (.k (.c (.k (.k .nil)))))
                            replace hs := hs.pick (.k (.k (.k (.k (.c .nil)))))
                            replace hs := hs.pick (.k (.k (.k (.k (.c .nil)))))
                            replace hs := hs.pick (.k (.k (.k (.k (.c .nil)))))
                            exact ⟨y57, s78, 0, hf.sub ⟨rfl, rfl, rfl, rfl, rfl, rfl, rfl, rfl, trivial⟩, hs, H⟩
                          · obtain ⟨y83, y84, y85, hf, hs, H⟩ := hI
                            cases n87 with
                            | zero => exact absurd H (by rw [law38_HeatConservation.l3.eq_1]; intro h; cases h)
                            | succ k87 =>
                              replace H := (law38_HeatConservation.l3.eq_2 ..).symm.trans H
                              refine seq_n (fun Q88 hN88 hR88 hX88 => ?_)
                              refine seq_reg (fun K89 hK89 => ?_)
                              refine stq hf rfl rfl rfl (ex_move hf rfl) (fun a hf => ?_)
                              refine stq hf rfl rfl rfl (ex_move hf rfl) (fun a hf => ?_)
                              refine stq hf rfl rfl rfl (ex_lss hf rfl rfl) (fun a hf => ?_)
                              refine hK89 _ _ ?_
                              refine itt H (fun hc90 H => ?_) (fun hc90 H => ?_)
                              · -- y85 < (s7.1.length : Int)
                                replace hf := hf.castB (t := 88) rfl (dec_t hc90)
                                refine cond_T hf rfl ?_
                                refine wp_skip ?_
                                refine hN88 _ _ ?_
                                refine seq_n (fun Q91 hN91 hR91 hX91 => ?_)
                                refine block_k (fun Q92 hN92 hR92 hX92 hY92 => ?_)
                                refine ck_some H (fun hc93 H => ?_)
                                refine seq_reg (fun K94 hK94 => ?_)
                                refine stq hf rfl rfl rfl (ex_move hf rfl) (fun a hf => ?_)
                                refine stq hf rfl rfl rfl (ex_move hf rfl) (fun a hf => ?_)
                                refine stq hf rfl rfl rfl (ex_move hf rfl) (fun a hf => ?_)
                                refine stq hf rfl rfl rfl (ex_indexAddr sa_35 (rsl_isSl (osl_rsl _ (hs.get (i := 4) rfl))) hc93.1 hc93.2 hf rfl rfl) (fun a hf => ?_)
                                refine stq hf rfl rfl rfl (ex_load sc_2 hf rfl (el_cell (K := K_int64) (f := 0) (rsl_rd (osl_rsl _ (hs.get (i := 4) rfl))) hc93.1 hc93.2 rfl)) (fun a hf => ?_)
                                refine stq hf rfl rfl rfl (ex_add hf rfl rfl) (fun a hf => ?_)
                                refine stq hf rfl rfl rfl (ex_assign hf rfl) (fun a hf => ?_)
                                refine hK94 _ _ ?_
                                refine bnd H (fun s95 hs95 H => ?_)
                                refine region_k (fun K96 hK96 => ?_)
                                refine stq hf rfl rfl rfl (ex_move hf rfl) (fun a hf => ?_)
                                refine stq hf rfl rfl rfl (ex_move hf rfl) (fun a hf => ?_)
                                refine stq hf rfl rfl rfl (ex_move hf rfl) (fun a hf => ?_)
                                refine stepF hf rfl rfl rfl (ex_call cf_17 hf rfl) (heat_Model_Energy.calls k87 c15.1 c15.2.1 c15.2.2.1 s72.2.1 s72.1 y85 b23 v24 v25 v73 (hs.enter (.k (.k (.k (.k (.k .nil)))))) (Sr.own hs (.k (.k (.k (.k (.k .nil))))) (i := 0) rfl (fun _ h => h) (fun _ h => h) (Sr.own hs (.k (.k (.k (.k (.k .nil))))) (i := 1) rfl osl_rsl (fun _ h => h.1) (Sr.own hs (.k (.k (.k (.k (.k .nil))))) (i := 2) rfl osl_rsl (fun _ h => h.1) (Sr.own hs (.k (.k (.k (.k (.k .nil))))) (i := 3) rfl osl_rsl (fun _ h => h.1) (Sr.nil _ _))))) hs95) (fun v w hR a hf => ?_)
                                obtain ⟨rfl, hs'⟩ := hR
                                replace hs := hs.step (.k (.k (.k (.k (.k .nil))))) hs'
                                clear hs'
                                refine stq hf rfl rfl rfl (ex_add hf rfl rfl) (fun a hf => ?_)
                                refine stq hf rfl rfl rfl (ex_assign hf rfl) (fun a hf => ?_)
                                refine hK96 _ _ ?_
                                refine hN92 _ _ ?_
                                refine hN91 _ _ ?_
                                refine region_k (fun K97 hK97 => ?_)
                                refine stq hf rfl rfl rfl (ex_move hf rfl) (fun a hf => ?_)
                                refine stq hf rfl rfl rfl (ex_add hf rfl rfl) (fun a hf => ?_)
                                refine stq hf rfl rfl rfl (ex_assign hf rfl) (fun a hf => ?_)
                                refine hK97 _ _ ?_
                                exact hL87 k87 _ _ (Nat.lt_succ_self _) ⟨(IntKind.i64.wrap (y83 + (gd 0 s68 y85))), (IntKind.i64.wrap (y84 + s95)), (IntKind.i64.wrap (y85 + 1)), hf.sub ⟨rfl, rfl, rfl, rfl, rfl, rfl, rfl, rfl, trivial⟩, hs, H⟩
                              · -- not y85 < (s7.1.length : Int)
                                replace hf := hf.castB (t := 88) rfl (dec_f hc90)
                                refine cond_F hf rfl ?_
                                refine wp_exit ?_
                                refine hX88 4 _ _ ?_
                                refine hX87 4 _ _ ?_
                                refine hX82 _ _ ?_
                                replace hs := hs.keep (.k (.k (.k (.k (.d .nil)))))
                                have e80 := some_eq H; subst e80
                                exact hJ80 _ _ ⟨hf.sub ⟨rfl, rfl, rfl, rfl, rfl, rfl, trivial⟩, hs⟩
                        · obtain ⟨hf, hs⟩ := hJ
                          replace H := HO80
                          clear HO80
                          refine seq_reg (fun K98 hK98 => ?_)
                          refine stq hf rfl rfl rfl (ex_move hf rfl) (fun a hf => ?_)
                          refine stq hf rfl rfl rfl (ex_move hf rfl) (fun a hf => ?_)
                          refine stq hf rfl rfl rfl (ex_neq hf rfl rfl) (fun a hf => ?_)
                          refine hK98 _ _ ?_
                          refine itt H (fun hc99 H => ?_) (fun hc99 H => ?_)
                          · -- x80.2 = x80.1
                            replace hf := hf.castB (t := 104) rfl (ndec_f hc99)
                            refine cond_F hf rfl ?_
                            refine wp_skip ?_
                            refine hN66 _ _ ?_
                            have e64 := some_eq H; subst e64
                            exact hJ64 _ _ ⟨_, v73, rfl, hf.sub ⟨rfl, rfl, rfl, rfl, rfl, trivial⟩, hs⟩
                          · -- not x80.2 = x80.1
                            replace hf := hf.castB (t := 104) rfl (ndec_t hc99)
                            refine cond_T hf rfl ?_
                            refine seq_reg (fun K100 hK100 => ?_)
                            refine stq hf rfl rfl rfl (ex_assign hf rfl) (fun a hf => ?_)
                            refine hK100 _ _ ?_
                            refine wp_ret ?_
                            refine hR66 _ _ ?_
                            have e64 := some_eq H; subst e64; replace H := el_rt HO64
                            refine hR64 _ _ ?_
                            refine hR60 _ _ ?_
                            refine hR53 _ _ ?_
                            have e51 := some_eq H; subst e51; replace H := el_rt HO51
                            refine hR51 _ _ ?_
                            have eR := some_eq H; subst eR
                            replace hs := hs.keep (.d (.d (.d (.d .nil))))
                            exact ret1 Try.results3 hf rfl ⟨_, rfl, ⟨rfl, hs⟩⟩
                      · -- not s72.2.2.2 = 0
                        replace hf := hf.castB (t := 83) rfl (ndec_t hc77)
                        refine cond_T hf rfl ?_
                        refine seq_reg (fun K101 hK101 => ?_)
                        refine stq hf rfl rfl rfl (ex_assign hf rfl) (fun a hf => ?_)
                        refine hK101 _ _ ?_
                        refine wp_ret ?_
                        refine hR71 _ _ ?_
                        refine hR66 _ _ ?_
                        have e64 := some_eq H; subst e64; replace H := el_rt HO64
                        refine hR64 _ _ ?_
                        refine hR60 _ _ ?_
                        refine hR53 _ _ ?_
                        have e51 := some_eq H; subst e51; replace H := el_rt HO51
                        refine hR51 _ _ ?_
                        have eR := some_eq H; subst eR
                        replace hs := hs.keep (.d (.d (.d (.d (.d (.d .nil))))))
                        exact ret1 Try.results3 hf rfl ⟨_, rfl, ⟨rfl, hs⟩⟩
                    · obtain ⟨x64s, v65, rfl, hf, hs⟩ := hJ
                      replace H := el_go HO64
                      clear HO64
                      refine region_k (fun K102 hK102 => ?_)
                      refine stq hf rfl rfl rfl (ex_move hf rfl) (fun a hf => ?_)
                      refine stq hf rfl rfl rfl (ex_add hf rfl rfl) (fun a hf => ?_)
                      refine stq hf rfl rfl rfl (ex_assign hf rfl) (fun a hf => ?_)
                      refine hK102 _ _ ?_
                      exact hL60 k60 _ _ (Nat.lt_succ_self _) ⟨x64s.1, x64s.2.1, x64s.2.2, (IntKind.i64.wrap (y58 + 1)), v65, hf.sub ⟨rfl, rfl, rfl, rfl, rfl, trivial⟩, hs, H⟩
                  · -- not y58 < (a3.length : Int)
                    replace hf := hf.castB (t := 67) rfl (dec_f hc63)
                    refine cond_F hf rfl ?_
                    refine wp_exit ?_
                    refine hX61 2 _ _ ?_
                    refine hX60 2 _ _ ?_
                    refine hX53 _ _ ?_
                    replace hs := hs.keep (.d (.d (.d (.d .nil))))
                    have e51 := some_eq H; subst e51
                    exact hJ51 _ _ ⟨_, rfl, hf.sub trivial, hs⟩
            · obtain ⟨x51s, rfl, hf, hs⟩ := hJ
              replace H := el_go HO51
              clear HO51
              refine bnd H (fun s103 hs103 H => ?_)
              refine seq_reg (fun K104 hK104 => ?_)
              refine stepF hf rfl rfl rfl (ex_call cf_11 hf rfl) (law38_awake.calls k (hs.enter .nil) (Sr.nil _ _) hs103) (fun v w hR a hf => ?_)
              obtain ⟨rfl, hs'⟩ := hR
              replace hs := hs.step .nil hs'
              clear hs'
              refine stq hf rfl rfl rfl (ex_assign hf rfl) (fun a hf => ?_)
              refine hK104 _ _ ?_
              refine wp_ret ?_
              have eR := some_eq H; subst eR
              exact ret1 Try.results3 hf rfl ⟨_, rfl, ⟨rfl, hs⟩⟩

end Go.Proofs.Ytakaooegofiloaa.X
