/- Each function of the machine comes to what its pure function says. -/
import Derived.Test.YtakaooegofiloaaFc1
import Derived.Test.YtakaooegofiloaaFc2
import Derived.Test.YtakaooegofiloaaFc3
import Derived.Test.YtakaooegofiloaaFc5
import Derived.Test.YtakaooegofiloaaFb
namespace Go.Proofs.Ytakaooegofiloaa.X
open Go Go.RowKit Go.Sx
set_option linter.unusedVariables false

set_option maxHeartbeats 4000000 in
set_option maxRecDepth 100000 in
theorem law38_HeatStepsAgree.calls {M : Nat → Prop} {w0 : World} (k : Nat) (a0 : (List HeatDomain)) (a1 : (List HeatLink)) (a2 : Int) (a3 : (List (List Int))) (v0 : Value) (v1 : Value) (v3 : Value) (vs3 : (Nat → Value)) {r : Bool} (hs : St M w0 w0 []) (hr : Sr M w0 [rsl K_api_HeatDomain v0 a0, rsl K_api_HeatLink v1 a1, rsl2 K_int64 v3 vs3 a3])
    (h : law38_HeatStepsAgree.f k a0 a1 a2 a3 = some r) : Calls Try.prog 6 #[v0, v1, .int .i64 a2, v3] w0 fun e w => ∃ v, e = .returned v ∧ (.bool r = v ∧ St M w0 w []) := by
  have H := (law38_HeatStepsAgree.f.eq_1 ..).symm.trans h
  clear h
  refine enter Try.func6 rfl Try.ntmps6 rfl (fun a hf => ?_)
  refine seq_reg (fun K1 hK1 => ?_)
  refine stq hf rfl rfl rfl (ex_assign hf rfl) (fun a hf => ?_)
  refine hK1 _ _ ?_
  refine seq_n (fun Q2 hN2 hR2 hX2 => ?_)
  refine seq_reg (fun K3 hK3 => ?_)
  refine stq hf rfl rfl rfl (ex_move hf rfl) (fun a hf => ?_)
  refine stq hf rfl rfl rfl (ex_lenS Try.underlying24 (rsl2_isSl (hr.now hs (i := 2) rfl)) hf rfl) (fun a hf => ?_)
  refine stq hf rfl rfl rfl (ex_gtr hf rfl rfl) (fun a hf => ?_)
  refine hK3 _ _ ?_
  refine itt H (fun hc4 H => ?_) (fun hc4 H => ?_)
  · -- 30 < (a3.length : Int)
    replace hf := hf.castB (t := 24) rfl (dec_t hc4)
    refine cond_T hf rfl ?_
    refine bnd H (fun s5 hs5 H => ?_)
    refine seq_reg (fun K6 hK6 => ?_)
    refine stepF hf rfl rfl rfl (ex_call cf_11 hf rfl) (law38_awake.calls k (hs.enter .nil) (Sr.nil _ _) hs5) (fun v w hR a hf => ?_)
    obtain ⟨rfl, hs'⟩ := hR
    replace hs := hs.step .nil hs'
    clear hs'
    refine stq hf rfl rfl rfl (ex_assign hf rfl) (fun a hf => ?_)
    refine hK6 _ _ ?_
    refine wp_ret ?_
    refine hR2 _ _ ?_
    have eR := some_eq H; subst eR
    exact ret1 Try.results6 hf rfl ⟨_, rfl, ⟨rfl, hs⟩⟩
  · -- not 30 < (a3.length : Int)
    replace hf := hf.castB (t := 24) rfl (dec_f hc4)
    refine cond_F hf rfl ?_
    refine wp_skip ?_
    refine hN2 _ _ ?_
    refine bnd H (fun s7 hs7 H => ?_)
    refine seq_reg (fun K11 hK11 => ?_)
    refine stq hf rfl rfl rfl (ex_move hf rfl) (fun a hf => ?_)
    refine stq hf rfl rfl rfl (ex_move hf rfl) (fun a hf => ?_)
    refine stq hf rfl rfl rfl (ex_move hf rfl) (fun a hf => ?_)
    refine stepF hf rfl rfl rfl (ex_call cf_12 hf rfl) (law38_Some.calls k a0 a1 a2 v0 v1 (hs.enter .nil) (Sr.old hr hs .nil (i := 0) rfl (fun _ h => h) (fun _ h => h) (Sr.old hr hs .nil (i := 1) rfl (fun _ h => h) (fun _ h => h) (Sr.nil _ _))) hs7) (fun v w hR a hf => ?_)
    obtain ⟨v8, v9, rfl, hs'⟩ := hR
    replace hs := hs.step .nil hs'
    clear hs'
    refine stepV hf rfl rfl rfl (er_alloc hs ti_27 (cs := [(.slice none 0 0), (.slice none 0 0), .int .i64 0]) rfl) (fun v w hR a hf => ?_)
    obtain ⟨b10, rfl, hs⟩ := hR
    refine stepS hf rfl rfl (er_storeAB (vs := [v8, v9, .int .i64 s7.2.2]) (cs' := [v8, v9, .int .i64 s7.2.2]) hs (.c (.k (.k .nil))) sz_27 hf rfl rfl (all1 (IsSl.one (rsl_isSl (osl_rsl _ (hs.get (i := 1) rfl)))) (all1 (IsSl.one (rsl_isSl (osl_rsl _ (hs.get (i := 2) rfl)))) (all1 rfl (all1_nil)))) rfl rfl) (fun w hs => ?_)
    refine hK11 _ _ ?_
    refine seq_reg (fun K12 hK12 => ?_)
    refine stq hf rfl rfl rfl (ex_fieldAddrB fa_27_0 rfl hf rfl) (fun a hf => ?_)
    refine stq hf rfl rfl rfl (ex_load sc_22 hf rfl (bx_cell (hs.get (i := 0) rfl) _ rfl)) (fun a hf => ?_)
    refine stq hf rfl rfl rfl (ex_lenS Try.underlying22 (rsl_isSl (osl_rsl _ (hs.get (i := 1) rfl))) hf rfl) (fun a hf => ?_)
    refine stq hf rfl rfl rfl (ex_assign hf rfl) (fun a hf => ?_)
    refine hK12 _ _ ?_
    refine seq_n (fun Q13 hN13 hR13 hX13 => ?_)
    refine bnd H (fun s14 hs14 H => ?_)
    cases hps14 : s14.1 with
    | none =>
      replace H := elim_n hps14 H
      refine region_k (fun K16 hK16 => ?_)
      refine stq hf rfl rfl rfl (ex_fieldAddrB fa_27_0 rfl hf rfl) (fun a hf => ?_)
      refine stq hf rfl rfl rfl (ex_load sc_22 hf rfl (bx_cell (hs.get (i := 0) rfl) _ rfl)) (fun a hf => ?_)
      refine stq hf rfl rfl rfl (ex_fieldAddrB fa_27_1 rfl hf rfl) (fun a hf => ?_)
      refine stq hf rfl rfl rfl (ex_load sc_23 hf rfl (bx_cell (hs.get (i := 0) rfl) _ rfl)) (fun a hf => ?_)
      refine stq hf rfl rfl rfl (ex_fieldAddrB fa_27_2 rfl hf rfl) (fun a hf => ?_)
      refine stq hf rfl rfl rfl (ex_load sc_2 hf rfl (bx_cell (hs.get (i := 0) rfl) _ rfl)) (fun a hf => ?_)
      refine stepF hf rfl rfl rfl (ex_call cf_13 hf rfl) (heat_New.calls k s7.1 s7.2.1 s7.2.2 v8 v9 (hs.enter (.k (.k (.k .nil)))) (Sr.own hs (.k (.k (.k .nil))) (i := 1) rfl osl_rsl (fun _ h => h.1) (Sr.own hs (.k (.k (.k .nil))) (i := 2) rfl osl_rsl (fun _ h => h.1) (Sr.nil _ _))) hs14) (fun v w hR a hf => ?_)
      obtain ⟨_, rfl, hs'⟩ | ⟨_, hc', _⟩ := hR
      case inr => rw [hps14] at hc'; cases hc'
      replace hs := hs.step (.k (.k (.k .nil))) hs'
      clear hs'
      refine stq hf rfl rfl rfl (ex_move hf rfl) (fun a hf => ?_)
      refine stq hf rfl rfl rfl (ex_extract hf rfl rfl) (fun a hf => ?_)
      refine stq hf rfl rfl rfl (ex_extract hf rfl rfl) (fun a hf => ?_)
      refine stq hf rfl rfl rfl (ex_assign hf rfl) (fun a hf => ?_)
      refine stq hf rfl rfl rfl (ex_assign hf rfl) (fun a hf => ?_)
      refine hK16 _ _ ?_
      refine hN13 _ _ ?_
      refine seq_n (fun Q17 hN17 hR17 hX17 => ?_)
      refine bnd H (fun s18 hs18 H => ?_)
      cases hps18 : s18.1 with
      | none =>
        replace H := elim_n hps18 H
        refine region_k (fun K20 hK20 => ?_)
        refine stq hf rfl rfl rfl (ex_fieldAddrB fa_27_0 rfl hf rfl) (fun a hf => ?_)
        refine stq hf rfl rfl rfl (ex_load sc_22 hf rfl (bx_cell (hs.get (i := 0) rfl) _ rfl)) (fun a hf => ?_)
        refine stq hf rfl rfl rfl (ex_fieldAddrB fa_27_1 rfl hf rfl) (fun a hf => ?_)
        refine stq hf rfl rfl rfl (ex_load sc_23 hf rfl (bx_cell (hs.get (i := 0) rfl) _ rfl)) (fun a hf => ?_)
        refine stq hf rfl rfl rfl (ex_fieldAddrB fa_27_2 rfl hf rfl) (fun a hf => ?_)
        refine stq hf rfl rfl rfl (ex_load sc_2 hf rfl (bx_cell (hs.get (i := 0) rfl) _ rfl)) (fun a hf => ?_)
        refine stepF hf rfl rfl rfl (ex_call cf_20 hf rfl) (ref38_New.calls k s7.1 s7.2.1 s7.2.2 v8 v9 (hs.enter (.k (.k (.k .nil)))) (Sr.own hs (.k (.k (.k .nil))) (i := 1) rfl osl_rsl (fun _ h => h.1) (Sr.own hs (.k (.k (.k .nil))) (i := 2) rfl osl_rsl (fun _ h => h.1) (Sr.nil _ _))) hs18) (fun v w hR a hf => ?_)
        obtain ⟨_, rfl, hs'⟩ | ⟨_, hc', _⟩ := hR
        case inr => rw [hps18] at hc'; cases hc'
        replace hs := hs.step (.k (.k (.k .nil))) hs'
        clear hs'
        refine stq hf rfl rfl rfl (ex_move hf rfl) (fun a hf => ?_)
        refine stq hf rfl rfl rfl (ex_extract hf rfl rfl) (fun a hf => ?_)
        refine stq hf rfl rfl rfl (ex_extract hf rfl rfl) (fun a hf => ?_)
        refine stq hf rfl rfl rfl (ex_assign hf rfl) (fun a hf => ?_)
        refine stq hf rfl rfl rfl (ex_assign hf rfl) (fun a hf => ?_)
        refine hK20 _ _ ?_
        refine hN17 _ _ ?_
        refine seq_n (fun Q21 hN21 hR21 hX21 => ?_)
        refine bnd H (fun x22 H22 HO22 => ?_)
        clear H
        refine seq_cut (fun a w => Fr a 132 [(3, v3), (10, .int .i64 (s7.1.length : Int)), (11, .pointer none), (13, .pointer none), (62, .bool true)] ∧ St M w0 w []) (fun Q22 hJ22 hR22 hX22 => ?_) (fun a w hJ => ?_)
        · replace H := H22
          refine itt H (fun hc23 H => ?_) (fun hc23 H => ?_)
          · -- s14.2 = 0
            refine itt H (fun hc24 H => ?_) (fun hc24 H => ?_)
            · -- s18.2 = 0
              refine region_k (fun K25 hK25 => ?_)
              refine stq hf rfl rfl rfl (ex_move hf rfl) (fun a hf => ?_)
              refine stq hf rfl rfl rfl (ex_neq hf rfl rfl) (fun a hf => ?_)
              refine stq hf rfl rfl rfl (ex_move hf rfl) (fun a hf => ?_)
              replace hf := hf.castB (t := 54) rfl (ndec_f hc23)
              replace hf := hf.castB (t := 55) rfl (ndec_f hc23)
              refine stq hf rfl rfl rfl (ex_move hf rfl) (fun a hf => ?_)
              refine stq hf rfl rfl rfl (ex_neq hf rfl rfl) (fun a hf => ?_)
              refine stq hf rfl rfl rfl (ex_pickF hf rfl rfl) (fun a hf => ?_)
              refine stq hf rfl rfl rfl (ex_move hf rfl) (fun a hf => ?_)
              replace hf := hf.castB (t := 57) rfl (ndec_f hc24)
              replace hf := hf.castB (t := 58) rfl (ndec_f hc24)
              replace hf := hf.castB (t := 59) rfl (ndec_f hc24)
              refine stq hf rfl rfl rfl (ex_move hf rfl) (fun a hf => ?_)
              refine stq hf rfl rfl rfl (ex_eqp Try.underlying29 hf rfl rfl) (fun a hf => ?_)
              refine stq hf rfl rfl rfl (ex_pickF hf rfl rfl) (fun a hf => ?_)
              refine hK25 _ _ ?_
              replace hs := hs.keep (.d (.d (.d .nil)))
              have e22 := some_eq H; subst e22
              exact hJ22 _ _ ⟨hf.sub ⟨rfl, rfl, rfl, rfl, rfl, trivial⟩, hs⟩
            · -- not s18.2 = 0
              refine region_k (fun K26 hK26 => ?_)
              refine stq hf rfl rfl rfl (ex_move hf rfl) (fun a hf => ?_)
              refine stq hf rfl rfl rfl (ex_neq hf rfl rfl) (fun a hf => ?_)
              refine stq hf rfl rfl rfl (ex_move hf rfl) (fun a hf => ?_)
              replace hf := hf.castB (t := 54) rfl (ndec_f hc23)
              replace hf := hf.castB (t := 55) rfl (ndec_f hc23)
              refine stq hf rfl rfl rfl (ex_move hf rfl) (fun a hf => ?_)
              refine stq hf rfl rfl rfl (ex_neq hf rfl rfl) (fun a hf => ?_)
              refine stq hf rfl rfl rfl (ex_pickF hf rfl rfl) (fun a hf => ?_)
              refine stq hf rfl rfl rfl (ex_move hf rfl) (fun a hf => ?_)
              replace hf := hf.castB (t := 57) rfl (ndec_t hc24)
              replace hf := hf.castB (t := 58) rfl (ndec_t hc24)
              replace hf := hf.castB (t := 59) rfl (ndec_t hc24)
              refine stepN hf rfl rfl rfl (fun a hf => ?_)
              refine stepN hf rfl rfl rfl (fun a hf => ?_)
              refine stq hf rfl rfl rfl (ex_pickT hf rfl rfl) (fun a hf => ?_)
              refine hK26 _ _ ?_
              replace hs := hs.keep (.d (.d (.d .nil)))
              have e22 := some_eq H; subst e22
              exact hJ22 _ _ ⟨hf.sub ⟨rfl, rfl, rfl, rfl, rfl, trivial⟩, hs⟩
          · -- not s14.2 = 0
            refine region_k (fun K27 hK27 => ?_)
            refine stq hf rfl rfl rfl (ex_move hf rfl) (fun a hf => ?_)
            refine stq hf rfl rfl rfl (ex_neq hf rfl rfl) (fun a hf => ?_)
            refine stq hf rfl rfl rfl (ex_move hf rfl) (fun a hf => ?_)
            replace hf := hf.castB (t := 54) rfl (ndec_t hc23)
            replace hf := hf.castB (t := 55) rfl (ndec_t hc23)
            refine stepN hf rfl rfl rfl (fun a hf => ?_)
            refine stepN hf rfl rfl rfl (fun a hf => ?_)
            refine stq hf rfl rfl rfl (ex_pickT hf rfl rfl) (fun a hf => ?_)
            refine stq hf rfl rfl rfl (ex_move hf rfl) (fun a hf => ?_)
            refine stepN hf rfl rfl rfl (fun a hf => ?_)
            refine stepN hf rfl rfl rfl (fun a hf => ?_)
            refine stq hf rfl rfl rfl (ex_pickT hf rfl rfl) (fun a hf => ?_)
            refine hK27 _ _ ?_
            replace hs := hs.keep (.d (.d (.d .nil)))
            have e22 := some_eq H; subst e22
            exact hJ22 _ _ ⟨hf.sub ⟨rfl, rfl, rfl, rfl, rfl, trivial⟩, hs⟩
        · obtain ⟨hf, hs⟩ := hJ
          replace H := HO22
          clear HO22
          refine cond_T hf rfl ?_
          refine seq_reg (fun K28 hK28 => ?_)
          refine stq hf rfl rfl rfl (ex_assign hf rfl) (fun a hf => ?_)
          refine hK28 _ _ ?_
          refine wp_ret ?_
          refine hR21 _ _ ?_
          have eR := some_eq H; subst eR
          exact ret1 Try.results6 hf rfl ⟨_, rfl, ⟨rfl, hs⟩⟩
      | some c19 =>
        replace H := elim_s hps18 H
        refine region_k (fun K31 hK31 => ?_)
        refine stq hf rfl rfl rfl (ex_fieldAddrB fa_27_0 rfl hf rfl) (fun a hf => ?_)
        refine stq hf rfl rfl rfl (ex_load sc_22 hf rfl (bx_cell (hs.get (i := 0) rfl) _ rfl)) (fun a hf => ?_)
        refine stq hf rfl rfl rfl (ex_fieldAddrB fa_27_1 rfl hf rfl) (fun a hf => ?_)
        refine stq hf rfl rfl rfl (ex_load sc_23 hf rfl (bx_cell (hs.get (i := 0) rfl) _ rfl)) (fun a hf => ?_)
        refine stq hf rfl rfl rfl (ex_fieldAddrB fa_27_2 rfl hf rfl) (fun a hf => ?_)
        refine stq hf rfl rfl rfl (ex_load sc_2 hf rfl (bx_cell (hs.get (i := 0) rfl) _ rfl)) (fun a hf => ?_)
        refine stepF hf rfl rfl rfl (ex_call cf_20 hf rfl) (ref38_New.calls k s7.1 s7.2.1 s7.2.2 v8 v9 (hs.enter (.k (.k (.k .nil)))) (Sr.own hs (.k (.k (.k .nil))) (i := 1) rfl osl_rsl (fun _ h => h.1) (Sr.own hs (.k (.k (.k .nil))) (i := 2) rfl osl_rsl (fun _ h => h.1) (Sr.nil _ _))) hs18) (fun v w hR a hf => ?_)
        obtain ⟨hc', _⟩ | ⟨cc, hc', b29, v30, rfl, hs'⟩ := hR
        case inl => rw [hps18] at hc'; cases hc'
        obtain rfl : c19 = cc := by rw [hps18] at hc'; exact Option.some.inj hc'
        replace hs := hs.step (.k (.k (.k .nil))) hs'
        clear hs'
        refine stq hf rfl rfl rfl (ex_move hf rfl) (fun a hf => ?_)
        refine stq hf rfl rfl rfl (ex_extract hf rfl rfl) (fun a hf => ?_)
        refine stq hf rfl rfl rfl (ex_extract hf rfl rfl) (fun a hf => ?_)
        refine stq hf rfl rfl rfl (ex_assign hf rfl) (fun a hf => ?_)
        refine stq hf rfl rfl rfl (ex_assign hf rfl) (fun a hf => ?_)
        refine hK31 _ _ ?_
        refine hN17 _ _ ?_
        refine seq_n (fun Q32 hN32 hR32 hX32 => ?_)
        refine bnd H (fun x33 H33 HO33 => ?_)
        clear H
        refine seq_cut (fun a w => Fr a 132 [(3, v3), (10, .int .i64 (s7.1.length : Int)), (11, .pointer none), (13, .pointer (some ⟨b29, 0, none⟩)), (62, .bool true)] ∧ St M w0 w [bx b29 69 [v8, v9, .int .i64 c19.1, v30, .int .i64 c19.2.2], osl K_api_HeatDomain v8 s7.1, osl K_api_HeatLink v9 s7.2.1, osl K_int64 v30 c19.2.1]) (fun Q33 hJ33 hR33 hX33 => ?_) (fun a w hJ => ?_)
        · replace H := H33
          refine itt H (fun hc34 H => ?_) (fun hc34 H => ?_)
          · -- s14.2 = 0
            refine itt H (fun hc35 H => ?_) (fun hc35 H => ?_)
            · -- s18.2 = 0
              refine region_k (fun K36 hK36 => ?_)
              refine stq hf rfl rfl rfl (ex_move hf rfl) (fun a hf => ?_)
              refine stq hf rfl rfl rfl (ex_neq hf rfl rfl) (fun a hf => ?_)
              refine stq hf rfl rfl rfl (ex_move hf rfl) (fun a hf => ?_)
              replace hf := hf.castB (t := 54) rfl (ndec_f hc34)
              replace hf := hf.castB (t := 55) rfl (ndec_f hc34)
              refine stq hf rfl rfl rfl (ex_move hf rfl) (fun a hf => ?_)
              refine stq hf rfl rfl rfl (ex_neq hf rfl rfl) (fun a hf => ?_)
              refine stq hf rfl rfl rfl (ex_pickF hf rfl rfl) (fun a hf => ?_)
              refine stq hf rfl rfl rfl (ex_move hf rfl) (fun a hf => ?_)
              replace hf := hf.castB (t := 57) rfl (ndec_f hc35)
              replace hf := hf.castB (t := 58) rfl (ndec_f hc35)
              replace hf := hf.castB (t := 59) rfl (ndec_f hc35)
              refine stq hf rfl rfl rfl (ex_move hf rfl) (fun a hf => ?_)
              refine stq hf rfl rfl rfl (ex_eqp Try.underlying29 hf rfl rfl) (fun a hf => ?_)
              refine stq hf rfl rfl rfl (ex_pickF hf rfl rfl) (fun a hf => ?_)
              refine hK36 _ _ ?_
              replace hs := hs.keep (.k (.k (.d (.k (.k .nil)))))
              replace hs := hs.pick (.k (.c (.k (.k .nil))))
              replace hs := hs.pick (.k (.k (.k (.c .nil))))
              replace hs := hs.pick (.k (.k (.k (.c .nil))))
              replace hs := hs.pick (.k (.k (.k (.c .nil))))
              have e33 := some_eq H; subst e33
              exact hJ33 _ _ ⟨hf.sub ⟨rfl, rfl, rfl, rfl, rfl, trivial⟩, hs⟩
            · -- not s18.2 = 0
              refine region_k (fun K37 hK37 => ?_)
              refine stq hf rfl rfl rfl (ex_move hf rfl) (fun a hf => ?_)
              refine stq hf rfl rfl rfl (ex_neq hf rfl rfl) (fun a hf => ?_)
              refine stq hf rfl rfl rfl (ex_move hf rfl) (fun a hf => ?_)
              replace hf := hf.castB (t := 54) rfl (ndec_f hc34)
              replace hf := hf.castB (t := 55) rfl (ndec_f hc34)
              refine stq hf rfl rfl rfl (ex_move hf rfl) (fun a hf => ?_)
              refine stq hf rfl rfl rfl (ex_neq hf rfl rfl) (fun a hf => ?_)
              refine stq hf rfl rfl rfl (ex_pickF hf rfl rfl) (fun a hf => ?_)
              refine stq hf rfl rfl rfl (ex_move hf rfl) (fun a hf => ?_)
              replace hf := hf.castB (t := 57) rfl (ndec_t hc35)
              replace hf := hf.castB (t := 58) rfl (ndec_t hc35)
              replace hf := hf.castB (t := 59) rfl (ndec_t hc35)
              refine stepN hf rfl rfl rfl (fun a hf => ?_)
              refine stepN hf rfl rfl rfl (fun a hf => ?_)
              refine stq hf rfl rfl rfl (ex_pickT hf rfl rfl) (fun a hf => ?_)
              refine hK37 _ _ ?_
              replace hs := hs.keep (.k (.k (.d (.k (.k .nil)))))
              replace hs := hs.pick (.k (.c (.k (.k .nil))))
              replace hs := hs.pick (.k (.k (.k (.c .nil))))
              replace hs := hs.pick (.k (.k (.k (.c .nil))))
              replace hs := hs.pick (.k (.k (.k (.c .nil))))
              have e33 := some_eq H; subst e33
              exact hJ33 _ _ ⟨hf.sub ⟨rfl, rfl, rfl, rfl, rfl, trivial⟩, hs⟩
          · -- not s14.2 = 0
            refine region_k (fun K38 hK38 => ?_)
            refine stq hf rfl rfl rfl (ex_move hf rfl) (fun a hf => ?_)
            refine stq hf rfl rfl rfl (ex_neq hf rfl rfl) (fun a hf => ?_)
            refine stq hf rfl rfl rfl (ex_move hf rfl) (fun a hf => ?_)
            replace hf := hf.castB (t := 54) rfl (ndec_t hc34)
            replace hf := hf.castB (t := 55) rfl (ndec_t hc34)
            refine stepN hf rfl rfl rfl (fun a hf => ?_)
            refine stepN hf rfl rfl rfl (fun a hf => ?_)
            refine stq hf rfl rfl rfl (ex_pickT hf rfl rfl) (fun a hf => ?_)
            refine stq hf rfl rfl rfl (ex_move hf rfl) (fun a hf => ?_)
            refine stepN hf rfl rfl rfl (fun a hf => ?_)
            refine stepN hf rfl rfl rfl (fun a hf => ?_)
            refine stq hf rfl rfl rfl (ex_pickT hf rfl rfl) (fun a hf => ?_)
            refine hK38 _ _ ?_
            replace hs := hs.keep (.k (.k (.d (.k (.k .nil)))))
            replace hs := hs.pick (.k (.c (.k (.k .nil))))
            replace hs := hs.pick (.k (.k (.k (.c .nil))))
            replace hs := hs.pick (.k (.k (.k (.c .nil))))
            replace hs := hs.pick (.k (.k (.k (.c .nil))))
            have e33 := some_eq H; subst e33
            exact hJ33 _ _ ⟨hf.sub ⟨rfl, rfl, rfl, rfl, rfl, trivial⟩, hs⟩
        · obtain ⟨hf, hs⟩ := hJ
          replace H := HO33
          clear HO33
          refine cond_T hf rfl ?_
          refine seq_reg (fun K39 hK39 => ?_)
          refine stq hf rfl rfl rfl (ex_assign hf rfl) (fun a hf => ?_)
          refine hK39 _ _ ?_
          refine wp_ret ?_
          refine hR32 _ _ ?_
          have eR := some_eq H; subst eR
          replace hs := hs.keep (.d (.d (.d (.d .nil))))
          exact ret1 Try.results6 hf rfl ⟨_, rfl, ⟨rfl, hs⟩⟩
    | some c15 =>
      replace H := elim_s hps14 H
      refine region_k (fun K44 hK44 => ?_)
      refine stq hf rfl rfl rfl (ex_fieldAddrB fa_27_0 rfl hf rfl) (fun a hf => ?_)
      refine stq hf rfl rfl rfl (ex_load sc_22 hf rfl (bx_cell (hs.get (i := 0) rfl) _ rfl)) (fun a hf => ?_)
      refine stq hf rfl rfl rfl (ex_fieldAddrB fa_27_1 rfl hf rfl) (fun a hf => ?_)
      refine stq hf rfl rfl rfl (ex_load sc_23 hf rfl (bx_cell (hs.get (i := 0) rfl) _ rfl)) (fun a hf => ?_)
      refine stq hf rfl rfl rfl (ex_fieldAddrB fa_27_2 rfl hf rfl) (fun a hf => ?_)
      refine stq hf rfl rfl rfl (ex_load sc_2 hf rfl (bx_cell (hs.get (i := 0) rfl) _ rfl)) (fun a hf => ?_)
      refine stepF hf rfl rfl rfl (ex_call cf_13 hf rfl) (heat_New.calls k s7.1 s7.2.1 s7.2.2 v8 v9 (hs.enter (.k (.k (.k .nil)))) (Sr.own hs (.k (.k (.k .nil))) (i := 1) rfl osl_rsl (fun _ h => h.1) (Sr.own hs (.k (.k (.k .nil))) (i := 2) rfl osl_rsl (fun _ h => h.1) (Sr.nil _ _))) hs14) (fun v w hR a hf => ?_)
      obtain ⟨hc', _⟩ | ⟨cc, hc', b40, v41, v42, v43, rfl, hs'⟩ := hR
      case inl => rw [hps14] at hc'; cases hc'
      obtain rfl : c15 = cc := by rw [hps14] at hc'; exact Option.some.inj hc'
      replace hs := hs.step (.k (.k (.k .nil))) hs'
      clear hs'
      refine stq hf rfl rfl rfl (ex_move hf rfl) (fun a hf => ?_)
      refine stq hf rfl rfl rfl (ex_extract hf rfl rfl) (fun a hf => ?_)
      refine stq hf rfl rfl rfl (ex_extract hf rfl rfl) (fun a hf => ?_)
      refine stq hf rfl rfl rfl (ex_assign hf rfl) (fun a hf => ?_)
      refine stq hf rfl rfl rfl (ex_assign hf rfl) (fun a hf => ?_)
      refine hK44 _ _ ?_
      refine hN13 _ _ ?_
      refine seq_n (fun Q45 hN45 hR45 hX45 => ?_)
      refine bnd H (fun s46 hs46 H => ?_)
      cases hps46 : s46.1 with
      | none =>
        replace H := elim_n hps46 H
        refine region_k (fun K48 hK48 => ?_)
        refine stq hf rfl rfl rfl (ex_fieldAddrB fa_27_0 rfl hf rfl) (fun a hf => ?_)
        refine stq hf rfl rfl rfl (ex_load sc_22 hf rfl (bx_cell (hs.get (i := 4) rfl) _ rfl)) (fun a hf => ?_)
        refine stq hf rfl rfl rfl (ex_fieldAddrB fa_27_1 rfl hf rfl) (fun a hf => ?_)
        refine stq hf rfl rfl rfl (ex_load sc_23 hf rfl (bx_cell (hs.get (i := 4) rfl) _ rfl)) (fun a hf => ?_)
        refine stq hf rfl rfl rfl (ex_fieldAddrB fa_27_2 rfl hf rfl) (fun a hf => ?_)
        refine stq hf rfl rfl rfl (ex_load sc_2 hf rfl (bx_cell (hs.get (i := 4) rfl) _ rfl)) (fun a hf => ?_)
        refine stepF hf rfl rfl rfl (ex_call cf_20 hf rfl) (ref38_New.calls k s7.1 s7.2.1 s7.2.2 v8 v9 (hs.enter (.k (.k (.k (.k (.k (.k (.k .nil)))))))) (Sr.own hs (.k (.k (.k (.k (.k (.k (.k .nil))))))) (i := 5) rfl osl_rsl (fun _ h => h.1) (Sr.own hs (.k (.k (.k (.k (.k (.k (.k .nil))))))) (i := 6) rfl osl_rsl (fun _ h => h.1) (Sr.nil _ _))) hs46) (fun v w hR a hf => ?_)
        obtain ⟨_, rfl, hs'⟩ | ⟨_, hc', _⟩ := hR
        case inr => rw [hps46] at hc'; cases hc'
        replace hs := hs.step (.k (.k (.k (.k (.k (.k (.k .nil))))))) hs'
        clear hs'
        refine stq hf rfl rfl rfl (ex_move hf rfl) (fun a hf => ?_)
        refine stq hf rfl rfl rfl (ex_extract hf rfl rfl) (fun a hf => ?_)
        refine stq hf rfl rfl rfl (ex_extract hf rfl rfl) (fun a hf => ?_)
        refine stq hf rfl rfl rfl (ex_assign hf rfl) (fun a hf => ?_)
        refine stq hf rfl rfl rfl (ex_assign hf rfl) (fun a hf => ?_)
        refine hK48 _ _ ?_
        refine hN45 _ _ ?_
        refine seq_n (fun Q49 hN49 hR49 hX49 => ?_)
        refine bnd H (fun x50 H50 HO50 => ?_)
        clear H
        refine seq_cut (fun a w => Fr a 132 [(3, v3), (10, .int .i64 (s7.1.length : Int)), (11, .pointer (some ⟨b40, 0, none⟩)), (13, .pointer none), (62, .bool x50)] ∧ St M w0 w [bx b40 64 [v41, v42, .int .i64 c15.2.2.1, v43, .int .i64 c15.2.2.2.2], osl K_api_HeatDomain v41 c15.1, osl K_api_HeatLink v42 c15.2.1, osl K_int64 v43 c15.2.2.2.1]) (fun Q50 hJ50 hR50 hX50 => ?_) (fun a w hJ => ?_)
        · replace H := H50
          refine itt H (fun hc51 H => ?_) (fun hc51 H => ?_)
          · -- s14.2 = 0
            refine itt H (fun hc52 H => ?_) (fun hc52 H => ?_)
            · -- s46.2 = 0
              refine region_k (fun K53 hK53 => ?_)
              refine stq hf rfl rfl rfl (ex_move hf rfl) (fun a hf => ?_)
              refine stq hf rfl rfl rfl (ex_neq hf rfl rfl) (fun a hf => ?_)
              refine stq hf rfl rfl rfl (ex_move hf rfl) (fun a hf => ?_)
              replace hf := hf.castB (t := 54) rfl (ndec_f hc51)
              replace hf := hf.castB (t := 55) rfl (ndec_f hc51)
              refine stq hf rfl rfl rfl (ex_move hf rfl) (fun a hf => ?_)
              refine stq hf rfl rfl rfl (ex_neq hf rfl rfl) (fun a hf => ?_)
              refine stq hf rfl rfl rfl (ex_pickF hf rfl rfl) (fun a hf => ?_)
              refine stq hf rfl rfl rfl (ex_move hf rfl) (fun a hf => ?_)
              replace hf := hf.castB (t := 57) rfl (ndec_f hc52)
              replace hf := hf.castB (t := 58) rfl (ndec_f hc52)
              replace hf := hf.castB (t := 59) rfl (ndec_f hc52)
              refine stq hf rfl rfl rfl (ex_move hf rfl) (fun a hf => ?_)
              refine stq hf rfl rfl rfl (ex_eqp Try.underlying29 hf rfl rfl) (fun a hf => ?_)
              refine stq hf rfl rfl rfl (ex_pickF hf rfl rfl) (fun a hf => ?_)
              refine hK53 _ _ ?_
              replace hs := hs.keep (.k (.k (.k (.k (.d (.d (.d .nil)))))))
              have e50 := some_eq H; subst e50
              exact hJ50 _ _ ⟨hf.sub ⟨rfl, rfl, rfl, rfl, rfl, trivial⟩, hs⟩
            · -- not s46.2 = 0
              refine region_k (fun K54 hK54 => ?_)
              refine stq hf rfl rfl rfl (ex_move hf rfl) (fun a hf => ?_)
              refine stq hf rfl rfl rfl (ex_neq hf rfl rfl) (fun a hf => ?_)
              refine stq hf rfl rfl rfl (ex_move hf rfl) (fun a hf => ?_)
              replace hf := hf.castB (t := 54) rfl (ndec_f hc51)
              replace hf := hf.castB (t := 55) rfl (ndec_f hc51)
              refine stq hf rfl rfl rfl (ex_move hf rfl) (fun a hf => ?_)
              refine stq hf rfl rfl rfl (ex_neq hf rfl rfl) (fun a hf => ?_)
              refine stq hf rfl rfl rfl (ex_pickF hf rfl rfl) (fun a hf => ?_)
              refine stq hf rfl rfl rfl (ex_move hf rfl) (fun a hf => ?_)
              replace hf := hf.castB (t := 57) rfl (ndec_t hc52)
              replace hf := hf.castB (t := 58) rfl (ndec_t hc52)
              replace hf := hf.castB (t := 59) rfl (ndec_t hc52)
              refine stepN hf rfl rfl rfl (fun a hf => ?_)
              refine stepN hf rfl rfl rfl (fun a hf => ?_)
              refine stq hf rfl rfl rfl (ex_pickT hf rfl rfl) (fun a hf => ?_)
              refine hK54 _ _ ?_
              replace hs := hs.keep (.k (.k (.k (.k (.d (.d (.d .nil)))))))
              have e50 := some_eq H; subst e50
              exact hJ50 _ _ ⟨hf.sub ⟨rfl, rfl, rfl, rfl, rfl, trivial⟩, hs⟩
          · -- not s14.2 = 0
            refine region_k (fun K55 hK55 => ?_)
            refine stq hf rfl rfl rfl (ex_move hf rfl) (fun a hf => ?_)
            refine stq hf rfl rfl rfl (ex_neq hf rfl rfl) (fun a hf => ?_)
            refine stq hf rfl rfl rfl (ex_move hf rfl) (fun a hf => ?_)
            replace hf := hf.castB (t := 54) rfl (ndec_t hc51)
            replace hf := hf.castB (t := 55) rfl (ndec_t hc51)
            refine stepN hf rfl rfl rfl (fun a hf => ?_)
            refine stepN hf rfl rfl rfl (fun a hf => ?_)
            refine stq hf rfl rfl rfl (ex_pickT hf rfl rfl) (fun a hf => ?_)
            refine stq hf rfl rfl rfl (ex_move hf rfl) (fun a hf => ?_)
            refine stepN hf rfl rfl rfl (fun a hf => ?_)
            refine stepN hf rfl rfl rfl (fun a hf => ?_)
            refine stq hf rfl rfl rfl (ex_pickT hf rfl rfl) (fun a hf => ?_)
            refine hK55 _ _ ?_
            replace hs := hs.keep (.k (.k (.k (.k (.d (.d (.d .nil)))))))
            have e50 := some_eq H; subst e50
            exact hJ50 _ _ ⟨hf.sub ⟨rfl, rfl, rfl, rfl, rfl, trivial⟩, hs⟩
        · obtain ⟨hf, hs⟩ := hJ
          replace H := HO50
          clear HO50
          refine itt H (fun hc56 H => ?_) (fun hc56 H => ?_)
          · -- x50 = true
            replace hf := hf.castB (t := 62) rfl hc56
            refine cond_T hf rfl ?_
            refine seq_reg (fun K57 hK57 => ?_)
            refine stq hf rfl rfl rfl (ex_assign hf rfl) (fun a hf => ?_)
            refine hK57 _ _ ?_
            refine wp_ret ?_
            refine hR49 _ _ ?_
            have eR := some_eq H; subst eR
            replace hs := hs.keep (.d (.d (.d (.d .nil))))
            exact ret1 Try.results6 hf rfl ⟨_, rfl, ⟨rfl, hs⟩⟩
          · -- not x50 = true
            replace hf := hf.castB (t := 62) rfl (bool_f hc56)
            refine cond_F hf rfl ?_
            refine wp_skip ?_
            refine hN49 _ _ ?_
            refine bnd H (fun x58 H58 HO58 => ?_)
            clear H
            refine seq_cut (fun a w => Fr a 132 [] ∧ St M w0 w []) (fun Q58 hJ58 hR58 hX58 => ?_) (fun a w hJ => ?_)
            · replace H := H58
              refine seq_reg (fun K59 hK59 => ?_)
              refine stq hf rfl rfl rfl (ex_assign hf rfl) (fun a hf => ?_)
              refine hK59 _ _ ?_
              refine block_k (fun Q60 hN60 hR60 hX60 hY60 => ?_)
              refine loop_k (fun n a w => ∃ (_ : Unit), Fr a 132 [(3, v3), (10, .int .i64 (s7.1.length : Int)), (11, .pointer (some ⟨b40, 0, none⟩)), (13, .pointer none), (15, .int .i64 0)] ∧ St M w0 w [bx b40 64 [v41, v42, .int .i64 c15.2.2.1, v43, .int .i64 c15.2.2.2.2], osl K_api_HeatDomain v41 c15.1, osl K_api_HeatLink v42 c15.2.1, osl K_int64 v43 c15.2.2.2.1] ∧ law38_HeatStepsAgree.l1 n a3 s7 c15 = some x58) k ?_ (fun n62 a w hI Q62 hL62 hR62 hX62 => ?_)
              · -- at the start
                exact ⟨(), hf.sub ⟨rfl, rfl, rfl, rfl, rfl, trivial⟩, hs, H⟩
              · obtain ⟨_, hf, hs, H⟩ := hI
                cases n62 with
                | zero => exact absurd H (by rw [law38_HeatStepsAgree.l1.eq_1]; intro h; cases h)
                | succ k62 =>
                  replace H := (law38_HeatStepsAgree.l1.eq_2 ..).symm.trans H
                  refine seq_n (fun Q63 hN63 hR63 hX63 => ?_)
                  refine seq_reg (fun K64 hK64 => ?_)
                  refine stq hf rfl rfl rfl (ex_move hf rfl) (fun a hf => ?_)
                  refine stq hf rfl rfl rfl (ex_move hf rfl) (fun a hf => ?_)
                  refine stq hf rfl rfl rfl (ex_lenS Try.underlying24 (rsl2_isSl (hr.now hs (i := 2) rfl)) hf rfl) (fun a hf => ?_)
                  refine stq hf rfl rfl rfl (ex_lss hf rfl rfl) (fun a hf => ?_)
                  refine hK64 _ _ ?_
                  refine itt H (fun hc65 H => ?_) (fun hc65 H => ?_)
                  · -- 0 < (a3.length : Int)
                    replace hf := hf.castB (t := 66) rfl (dec_t hc65)
                    refine cond_T hf rfl ?_
                    refine wp_skip ?_
                    refine hN63 _ _ ?_
                    refine seq_n (fun Q66 hN66 hR66 hX66 => ?_)
                    refine block_k (fun Q67 hN67 hR67 hX67 hY67 => ?_)
                    refine ck_some H (fun hc68 H => ?_)
                    refine bnd H (fun s69 hs69 H => ?_)
                    refine seq_reg (fun K71 hK71 => ?_)
                    refine stq hf rfl rfl rfl (ex_move hf rfl) (fun a hf => ?_)
                    refine stq hf rfl rfl rfl (ex_move hf rfl) (fun a hf => ?_)
                    refine stq hf rfl rfl rfl (ex_indexAddr sa_24 (rsl2_isSl (hr.now hs (i := 2) rfl)) hc68.1 hc68.2 hf rfl rfl) (fun a hf => ?_)
                    refine stq hf rfl rfl rfl (ex_load sc_35 hf rfl (rsl2_cell (hr.now hs (i := 2) rfl) hc68.1 hc68.2)) (fun a hf => ?_)
                    refine stq hf rfl rfl rfl (ex_move hf rfl) (fun a hf => ?_)
                    refine stepF hf rfl rfl rfl (ex_call cf_14 hf rfl) (law38_Powers.calls k62 (gd [] a3 0) (s7.1.length : Int) 100 (vs3 (0 : Int).toNat) (hs.enter (.k (.k (.k (.k .nil))))) (Sr.old hr hs (.k (.k (.k (.k .nil)))) (i := 2) rfl (fun _ h => rsl2_rsl _ h hc68.1 hc68.2) (fun _ h => rsl2_fs hc68.1 hc68.2 h) (Sr.nil _ _)) hs69) (fun v w hR a hf => ?_)
                    obtain ⟨v70, rfl, hs'⟩ := hR
                    replace hs := hs.step (.k (.k (.k (.k .nil)))) hs'
                    clear hs'
                    refine stq hf rfl rfl rfl (ex_assign hf rfl) (fun a hf => ?_)
                    refine hK71 _ _ ?_
                    refine seq_n (fun Q72 hN72 hR72 hX72 => ?_)
                    refine seq_reg (fun K73 hK73 => ?_)
                    refine stq hf rfl rfl rfl (ex_move hf rfl) (fun a hf => ?_)
                    refine stq hf rfl rfl rfl (ex_rem hf rfl rfl (by decide)) (fun a hf => ?_)
                    refine stq hf rfl rfl rfl (ex_eql hf rfl rfl) (fun a hf => ?_)
                    refine hK73 _ _ ?_
                    refine itt H (fun hc74 H => ?_) (fun hc74 H => ?_)
                    · -- (Int.tmod 0 6) = 5
                      replace hf := hf.castB (t := 77) rfl (dec_t hc74)
                      refine cond_T hf rfl ?_
                      refine region_k (fun K75 hK75 => ?_)
                      refine stq hf rfl rfl rfl (ex_move hf rfl) (fun a hf => ?_)
                      refine stq hf rfl rfl rfl (ex_move hf rfl) (fun a hf => ?_)
                      refine stq hf rfl rfl rfl (ex_indexAddr sa_24 (rsl2_isSl (hr.now hs (i := 2) rfl)) hc68.1 hc68.2 hf rfl rfl) (fun a hf => ?_)
                      refine stq hf rfl rfl rfl (ex_load sc_35 hf rfl (rsl2_cell (hr.now hs (i := 2) rfl) hc68.1 hc68.2)) (fun a hf => ?_)
                      refine stq hf rfl rfl rfl (ex_assign hf rfl) (fun a hf => ?_)
                      refine hK75 _ _ ?_
                      refine hN72 _ _ ?_
                      refine bnd H (fun s76 hs76 H => ?_)
                      refine seq_reg (fun K79 hK79 => ?_)
                      refine stq hf rfl rfl rfl (ex_move hf rfl) (fun a hf => ?_)
                      refine stq hf rfl rfl rfl (ex_move hf rfl) (fun a hf => ?_)
                      refine stepF hf rfl rfl rfl (ex_call cf_15 hf rfl) (heat_Model_Step.calls k62 c15.1 c15.2.1 c15.2.2.1 c15.2.2.2.1 c15.2.2.2.2 (gd [] a3 0) b40 v41 v42 v43 (vs3 (0 : Int).toNat) (hs.enter (.k (.c (.k (.k (.c .nil)))))) (Sr.own hs (.k (.c (.k (.k (.c .nil))))) (i := 1) rfl osl_rsl (fun _ h => h.1) (Sr.own hs (.k (.c (.k (.k (.c .nil))))) (i := 2) rfl osl_rsl (fun _ h => h.1) (Sr.old hr hs (.k (.c (.k (.k (.c .nil))))) (i := 2) rfl (fun _ h => rsl2_rsl _ h hc68.1 hc68.2) (fun _ h => rsl2_fs hc68.1 hc68.2 h) (Sr.nil _ _)))) hs76) (fun v w hR a hf => ?_)
                      obtain ⟨v77, v78, rfl, hs'⟩ := hR
                      replace hs := hs.step (.k (.c (.k (.k (.c .nil))))) hs'
                      clear hs'
                      refine stq hf rfl rfl rfl (ex_move hf rfl) (fun a hf => ?_)
                      refine stq hf rfl rfl rfl (ex_extract hf rfl rfl) (fun a hf => ?_)
                      refine stq hf rfl rfl rfl (ex_extract hf rfl rfl) (fun a hf => ?_)
                      refine stq hf rfl rfl rfl (ex_assign hf rfl) (fun a hf => ?_)
                      refine stq hf rfl rfl rfl (ex_assign hf rfl) (fun a hf => ?_)
                      refine hK79 _ _ ?_
                      cases H
                    · -- not (Int.tmod 0 6) = 5
                      replace hf := hf.castB (t := 77) rfl (dec_f hc74)
                      refine cond_F hf rfl ?_
                      refine wp_skip ?_
                      refine hN72 _ _ ?_
                      refine bnd H (fun s80 hs80 H => ?_)
                      refine seq_reg (fun K83 hK83 => ?_)
                      refine stq hf rfl rfl rfl (ex_move hf rfl) (fun a hf => ?_)
                      refine stq hf rfl rfl rfl (ex_move hf rfl) (fun a hf => ?_)
                      refine stepF hf rfl rfl rfl (ex_call cf_15 hf rfl) (heat_Model_Step.calls k62 c15.1 c15.2.1 c15.2.2.1 c15.2.2.2.1 c15.2.2.2.2 s69 b40 v41 v42 v43 v70 (hs.enter (.k (.c (.k (.k (.c .nil)))))) (Sr.own hs (.k (.c (.k (.k (.c .nil))))) (i := 1) rfl osl_rsl (fun _ h => h.1) (Sr.own hs (.k (.c (.k (.k (.c .nil))))) (i := 2) rfl osl_rsl (fun _ h => h.1) (Sr.own hs (.k (.c (.k (.k (.c .nil))))) (i := 0) rfl osl_rsl (fun _ h => h.1) (Sr.nil _ _)))) hs80) (fun v w hR a hf => ?_)
                      obtain ⟨v81, v82, rfl, hs'⟩ := hR
                      replace hs := hs.step (.k (.c (.k (.k (.c .nil))))) hs'
                      clear hs'
                      refine stq hf rfl rfl rfl (ex_move hf rfl) (fun a hf => ?_)
                      refine stq hf rfl rfl rfl (ex_extract hf rfl rfl) (fun a hf => ?_)
                      refine stq hf rfl rfl rfl (ex_extract hf rfl rfl) (fun a hf => ?_)
                      refine stq hf rfl rfl rfl (ex_assign hf rfl) (fun a hf => ?_)
                      refine stq hf rfl rfl rfl (ex_assign hf rfl) (fun a hf => ?_)
                      refine hK83 _ _ ?_
                      cases H
                  · -- not 0 < (a3.length : Int)
                    replace hf := hf.castB (t := 66) rfl (dec_f hc65)
                    refine cond_F hf rfl ?_
                    refine wp_exit ?_
                    refine hX63 0 _ _ ?_
                    refine hX62 0 _ _ ?_
                    refine hX60 _ _ ?_
                    replace hs := hs.keep (.d (.d (.d (.d .nil))))
                    have e58 := some_eq H; subst e58
                    exact hJ58 _ _ ⟨hf.sub trivial, hs⟩
            · obtain ⟨hf, hs⟩ := hJ
              replace H := HO58
              clear HO58
              refine bnd H (fun s84 hs84 H => ?_)
              refine seq_reg (fun K85 hK85 => ?_)
              refine stepF hf rfl rfl rfl (ex_call cf_11 hf rfl) (law38_awake.calls k (hs.enter .nil) (Sr.nil _ _) hs84) (fun v w hR a hf => ?_)
              obtain ⟨rfl, hs'⟩ := hR
              replace hs := hs.step .nil hs'
              clear hs'
              refine stq hf rfl rfl rfl (ex_assign hf rfl) (fun a hf => ?_)
              refine hK85 _ _ ?_
              refine wp_ret ?_
              have eR := some_eq H; subst eR
              exact ret1 Try.results6 hf rfl ⟨_, rfl, ⟨rfl, hs⟩⟩
      | some c47 =>
        replace H := elim_s hps46 H
        refine region_k (fun K88 hK88 => ?_)
        refine stq hf rfl rfl rfl (ex_fieldAddrB fa_27_0 rfl hf rfl) (fun a hf => ?_)
        refine stq hf rfl rfl rfl (ex_load sc_22 hf rfl (bx_cell (hs.get (i := 4) rfl) _ rfl)) (fun a hf => ?_)
        refine stq hf rfl rfl rfl (ex_fieldAddrB fa_27_1 rfl hf rfl) (fun a hf => ?_)
        refine stq hf rfl rfl rfl (ex_load sc_23 hf rfl (bx_cell (hs.get (i := 4) rfl) _ rfl)) (fun a hf => ?_)
        refine stq hf rfl rfl rfl (ex_fieldAddrB fa_27_2 rfl hf rfl) (fun a hf => ?_)
        refine stq hf rfl rfl rfl (ex_load sc_2 hf rfl (bx_cell (hs.get (i := 4) rfl) _ rfl)) (fun a hf => ?_)
        refine stepF hf rfl rfl rfl (ex_call cf_20 hf rfl) (ref38_New.calls k s7.1 s7.2.1 s7.2.2 v8 v9 (hs.enter (.k (.k (.k (.k (.k (.k (.k .nil)))))))) (Sr.own hs (.k (.k (.k (.k (.k (.k (.k .nil))))))) (i := 5) rfl osl_rsl (fun _ h => h.1) (Sr.own hs (.k (.k (.k (.k (.k (.k (.k .nil))))))) (i := 6) rfl osl_rsl (fun _ h => h.1) (Sr.nil _ _))) hs46) (fun v w hR a hf => ?_)
        obtain ⟨hc', _⟩ | ⟨cc, hc', b86, v87, rfl, hs'⟩ := hR
        case inl => rw [hps46] at hc'; cases hc'
        obtain rfl : c47 = cc := by rw [hps46] at hc'; exact Option.some.inj hc'
        replace hs := hs.step (.k (.k (.k (.k (.k (.k (.k .nil))))))) hs'
        clear hs'
        refine stq hf rfl rfl rfl (ex_move hf rfl) (fun a hf => ?_)
        refine stq hf rfl rfl rfl (ex_extract hf rfl rfl) (fun a hf => ?_)
        refine stq hf rfl rfl rfl (ex_extract hf rfl rfl) (fun a hf => ?_)
        refine stq hf rfl rfl rfl (ex_assign hf rfl) (fun a hf => ?_)
        refine stq hf rfl rfl rfl (ex_assign hf rfl) (fun a hf => ?_)
        refine hK88 _ _ ?_
        refine hN45 _ _ ?_
        refine seq_n (fun Q89 hN89 hR89 hX89 => ?_)
        refine bnd H (fun x90 H90 HO90 => ?_)
        clear H
        refine seq_cut (fun a w => Fr a 132 [(3, v3), (10, .int .i64 (s7.1.length : Int)), (11, .pointer (some ⟨b40, 0, none⟩)), (13, .pointer (some ⟨b86, 0, none⟩)), (62, .bool x90)] ∧ St M w0 w [bx b40 64 [v41, v42, .int .i64 c15.2.2.1, v43, .int .i64 c15.2.2.2.2], osl K_api_HeatDomain v41 c15.1, osl K_api_HeatLink v42 c15.2.1, osl K_int64 v43 c15.2.2.2.1, bx b86 69 [v8, v9, .int .i64 c47.1, v87, .int .i64 c47.2.2], osl K_api_HeatDomain v8 s7.1, osl K_api_HeatLink v9 s7.2.1, osl K_int64 v87 c47.2.1]) (fun Q90 hJ90 hR90 hX90 => ?_) (fun a w hJ => ?_)
        · replace H := H90
          refine itt H (fun hc91 H => ?_) (fun hc91 H => ?_)
          · -- s14.2 = 0
            refine itt H (fun hc92 H => ?_) (fun hc92 H => ?_)
            · -- s46.2 = 0
              refine region_k (fun K93 hK93 => ?_)
              refine stq hf rfl rfl rfl (ex_move hf rfl) (fun a hf => ?_)
              refine stq hf rfl rfl rfl (ex_neq hf rfl rfl) (fun a hf => ?_)
              refine stq hf rfl rfl rfl (ex_move hf rfl) (fun a hf => ?_)
              replace hf := hf.castB (t := 54) rfl (ndec_f hc91)
              replace hf := hf.castB (t := 55) rfl (ndec_f hc91)
              refine stq hf rfl rfl rfl (ex_move hf rfl) (fun a hf => ?_)
              refine stq hf rfl rfl rfl (ex_neq hf rfl rfl) (fun a hf => ?_)
              refine stq hf rfl rfl rfl (ex_pickF hf rfl rfl) (fun a hf => ?_)
              refine stq hf rfl rfl rfl (ex_move hf rfl) (fun a hf => ?_)
              replace hf := hf.castB (t := 57) rfl (ndec_f hc92)
              replace hf := hf.castB (t := 58) rfl (ndec_f hc92)
              replace hf := hf.castB (t := 59) rfl (ndec_f hc92)
              refine stq hf rfl rfl rfl (ex_move hf rfl) (fun a hf => ?_)
              refine stq hf rfl rfl rfl (ex_eqp Try.underlying29 hf rfl rfl) (fun a hf => ?_)
              refine stq hf rfl rfl rfl (ex_pickF hf rfl rfl) (fun a hf => ?_)
              refine hK93 _ _ ?_
              replace hs := hs.keep (.k (.k (.k (.k (.k (.k (.d (.k (.k .nil)))))))))
              replace hs := hs.pick (.k (.c (.k (.k (.k (.k (.k (.k .nil))))))))
              replace hs := hs.pick (.k (.k (.k (.k (.k (.k (.k (.c .nil))))))))
              replace hs := hs.pick (.k (.k (.k (.k (.k (.k (.k (.c .nil))))))))
              replace hs := hs.pick (.k (.k (.k (.c (.k (.k (.k (.k .nil))))))))
              replace hs := hs.pick (.k (.k (.k (.k (.k (.k (.k (.c .nil))))))))
              replace hs := hs.pick (.k (.k (.k (.k (.k (.k (.k (.c .nil))))))))
              replace hs := hs.pick (.k (.k (.k (.k (.k (.k (.k (.c .nil))))))))
              replace hs := hs.pick (.k (.k (.k (.k (.k (.k (.k (.c .nil))))))))
              have e90 := some_eq H; subst e90
              exact hJ90 _ _ ⟨hf.sub ⟨rfl, rfl, rfl, rfl, rfl, trivial⟩, hs⟩
            · -- not s46.2 = 0
              refine region_k (fun K94 hK94 => ?_)
              refine stq hf rfl rfl rfl (ex_move hf rfl) (fun a hf => ?_)
              refine stq hf rfl rfl rfl (ex_neq hf rfl rfl) (fun a hf => ?_)
              refine stq hf rfl rfl rfl (ex_move hf rfl) (fun a hf => ?_)
              replace hf := hf.castB (t := 54) rfl (ndec_f hc91)
              replace hf := hf.castB (t := 55) rfl (ndec_f hc91)
              refine stq hf rfl rfl rfl (ex_move hf rfl) (fun a hf => ?_)
              refine stq hf rfl rfl rfl (ex_neq hf rfl rfl) (fun a hf => ?_)
              refine stq hf rfl rfl rfl (ex_pickF hf rfl rfl) (fun a hf => ?_)
              refine stq hf rfl rfl rfl (ex_move hf rfl) (fun a hf => ?_)
              replace hf := hf.castB (t := 57) rfl (ndec_t hc92)
              replace hf := hf.castB (t := 58) rfl (ndec_t hc92)
              replace hf := hf.castB (t := 59) rfl (ndec_t hc92)
              refine stepN hf rfl rfl rfl (fun a hf => ?_)
              refine stepN hf rfl rfl rfl (fun a hf => ?_)
              refine stq hf rfl rfl rfl (ex_pickT hf rfl rfl) (fun a hf => ?_)
              refine hK94 _ _ ?_
              replace hs := hs.keep (.k (.k (.k (.k (.k (.k (.d (.k (.k .nil)))))))))
              replace hs := hs.pick (.k (.c (.k (.k (.k (.k (.k (.k .nil))))))))
              replace hs := hs.pick (.k (.k (.k (.k (.k (.k (.k (.c .nil))))))))
              replace hs := hs.pick (.k (.k (.k (.k (.k (.k (.k (.c .nil))))))))
              replace hs := hs.pick (.k (.k (.k (.c (.k (.k (.k (.k .nil))))))))
              replace hs := hs.pick (.k (.k (.k (.k (.k (.k (.k (.c .nil))))))))
              replace hs := hs.pick (.k (.k (.k (.k (.k (.k (.k (.c .nil))))))))
              replace hs := hs.pick (.k (.k (.k (.k (.k (.k (.k (.c .nil))))))))
              replace hs := hs.pick (.k (.k (.k (.k (.k (.k (.k (.c .nil))))))))
              have e90 := some_eq H; subst e90
              exact hJ90 _ _ ⟨hf.sub ⟨rfl, rfl, rfl, rfl, rfl, trivial⟩, hs⟩
          · -- not s14.2 = 0
            refine region_k (fun K95 hK95 => ?_)
            refine stq hf rfl rfl rfl (ex_move hf rfl) (fun a hf => ?_)
            refine stq hf rfl rfl rfl (ex_neq hf rfl rfl) (fun a hf => ?_)
            refine stq hf rfl rfl rfl (ex_move hf rfl) (fun a hf => ?_)
            replace hf := hf.castB (t := 54) rfl (ndec_t hc91)
            replace hf := hf.castB (t := 55) rfl (ndec_t hc91)
            refine stepN hf rfl rfl rfl (fun a hf => ?_)
            refine stepN hf rfl rfl rfl (fun a hf => ?_)
            refine stq hf rfl rfl rfl (ex_pickT hf rfl rfl) (fun a hf => ?_)
            refine stq hf rfl rfl rfl (ex_move hf rfl) (fun a hf => ?_)
            refine stepN hf rfl rfl rfl (fun a hf => ?_)
            refine stepN hf rfl rfl rfl (fun a hf => ?_)
            refine stq hf rfl rfl rfl (ex_pickT hf rfl rfl) (fun a hf => ?_)
            refine hK95 _ _ ?_
            replace hs := hs.keep (.k (.k (.k (.k (.k (.k (.d (.k (.k .nil)))))))))
            replace hs := hs.pick (.k (.c (.k (.k (.k (.k (.k (.k .nil))))))))
            replace hs := hs.pick (.k (.k (.k (.k (.k (.k (.k (.c .nil))))))))
            replace hs := hs.pick (.k (.k (.k (.k (.k (.k (.k (.c .nil))))))))
            replace hs := hs.pick (.k (.k (.k (.c (.k (.k (.k (.k .nil))))))))
            replace hs := hs.pick (.k (.k (.k (.k (.k (.k (.k (.c .nil))))))))
            replace hs := hs.pick (.k (.k (.k (.k (.k (.k (.k (.c .nil))))))))
            replace hs := hs.pick (.k (.k (.k (.k (.k (.k (.k (.c .nil))))))))
            replace hs := hs.pick (.k (.k (.k (.k (.k (.k (.k (.c .nil))))))))
            have e90 := some_eq H; subst e90
            exact hJ90 _ _ ⟨hf.sub ⟨rfl, rfl, rfl, rfl, rfl, trivial⟩, hs⟩
        · obtain ⟨hf, hs⟩ := hJ
          replace H := HO90
          clear HO90
          refine itt H (fun hc96 H => ?_) (fun hc96 H => ?_)
          · -- x90 = true
            replace hf := hf.castB (t := 62) rfl hc96
            refine cond_T hf rfl ?_
            refine seq_reg (fun K97 hK97 => ?_)
            refine stq hf rfl rfl rfl (ex_assign hf rfl) (fun a hf => ?_)
            refine hK97 _ _ ?_
            refine wp_ret ?_
            refine hR89 _ _ ?_
            have eR := some_eq H; subst eR
            replace hs := hs.keep (.d (.d (.d (.d (.d (.d (.d (.d .nil))))))))
            exact ret1 Try.results6 hf rfl ⟨_, rfl, ⟨rfl, hs⟩⟩
          · -- not x90 = true
            replace hf := hf.castB (t := 62) rfl (bool_f hc96)
            refine cond_F hf rfl ?_
            refine wp_skip ?_
            refine hN89 _ _ ?_
            refine bnd H (fun x98 H98 HO98 => ?_)
            clear H
            refine seq_cut (fun a w => ∃ (x98s : Unit), x98 = .go x98s ∧ Fr a 132 [] ∧ St M w0 w []) (fun Q98 hJ98 hR98 hX98 => ?_) (fun a w hJ => ?_)
            · replace H := H98
              refine seq_reg (fun K99 hK99 => ?_)
              refine stq hf rfl rfl rfl (ex_assign hf rfl) (fun a hf => ?_)
              refine hK99 _ _ ?_
              refine block_k (fun Q100 hN100 hR100 hX100 hY100 => ?_)
              refine loop_k (fun n a w => ∃ (y103 : (List Int)) (y104 : Int) (y105 : (List Int)) (y106 : Int) (y107 : Int) (v101 : Value) (v102 : Value), Fr a 132 [(3, v3), (10, .int .i64 (s7.1.length : Int)), (11, .pointer (some ⟨b40, 0, none⟩)), (13, .pointer (some ⟨b86, 0, none⟩)), (15, .int .i64 y107)] ∧ St M w0 w [bx b40 64 [v41, v42, .int .i64 c15.2.2.1, v101, .int .i64 y104], osl K_api_HeatDomain v41 c15.1, osl K_api_HeatLink v42 c15.2.1, osl K_int64 v101 y103, bx b86 69 [v8, v9, .int .i64 c47.1, v102, .int .i64 y106], osl K_api_HeatDomain v8 s7.1, osl K_api_HeatLink v9 s7.2.1, osl K_int64 v102 y105] ∧ law38_HeatStepsAgree.l2 n a3 s7 c15 c47 y103 y104 y105 y106 y107 = some x98) k ?_ (fun n109 a w hI Q109 hL109 hR109 hX109 => ?_)
              · -- at the start
                exact ⟨c15.2.2.2.1, c15.2.2.2.2, c47.2.1, c47.2.2, 0, v43, v87, hf.sub ⟨rfl, rfl, rfl, rfl, rfl, trivial⟩, hs, H⟩
              · obtain ⟨y103, y104, y105, y106, y107, v101, v102, hf, hs, H⟩ := hI
                cases n109 with
                | zero => exact absurd H (by rw [law38_HeatStepsAgree.l2.eq_1]; intro h; cases h)
                | succ k109 =>
                  replace H := (law38_HeatStepsAgree.l2.eq_2 ..).symm.trans H
                  refine seq_n (fun Q110 hN110 hR110 hX110 => ?_)
                  refine seq_reg (fun K111 hK111 => ?_)
                  refine stq hf rfl rfl rfl (ex_move hf rfl) (fun a hf => ?_)
                  refine stq hf rfl rfl rfl (ex_move hf rfl) (fun a hf => ?_)
                  refine stq hf rfl rfl rfl (ex_lenS Try.underlying24 (rsl2_isSl (hr.now hs (i := 2) rfl)) hf rfl) (fun a hf => ?_)
                  refine stq hf rfl rfl rfl (ex_lss hf rfl rfl) (fun a hf => ?_)
                  refine hK111 _ _ ?_
                  refine itt H (fun hc112 H => ?_) (fun hc112 H => ?_)
                  · -- y107 < (a3.length : Int)
                    replace hf := hf.castB (t := 66) rfl (dec_t hc112)
                    refine cond_T hf rfl ?_
                    refine wp_skip ?_
                    refine hN110 _ _ ?_
                    refine bnd H (fun x113 H113 HO113 => ?_)
                    clear H
                    refine seq_cut (fun a w => ∃ (x113s : (List Int) × Int × (List Int) × Int) (v114 : Value) (v115 : Value), x113 = .go x113s ∧ Fr a 132 [(3, v3), (10, .int .i64 (s7.1.length : Int)), (11, .pointer (some ⟨b40, 0, none⟩)), (13, .pointer (some ⟨b86, 0, none⟩)), (15, .int .i64 y107)] ∧ St M w0 w [bx b40 64 [v41, v42, .int .i64 c15.2.2.1, v114, .int .i64 x113s.2.1], osl K_api_HeatDomain v41 c15.1, osl K_api_HeatLink v42 c15.2.1, osl K_int64 v114 x113s.1, bx b86 69 [v8, v9, .int .i64 c47.1, v115, .int .i64 x113s.2.2.2], osl K_api_HeatDomain v8 s7.1, osl K_api_HeatLink v9 s7.2.1, osl K_int64 v115 x113s.2.2.1]) (fun Q113 hJ113 hR113 hX113 => ?_) (fun a w hJ => ?_)
                    · replace H := H113
                      refine block_k (fun Q116 hN116 hR116 hX116 hY116 => ?_)
                      refine ck_some H (fun hc117 H => ?_)
                      refine bnd H (fun s118 hs118 H => ?_)
                      refine seq_reg (fun K120 hK120 => ?_)
                      refine stq hf rfl rfl rfl (ex_move hf rfl) (fun a hf => ?_)
                      refine stq hf rfl rfl rfl (ex_move hf rfl) (fun a hf => ?_)
                      refine stq hf rfl rfl rfl (ex_indexAddr sa_24 (rsl2_isSl (hr.now hs (i := 2) rfl)) hc117.1 hc117.2 hf rfl rfl) (fun a hf => ?_)
                      refine stq hf rfl rfl rfl (ex_load sc_35 hf rfl (rsl2_cell (hr.now hs (i := 2) rfl) hc117.1 hc117.2)) (fun a hf => ?_)
                      refine stq hf rfl rfl rfl (ex_move hf rfl) (fun a hf => ?_)
                      refine stepF hf rfl rfl rfl (ex_call cf_14 hf rfl) (law38_Powers.calls k109 (gd [] a3 y107) (s7.1.length : Int) 100 (vs3 y107.toNat) (hs.enter (.k (.k (.k (.k (.k (.k (.k (.k .nil))))))))) (Sr.old hr hs (.k (.k (.k (.k (.k (.k (.k (.k .nil)))))))) (i := 2) rfl (fun _ h => rsl2_rsl _ h hc117.1 hc117.2) (fun _ h => rsl2_fs hc117.1 hc117.2 h) (Sr.nil _ _)) hs118) (fun v w hR a hf => ?_)
                      obtain ⟨v119, rfl, hs'⟩ := hR
                      replace hs := hs.step (.k (.k (.k (.k (.k (.k (.k (.k .nil)))))))) hs'
                      clear hs'
                      refine stq hf rfl rfl rfl (ex_assign hf rfl) (fun a hf => ?_)
                      refine hK120 _ _ ?_
                      refine seq_n (fun Q121 hN121 hR121 hX121 => ?_)
                      refine seq_reg (fun K122 hK122 => ?_)
                      refine stq hf rfl rfl rfl (ex_move hf rfl) (fun a hf => ?_)
                      refine stq hf rfl rfl rfl (ex_rem hf rfl rfl (by decide)) (fun a hf => ?_)
                      refine stq hf rfl rfl rfl (ex_eql hf rfl rfl) (fun a hf => ?_)
                      refine hK122 _ _ ?_
                      refine itt H (fun hc123 H => ?_) (fun hc123 H => ?_)
                      · -- (Int.tmod y107 6) = 5
                        replace hf := hf.castB (t := 77) rfl (dec_t hc123)
                        refine cond_T hf rfl ?_
                        refine region_k (fun K124 hK124 => ?_)
                        refine stq hf rfl rfl rfl (ex_move hf rfl) (fun a hf => ?_)
                        refine stq hf rfl rfl rfl (ex_move hf rfl) (fun a hf => ?_)
                        refine stq hf rfl rfl rfl (ex_indexAddr sa_24 (rsl2_isSl (hr.now hs (i := 2) rfl)) hc117.1 hc117.2 hf rfl rfl) (fun a hf => ?_)
                        refine stq hf rfl rfl rfl (ex_load sc_35 hf rfl (rsl2_cell (hr.now hs (i := 2) rfl) hc117.1 hc117.2)) (fun a hf => ?_)
                        refine stq hf rfl rfl rfl (ex_assign hf rfl) (fun a hf => ?_)
                        refine hK124 _ _ ?_
                        refine hN121 _ _ ?_
                        refine bnd H (fun s125 hs125 H => ?_)
                        refine seq_reg (fun K128 hK128 => ?_)
                        refine stq hf rfl rfl rfl (ex_move hf rfl) (fun a hf => ?_)
                        refine stq hf rfl rfl rfl (ex_move hf rfl) (fun a hf => ?_)
                        refine stepF hf rfl rfl rfl (ex_call cf_15 hf rfl) (heat_Model_Step.calls k109 c15.1 c15.2.1 c15.2.2.1 y103 y104 (gd [] a3 y107) b40 v41 v42 v101 (vs3 y107.toNat) (hs.enter (.k (.c (.k (.k (.c (.k (.k (.k (.k .nil)))))))))) (Sr.own hs (.k (.c (.k (.k (.c (.k (.k (.k (.k .nil))))))))) (i := 1) rfl osl_rsl (fun _ h => h.1) (Sr.own hs (.k (.c (.k (.k (.c (.k (.k (.k (.k .nil))))))))) (i := 2) rfl osl_rsl (fun _ h => h.1) (Sr.old hr hs (.k (.c (.k (.k (.c (.k (.k (.k (.k .nil))))))))) (i := 2) rfl (fun _ h => rsl2_rsl _ h hc117.1 hc117.2) (fun _ h => rsl2_fs hc117.1 hc117.2 h) (Sr.nil _ _)))) hs125) (fun v w hR a hf => ?_)
                        obtain ⟨v126, v127, rfl, hs'⟩ := hR
                        replace hs := hs.step (.k (.c (.k (.k (.c (.k (.k (.k (.k .nil))))))))) hs'
                        clear hs'
                        refine stq hf rfl rfl rfl (ex_move hf rfl) (fun a hf => ?_)
                        refine stq hf rfl rfl rfl (ex_extract hf rfl rfl) (fun a hf => ?_)
                        refine stq hf rfl rfl rfl (ex_extract hf rfl rfl) (fun a hf => ?_)
                        refine stq hf rfl rfl rfl (ex_assign hf rfl) (fun a hf => ?_)
                        refine stq hf rfl rfl rfl (ex_assign hf rfl) (fun a hf => ?_)
                        refine hK128 _ _ ?_
                        refine bnd H (fun s129 hs129 H => ?_)
                        refine seq_reg (fun K132 hK132 => ?_)
                        refine stq hf rfl rfl rfl (ex_move hf rfl) (fun a hf => ?_)
                        refine stq hf rfl rfl rfl (ex_move hf rfl) (fun a hf => ?_)
                        refine stepF hf rfl rfl rfl (ex_call cf_21 hf rfl) (ref38_Model_Step.calls k109 s7.1 s7.2.1 c47.1 y105 y106 (gd [] a3 y107) b86 v8 v9 v102 (vs3 y107.toNat) (hs.enter (.k (.k (.k (.k (.k (.k (.c (.k (.k (.c .nil))))))))))) (Sr.own hs (.k (.k (.k (.k (.k (.k (.c (.k (.k (.c .nil)))))))))) (i := 6) rfl osl_rsl (fun _ h => h.1) (Sr.own hs (.k (.k (.k (.k (.k (.k (.c (.k (.k (.c .nil)))))))))) (i := 7) rfl osl_rsl (fun _ h => h.1) (Sr.old hr hs (.k (.k (.k (.k (.k (.k (.c (.k (.k (.c .nil)))))))))) (i := 2) rfl (fun _ h => rsl2_rsl _ h hc117.1 hc117.2) (fun _ h => rsl2_fs hc117.1 hc117.2 h) (Sr.nil _ _)))) hs129) (fun v w hR a hf => ?_)
                        obtain ⟨v130, v131, rfl, hs'⟩ := hR
                        replace hs := hs.step (.k (.k (.k (.k (.k (.k (.c (.k (.k (.c .nil)))))))))) hs'
                        clear hs'
                        refine stq hf rfl rfl rfl (ex_move hf rfl) (fun a hf => ?_)
                        refine stq hf rfl rfl rfl (ex_extract hf rfl rfl) (fun a hf => ?_)
                        refine stq hf rfl rfl rfl (ex_extract hf rfl rfl) (fun a hf => ?_)
                        refine stq hf rfl rfl rfl (ex_assign hf rfl) (fun a hf => ?_)
                        refine stq hf rfl rfl rfl (ex_assign hf rfl) (fun a hf => ?_)
                        refine hK132 _ _ ?_
                        refine seq_n (fun Q133 hN133 hR133 hX133 => ?_)
                        refine bnd H (fun x134 H134 HO134 => ?_)
                        clear H
                        refine seq_cut (fun a w => Fr a 132 [(3, v3), (10, .int .i64 (s7.1.length : Int)), (11, .pointer (some ⟨b40, 0, none⟩)), (13, .pointer (some ⟨b86, 0, none⟩)), (15, .int .i64 y107), (109, .bool x134)] ∧ St M w0 w [bx b40 64 [v41, v42, .int .i64 c15.2.2.1, v126, .int .i64 s125.1], osl K_api_HeatDomain v41 c15.1, osl K_api_HeatLink v42 c15.2.1, osl K_int64 v126 s125.2.1, bx b86 69 [v8, v9, .int .i64 c47.1, v130, .int .i64 s129.1], osl K_api_HeatDomain v8 s7.1, osl K_api_HeatLink v9 s7.2.1, osl K_int64 v130 s129.2.1]) (fun Q134 hJ134 hR134 hX134 => ?_) (fun a w hJ => ?_)
                        · replace H := H134
                          refine itt H (fun hc135 H => ?_) (fun hc135 H => ?_)
                          · -- s125.2.2.2 = s129.2.2.2
                            refine bnd H (fun s136 hs136 H => ?_)
                            refine itt H (fun hc137 H => ?_) (fun hc137 H => ?_)
                            · -- s136 = true
                              refine bnd H (fun s138 hs138 H => ?_)
                              refine bnd H (fun s139 hs139 H => ?_)
                              refine region_k (fun K140 hK140 => ?_)
                              refine stq hf rfl rfl rfl (ex_move hf rfl) (fun a hf => ?_)
                              refine stq hf rfl rfl rfl (ex_move hf rfl) (fun a hf => ?_)
                              refine stq hf rfl rfl rfl (ex_neq hf rfl rfl) (fun a hf => ?_)
                              refine stq hf rfl rfl rfl (ex_move hf rfl) (fun a hf => ?_)
                              replace hf := hf.castB (t := 96) rfl (ndec_f hc135)
                              replace hf := hf.castB (t := 97) rfl (ndec_f hc135)
                              refine stq hf rfl rfl rfl (ex_move hf rfl) (fun a hf => ?_)
                              refine stq hf rfl rfl rfl (ex_move hf rfl) (fun a hf => ?_)
                              refine stepF hf rfl rfl rfl (ex_call cf_19 hf rfl) (help_Equal_int64.calls k109 s125.2.2.1 s129.2.2.1 v127 v131 (hs.enter (.k (.k (.k (.k (.k (.k (.k (.k (.k (.k (.k .nil)))))))))))) (Sr.own hs (.k (.k (.k (.k (.k (.k (.k (.k (.k (.k (.k .nil))))))))))) (i := 5) rfl osl_rsl (fun _ h => h.1) (Sr.own hs (.k (.k (.k (.k (.k (.k (.k (.k (.k (.k (.k .nil))))))))))) (i := 2) rfl osl_rsl (fun _ h => h.1) (Sr.nil _ _))) hs136) (fun v w hR a hf => ?_)
                              obtain ⟨rfl, hs'⟩ := hR
                              replace hs := hs.step (.k (.k (.k (.k (.k (.k (.k (.k (.k (.k (.k .nil))))))))))) hs'
                              clear hs'
                              refine stq hf rfl rfl rfl (ex_not hf rfl) (fun a hf => ?_)
                              refine stq hf rfl rfl rfl (ex_pickF hf rfl rfl) (fun a hf => ?_)
                              refine stq hf rfl rfl rfl (ex_move hf rfl) (fun a hf => ?_)
                              replace hf := hf.castB (t := 100) rfl hc137
                              replace hf := hf.castB (t := 101) rfl (nbool_f hc137)
                              replace hf := hf.castB (t := 102) rfl (nbool_f hc137)
                              replace hf := hf.castB (t := 103) rfl (nbool_f hc137)
                              refine stq hf rfl rfl rfl (ex_move hf rfl) (fun a hf => ?_)
                              refine stepF hf rfl rfl rfl (ex_call cf_16 hf rfl) (heat_Model_Released.calls k109 c15.1 c15.2.1 c15.2.2.1 s125.2.1 s125.1 b40 v41 v42 v126 (hs.enter (.k (.k (.k (.k (.k (.k (.k (.k (.k (.k (.k .nil)))))))))))) (Sr.own hs (.k (.k (.k (.k (.k (.k (.k (.k (.k (.k (.k .nil))))))))))) (i := 3) rfl (fun _ h => h) (fun _ h => h) (Sr.own hs (.k (.k (.k (.k (.k (.k (.k (.k (.k (.k (.k .nil))))))))))) (i := 7) rfl osl_rsl (fun _ h => h.1) (Sr.own hs (.k (.k (.k (.k (.k (.k (.k (.k (.k (.k (.k .nil))))))))))) (i := 8) rfl osl_rsl (fun _ h => h.1) (Sr.own hs (.k (.k (.k (.k (.k (.k (.k (.k (.k (.k (.k .nil))))))))))) (i := 4) rfl osl_rsl (fun _ h => h.1) (Sr.nil _ _))))) hs138) (fun v w hR a hf => ?_)
                              obtain ⟨rfl, hs'⟩ := hR
                              replace hs := hs.step (.k (.k (.k (.k (.k (.k (.k (.k (.k (.k (.k .nil))))))))))) hs'
                              clear hs'
                              refine stq hf rfl rfl rfl (ex_move hf rfl) (fun a hf => ?_)
                              refine stepF hf rfl rfl rfl (ex_call cf_22 hf rfl) (ref38_Model_Released.calls k109 s7.1 s7.2.1 c47.1 s129.2.1 s129.1 b86 v8 v9 v130 (hs.enter (.k (.k (.k (.k (.k (.k (.k (.k (.k (.k (.k .nil)))))))))))) (Sr.own hs (.k (.k (.k (.k (.k (.k (.k (.k (.k (.k (.k .nil))))))))))) (i := 0) rfl (fun _ h => h) (fun _ h => h) (Sr.own hs (.k (.k (.k (.k (.k (.k (.k (.k (.k (.k (.k .nil))))))))))) (i := 9) rfl osl_rsl (fun _ h => h.1) (Sr.own hs (.k (.k (.k (.k (.k (.k (.k (.k (.k (.k (.k .nil))))))))))) (i := 10) rfl osl_rsl (fun _ h => h.1) (Sr.own hs (.k (.k (.k (.k (.k (.k (.k (.k (.k (.k (.k .nil))))))))))) (i := 1) rfl osl_rsl (fun _ h => h.1) (Sr.nil _ _))))) hs139) (fun v w hR a hf => ?_)
                              obtain ⟨rfl, hs'⟩ := hR
                              replace hs := hs.step (.k (.k (.k (.k (.k (.k (.k (.k (.k (.k (.k .nil))))))))))) hs'
                              clear hs'
                              refine stq hf rfl rfl rfl (ex_neq hf rfl rfl) (fun a hf => ?_)
                              refine stq hf rfl rfl rfl (ex_pickF hf rfl rfl) (fun a hf => ?_)
                              refine hK140 _ _ ?_
                              replace hs := hs.keep (.k (.k (.d (.k (.k (.d (.d (.k (.k (.k (.k .nil)))))))))))
                              replace hs := hs.pick (.k (.c (.k (.k (.k (.k (.k (.k .nil))))))))
                              replace hs := hs.pick (.k (.k (.k (.k (.k (.k (.k (.c .nil))))))))
                              replace hs := hs.pick (.k (.k (.k (.k (.k (.k (.k (.c .nil))))))))
                              replace hs := hs.pick (.k (.k (.k (.c (.k (.k (.k (.k .nil))))))))
                              replace hs := hs.pick (.k (.k (.k (.k (.k (.c (.k (.k .nil))))))))
                              replace hs := hs.pick (.k (.k (.k (.k (.k (.k (.k (.c .nil))))))))
                              replace hs := hs.pick (.k (.k (.k (.k (.k (.k (.k (.c .nil))))))))
                              replace hs := hs.pick (.k (.k (.k (.k (.k (.k (.k (.c .nil))))))))
                              have e134 := some_eq H; subst e134
                              exact hJ134 _ _ ⟨hf.sub ⟨rfl, rfl, rfl, rfl, rfl, rfl, trivial⟩, hs⟩
                            · -- not s136 = true
                              refine region_k (fun K141 hK141 => ?_)
                              refine stq hf rfl rfl rfl (ex_move hf rfl) (fun a hf => ?_)
                              refine stq hf rfl rfl rfl (ex_move hf rfl) (fun a hf => ?_)
                              refine stq hf rfl rfl rfl (ex_neq hf rfl rfl) (fun a hf => ?_)
                              refine stq hf rfl rfl rfl (ex_move hf rfl) (fun a hf => ?_)
                              replace hf := hf.castB (t := 96) rfl (ndec_f hc135)
                              replace hf := hf.castB (t := 97) rfl (ndec_f hc135)
                              refine stq hf rfl rfl rfl (ex_move hf rfl) (fun a hf => ?_)
                              refine stq hf rfl rfl rfl (ex_move hf rfl) (fun a hf => ?_)
                              refine stepF hf rfl rfl rfl (ex_call cf_19 hf rfl) (help_Equal_int64.calls k109 s125.2.2.1 s129.2.2.1 v127 v131 (hs.enter (.k (.k (.k (.k (.k (.k (.k (.k (.k (.k (.k .nil)))))))))))) (Sr.own hs (.k (.k (.k (.k (.k (.k (.k (.k (.k (.k (.k .nil))))))))))) (i := 5) rfl osl_rsl (fun _ h => h.1) (Sr.own hs (.k (.k (.k (.k (.k (.k (.k (.k (.k (.k (.k .nil))))))))))) (i := 2) rfl osl_rsl (fun _ h => h.1) (Sr.nil _ _))) hs136) (fun v w hR a hf => ?_)
                              obtain ⟨rfl, hs'⟩ := hR
                              replace hs := hs.step (.k (.k (.k (.k (.k (.k (.k (.k (.k (.k (.k .nil))))))))))) hs'
                              clear hs'
                              refine stq hf rfl rfl rfl (ex_not hf rfl) (fun a hf => ?_)
                              refine stq hf rfl rfl rfl (ex_pickF hf rfl rfl) (fun a hf => ?_)
                              refine stq hf rfl rfl rfl (ex_move hf rfl) (fun a hf => ?_)
                              replace hf := hf.castB (t := 100) rfl (bool_f hc137)
                              replace hf := hf.castB (t := 101) rfl (nbool_t hc137)
                              replace hf := hf.castB (t := 102) rfl (nbool_t hc137)
                              replace hf := hf.castB (t := 103) rfl (nbool_t hc137)
                              refine stepN hf rfl rfl rfl (fun a hf => ?_)
                              refine stepN hf rfl rfl rfl (fun a hf => ?_)
                              refine stepN hf rfl rfl rfl (fun a hf => ?_)
                              refine stepN hf rfl rfl rfl (fun a hf => ?_)
                              refine stepN hf rfl rfl rfl (fun a hf => ?_)
                              refine stq hf rfl rfl rfl (ex_pickT hf rfl rfl) (fun a hf => ?_)
                              refine hK141 _ _ ?_
                              replace hs := hs.keep (.k (.k (.d (.k (.k (.d (.d (.k (.k (.k (.k .nil)))))))))))
                              replace hs := hs.pick (.k (.c (.k (.k (.k (.k (.k (.k .nil))))))))
                              replace hs := hs.pick (.k (.k (.k (.k (.k (.k (.k (.c .nil))))))))
                              replace hs := hs.pick (.k (.k (.k (.k (.k (.k (.k (.c .nil))))))))
                              replace hs := hs.pick (.k (.k (.k (.c (.k (.k (.k (.k .nil))))))))
                              replace hs := hs.pick (.k (.k (.k (.k (.k (.c (.k (.k .nil))))))))
                              replace hs := hs.pick (.k (.k (.k (.k (.k (.k (.k (.c .nil))))))))
                              replace hs := hs.pick (.k (.k (.k (.k (.k (.k (.k (.c .nil))))))))
                              replace hs := hs.pick (.k (.k (.k (.k (.k (.k (.k (.c .nil))))))))
                              have e134 := some_eq H; subst e134
                              exact hJ134 _ _ ⟨hf.sub ⟨rfl, rfl, rfl, rfl, rfl, rfl, trivial⟩, hs⟩
                          · -- not s125.2.2.2 = s129.2.2.2
                            refine region_k (fun K142 hK142 => ?_)
                            refine stq hf rfl rfl rfl (ex_move hf rfl) (fun a hf => ?_)
                            refine stq hf rfl rfl rfl (ex_move hf rfl) (fun a hf => ?_)
                            refine stq hf rfl rfl rfl (ex_neq hf rfl rfl) (fun a hf => ?_)
                            refine stq hf rfl rfl rfl (ex_move hf rfl) (fun a hf => ?_)
                            replace hf := hf.castB (t := 96) rfl (ndec_t hc135)
                            replace hf := hf.castB (t := 97) rfl (ndec_t hc135)
                            refine stepN hf rfl rfl rfl (fun a hf => ?_)
                            refine stepN hf rfl rfl rfl (fun a hf => ?_)
                            refine stepN hf rfl rfl rfl (fun a hf => ?_)
                            refine stepN hf rfl rfl rfl (fun a hf => ?_)
                            refine stq hf rfl rfl rfl (ex_pickT hf rfl rfl) (fun a hf => ?_)
                            refine stq hf rfl rfl rfl (ex_move hf rfl) (fun a hf => ?_)
                            refine stepN hf rfl rfl rfl (fun a hf => ?_)
                            refine stepN hf rfl rfl rfl (fun a hf => ?_)
                            refine stepN hf rfl rfl rfl (fun a hf => ?_)
                            refine stepN hf rfl rfl rfl (fun a hf => ?_)
                            refine stepN hf rfl rfl rfl (fun a hf => ?_)
                            refine stq hf rfl rfl rfl (ex_pickT hf rfl rfl) (fun a hf => ?_)
                            refine hK142 _ _ ?_
                            replace hs := hs.keep (.k (.k (.d (.k (.k (.d (.d (.k (.k (.k (.k .nil)))))))))))
                            replace hs := hs.pick (.k (.c (.k (.k (.k (.k (.k (.k .nil))))))))
                            replace hs := hs.pick (.k (.k (.k (.k (.k (.k (.k (.c .nil))))))))
                            replace hs := hs.pick (.k (.k (.k (.k (.k (.k (.k (.c .nil))))))))
                            replace hs := hs.pick (.k (.k (.k (.c (.k (.k (.k (.k .nil))))))))
                            replace hs := hs.pick (.k (.k (.k (.k (.k (.c (.k (.k .nil))))))))
                            replace hs := hs.pick (.k (.k (.k (.k (.k (.k (.k (.c .nil))))))))
                            replace hs := hs.pick (.k (.k (.k (.k (.k (.k (.k (.c .nil))))))))
                            replace hs := hs.pick (.k (.k (.k (.k (.k (.k (.k (.c .nil))))))))
                            have e134 := some_eq H; subst e134
                            exact hJ134 _ _ ⟨hf.sub ⟨rfl, rfl, rfl, rfl, rfl, rfl, trivial⟩, hs⟩
                        · obtain ⟨hf, hs⟩ := hJ
                          replace H := HO134
                          clear HO134
                          refine itt H (fun hc143 H => ?_) (fun hc143 H => ?_)
                          · -- x134 = true
                            replace hf := hf.castB (t := 109) rfl hc143
                            refine cond_T hf rfl ?_
                            refine seq_reg (fun K144 hK144 => ?_)
                            refine stq hf rfl rfl rfl (ex_assign hf rfl) (fun a hf => ?_)
                            refine hK144 _ _ ?_
                            refine wp_ret ?_
                            refine hR133 _ _ ?_
                            refine hR116 _ _ ?_
                            have e113 := some_eq H; subst e113; replace H := el_rt HO113
                            refine hR113 _ _ ?_
                            refine hR109 _ _ ?_
                            refine hR100 _ _ ?_
                            have e98 := some_eq H; subst e98; replace H := el_rt HO98
                            refine hR98 _ _ ?_
                            have eR := some_eq H; subst eR
                            replace hs := hs.keep (.d (.d (.d (.d (.d (.d (.d (.d .nil))))))))
                            exact ret1 Try.results6 hf rfl ⟨_, rfl, ⟨rfl, hs⟩⟩
                          · -- not x134 = true
                            replace hf := hf.castB (t := 109) rfl (bool_f hc143)
                            refine cond_F hf rfl ?_
                            refine wp_skip ?_
                            refine hN133 _ _ ?_
                            refine seq_reg (fun K145 hK145 => ?_)
                            refine stq hf rfl rfl rfl (ex_assign hf rfl) (fun a hf => ?_)
                            refine hK145 _ _ ?_
                            refine block_k (fun Q146 hN146 hR146 hX146 hY146 => ?_)
                            refine loop_k (fun n a w => ∃ (y147 : Int), Fr a 132 [(3, v3), (10, .int .i64 (s7.1.length : Int)), (11, .pointer (some ⟨b40, 0, none⟩)), (13, .pointer (some ⟨b86, 0, none⟩)), (15, .int .i64 y107), (21, .int .i64 y147)] ∧ St M w0 w [bx b40 64 [v41, v42, .int .i64 c15.2.2.1, v126, .int .i64 s125.1], osl K_api_HeatDomain v41 c15.1, osl K_api_HeatLink v42 c15.2.1, osl K_int64 v126 s125.2.1, bx b86 69 [v8, v9, .int .i64 c47.1, v130, .int .i64 s129.1], osl K_api_HeatDomain v8 s7.1, osl K_api_HeatLink v9 s7.2.1, osl K_int64 v130 s129.2.1] ∧ law38_HeatStepsAgree.l3 n s7 c15 s125 c47 s129 y147 = some x113) k109 ?_ (fun n149 a w hI Q149 hL149 hR149 hX149 => ?_)
                            · -- at the start
                              exact ⟨(-1), hf.sub ⟨rfl, rfl, rfl, rfl, rfl, rfl, trivial⟩, hs, H⟩
                            · obtain ⟨y147, hf, hs, H⟩ := hI
                              cases n149 with
                              | zero => exact absurd H (by rw [law38_HeatStepsAgree.l3.eq_1]; intro h; cases h)
                              | succ k149 =>
                                replace H := (law38_HeatStepsAgree.l3.eq_2 ..).symm.trans H
                                refine seq_n (fun Q150 hN150 hR150 hX150 => ?_)
                                refine seq_reg (fun K151 hK151 => ?_)
                                refine stq hf rfl rfl rfl (ex_move hf rfl) (fun a hf => ?_)
                                refine stq hf rfl rfl rfl (ex_move hf rfl) (fun a hf => ?_)
                                refine stq hf rfl rfl rfl (ex_leq hf rfl rfl) (fun a hf => ?_)
                                refine hK151 _ _ ?_
                                refine itt H (fun hc152 H => ?_) (fun hc152 H => ?_)
                                · -- y147 ≤ (s7.1.length : Int)
                                  replace hf := hf.castB (t := 112) rfl (dec_t hc152)
                                  refine cond_T hf rfl ?_
                                  refine wp_skip ?_
                                  refine hN150 _ _ ?_
                                  refine seq_n (fun Q153 hN153 hR153 hX153 => ?_)
                                  refine block_k (fun Q154 hN154 hR154 hX154 hY154 => ?_)
                                  refine bnd H (fun x155 H155 HO155 => ?_)
                                  clear H
                                  refine seq_cut (fun a w => Fr a 132 [(3, v3), (10, .int .i64 (s7.1.length : Int)), (11, .pointer (some ⟨b40, 0, none⟩)), (13, .pointer (some ⟨b86, 0, none⟩)), (15, .int .i64 y107), (21, .int .i64 y147), (130, .bool x155)] ∧ St M w0 w [bx b40 64 [v41, v42, .int .i64 c15.2.2.1, v126, .int .i64 s125.1], osl K_api_HeatDomain v41 c15.1, osl K_api_HeatLink v42 c15.2.1, osl K_int64 v126 s125.2.1, bx b86 69 [v8, v9, .int .i64 c47.1, v130, .int .i64 s129.1], osl K_api_HeatDomain v8 s7.1, osl K_api_HeatLink v9 s7.2.1, osl K_int64 v130 s129.2.1]) (fun Q155 hJ155 hR155 hX155 => ?_) (fun a w hJ => ?_)
                                  · replace H := H155
                                    refine bnd H (fun s156 hs156 H => ?_)
                                    refine bnd H (fun s157 hs157 H => ?_)
                                    refine itt H (fun hc158 H => ?_) (fun hc158 H => ?_)
                                    · -- s156 = s157
                                      refine bnd H (fun s159 hs159 H => ?_)
                                      refine bnd H (fun s160 hs160 H => ?_)
                                      refine region_k (fun K161 hK161 => ?_)
                                      refine stq hf rfl rfl rfl (ex_move hf rfl) (fun a hf => ?_)
                                      refine stq hf rfl rfl rfl (ex_move hf rfl) (fun a hf => ?_)
                                      refine stepF hf rfl rfl rfl (ex_call cf_17 hf rfl) (heat_Model_Energy.calls k149 c15.1 c15.2.1 c15.2.2.1 s125.2.1 s125.1 y147 b40 v41 v42 v126 (hs.enter (.k (.k (.k (.k (.k (.k (.k (.k .nil))))))))) (Sr.own hs (.k (.k (.k (.k (.k (.k (.k (.k .nil)))))))) (i := 0) rfl (fun _ h => h) (fun _ h => h) (Sr.own hs (.k (.k (.k (.k (.k (.k (.k (.k .nil)))))))) (i := 1) rfl osl_rsl (fun _ h => h.1) (Sr.own hs (.k (.k (.k (.k (.k (.k (.k (.k .nil)))))))) (i := 2) rfl osl_rsl (fun _ h => h.1) (Sr.own hs (.k (.k (.k (.k (.k (.k (.k (.k .nil)))))))) (i := 3) rfl osl_rsl (fun _ h => h.1) (Sr.nil _ _))))) hs156) (fun v w hR a hf => ?_)
                                      obtain ⟨rfl, hs'⟩ := hR
                                      replace hs := hs.step (.k (.k (.k (.k (.k (.k (.k (.k .nil)))))))) hs'
                                      clear hs'
                                      refine stq hf rfl rfl rfl (ex_move hf rfl) (fun a hf => ?_)
                                      refine stq hf rfl rfl rfl (ex_move hf rfl) (fun a hf => ?_)
                                      refine stepF hf rfl rfl rfl (ex_call cf_23 hf rfl) (ref38_Model_Energy.calls k149 s7.1 s7.2.1 c47.1 s129.2.1 s129.1 y147 b86 v8 v9 v130 (hs.enter (.k (.k (.k (.k (.k (.k (.k (.k .nil))))))))) (Sr.own hs (.k (.k (.k (.k (.k (.k (.k (.k .nil)))))))) (i := 4) rfl (fun _ h => h) (fun _ h => h) (Sr.own hs (.k (.k (.k (.k (.k (.k (.k (.k .nil)))))))) (i := 5) rfl osl_rsl (fun _ h => h.1) (Sr.own hs (.k (.k (.k (.k (.k (.k (.k (.k .nil)))))))) (i := 6) rfl osl_rsl (fun _ h => h.1) (Sr.own hs (.k (.k (.k (.k (.k (.k (.k (.k .nil)))))))) (i := 7) rfl osl_rsl (fun _ h => h.1) (Sr.nil _ _))))) hs157) (fun v w hR a hf => ?_)
                                      obtain ⟨rfl, hs'⟩ := hR
                                      replace hs := hs.step (.k (.k (.k (.k (.k (.k (.k (.k .nil)))))))) hs'
                                      clear hs'
                                      refine stq hf rfl rfl rfl (ex_neq hf rfl rfl) (fun a hf => ?_)
                                      refine stq hf rfl rfl rfl (ex_move hf rfl) (fun a hf => ?_)
                                      replace hf := hf.castB (t := 121) rfl (ndec_f hc158)
                                      replace hf := hf.castB (t := 122) rfl (ndec_f hc158)
                                      refine stq hf rfl rfl rfl (ex_move hf rfl) (fun a hf => ?_)
                                      refine stq hf rfl rfl rfl (ex_move hf rfl) (fun a hf => ?_)
                                      refine stepF hf rfl rfl rfl (ex_call cf_24 hf rfl) (heat_Model_Temperature.calls k149 c15.1 c15.2.1 c15.2.2.1 s125.2.1 s125.1 y147 b40 v41 v42 v126 (hs.enter (.k (.k (.k (.k (.k (.k (.k (.k .nil))))))))) (Sr.own hs (.k (.k (.k (.k (.k (.k (.k (.k .nil)))))))) (i := 0) rfl (fun _ h => h) (fun _ h => h) (Sr.own hs (.k (.k (.k (.k (.k (.k (.k (.k .nil)))))))) (i := 1) rfl osl_rsl (fun _ h => h.1) (Sr.own hs (.k (.k (.k (.k (.k (.k (.k (.k .nil)))))))) (i := 2) rfl osl_rsl (fun _ h => h.1) (Sr.own hs (.k (.k (.k (.k (.k (.k (.k (.k .nil)))))))) (i := 3) rfl osl_rsl (fun _ h => h.1) (Sr.nil _ _))))) hs159) (fun v w hR a hf => ?_)
                                      obtain ⟨rfl, hs'⟩ := hR
                                      replace hs := hs.step (.k (.k (.k (.k (.k (.k (.k (.k .nil)))))))) hs'
                                      clear hs'
                                      refine stq hf rfl rfl rfl (ex_move hf rfl) (fun a hf => ?_)
                                      refine stq hf rfl rfl rfl (ex_move hf rfl) (fun a hf => ?_)
                                      refine stepF hf rfl rfl rfl (ex_call cf_25 hf rfl) (ref38_Model_Temperature.calls k149 s7.1 s7.2.1 c47.1 s129.2.1 s129.1 y147 b86 v8 v9 v130 (hs.enter (.k (.k (.k (.k (.k (.k (.k (.k .nil))))))))) (Sr.own hs (.k (.k (.k (.k (.k (.k (.k (.k .nil)))))))) (i := 4) rfl (fun _ h => h) (fun _ h => h) (Sr.own hs (.k (.k (.k (.k (.k (.k (.k (.k .nil)))))))) (i := 5) rfl osl_rsl (fun _ h => h.1) (Sr.own hs (.k (.k (.k (.k (.k (.k (.k (.k .nil)))))))) (i := 6) rfl osl_rsl (fun _ h => h.1) (Sr.own hs (.k (.k (.k (.k (.k (.k (.k (.k .nil)))))))) (i := 7) rfl osl_rsl (fun _ h => h.1) (Sr.nil _ _))))) hs160) (fun v w hR a hf => ?_)
                                      obtain ⟨rfl, hs'⟩ := hR
                                      replace hs := hs.step (.k (.k (.k (.k (.k (.k (.k (.k .nil)))))))) hs'
                                      clear hs'
                                      refine stq hf rfl rfl rfl (ex_neq hf rfl rfl) (fun a hf => ?_)
                                      refine stq hf rfl rfl rfl (ex_pickF hf rfl rfl) (fun a hf => ?_)
                                      refine hK161 _ _ ?_
                                      have e155 := some_eq H; subst e155
                                      exact hJ155 _ _ ⟨hf.sub ⟨rfl, rfl, rfl, rfl, rfl, rfl, rfl, trivial⟩, hs⟩
                                    · -- not s156 = s157
                                      refine region_k (fun K162 hK162 => ?_)
                                      refine stq hf rfl rfl rfl (ex_move hf rfl) (fun a hf => ?_)
                                      refine stq hf rfl rfl rfl (ex_move hf rfl) (fun a hf => ?_)
                                      refine stepF hf rfl rfl rfl (ex_call cf_17 hf rfl) (heat_Model_Energy.calls k149 c15.1 c15.2.1 c15.2.2.1 s125.2.1 s125.1 y147 b40 v41 v42 v126 (hs.enter (.k (.k (.k (.k (.k (.k (.k (.k .nil))))))))) (Sr.own hs (.k (.k (.k (.k (.k (.k (.k (.k .nil)))))))) (i := 0) rfl (fun _ h => h) (fun _ h => h) (Sr.own hs (.k (.k (.k (.k (.k (.k (.k (.k .nil)))))))) (i := 1) rfl osl_rsl (fun _ h => h.1) (Sr.own hs (.k (.k (.k (.k (.k (.k (.k (.k .nil)))))))) (i := 2) rfl osl_rsl (fun _ h => h.1) (Sr.own hs (.k (.k (.k (.k (.k (.k (.k (.k .nil)))))))) (i := 3) rfl osl_rsl (fun _ h => h.1) (Sr.nil _ _))))) hs156) (fun v w hR a hf => ?_)
                                      obtain ⟨rfl, hs'⟩ := hR
                                      replace hs := hs.step (.k (.k (.k (.k (.k (.k (.k (.k .nil)))))))) hs'
                                      clear hs'
                                      refine stq hf rfl rfl rfl (ex_move hf rfl) (fun a hf => ?_)
                                      refine stq hf rfl rfl rfl (ex_move hf rfl) (fun a hf => ?_)
                                      refine stepF hf rfl rfl rfl (ex_call cf_23 hf rfl) (ref38_Model_Energy.calls k149 s7.1 s7.2.1 c47.1 s129.2.1 s129.1 y147 b86 v8 v9 v130 (hs.enter (.k (.k (.k (.k (.k (.k (.k (.k .nil))))))))) (Sr.own hs (.k (.k (.k (.k (.k (.k (.k (.k .nil)))))))) (i := 4) rfl (fun _ h => h) (fun _ h => h) (Sr.own hs (.k (.k (.k (.k (.k (.k (.k (.k .nil)))))))) (i := 5) rfl osl_rsl (fun _ h => h.1) (Sr.own hs (.k (.k (.k (.k (.k (.k (.k (.k .nil)))))))) (i := 6) rfl osl_rsl (fun _ h => h.1) (Sr.own hs (.k (.k (.k (.k (.k (.k (.k (.k .nil)))))))) (i := 7) rfl osl_rsl (fun _ h => h.1) (Sr.nil _ _))))) hs157) (fun v w hR a hf => ?_)
                                      obtain ⟨rfl, hs'⟩ := hR
                                      replace hs := hs.step (.k (.k (.k (.k (.k (.k (.k (.k .nil)))))))) hs'
                                      clear hs'
                                      refine stq hf rfl rfl rfl (ex_neq hf rfl rfl) (fun a hf => ?_)
                                      refine stq hf rfl rfl rfl (ex_move hf rfl) (fun a hf => ?_)
                                      replace hf := hf.castB (t := 121) rfl (ndec_t hc158)
                                      replace hf := hf.castB (t := 122) rfl (ndec_t hc158)
                                      refine stepN hf rfl rfl rfl (fun a hf => ?_)
                                      refine stepN hf rfl rfl rfl (fun a hf => ?_)
                                      refine stepN hf rfl rfl rfl (fun a hf => ?_)
                                      refine stepN hf rfl rfl rfl (fun a hf => ?_)
                                      refine stepN hf rfl rfl rfl (fun a hf => ?_)
                                      refine stepN hf rfl rfl rfl (fun a hf => ?_)
                                      refine stepN hf rfl rfl rfl (fun a hf => ?_)
                                      refine stq hf rfl rfl rfl (ex_pickT hf rfl rfl) (fun a hf => ?_)
                                      refine hK162 _ _ ?_
                                      have e155 := some_eq H; subst e155
                                      exact hJ155 _ _ ⟨hf.sub ⟨rfl, rfl, rfl, rfl, rfl, rfl, rfl, trivial⟩, hs⟩
                                  · obtain ⟨hf, hs⟩ := hJ
                                    replace H := HO155
                                    clear HO155
                                    refine itt H (fun hc163 H => ?_) (fun hc163 H => ?_)
                                    · -- x155 = true
                                      replace hf := hf.castB (t := 130) rfl hc163
                                      refine cond_T hf rfl ?_
                                      refine seq_reg (fun K164 hK164 => ?_)
                                      refine stq hf rfl rfl rfl (ex_assign hf rfl) (fun a hf => ?_)
                                      refine hK164 _ _ ?_
                                      refine wp_ret ?_
                                      refine hR154 _ _ ?_
                                      refine hR153 _ _ ?_
                                      refine hR149 _ _ ?_
                                      refine hR146 _ _ ?_
                                      refine hR116 _ _ ?_
                                      have e113 := some_eq H; subst e113; replace H := el_rt HO113
                                      refine hR113 _ _ ?_
                                      refine hR109 _ _ ?_
                                      refine hR100 _ _ ?_
                                      have e98 := some_eq H; subst e98; replace H := el_rt HO98
                                      refine hR98 _ _ ?_
                                      have eR := some_eq H; subst eR
                                      replace hs := hs.keep (.d (.d (.d (.d (.d (.d (.d (.d .nil))))))))
                                      exact ret1 Try.results6 hf rfl ⟨_, rfl, ⟨rfl, hs⟩⟩
                                    · -- not x155 = true
                                      replace hf := hf.castB (t := 130) rfl (bool_f hc163)
                                      refine cond_F hf rfl ?_
                                      refine wp_skip ?_
                                      refine hN154 _ _ ?_
                                      refine hN153 _ _ ?_
                                      refine region_k (fun K165 hK165 => ?_)
                                      refine stq hf rfl rfl rfl (ex_move hf rfl) (fun a hf => ?_)
                                      refine stq hf rfl rfl rfl (ex_add hf rfl rfl) (fun a hf => ?_)
                                      refine stq hf rfl rfl rfl (ex_assign hf rfl) (fun a hf => ?_)
                                      refine hK165 _ _ ?_
                                      exact hL149 k149 _ _ (Nat.lt_succ_self _) ⟨(IntKind.i64.wrap (y147 + 1)), hf.sub ⟨rfl, rfl, rfl, rfl, rfl, rfl, trivial⟩, hs, H⟩
                                · -- not y147 ≤ (s7.1.length : Int)
                                  replace hf := hf.castB (t := 112) rfl (dec_f hc152)
                                  refine cond_F hf rfl ?_
                                  refine wp_exit ?_
                                  refine hX150 2 _ _ ?_
                                  refine hX149 2 _ _ ?_
                                  refine hX146 _ _ ?_
                                  refine hN116 _ _ ?_
                                  have e113 := some_eq H; subst e113
                                  exact hJ113 _ _ ⟨_, v126, v130, rfl, hf.sub ⟨rfl, rfl, rfl, rfl, rfl, trivial⟩, hs⟩
                      · -- not (Int.tmod y107 6) = 5
                        replace hf := hf.castB (t := 77) rfl (dec_f hc123)
                        refine cond_F hf rfl ?_
                        refine wp_skip ?_
                        refine hN121 _ _ ?_
                        refine bnd H (fun s166 hs166 H => ?_)
                        refine seq_reg (fun K169 hK169 => ?_)
                        refine stq hf rfl rfl rfl (ex_move hf rfl) (fun a hf => ?_)
                        refine stq hf rfl rfl rfl (ex_move hf rfl) (fun a hf => ?_)
                        refine stepF hf rfl rfl rfl (ex_call cf_15 hf rfl) (heat_Model_Step.calls k109 c15.1 c15.2.1 c15.2.2.1 y103 y104 s118 b40 v41 v42 v101 v119 (hs.enter (.k (.c (.k (.k (.c (.k (.k (.k (.k .nil)))))))))) (Sr.own hs (.k (.c (.k (.k (.c (.k (.k (.k (.k .nil))))))))) (i := 1) rfl osl_rsl (fun _ h => h.1) (Sr.own hs (.k (.c (.k (.k (.c (.k (.k (.k (.k .nil))))))))) (i := 2) rfl osl_rsl (fun _ h => h.1) (Sr.own hs (.k (.c (.k (.k (.c (.k (.k (.k (.k .nil))))))))) (i := 0) rfl osl_rsl (fun _ h => h.1) (Sr.nil _ _)))) hs166) (fun v w hR a hf => ?_)
                        obtain ⟨v167, v168, rfl, hs'⟩ := hR
                        replace hs := hs.step (.k (.c (.k (.k (.c (.k (.k (.k (.k .nil))))))))) hs'
                        clear hs'
                        refine stq hf rfl rfl rfl (ex_move hf rfl) (fun a hf => ?_)
                        refine stq hf rfl rfl rfl (ex_extract hf rfl rfl) (fun a hf => ?_)
                        refine stq hf rfl rfl rfl (ex_extract hf rfl rfl) (fun a hf => ?_)
                        refine stq hf rfl rfl rfl (ex_assign hf rfl) (fun a hf => ?_)
                        refine stq hf rfl rfl rfl (ex_assign hf rfl) (fun a hf => ?_)
                        refine hK169 _ _ ?_
                        refine bnd H (fun s170 hs170 H => ?_)
                        refine seq_reg (fun K173 hK173 => ?_)
                        refine stq hf rfl rfl rfl (ex_move hf rfl) (fun a hf => ?_)
                        refine stq hf rfl rfl rfl (ex_move hf rfl) (fun a hf => ?_)
                        refine stepF hf rfl rfl rfl (ex_call cf_21 hf rfl) (ref38_Model_Step.calls k109 s7.1 s7.2.1 c47.1 y105 y106 s118 b86 v8 v9 v102 v119 (hs.enter (.k (.k (.k (.k (.k (.k (.c (.k (.k (.c .nil))))))))))) (Sr.own hs (.k (.k (.k (.k (.k (.k (.c (.k (.k (.c .nil)))))))))) (i := 6) rfl osl_rsl (fun _ h => h.1) (Sr.own hs (.k (.k (.k (.k (.k (.k (.c (.k (.k (.c .nil)))))))))) (i := 7) rfl osl_rsl (fun _ h => h.1) (Sr.own hs (.k (.k (.k (.k (.k (.k (.c (.k (.k (.c .nil)))))))))) (i := 3) rfl osl_rsl (fun _ h => h.1) (Sr.nil _ _)))) hs170) (fun v w hR a hf => ?_)
                        obtain ⟨v171, v172, rfl, hs'⟩ := hR
                        replace hs := hs.step (.k (.k (.k (.k (.k (.k (.c (.k (.k (.c .nil)))))))))) hs'
                        clear hs'
                        refine stq hf rfl rfl rfl (ex_move hf rfl) (fun a hf => ?_)
                        refine stq hf rfl rfl rfl (ex_extract hf rfl rfl) (fun a hf => ?_)
                        refine stq hf rfl rfl rfl (ex_extract hf rfl rfl) (fun a hf => ?_)
                        refine stq hf rfl rfl rfl (ex_assign hf rfl) (fun a hf => ?_)
                        refine stq hf rfl rfl rfl (ex_assign hf rfl) (fun a hf => ?_)
                        refine hK173 _ _ ?_
                        refine seq_n (fun Q174 hN174 hR174 hX174 => ?_)
                        refine bnd H (fun x175 H175 HO175 => ?_)
                        clear H
                        refine seq_cut (fun a w => Fr a 132 [(3, v3), (10, .int .i64 (s7.1.length : Int)), (11, .pointer (some ⟨b40, 0, none⟩)), (13, .pointer (some ⟨b86, 0, none⟩)), (15, .int .i64 y107), (109, .bool x175)] ∧ St M w0 w [bx b40 64 [v41, v42, .int .i64 c15.2.2.1, v167, .int .i64 s166.1], osl K_api_HeatDomain v41 c15.1, osl K_api_HeatLink v42 c15.2.1, osl K_int64 v167 s166.2.1, bx b86 69 [v8, v9, .int .i64 c47.1, v171, .int .i64 s170.1], osl K_api_HeatDomain v8 s7.1, osl K_api_HeatLink v9 s7.2.1, osl K_int64 v171 s170.2.1]) (fun Q175 hJ175 hR175 hX175 => ?_) (fun a w hJ => ?_)
                        · replace H := H175
                          refine itt H (fun hc176 H => ?_) (fun hc176 H => ?_)
                          · -- s166.2.2.2 = s170.2.2.2
                            refine bnd H (fun s177 hs177 H => ?_)
                            refine itt H (fun hc178 H => ?_) (fun hc178 H => ?_)
                            · -- s177 = true
                              refine bnd H (fun s179 hs179 H => ?_)
                              refine bnd H (fun s180 hs180 H => ?_)
                              refine region_k (fun K181 hK181 => ?_)
                              refine stq hf rfl rfl rfl (ex_move hf rfl) (fun a hf => ?_)
                              refine stq hf rfl rfl rfl (ex_move hf rfl) (fun a hf => ?_)
                              refine stq hf rfl rfl rfl (ex_neq hf rfl rfl) (fun a hf => ?_)
                              refine stq hf rfl rfl rfl (ex_move hf rfl) (fun a hf => ?_)
                              replace hf := hf.castB (t := 96) rfl (ndec_f hc176)
                              replace hf := hf.castB (t := 97) rfl (ndec_f hc176)
                              refine stq hf rfl rfl rfl (ex_move hf rfl) (fun a hf => ?_)
                              refine stq hf rfl rfl rfl (ex_move hf rfl) (fun a hf => ?_)
                              refine stepF hf rfl rfl rfl (ex_call cf_19 hf rfl) (help_Equal_int64.calls k109 s166.2.2.1 s170.2.2.1 v168 v172 (hs.enter (.k (.k (.k (.k (.k (.k (.k (.k (.k (.k (.k .nil)))))))))))) (Sr.own hs (.k (.k (.k (.k (.k (.k (.k (.k (.k (.k (.k .nil))))))))))) (i := 5) rfl osl_rsl (fun _ h => h.1) (Sr.own hs (.k (.k (.k (.k (.k (.k (.k (.k (.k (.k (.k .nil))))))))))) (i := 2) rfl osl_rsl (fun _ h => h.1) (Sr.nil _ _))) hs177) (fun v w hR a hf => ?_)
                              obtain ⟨rfl, hs'⟩ := hR
                              replace hs := hs.step (.k (.k (.k (.k (.k (.k (.k (.k (.k (.k (.k .nil))))))))))) hs'
                              clear hs'
                              refine stq hf rfl rfl rfl (ex_not hf rfl) (fun a hf => ?_)
                              refine stq hf rfl rfl rfl (ex_pickF hf rfl rfl) (fun a hf => ?_)
                              refine stq hf rfl rfl rfl (ex_move hf rfl) (fun a hf => ?_)
                              replace hf := hf.castB (t := 100) rfl hc178
                              replace hf := hf.castB (t := 101) rfl (nbool_f hc178)
                              replace hf := hf.castB (t := 102) rfl (nbool_f hc178)
                              replace hf := hf.castB (t := 103) rfl (nbool_f hc178)
                              refine stq hf rfl rfl rfl (ex_move hf rfl) (fun a hf => ?_)
                              refine stepF hf rfl rfl rfl (ex_call cf_16 hf rfl) (heat_Model_Released.calls k109 c15.1 c15.2.1 c15.2.2.1 s166.2.1 s166.1 b40 v41 v42 v167 (hs.enter (.k (.k (.k (.k (.k (.k (.k (.k (.k (.k (.k .nil)))))))))))) (Sr.own hs (.k (.k (.k (.k (.k (.k (.k (.k (.k (.k (.k .nil))))))))))) (i := 3) rfl (fun _ h => h) (fun _ h => h) (Sr.own hs (.k (.k (.k (.k (.k (.k (.k (.k (.k (.k (.k .nil))))))))))) (i := 7) rfl osl_rsl (fun _ h => h.1) (Sr.own hs (.k (.k (.k (.k (.k (.k (.k (.k (.k (.k (.k .nil))))))))))) (i := 8) rfl osl_rsl (fun _ h => h.1) (Sr.own hs (.k (.k (.k (.k (.k (.k (.k (.k (.k (.k (.k .nil))))))))))) (i := 4) rfl osl_rsl (fun _ h => h.1) (Sr.nil _ _))))) hs179) (fun v w hR a hf => ?_)
                              obtain ⟨rfl, hs'⟩ := hR
                              replace hs := hs.step (.k (.k (.k (.k (.k (.k (.k (.k (.k (.k (.k .nil))))))))))) hs'
                              clear hs'
                              refine stq hf rfl rfl rfl (ex_move hf rfl) (fun a hf => ?_)
                              refine stepF hf rfl rfl rfl (ex_call cf_22 hf rfl) (ref38_Model_Released.calls k109 s7.1 s7.2.1 c47.1 s170.2.1 s170.1 b86 v8 v9 v171 (hs.enter (.k (.k (.k (.k (.k (.k (.k (.k (.k (.k (.k .nil)))))))))))) (Sr.own hs (.k (.k (.k (.k (.k (.k (.k (.k (.k (.k (.k .nil))))))))))) (i := 0) rfl (fun _ h => h) (fun _ h => h) (Sr.own hs (.k (.k (.k (.k (.k (.k (.k (.k (.k (.k (.k .nil))))))))))) (i := 9) rfl osl_rsl (fun _ h => h.1) (Sr.own hs (.k (.k (.k (.k (.k (.k (.k (.k (.k (.k (.k .nil))))))))))) (i := 10) rfl osl_rsl (fun _ h => h.1) (Sr.own hs (.k (.k (.k (.k (.k (.k (.k (.k (.k (.k (.k .nil))))))))))) (i := 1) rfl osl_rsl (fun _ h => h.1) (Sr.nil _ _))))) hs180) (fun v w hR a hf => ?_)
                              obtain ⟨rfl, hs'⟩ := hR
                              replace hs := hs.step (.k (.k (.k (.k (.k (.k (.k (.k (.k (.k (.k .nil))))))))))) hs'
                              clear hs'
                              refine stq hf rfl rfl rfl (ex_neq hf rfl rfl) (fun a hf => ?_)
                              refine stq hf rfl rfl rfl (ex_pickF hf rfl rfl) (fun a hf => ?_)
                              refine hK181 _ _ ?_
                              replace hs := hs.keep (.k (.k (.d (.k (.k (.d (.d (.k (.k (.k (.k .nil)))))))))))
                              replace hs := hs.pick (.k (.c (.k (.k (.k (.k (.k (.k .nil))))))))
                              replace hs := hs.pick (.k (.k (.k (.k (.k (.k (.k (.c .nil))))))))
                              replace hs := hs.pick (.k (.k (.k (.k (.k (.k (.k (.c .nil))))))))
                              replace hs := hs.pick (.k (.k (.k (.c (.k (.k (.k (.k .nil))))))))
                              replace hs := hs.pick (.k (.k (.k (.k (.k (.c (.k (.k .nil))))))))
                              replace hs := hs.pick (.k (.k (.k (.k (.k (.k (.k (.c .nil))))))))
                              replace hs := hs.pick (.k (.k (.k (.k (.k (.k (.k (.c .nil))))))))
                              replace hs := hs.pick (.k (.k (.k (.k (.k (.k (.k (.c .nil))))))))
                              have e175 := some_eq H; subst e175
                              exact hJ175 _ _ ⟨hf.sub ⟨rfl, rfl, rfl, rfl, rfl, rfl, trivial⟩, hs⟩
                            · -- not s177 = true
                              refine region_k (fun K182 hK182 => ?_)
                              refine stq hf rfl rfl rfl (ex_move hf rfl) (fun a hf => ?_)
                              refine stq hf rfl rfl rfl (ex_move hf rfl) (fun a hf => ?_)
                              refine stq hf rfl rfl rfl (ex_neq hf rfl rfl) (fun a hf => ?_)
                              refine stq hf rfl rfl rfl (ex_move hf rfl) (fun a hf => ?_)
                              replace hf := hf.castB (t := 96) rfl (ndec_f hc176)
                              replace hf := hf.castB (t := 97) rfl (ndec_f hc176)
                              refine stq hf rfl rfl rfl (ex_move hf rfl) (fun a hf => ?_)
                              refine stq hf rfl rfl rfl (ex_move hf rfl) (fun a hf => ?_)
                              refine stepF hf rfl rfl rfl (ex_call cf_19 hf rfl) (help_Equal_int64.calls k109 s166.2.2.1 s170.2.2.1 v168 v172 (hs.enter (.k (.k (.k (.k (.k (.k (.k (.k (.k (.k (.k .nil)))))))))))) (Sr.own hs (.k (.k (.k (.k (.k (.k (.k (.k (.k (.k (.k .nil))))))))))) (i := 5) rfl osl_rsl (fun _ h => h.1) (Sr.own hs (.k (.k (.k (.k (.k (.k (.k (.k (.k (.k (.k .nil))))))))))) (i := 2) rfl osl_rsl (fun _ h => h.1) (Sr.nil _ _))) hs177) (fun v w hR a hf => ?_)
                              obtain ⟨rfl, hs'⟩ := hR
                              replace hs := hs.step (.k (.k (.k (.k (.k (.k (.k (.k (.k (.k (.k .nil))))))))))) hs'
                              clear hs'
                              refine stq hf rfl rfl rfl (ex_not hf rfl) (fun a hf => ?_)
                              refine stq hf rfl rfl rfl (ex_pickF hf rfl rfl) (fun a hf => ?_)
                              refine stq hf rfl rfl rfl (ex_move hf rfl) (fun a hf => ?_)
                              replace hf := hf.castB (t := 100) rfl (bool_f hc178)
                              replace hf := hf.castB (t := 101) rfl (nbool_t hc178)
                              replace hf := hf.castB (t := 102) rfl (nbool_t hc178)
                              replace hf := hf.castB (t := 103) rfl (nbool_t hc178)
                              refine stepN hf rfl rfl rfl (fun a hf => ?_)
                              refine stepN hf rfl rfl rfl (fun a hf => ?_)
                              refine stepN hf rfl rfl rfl (fun a hf => ?_)
                              refine stepN hf rfl rfl rfl (fun a hf => ?_)
                              refine stepN hf rfl rfl rfl (fun a hf => ?_)
                              refine stq hf rfl rfl rfl (ex_pickT hf rfl rfl) (fun a hf => ?_)
                              refine hK182 _ _ ?_
                              replace hs := hs.keep (.k (.k (.d (.k (.k (.d (.d (.k (.k (.k (.k .nil)))))))))))
                              replace hs := hs.pick (.k (.c (.k (.k (.k (.k (.k (.k .nil))))))))
                              replace hs := hs.pick (.k (.k (.k (.k (.k (.k (.k (.c .nil))))))))
                              replace hs := hs.pick (.k (.k (.k (.k (.k (.k (.k (.c .nil))))))))
                              replace hs := hs.pick (.k (.k (.k (.c (.k (.k (.k (.k .nil))))))))
                              replace hs := hs.pick (.k (.k (.k (.k (.k (.c (.k (.k .nil))))))))
                              replace hs := hs.pick (.k (.k (.k (.k (.k (.k (.k (.c .nil))))))))
                              replace hs := hs.pick (.k (.k (.k (.k (.k (.k (.k (.c .nil))))))))
                              replace hs := hs.pick (.k (.k (.k (.k (.k (.k (.k (.c .nil))))))))
                              have e175 := some_eq H; subst e175
                              exact hJ175 _ _ ⟨hf.sub ⟨rfl, rfl, rfl, rfl, rfl, rfl, trivial⟩, hs⟩
                          · -- not s166.2.2.2 = s170.2.2.2
                            refine region_k (fun K183 hK183 => ?_)
                            refine stq hf rfl rfl rfl (ex_move hf rfl) (fun a hf => ?_)
                            refine stq hf rfl rfl rfl (ex_move hf rfl) (fun a hf => ?_)
                            refine stq hf rfl rfl rfl (ex_neq hf rfl rfl) (fun a hf => ?_)
                            refine stq hf rfl rfl rfl (ex_move hf rfl) (fun a hf => ?_)
                            replace hf := hf.castB (t := 96) rfl (ndec_t hc176)
                            replace hf := hf.castB (t := 97) rfl (ndec_t hc176)
                            refine stepN hf rfl rfl rfl (fun a hf => ?_)
                            refine stepN hf rfl rfl rfl (fun a hf => ?_)
                            refine stepN hf rfl rfl rfl (fun a hf => ?_)
                            refine stepN hf rfl rfl rfl (fun a hf => ?_)
                            refine stq hf rfl rfl rfl (ex_pickT hf rfl rfl) (fun a hf => ?_)
                            refine stq hf rfl rfl rfl (ex_move hf rfl) (fun a hf => ?_)
                            refine stepN hf rfl rfl rfl (fun a hf => ?_)
                            refine stepN hf rfl rfl rfl (fun a hf => ?_)
                            refine stepN hf rfl rfl rfl (fun a hf => ?_)
                            refine stepN hf rfl rfl rfl (fun a hf => ?_)
                            refine stepN hf rfl rfl rfl (fun a hf => ?_)
                            refine stq hf rfl rfl rfl (ex_pickT hf rfl rfl) (fun a hf => ?_)
                            refine hK183 _ _ ?_
                            replace hs := hs.keep (.k (.k (.d (.k (.k (.d (.d (.k (.k (.k (.k .nil)))))))))))
                            replace hs := hs.pick (.k (.c (.k (.k (.k (.k (.k (.k .nil))))))))
                            replace hs := hs.pick (.k (.k (.k (.k (.k (.k (.k (.c .nil))))))))
                            replace hs := hs.pick (.k (.k (.k (.k (.k (.k (.k (.c .nil))))))))
                            replace hs := hs.pick (.k (.k (.k (.c (.k (.k (.k (.k .nil))))))))
                            replace hs := hs.pick (.k (.k (.k (.k (.k (.c (.k (.k .nil))))))))
                            replace hs := hs.pick (.k (.k (.k (.k (.k (.k (.k (.c .nil))))))))
                            replace hs := hs.pick (.k (.k (.k (.k (.k (.k (.k (.c .nil))))))))
                            replace hs := hs.pick (.k (.k (.k (.k (.k (.k (.k (.c .nil))))))))
                            have e175 := some_eq H; subst e175
                            exact hJ175 _ _ ⟨hf.sub ⟨rfl, rfl, rfl, rfl, rfl, rfl, trivial⟩, hs⟩
                        · obtain ⟨hf, hs⟩ := hJ
                          replace H := HO175
                          clear HO175
                          refine itt H (fun hc184 H => ?_) (fun hc184 H => ?_)
                          · -- x175 = true
                            replace hf := hf.castB (t := 109) rfl hc184
                            refine cond_T hf rfl ?_
                            refine seq_reg (fun K185 hK185 => ?_)
                            refine stq hf rfl rfl rfl (ex_assign hf rfl) (fun a hf => ?_)
                            refine hK185 _ _ ?_
                            refine wp_ret ?_
                            refine hR174 _ _ ?_
                            refine hR116 _ _ ?_
                            have e113 := some_eq H; subst e113; replace H := el_rt HO113
                            refine hR113 _ _ ?_
                            refine hR109 _ _ ?_
                            refine hR100 _ _ ?_
                            have e98 := some_eq H; subst e98; replace H := el_rt HO98
                            refine hR98 _ _ ?_
                            have eR := some_eq H; subst eR
                            replace hs := hs.keep (.d (.d (.d (.d (.d (.d (.d (.d .nil))))))))
                            exact ret1 Try.results6 hf rfl ⟨_, rfl, ⟨rfl, hs⟩⟩
                          · -- not x175 = true
                            replace hf := hf.castB (t := 109) rfl (bool_f hc184)
                            refine cond_F hf rfl ?_
                            refine wp_skip ?_
                            refine hN174 _ _ ?_
                            refine seq_reg (fun K186 hK186 => ?_)
                            refine stq hf rfl rfl rfl (ex_assign hf rfl) (fun a hf => ?_)
                            refine hK186 _ _ ?_
                            refine block_k (fun Q187 hN187 hR187 hX187 hY187 => ?_)
                            refine loop_k (fun n a w => ∃ (y188 : Int), Fr a 132 [(3, v3), (10, .int .i64 (s7.1.length : Int)), (11, .pointer (some ⟨b40, 0, none⟩)), (13, .pointer (some ⟨b86, 0, none⟩)), (15, .int .i64 y107), (21, .int .i64 y188)] ∧ St M w0 w [bx b40 64 [v41, v42, .int .i64 c15.2.2.1, v167, .int .i64 s166.1], osl K_api_HeatDomain v41 c15.1, osl K_api_HeatLink v42 c15.2.1, osl K_int64 v167 s166.2.1, bx b86 69 [v8, v9, .int .i64 c47.1, v171, .int .i64 s170.1], osl K_api_HeatDomain v8 s7.1, osl K_api_HeatLink v9 s7.2.1, osl K_int64 v171 s170.2.1] ∧ law38_HeatStepsAgree.l4 n s7 c15 s166 c47 s170 y188 = some x113) k109 ?_ (fun n190 a w hI Q190 hL190 hR190 hX190 => ?_)
                            · -- at the start
                              exact ⟨(-1), hf.sub ⟨rfl, rfl, rfl, rfl, rfl, rfl, trivial⟩, hs, H⟩
                            · obtain ⟨y188, hf, hs, H⟩ := hI
                              cases n190 with
                              | zero => exact absurd H (by rw [law38_HeatStepsAgree.l4.eq_1]; intro h; cases h)
                              | succ k190 =>
                                replace H := (law38_HeatStepsAgree.l4.eq_2 ..).symm.trans H
                                refine seq_n (fun Q191 hN191 hR191 hX191 => ?_)
                                refine seq_reg (fun K192 hK192 => ?_)
                                refine stq hf rfl rfl rfl (ex_move hf rfl) (fun a hf => ?_)
                                refine stq hf rfl rfl rfl (ex_move hf rfl) (fun a hf => ?_)
                                refine stq hf rfl rfl rfl (ex_leq hf rfl rfl) (fun a hf => ?_)
                                refine hK192 _ _ ?_
                                refine itt H (fun hc193 H => ?_) (fun hc193 H => ?_)
                                · -- y188 ≤ (s7.1.length : Int)
                                  replace hf := hf.castB (t := 112) rfl (dec_t hc193)
                                  refine cond_T hf rfl ?_
                                  refine wp_skip ?_
                                  refine hN191 _ _ ?_
                                  refine seq_n (fun Q194 hN194 hR194 hX194 => ?_)
                                  refine block_k (fun Q195 hN195 hR195 hX195 hY195 => ?_)
                                  refine bnd H (fun x196 H196 HO196 => ?_)
                                  clear H
                                  refine seq_cut (fun a w => Fr a 132 [(3, v3), (10, .int .i64 (s7.1.length : Int)), (11, .pointer (some ⟨b40, 0, none⟩)), (13, .pointer (some ⟨b86, 0, none⟩)), (15, .int .i64 y107), (21, .int .i64 y188), (130, .bool x196)] ∧ St M w0 w [bx b40 64 [v41, v42, .int .i64 c15.2.2.1, v167, .int .i64 s166.1], osl K_api_HeatDomain v41 c15.1, osl K_api_HeatLink v42 c15.2.1, osl K_int64 v167 s166.2.1, bx b86 69 [v8, v9, .int .i64 c47.1, v171, .int .i64 s170.1], osl K_api_HeatDomain v8 s7.1, osl K_api_HeatLink v9 s7.2.1, osl K_int64 v171 s170.2.1]) (fun Q196 hJ196 hR196 hX196 => ?_) (fun a w hJ => ?_)
                                  · replace H := H196
                                    refine bnd H (fun s197 hs197 H => ?_)
                                    refine bnd H (fun s198 hs198 H => ?_)
                                    refine itt H (fun hc199 H => ?_) (fun hc199 H => ?_)
                                    · -- s197 = s198
                                      refine bnd H (fun s200 hs200 H => ?_)
                                      refine bnd H (fun s201 hs201 H => ?_)
                                      refine region_k (fun K202 hK202 => ?_)
                                      refine stq hf rfl rfl rfl (ex_move hf rfl) (fun a hf => ?_)
                                      refine stq hf rfl rfl rfl (ex_move hf rfl) (fun a hf => ?_)
                                      refine stepF hf rfl rfl rfl (ex_call cf_17 hf rfl) (heat_Model_Energy.calls k190 c15.1 c15.2.1 c15.2.2.1 s166.2.1 s166.1 y188 b40 v41 v42 v167 (hs.enter (.k (.k (.k (.k (.k (.k (.k (.k .nil))))))))) (Sr.own hs (.k (.k (.k (.k (.k (.k (.k (.k .nil)))))))) (i := 0) rfl (fun _ h => h) (fun _ h => h) (Sr.own hs (.k (.k (.k (.k (.k (.k (.k (.k .nil)))))))) (i := 1) rfl osl_rsl (fun _ h => h.1) (Sr.own hs (.k (.k (.k (.k (.k (.k (.k (.k .nil)))))))) (i := 2) rfl osl_rsl (fun _ h => h.1) (Sr.own hs (.k (.k (.k (.k (.k (.k (.k (.k .nil)))))))) (i := 3) rfl osl_rsl (fun _ h => h.1) (Sr.nil _ _))))) hs197) (fun v w hR a hf => ?_)
                                      obtain ⟨rfl, hs'⟩ := hR
                                      replace hs := hs.step (.k (.k (.k (.k (.k (.k (.k (.k .nil)))))))) hs'
                                      clear hs'
                                      refine stq hf rfl rfl rfl (ex_move hf rfl) (fun a hf => ?_)
                                      refine stq hf rfl rfl rfl (ex_move hf rfl) (fun a hf => ?_)
                                      refine stepF hf rfl rfl rfl (ex_call cf_23 hf rfl) (ref38_Model_Energy.calls k190 s7.1 s7.2.1 c47.1 s170.2.1 s170.1 y188 b86 v8 v9 v171 (hs.enter (.k (.k (.k (.k (.k (.k (.k (.k .nil))))))))) (Sr.own hs (.k (.k (.k (.k (.k (.k (.k (.k .nil)))))))) (i := 4) rfl (fun _ h => h) (fun _ h => h) (Sr.own hs (.k (.k (.k (.k (.k (.k (.k (.k .nil)))))))) (i := 5) rfl osl_rsl (fun _ h => h.1) (Sr.own hs (.k (.k (.k (.k (.k (.k (.k (.k .nil)))))))) (i := 6) rfl osl_rsl (fun _ h => h.1) (Sr.own hs (.k (.k (.k (.k (.k (.k (.k (.k .nil)))))))) (i := 7) rfl osl_rsl (fun _ h => h.1) (Sr.nil _ _))))) hs198) (fun v w hR a hf => ?_)
                                      obtain ⟨rfl, hs'⟩ := hR
                                      replace hs := hs.step (.k (.k (.k (.k (.k (.k (.k (.k .nil)))))))) hs'
                                      clear hs'
                                      refine stq hf rfl rfl rfl (ex_neq hf rfl rfl) (fun a hf => ?_)
                                      refine stq hf rfl rfl rfl (ex_move hf rfl) (fun a hf => ?_)
                                      replace hf := hf.castB (t := 121) rfl (ndec_f hc199)
                                      replace hf := hf.castB (t := 122) rfl (ndec_f hc199)
                                      refine stq hf rfl rfl rfl (ex_move hf rfl) (fun a hf => ?_)
                                      refine stq hf rfl rfl rfl (ex_move hf rfl) (fun a hf => ?_)
                                      refine stepF hf rfl rfl rfl (ex_call cf_24 hf rfl) (heat_Model_Temperature.calls k190 c15.1 c15.2.1 c15.2.2.1 s166.2.1 s166.1 y188 b40 v41 v42 v167 (hs.enter (.k (.k (.k (.k (.k (.k (.k (.k .nil))))))))) (Sr.own hs (.k (.k (.k (.k (.k (.k (.k (.k .nil)))))))) (i := 0) rfl (fun _ h => h) (fun _ h => h) (Sr.own hs (.k (.k (.k (.k (.k (.k (.k (.k .nil)))))))) (i := 1) rfl osl_rsl (fun _ h => h.1) (Sr.own hs (.k (.k (.k (.k (.k (.k (.k (.k .nil)))))))) (i := 2) rfl osl_rsl (fun _ h => h.1) (Sr.own hs (.k (.k (.k (.k (.k (.k (.k (.k .nil)))))))) (i := 3) rfl osl_rsl (fun _ h => h.1) (Sr.nil _ _))))) hs200) (fun v w hR a hf => ?_)
                                      obtain ⟨rfl, hs'⟩ := hR
                                      replace hs := hs.step (.k (.k (.k (.k (.k (.k (.k (.k .nil)))))))) hs'
                                      clear hs'
                                      refine stq hf rfl rfl rfl (ex_move hf rfl) (fun a hf => ?_)
                                      refine stq hf rfl rfl rfl (ex_move hf rfl) (fun a hf => ?_)
                                      refine stepF hf rfl rfl rfl (ex_call cf_25 hf rfl) (ref38_Model_Temperature.calls k190 s7.1 s7.2.1 c47.1 s170.2.1 s170.1 y188 b86 v8 v9 v171 (hs.enter (.k (.k (.k (.k (.k (.k (.k (.k .nil))))))))) (Sr.own hs (.k (.k (.k (.k (.k (.k (.k (.k .nil)))))))) (i := 4) rfl (fun _ h => h) (fun _ h => h) (Sr.own hs (.k (.k (.k (.k (.k (.k (.k (.k .nil)))))))) (i := 5) rfl osl_rsl (fun _ h => h.1) (Sr.own hs (.k (.k (.k (.k (.k (.k (.k (.k .nil)))))))) (i := 6) rfl osl_rsl (fun _ h => h.1) (Sr.own hs (.k (.k (.k (.k (.k (.k (.k (.k .nil)))))))) (i := 7) rfl osl_rsl (fun _ h => h.1) (Sr.nil _ _))))) hs201) (fun v w hR a hf => ?_)
                                      obtain ⟨rfl, hs'⟩ := hR
                                      replace hs := hs.step (.k (.k (.k (.k (.k (.k (.k (.k .nil)))))))) hs'
                                      clear hs'
                                      refine stq hf rfl rfl rfl (ex_neq hf rfl rfl) (fun a hf => ?_)
                                      refine stq hf rfl rfl rfl (ex_pickF hf rfl rfl) (fun a hf => ?_)
                                      refine hK202 _ _ ?_
                                      have e196 := some_eq H; subst e196
                                      exact hJ196 _ _ ⟨hf.sub ⟨rfl, rfl, rfl, rfl, rfl, rfl, rfl, trivial⟩, hs⟩
                                    · -- not s197 = s198
                                      refine region_k (fun K203 hK203 => ?_)
                                      refine stq hf rfl rfl rfl (ex_move hf rfl) (fun a hf => ?_)
                                      refine stq hf rfl rfl rfl (ex_move hf rfl) (fun a hf => ?_)
                                      refine stepF hf rfl rfl rfl (ex_call cf_17 hf rfl) (heat_Model_Energy.calls k190 c15.1 c15.2.1 c15.2.2.1 s166.2.1 s166.1 y188 b40 v41 v42 v167 (hs.enter (.k (.k (.k (.k (.k (.k (.k (.k .nil))))))))) (Sr.own hs (.k (.k (.k (.k (.k (.k (.k (.k .nil)))))))) (i := 0) rfl (fun _ h => h) (fun _ h => h) (Sr.own hs (.k (.k (.k (.k (.k (.k (.k (.k .nil)))))))) (i := 1) rfl osl_rsl (fun _ h => h.1) (Sr.own hs (.k (.k (.k (.k (.k (.k (.k (.k .nil)))))))) (i := 2) rfl osl_rsl (fun _ h => h.1) (Sr.own hs (.k (.k (.k (.k (.k (.k (.k (.k .nil)))))))) (i := 3) rfl osl_rsl (fun _ h => h.1) (Sr.nil _ _))))) hs197) (fun v w hR a hf => ?_)
                                      obtain ⟨rfl, hs'⟩ := hR
                                      replace hs := hs.step (.k (.k (.k (.k (.k (.k (.k (.k .nil)))))))) hs'
                                      clear hs'
                                      refine stq hf rfl rfl rfl (ex_move hf rfl) (fun a hf => ?_)
                                      refine stq hf rfl rfl rfl (ex_move hf rfl) (fun a hf => ?_)
                                      refine stepF hf rfl rfl rfl (ex_call cf_23 hf rfl) (ref38_Model_Energy.calls k190 s7.1 s7.2.1 c47.1 s170.2.1 s170.1 y188 b86 v8 v9 v171 (hs.enter (.k (.k (.k (.k (.k (.k (.k (.k .nil))))))))) (Sr.own hs (.k (.k (.k (.k (.k (.k (.k (.k .nil)))))))) (i := 4) rfl (fun _ h => h) (fun _ h => h) (Sr.own hs (.k (.k (.k (.k (.k (.k (.k (.k .nil)))))))) (i := 5) rfl osl_rsl (fun _ h => h.1) (Sr.own hs (.k (.k (.k (.k (.k (.k (.k (.k .nil)))))))) (i := 6) rfl osl_rsl (fun _ h => h.1) (Sr.own hs (.k (.k (.k (.k (.k (.k (.k (.k .nil)))))))) (i := 7) rfl osl_rsl (fun _ h => h.1) (Sr.nil _ _))))) hs198) (fun v w hR a hf => ?_)
                                      obtain ⟨rfl, hs'⟩ := hR
                                      replace hs := hs.step (.k (.k (.k (.k (.k (.k (.k (.k .nil)))))))) hs'
                                      clear hs'
                                      refine stq hf rfl rfl rfl (ex_neq hf rfl rfl) (fun a hf => ?_)
                                      refine stq hf rfl rfl rfl (ex_move hf rfl) (fun a hf => ?_)
                                      replace hf := hf.castB (t := 121) rfl (ndec_t hc199)
                                      replace hf := hf.castB (t := 122) rfl (ndec_t hc199)
                                      refine stepN hf rfl rfl rfl (fun a hf => ?_)
                                      refine stepN hf rfl rfl rfl (fun a hf => ?_)
                                      refine stepN hf rfl rfl rfl (fun a hf => ?_)
                                      refine stepN hf rfl rfl rfl (fun a hf => ?_)
                                      refine stepN hf rfl rfl rfl (fun a hf => ?_)
                                      refine stepN hf rfl rfl rfl (fun a hf => ?_)
                                      refine stepN hf rfl rfl rfl (fun a hf => ?_)
                                      refine stq hf rfl rfl rfl (ex_pickT hf rfl rfl) (fun a hf => ?_)
                                      refine hK203 _ _ ?_
                                      have e196 := some_eq H; subst e196
                                      exact hJ196 _ _ ⟨hf.sub ⟨rfl, rfl, rfl, rfl, rfl, rfl, rfl, trivial⟩, hs⟩
                                  · obtain ⟨hf, hs⟩ := hJ
                                    replace H := HO196
                                    clear HO196
                                    refine itt H (fun hc204 H => ?_) (fun hc204 H => ?_)
                                    · -- x196 = true
                                      replace hf := hf.castB (t := 130) rfl hc204
                                      refine cond_T hf rfl ?_
                                      refine seq_reg (fun K205 hK205 => ?_)
                                      refine stq hf rfl rfl rfl (ex_assign hf rfl) (fun a hf => ?_)
                                      refine hK205 _ _ ?_
                                      refine wp_ret ?_
                                      refine hR195 _ _ ?_
                                      refine hR194 _ _ ?_
                                      refine hR190 _ _ ?_
                                      refine hR187 _ _ ?_
                                      refine hR116 _ _ ?_
                                      have e113 := some_eq H; subst e113; replace H := el_rt HO113
                                      refine hR113 _ _ ?_
                                      refine hR109 _ _ ?_
                                      refine hR100 _ _ ?_
                                      have e98 := some_eq H; subst e98; replace H := el_rt HO98
                                      refine hR98 _ _ ?_
                                      have eR := some_eq H; subst eR
                                      replace hs := hs.keep (.d (.d (.d (.d (.d (.d (.d (.d .nil))))))))
                                      exact ret1 Try.results6 hf rfl ⟨_, rfl, ⟨rfl, hs⟩⟩
                                    · -- not x196 = true
                                      replace hf := hf.castB (t := 130) rfl (bool_f hc204)
                                      refine cond_F hf rfl ?_
                                      refine wp_skip ?_
                                      refine hN195 _ _ ?_
                                      refine hN194 _ _ ?_
                                      refine region_k (fun K206 hK206 => ?_)
                                      refine stq hf rfl rfl rfl (ex_move hf rfl) (fun a hf => ?_)
                                      refine stq hf rfl rfl rfl (ex_add hf rfl rfl) (fun a hf => ?_)
                                      refine stq hf rfl rfl rfl (ex_assign hf rfl) (fun a hf => ?_)
                                      refine hK206 _ _ ?_
                                      exact hL190 k190 _ _ (Nat.lt_succ_self _) ⟨(IntKind.i64.wrap (y188 + 1)), hf.sub ⟨rfl, rfl, rfl, rfl, rfl, rfl, trivial⟩, hs, H⟩
                                · -- not y188 ≤ (s7.1.length : Int)
                                  replace hf := hf.castB (t := 112) rfl (dec_f hc193)
                                  refine cond_F hf rfl ?_
                                  refine wp_exit ?_
                                  refine hX191 2 _ _ ?_
                                  refine hX190 2 _ _ ?_
                                  refine hX187 _ _ ?_
                                  refine hN116 _ _ ?_
                                  have e113 := some_eq H; subst e113
                                  exact hJ113 _ _ ⟨_, v167, v171, rfl, hf.sub ⟨rfl, rfl, rfl, rfl, rfl, trivial⟩, hs⟩
                    · obtain ⟨x113s, v114, v115, rfl, hf, hs⟩ := hJ
                      replace H := el_go HO113
                      clear HO113
                      refine region_k (fun K207 hK207 => ?_)
                      refine stq hf rfl rfl rfl (ex_move hf rfl) (fun a hf => ?_)
                      refine stq hf rfl rfl rfl (ex_add hf rfl rfl) (fun a hf => ?_)
                      refine stq hf rfl rfl rfl (ex_assign hf rfl) (fun a hf => ?_)
                      refine hK207 _ _ ?_
                      exact hL109 k109 _ _ (Nat.lt_succ_self _) ⟨x113s.1, x113s.2.1, x113s.2.2.1, x113s.2.2.2, (IntKind.i64.wrap (y107 + 1)), v114, v115, hf.sub ⟨rfl, rfl, rfl, rfl, rfl, trivial⟩, hs, H⟩
                  · -- not y107 < (a3.length : Int)
                    replace hf := hf.castB (t := 66) rfl (dec_f hc112)
                    refine cond_F hf rfl ?_
                    refine wp_exit ?_
                    refine hX110 0 _ _ ?_
                    refine hX109 0 _ _ ?_
                    refine hX100 _ _ ?_
                    replace hs := hs.keep (.d (.d (.d (.d (.d (.d (.d (.d .nil))))))))
                    have e98 := some_eq H; subst e98
                    exact hJ98 _ _ ⟨_, rfl, hf.sub trivial, hs⟩
            · obtain ⟨x98s, rfl, hf, hs⟩ := hJ
              replace H := el_go HO98
              clear HO98
              refine bnd H (fun s208 hs208 H => ?_)
              refine seq_reg (fun K209 hK209 => ?_)
              refine stepF hf rfl rfl rfl (ex_call cf_11 hf rfl) (law38_awake.calls k (hs.enter .nil) (Sr.nil _ _) hs208) (fun v w hR a hf => ?_)
              obtain ⟨rfl, hs'⟩ := hR
              replace hs := hs.step .nil hs'
              clear hs'
              refine stq hf rfl rfl rfl (ex_assign hf rfl) (fun a hf => ?_)
              refine hK209 _ _ ?_
              refine wp_ret ?_
              have eR := some_eq H; subst eR
              exact ret1 Try.results6 hf rfl ⟨_, rfl, ⟨rfl, hs⟩⟩

end Go.Proofs.Ytakaooegofiloaa.X
