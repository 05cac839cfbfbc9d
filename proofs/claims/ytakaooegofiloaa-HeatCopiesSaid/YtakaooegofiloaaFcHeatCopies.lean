/- Each function of the machine comes to what its pure function says. -/
import Derived.Test.YtakaooegofiloaaFc1
import Derived.Test.YtakaooegofiloaaFc2
import Derived.Test.YtakaooegofiloaaFc3
import Derived.Test.YtakaooegofiloaaFb
namespace Go.Proofs.Ytakaooegofiloaa.X
open Go Go.RowKit Go.Sx
set_option linter.unusedVariables false

set_option maxHeartbeats 4000000 in
set_option maxRecDepth 100000 in
theorem law38_HeatCopies.calls {M : Nat → Prop} {w0 : World} (k : Nat) (a0 : (List HeatDomain)) (a1 : (List HeatLink)) (a2 : Int) (a3 : (List (List Int))) (a4 : (List (List Int))) (v0 : Value) (v1 : Value) (v3 : Value) (vs3 : (Nat → Value)) (v4 : Value) (vs4 : (Nat → Value)) {r : Bool} (hs : St M w0 w0 []) (hr : Sr M w0 [rsl K_api_HeatDomain v0 a0, rsl K_api_HeatLink v1 a1, rsl2 K_int64 v3 vs3 a3, rsl2 K_int64 v4 vs4 a4])
    (h : law38_HeatCopies.f k a0 a1 a2 a3 a4 = some r) : Calls Try.prog 5 #[v0, v1, .int .i64 a2, v3, v4] w0 fun e w => ∃ v, e = .returned v ∧ (.bool r = v ∧ St M w0 w []) := by
  have H := (law38_HeatCopies.f.eq_1 ..).symm.trans h
  clear h
  refine enter Try.func5 rfl Try.ntmps5 rfl (fun a hf => ?_)
  refine seq_reg (fun K1 hK1 => ?_)
  refine stq hf rfl rfl rfl (ex_assign hf rfl) (fun a hf => ?_)
  refine hK1 _ _ ?_
  refine seq_n (fun Q2 hN2 hR2 hX2 => ?_)
  refine bnd H (fun x3 H3 HO3 => ?_)
  clear H
  refine seq_cut (fun a w => Fr a 188 [(0, v0), (1, v1), (2, .int .i64 a2), (3, v3), (4, v4), (37, .bool x3)] ∧ St M w0 w []) (fun Q3 hJ3 hR3 hX3 => ?_) (fun a w hJ => ?_)
  · replace H := H3
    refine itt H (fun hc4 H => ?_) (fun hc4 H => ?_)
    · -- 20 < (a3.length : Int)
      refine region_k (fun K5 hK5 => ?_)
      refine stq hf rfl rfl rfl (ex_move hf rfl) (fun a hf => ?_)
      refine stq hf rfl rfl rfl (ex_lenS Try.underlying24 (rsl2_isSl (hr.now hs (i := 2) rfl)) hf rfl) (fun a hf => ?_)
      refine stq hf rfl rfl rfl (ex_gtr hf rfl rfl) (fun a hf => ?_)
      refine stq hf rfl rfl rfl (ex_move hf rfl) (fun a hf => ?_)
      replace hf := hf.castB (t := 32) rfl (dec_t hc4)
      replace hf := hf.castB (t := 33) rfl (dec_t hc4)
      refine stepN hf rfl rfl rfl (fun a hf => ?_)
      refine stepN hf rfl rfl rfl (fun a hf => ?_)
      refine stepN hf rfl rfl rfl (fun a hf => ?_)
      refine stq hf rfl rfl rfl (ex_pickT hf rfl rfl) (fun a hf => ?_)
      refine hK5 _ _ ?_
      have e3 := some_eq H; subst e3
      exact hJ3 _ _ ⟨hf.sub ⟨rfl, rfl, rfl, rfl, rfl, rfl, trivial⟩, hs⟩
    · -- not 20 < (a3.length : Int)
      refine region_k (fun K6 hK6 => ?_)
      refine stq hf rfl rfl rfl (ex_move hf rfl) (fun a hf => ?_)
      refine stq hf rfl rfl rfl (ex_lenS Try.underlying24 (rsl2_isSl (hr.now hs (i := 2) rfl)) hf rfl) (fun a hf => ?_)
      refine stq hf rfl rfl rfl (ex_gtr hf rfl rfl) (fun a hf => ?_)
      refine stq hf rfl rfl rfl (ex_move hf rfl) (fun a hf => ?_)
      replace hf := hf.castB (t := 32) rfl (dec_f hc4)
      replace hf := hf.castB (t := 33) rfl (dec_f hc4)
      refine stq hf rfl rfl rfl (ex_move hf rfl) (fun a hf => ?_)
      refine stq hf rfl rfl rfl (ex_lenS Try.underlying24 (rsl2_isSl (hr.now hs (i := 3) rfl)) hf rfl) (fun a hf => ?_)
      refine stq hf rfl rfl rfl (ex_gtr hf rfl rfl) (fun a hf => ?_)
      refine stq hf rfl rfl rfl (ex_pickF hf rfl rfl) (fun a hf => ?_)
      refine hK6 _ _ ?_
      have e3 := some_eq H; subst e3
      exact hJ3 _ _ ⟨hf.sub ⟨rfl, rfl, rfl, rfl, rfl, rfl, trivial⟩, hs⟩
  · obtain ⟨hf, hs⟩ := hJ
    replace H := HO3
    clear HO3
    refine itt H (fun hc7 H => ?_) (fun hc7 H => ?_)
    · -- x3 = true
      replace hf := hf.castB (t := 37) rfl hc7
      refine cond_T hf rfl ?_
      refine bnd H (fun s8 hs8 H => ?_)
      refine seq_reg (fun K9 hK9 => ?_)
      refine stepF hf rfl rfl rfl (ex_call cf_11 hf rfl) (law38_awake.calls k (hs.enter .nil) (Sr.nil _ _) hs8) (fun v w hR a hf => ?_)
      obtain ⟨rfl, hs'⟩ := hR
      replace hs := hs.step .nil hs'
      clear hs'
      refine stq hf rfl rfl rfl (ex_assign hf rfl) (fun a hf => ?_)
      refine hK9 _ _ ?_
      refine wp_ret ?_
      refine hR2 _ _ ?_
      have eR := some_eq H; subst eR
      exact ret1 Try.results5 hf rfl ⟨_, rfl, ⟨rfl, hs⟩⟩
    · -- not x3 = true
      replace hf := hf.castB (t := 37) rfl (bool_f hc7)
      refine cond_F hf rfl ?_
      refine wp_skip ?_
      refine hN2 _ _ ?_
      refine bnd H (fun s10 hs10 H => ?_)
      refine seq_reg (fun K14 hK14 => ?_)
      refine stq hf rfl rfl rfl (ex_move hf rfl) (fun a hf => ?_)
      refine stq hf rfl rfl rfl (ex_move hf rfl) (fun a hf => ?_)
      refine stq hf rfl rfl rfl (ex_move hf rfl) (fun a hf => ?_)
      refine stepF hf rfl rfl rfl (ex_call cf_12 hf rfl) (law38_Some.calls k a0 a1 a2 v0 v1 (hs.enter .nil) (Sr.old hr hs .nil (i := 0) rfl (fun _ h => h) (fun _ h => h) (Sr.old hr hs .nil (i := 1) rfl (fun _ h => h) (fun _ h => h) (Sr.nil _ _))) hs10) (fun v w hR a hf => ?_)
      obtain ⟨v11, v12, rfl, hs'⟩ := hR
      replace hs := hs.step .nil hs'
      clear hs'
      refine stepV hf rfl rfl rfl (er_alloc hs ti_27 (cs := [(.slice none 0 0), (.slice none 0 0), .int .i64 0]) rfl) (fun v w hR a hf => ?_)
      obtain ⟨b13, rfl, hs⟩ := hR
      refine stepS hf rfl rfl (er_storeAB (vs := [v11, v12, .int .i64 s10.2.2]) (cs' := [v11, v12, .int .i64 s10.2.2]) hs (.c (.k (.k .nil))) sz_27 hf rfl rfl (all1 (IsSl.one (rsl_isSl (osl_rsl _ (hs.get (i := 1) rfl)))) (all1 (IsSl.one (rsl_isSl (osl_rsl _ (hs.get (i := 2) rfl)))) (all1 rfl (all1_nil)))) rfl rfl) (fun w hs => ?_)
      refine hK14 _ _ ?_
      refine seq_reg (fun K15 hK15 => ?_)
      refine stq hf rfl rfl rfl (ex_fieldAddrB fa_27_0 rfl hf rfl) (fun a hf => ?_)
      refine stq hf rfl rfl rfl (ex_load sc_22 hf rfl (bx_cell (hs.get (i := 0) rfl) _ rfl)) (fun a hf => ?_)
      refine stq hf rfl rfl rfl (ex_lenS Try.underlying22 (rsl_isSl (osl_rsl _ (hs.get (i := 1) rfl))) hf rfl) (fun a hf => ?_)
      refine stq hf rfl rfl rfl (ex_assign hf rfl) (fun a hf => ?_)
      refine hK15 _ _ ?_
      refine seq_n (fun Q16 hN16 hR16 hX16 => ?_)
      refine bnd H (fun s17 hs17 H => ?_)
      cases hps17 : s17.1 with
      | none =>
        replace H := elim_n hps17 H
        refine region_k (fun K19 hK19 => ?_)
        refine stq hf rfl rfl rfl (ex_fieldAddrB fa_27_0 rfl hf rfl) (fun a hf => ?_)
        refine stq hf rfl rfl rfl (ex_load sc_22 hf rfl (bx_cell (hs.get (i := 0) rfl) _ rfl)) (fun a hf => ?_)
        refine stq hf rfl rfl rfl (ex_fieldAddrB fa_27_1 rfl hf rfl) (fun a hf => ?_)
        refine stq hf rfl rfl rfl (ex_load sc_23 hf rfl (bx_cell (hs.get (i := 0) rfl) _ rfl)) (fun a hf => ?_)
        refine stq hf rfl rfl rfl (ex_fieldAddrB fa_27_2 rfl hf rfl) (fun a hf => ?_)
        refine stq hf rfl rfl rfl (ex_load sc_2 hf rfl (bx_cell (hs.get (i := 0) rfl) _ rfl)) (fun a hf => ?_)
        refine stepF hf rfl rfl rfl (ex_call cf_13 hf rfl) (heat_New.calls k s10.1 s10.2.1 s10.2.2 v11 v12 (hs.enter (.k (.k (.k .nil)))) (Sr.own hs (.k (.k (.k .nil))) (i := 1) rfl osl_rsl (fun _ h => h.1) (Sr.own hs (.k (.k (.k .nil))) (i := 2) rfl osl_rsl (fun _ h => h.1) (Sr.nil _ _))) hs17) (fun v w hR a hf => ?_)
        obtain ⟨_, rfl, hs'⟩ | ⟨_, hc', _⟩ := hR
        case inr => rw [hps17] at hc'; cases hc'
        replace hs := hs.step (.k (.k (.k .nil))) hs'
        clear hs'
        refine stq hf rfl rfl rfl (ex_move hf rfl) (fun a hf => ?_)
        refine stq hf rfl rfl rfl (ex_extract hf rfl rfl) (fun a hf => ?_)
        refine stq hf rfl rfl rfl (ex_extract hf rfl rfl) (fun a hf => ?_)
        refine stq hf rfl rfl rfl (ex_assign hf rfl) (fun a hf => ?_)
        refine stq hf rfl rfl rfl (ex_assign hf rfl) (fun a hf => ?_)
        refine hK19 _ _ ?_
        refine hN16 _ _ ?_
        refine seq_n (fun Q20 hN20 hR20 hX20 => ?_)
        refine bnd H (fun s21 hs21 H => ?_)
        cases hps21 : s21.1 with
        | none =>
          replace H := elim_n hps21 H
          refine region_k (fun K23 hK23 => ?_)
          refine stq hf rfl rfl rfl (ex_fieldAddrB fa_27_0 rfl hf rfl) (fun a hf => ?_)
          refine stq hf rfl rfl rfl (ex_load sc_22 hf rfl (bx_cell (hs.get (i := 0) rfl) _ rfl)) (fun a hf => ?_)
          refine stq hf rfl rfl rfl (ex_fieldAddrB fa_27_1 rfl hf rfl) (fun a hf => ?_)
          refine stq hf rfl rfl rfl (ex_load sc_23 hf rfl (bx_cell (hs.get (i := 0) rfl) _ rfl)) (fun a hf => ?_)
          refine stq hf rfl rfl rfl (ex_fieldAddrB fa_27_2 rfl hf rfl) (fun a hf => ?_)
          refine stq hf rfl rfl rfl (ex_load sc_2 hf rfl (bx_cell (hs.get (i := 0) rfl) _ rfl)) (fun a hf => ?_)
          refine stepF hf rfl rfl rfl (ex_call cf_13 hf rfl) (heat_New.calls k s10.1 s10.2.1 s10.2.2 v11 v12 (hs.enter (.k (.k (.k .nil)))) (Sr.own hs (.k (.k (.k .nil))) (i := 1) rfl osl_rsl (fun _ h => h.1) (Sr.own hs (.k (.k (.k .nil))) (i := 2) rfl osl_rsl (fun _ h => h.1) (Sr.nil _ _))) hs21) (fun v w hR a hf => ?_)
          obtain ⟨_, rfl, hs'⟩ | ⟨_, hc', _⟩ := hR
          case inr => rw [hps21] at hc'; cases hc'
          replace hs := hs.step (.k (.k (.k .nil))) hs'
          clear hs'
          refine stq hf rfl rfl rfl (ex_move hf rfl) (fun a hf => ?_)
          refine stq hf rfl rfl rfl (ex_extract hf rfl rfl) (fun a hf => ?_)
          refine stq hf rfl rfl rfl (ex_extract hf rfl rfl) (fun a hf => ?_)
          refine stq hf rfl rfl rfl (ex_assign hf rfl) (fun a hf => ?_)
          refine stq hf rfl rfl rfl (ex_assign hf rfl) (fun a hf => ?_)
          refine hK23 _ _ ?_
          refine hN20 _ _ ?_
          refine seq_n (fun Q24 hN24 hR24 hX24 => ?_)
          refine bnd H (fun x25 H25 HO25 => ?_)
          clear H
          refine seq_cut (fun a w => Fr a 188 [(3, v3), (4, v4), (12, .int .i64 (s10.1.length : Int)), (13, .pointer none), (15, .pointer none), (79, .bool true)] ∧ St M w0 w []) (fun Q25 hJ25 hR25 hX25 => ?_) (fun a w hJ => ?_)
          · replace H := H25
            refine itt H (fun hc26 H => ?_) (fun hc26 H => ?_)
            · -- s17.2 = 0
              refine itt H (fun hc27 H => ?_) (fun hc27 H => ?_)
              · -- s21.2 = 0
                refine region_k (fun K28 hK28 => ?_)
                refine stq hf rfl rfl rfl (ex_move hf rfl) (fun a hf => ?_)
                refine stq hf rfl rfl rfl (ex_neq hf rfl rfl) (fun a hf => ?_)
                refine stq hf rfl rfl rfl (ex_move hf rfl) (fun a hf => ?_)
                replace hf := hf.castB (t := 67) rfl (ndec_f hc26)
                replace hf := hf.castB (t := 68) rfl (ndec_f hc26)
                refine stq hf rfl rfl rfl (ex_move hf rfl) (fun a hf => ?_)
                refine stq hf rfl rfl rfl (ex_neq hf rfl rfl) (fun a hf => ?_)
                refine stq hf rfl rfl rfl (ex_pickF hf rfl rfl) (fun a hf => ?_)
                refine stq hf rfl rfl rfl (ex_move hf rfl) (fun a hf => ?_)
                replace hf := hf.castB (t := 70) rfl (ndec_f hc27)
                replace hf := hf.castB (t := 71) rfl (ndec_f hc27)
                replace hf := hf.castB (t := 72) rfl (ndec_f hc27)
                refine stq hf rfl rfl rfl (ex_move hf rfl) (fun a hf => ?_)
                refine stq hf rfl rfl rfl (ex_eqp Try.underlying29 hf rfl rfl) (fun a hf => ?_)
                refine stq hf rfl rfl rfl (ex_pickF hf rfl rfl) (fun a hf => ?_)
                refine stq hf rfl rfl rfl (ex_move hf rfl) (fun a hf => ?_)
                refine stepN hf rfl rfl rfl (fun a hf => ?_)
                refine stepN hf rfl rfl rfl (fun a hf => ?_)
                refine stq hf rfl rfl rfl (ex_pickT hf rfl rfl) (fun a hf => ?_)
                refine hK28 _ _ ?_
                replace hs := hs.keep (.d (.d (.d .nil)))
                have e25 := some_eq H; subst e25
                exact hJ25 _ _ ⟨hf.sub ⟨rfl, rfl, rfl, rfl, rfl, rfl, trivial⟩, hs⟩
              · -- not s21.2 = 0
                refine region_k (fun K29 hK29 => ?_)
                refine stq hf rfl rfl rfl (ex_move hf rfl) (fun a hf => ?_)
                refine stq hf rfl rfl rfl (ex_neq hf rfl rfl) (fun a hf => ?_)
                refine stq hf rfl rfl rfl (ex_move hf rfl) (fun a hf => ?_)
                replace hf := hf.castB (t := 67) rfl (ndec_f hc26)
                replace hf := hf.castB (t := 68) rfl (ndec_f hc26)
                refine stq hf rfl rfl rfl (ex_move hf rfl) (fun a hf => ?_)
                refine stq hf rfl rfl rfl (ex_neq hf rfl rfl) (fun a hf => ?_)
                refine stq hf rfl rfl rfl (ex_pickF hf rfl rfl) (fun a hf => ?_)
                refine stq hf rfl rfl rfl (ex_move hf rfl) (fun a hf => ?_)
                replace hf := hf.castB (t := 70) rfl (ndec_t hc27)
                replace hf := hf.castB (t := 71) rfl (ndec_t hc27)
                replace hf := hf.castB (t := 72) rfl (ndec_t hc27)
                refine stepN hf rfl rfl rfl (fun a hf => ?_)
                refine stepN hf rfl rfl rfl (fun a hf => ?_)
                refine stq hf rfl rfl rfl (ex_pickT hf rfl rfl) (fun a hf => ?_)
                refine stq hf rfl rfl rfl (ex_move hf rfl) (fun a hf => ?_)
                refine stepN hf rfl rfl rfl (fun a hf => ?_)
                refine stepN hf rfl rfl rfl (fun a hf => ?_)
                refine stq hf rfl rfl rfl (ex_pickT hf rfl rfl) (fun a hf => ?_)
                refine hK29 _ _ ?_
                replace hs := hs.keep (.d (.d (.d .nil)))
                have e25 := some_eq H; subst e25
                exact hJ25 _ _ ⟨hf.sub ⟨rfl, rfl, rfl, rfl, rfl, rfl, trivial⟩, hs⟩
            · -- not s17.2 = 0
              refine region_k (fun K30 hK30 => ?_)
              refine stq hf rfl rfl rfl (ex_move hf rfl) (fun a hf => ?_)
              refine stq hf rfl rfl rfl (ex_neq hf rfl rfl) (fun a hf => ?_)
              refine stq hf rfl rfl rfl (ex_move hf rfl) (fun a hf => ?_)
              replace hf := hf.castB (t := 67) rfl (ndec_t hc26)
              replace hf := hf.castB (t := 68) rfl (ndec_t hc26)
              refine stepN hf rfl rfl rfl (fun a hf => ?_)
              refine stepN hf rfl rfl rfl (fun a hf => ?_)
              refine stq hf rfl rfl rfl (ex_pickT hf rfl rfl) (fun a hf => ?_)
              refine stq hf rfl rfl rfl (ex_move hf rfl) (fun a hf => ?_)
              refine stepN hf rfl rfl rfl (fun a hf => ?_)
              refine stepN hf rfl rfl rfl (fun a hf => ?_)
              refine stq hf rfl rfl rfl (ex_pickT hf rfl rfl) (fun a hf => ?_)
              refine stq hf rfl rfl rfl (ex_move hf rfl) (fun a hf => ?_)
              refine stepN hf rfl rfl rfl (fun a hf => ?_)
              refine stepN hf rfl rfl rfl (fun a hf => ?_)
              refine stq hf rfl rfl rfl (ex_pickT hf rfl rfl) (fun a hf => ?_)
              refine hK30 _ _ ?_
              replace hs := hs.keep (.d (.d (.d .nil)))
              have e25 := some_eq H; subst e25
              exact hJ25 _ _ ⟨hf.sub ⟨rfl, rfl, rfl, rfl, rfl, rfl, trivial⟩, hs⟩
          · obtain ⟨hf, hs⟩ := hJ
            replace H := HO25
            clear HO25
            refine cond_T hf rfl ?_
            refine seq_reg (fun K31 hK31 => ?_)
            refine stq hf rfl rfl rfl (ex_assign hf rfl) (fun a hf => ?_)
            refine hK31 _ _ ?_
            refine wp_ret ?_
            refine hR24 _ _ ?_
            have eR := some_eq H; subst eR
            exact ret1 Try.results5 hf rfl ⟨_, rfl, ⟨rfl, hs⟩⟩
        | some c22 =>
          replace H := elim_s hps21 H
          refine region_k (fun K36 hK36 => ?_)
          refine stq hf rfl rfl rfl (ex_fieldAddrB fa_27_0 rfl hf rfl) (fun a hf => ?_)
          refine stq hf rfl rfl rfl (ex_load sc_22 hf rfl (bx_cell (hs.get (i := 0) rfl) _ rfl)) (fun a hf => ?_)
          refine stq hf rfl rfl rfl (ex_fieldAddrB fa_27_1 rfl hf rfl) (fun a hf => ?_)
          refine stq hf rfl rfl rfl (ex_load sc_23 hf rfl (bx_cell (hs.get (i := 0) rfl) _ rfl)) (fun a hf => ?_)
          refine stq hf rfl rfl rfl (ex_fieldAddrB fa_27_2 rfl hf rfl) (fun a hf => ?_)
          refine stq hf rfl rfl rfl (ex_load sc_2 hf rfl (bx_cell (hs.get (i := 0) rfl) _ rfl)) (fun a hf => ?_)
          refine stepF hf rfl rfl rfl (ex_call cf_13 hf rfl) (heat_New.calls k s10.1 s10.2.1 s10.2.2 v11 v12 (hs.enter (.k (.k (.k .nil)))) (Sr.own hs (.k (.k (.k .nil))) (i := 1) rfl osl_rsl (fun _ h => h.1) (Sr.own hs (.k (.k (.k .nil))) (i := 2) rfl osl_rsl (fun _ h => h.1) (Sr.nil _ _))) hs21) (fun v w hR a hf => ?_)
          obtain ⟨hc', _⟩ | ⟨cc, hc', b32, v33, v34, v35, rfl, hs'⟩ := hR
          case inl => rw [hps21] at hc'; cases hc'
          obtain rfl : c22 = cc := by rw [hps21] at hc'; exact Option.some.inj hc'
          replace hs := hs.step (.k (.k (.k .nil))) hs'
          clear hs'
          refine stq hf rfl rfl rfl (ex_move hf rfl) (fun a hf => ?_)
          refine stq hf rfl rfl rfl (ex_extract hf rfl rfl) (fun a hf => ?_)
          refine stq hf rfl rfl rfl (ex_extract hf rfl rfl) (fun a hf => ?_)
          refine stq hf rfl rfl rfl (ex_assign hf rfl) (fun a hf => ?_)
          refine stq hf rfl rfl rfl (ex_assign hf rfl) (fun a hf => ?_)
          refine hK36 _ _ ?_
          refine hN20 _ _ ?_
          refine seq_n (fun Q37 hN37 hR37 hX37 => ?_)
          refine bnd H (fun x38 H38 HO38 => ?_)
          clear H
          refine seq_cut (fun a w => Fr a 188 [(3, v3), (4, v4), (12, .int .i64 (s10.1.length : Int)), (13, .pointer none), (15, .pointer (some ⟨b32, 0, none⟩)), (79, .bool true)] ∧ St M w0 w [bx b32 64 [v33, v34, .int .i64 c22.2.2.1, v35, .int .i64 c22.2.2.2.2], osl K_api_HeatDomain v33 c22.1, osl K_api_HeatLink v34 c22.2.1, osl K_int64 v35 c22.2.2.2.1]) (fun Q38 hJ38 hR38 hX38 => ?_) (fun a w hJ => ?_)
          · replace H := H38
            refine itt H (fun hc39 H => ?_) (fun hc39 H => ?_)
            · -- s17.2 = 0
              refine itt H (fun hc40 H => ?_) (fun hc40 H => ?_)
              · -- s21.2 = 0
                refine region_k (fun K41 hK41 => ?_)
                refine stq hf rfl rfl rfl (ex_move hf rfl) (fun a hf => ?_)
                refine stq hf rfl rfl rfl (ex_neq hf rfl rfl) (fun a hf => ?_)
                refine stq hf rfl rfl rfl (ex_move hf rfl) (fun a hf => ?_)
                replace hf := hf.castB (t := 67) rfl (ndec_f hc39)
                replace hf := hf.castB (t := 68) rfl (ndec_f hc39)
                refine stq hf rfl rfl rfl (ex_move hf rfl) (fun a hf => ?_)
                refine stq hf rfl rfl rfl (ex_neq hf rfl rfl) (fun a hf => ?_)
                refine stq hf rfl rfl rfl (ex_pickF hf rfl rfl) (fun a hf => ?_)
                refine stq hf rfl rfl rfl (ex_move hf rfl) (fun a hf => ?_)
                replace hf := hf.castB (t := 70) rfl (ndec_f hc40)
                replace hf := hf.castB (t := 71) rfl (ndec_f hc40)
                replace hf := hf.castB (t := 72) rfl (ndec_f hc40)
                refine stq hf rfl rfl rfl (ex_move hf rfl) (fun a hf => ?_)
                refine stq hf rfl rfl rfl (ex_eqp Try.underlying29 hf rfl rfl) (fun a hf => ?_)
                refine stq hf rfl rfl rfl (ex_pickF hf rfl rfl) (fun a hf => ?_)
                refine stq hf rfl rfl rfl (ex_move hf rfl) (fun a hf => ?_)
                refine stepN hf rfl rfl rfl (fun a hf => ?_)
                refine stepN hf rfl rfl rfl (fun a hf => ?_)
                refine stq hf rfl rfl rfl (ex_pickT hf rfl rfl) (fun a hf => ?_)
                refine hK41 _ _ ?_
                replace hs := hs.keep (.k (.k (.k (.k (.d (.d (.d .nil)))))))
                have e38 := some_eq H; subst e38
                exact hJ38 _ _ ⟨hf.sub ⟨rfl, rfl, rfl, rfl, rfl, rfl, trivial⟩, hs⟩
              · -- not s21.2 = 0
                refine region_k (fun K42 hK42 => ?_)
                refine stq hf rfl rfl rfl (ex_move hf rfl) (fun a hf => ?_)
                refine stq hf rfl rfl rfl (ex_neq hf rfl rfl) (fun a hf => ?_)
                refine stq hf rfl rfl rfl (ex_move hf rfl) (fun a hf => ?_)
                replace hf := hf.castB (t := 67) rfl (ndec_f hc39)
                replace hf := hf.castB (t := 68) rfl (ndec_f hc39)
                refine stq hf rfl rfl rfl (ex_move hf rfl) (fun a hf => ?_)
                refine stq hf rfl rfl rfl (ex_neq hf rfl rfl) (fun a hf => ?_)
                refine stq hf rfl rfl rfl (ex_pickF hf rfl rfl) (fun a hf => ?_)
                refine stq hf rfl rfl rfl (ex_move hf rfl) (fun a hf => ?_)
                replace hf := hf.castB (t := 70) rfl (ndec_t hc40)
                replace hf := hf.castB (t := 71) rfl (ndec_t hc40)
                replace hf := hf.castB (t := 72) rfl (ndec_t hc40)
                refine stepN hf rfl rfl rfl (fun a hf => ?_)
                refine stepN hf rfl rfl rfl (fun a hf => ?_)
                refine stq hf rfl rfl rfl (ex_pickT hf rfl rfl) (fun a hf => ?_)
                refine stq hf rfl rfl rfl (ex_move hf rfl) (fun a hf => ?_)
                refine stepN hf rfl rfl rfl (fun a hf => ?_)
                refine stepN hf rfl rfl rfl (fun a hf => ?_)
                refine stq hf rfl rfl rfl (ex_pickT hf rfl rfl) (fun a hf => ?_)
                refine hK42 _ _ ?_
                replace hs := hs.keep (.k (.k (.k (.k (.d (.d (.d .nil)))))))
                have e38 := some_eq H; subst e38
                exact hJ38 _ _ ⟨hf.sub ⟨rfl, rfl, rfl, rfl, rfl, rfl, trivial⟩, hs⟩
            · -- not s17.2 = 0
              refine region_k (fun K43 hK43 => ?_)
              refine stq hf rfl rfl rfl (ex_move hf rfl) (fun a hf => ?_)
              refine stq hf rfl rfl rfl (ex_neq hf rfl rfl) (fun a hf => ?_)
              refine stq hf rfl rfl rfl (ex_move hf rfl) (fun a hf => ?_)
              replace hf := hf.castB (t := 67) rfl (ndec_t hc39)
              replace hf := hf.castB (t := 68) rfl (ndec_t hc39)
              refine stepN hf rfl rfl rfl (fun a hf => ?_)
              refine stepN hf rfl rfl rfl (fun a hf => ?_)
              refine stq hf rfl rfl rfl (ex_pickT hf rfl rfl) (fun a hf => ?_)
              refine stq hf rfl rfl rfl (ex_move hf rfl) (fun a hf => ?_)
              refine stepN hf rfl rfl rfl (fun a hf => ?_)
              refine stepN hf rfl rfl rfl (fun a hf => ?_)
              refine stq hf rfl rfl rfl (ex_pickT hf rfl rfl) (fun a hf => ?_)
              refine stq hf rfl rfl rfl (ex_move hf rfl) (fun a hf => ?_)
              refine stepN hf rfl rfl rfl (fun a hf => ?_)
              refine stepN hf rfl rfl rfl (fun a hf => ?_)
              refine stq hf rfl rfl rfl (ex_pickT hf rfl rfl) (fun a hf => ?_)
              refine hK43 _ _ ?_
              replace hs := hs.keep (.k (.k (.k (.k (.d (.d (.d .nil)))))))
              have e38 := some_eq H; subst e38
              exact hJ38 _ _ ⟨hf.sub ⟨rfl, rfl, rfl, rfl, rfl, rfl, trivial⟩, hs⟩
          · obtain ⟨hf, hs⟩ := hJ
            replace H := HO38
            clear HO38
            refine cond_T hf rfl ?_
            refine seq_reg (fun K44 hK44 => ?_)
            refine stq hf rfl rfl rfl (ex_assign hf rfl) (fun a hf => ?_)
            refine hK44 _ _ ?_
            refine wp_ret ?_
            refine hR37 _ _ ?_
            have eR := some_eq H; subst eR
            replace hs := hs.keep (.d (.d (.d (.d .nil))))
            exact ret1 Try.results5 hf rfl ⟨_, rfl, ⟨rfl, hs⟩⟩
      | some c18 =>
        replace H := elim_s hps17 H
        refine region_k (fun K49 hK49 => ?_)
        refine stq hf rfl rfl rfl (ex_fieldAddrB fa_27_0 rfl hf rfl) (fun a hf => ?_)
        refine stq hf rfl rfl rfl (ex_load sc_22 hf rfl (bx_cell (hs.get (i := 0) rfl) _ rfl)) (fun a hf => ?_)
        refine stq hf rfl rfl rfl (ex_fieldAddrB fa_27_1 rfl hf rfl) (fun a hf => ?_)
        refine stq hf rfl rfl rfl (ex_load sc_23 hf rfl (bx_cell (hs.get (i := 0) rfl) _ rfl)) (fun a hf => ?_)
        refine stq hf rfl rfl rfl (ex_fieldAddrB fa_27_2 rfl hf rfl) (fun a hf => ?_)
        refine stq hf rfl rfl rfl (ex_load sc_2 hf rfl (bx_cell (hs.get (i := 0) rfl) _ rfl)) (fun a hf => ?_)
        refine stepF hf rfl rfl rfl (ex_call cf_13 hf rfl) (heat_New.calls k s10.1 s10.2.1 s10.2.2 v11 v12 (hs.enter (.k (.k (.k .nil)))) (Sr.own hs (.k (.k (.k .nil))) (i := 1) rfl osl_rsl (fun _ h => h.1) (Sr.own hs (.k (.k (.k .nil))) (i := 2) rfl osl_rsl (fun _ h => h.1) (Sr.nil _ _))) hs17) (fun v w hR a hf => ?_)
        obtain ⟨hc', _⟩ | ⟨cc, hc', b45, v46, v47, v48, rfl, hs'⟩ := hR
        case inl => rw [hps17] at hc'; cases hc'
        obtain rfl : c18 = cc := by rw [hps17] at hc'; exact Option.some.inj hc'
        replace hs := hs.step (.k (.k (.k .nil))) hs'
        clear hs'
        refine stq hf rfl rfl rfl (ex_move hf rfl) (fun a hf => ?_)
        refine stq hf rfl rfl rfl (ex_extract hf rfl rfl) (fun a hf => ?_)
        refine stq hf rfl rfl rfl (ex_extract hf rfl rfl) (fun a hf => ?_)
        refine stq hf rfl rfl rfl (ex_assign hf rfl) (fun a hf => ?_)
        refine stq hf rfl rfl rfl (ex_assign hf rfl) (fun a hf => ?_)
        refine hK49 _ _ ?_
        refine hN16 _ _ ?_
        refine seq_n (fun Q50 hN50 hR50 hX50 => ?_)
        refine bnd H (fun s51 hs51 H => ?_)
        cases hps51 : s51.1 with
        | none =>
          replace H := elim_n hps51 H
          refine region_k (fun K53 hK53 => ?_)
          refine stq hf rfl rfl rfl (ex_fieldAddrB fa_27_0 rfl hf rfl) (fun a hf => ?_)
          refine stq hf rfl rfl rfl (ex_load sc_22 hf rfl (bx_cell (hs.get (i := 4) rfl) _ rfl)) (fun a hf => ?_)
          refine stq hf rfl rfl rfl (ex_fieldAddrB fa_27_1 rfl hf rfl) (fun a hf => ?_)
          refine stq hf rfl rfl rfl (ex_load sc_23 hf rfl (bx_cell (hs.get (i := 4) rfl) _ rfl)) (fun a hf => ?_)
          refine stq hf rfl rfl rfl (ex_fieldAddrB fa_27_2 rfl hf rfl) (fun a hf => ?_)
          refine stq hf rfl rfl rfl (ex_load sc_2 hf rfl (bx_cell (hs.get (i := 4) rfl) _ rfl)) (fun a hf => ?_)
          refine stepF hf rfl rfl rfl (ex_call cf_13 hf rfl) (heat_New.calls k s10.1 s10.2.1 s10.2.2 v11 v12 (hs.enter (.k (.k (.k (.k (.k (.k (.k .nil)))))))) (Sr.own hs (.k (.k (.k (.k (.k (.k (.k .nil))))))) (i := 5) rfl osl_rsl (fun _ h => h.1) (Sr.own hs (.k (.k (.k (.k (.k (.k (.k .nil))))))) (i := 6) rfl osl_rsl (fun _ h => h.1) (Sr.nil _ _))) hs51) (fun v w hR a hf => ?_)
          obtain ⟨_, rfl, hs'⟩ | ⟨_, hc', _⟩ := hR
          case inr => rw [hps51] at hc'; cases hc'
          replace hs := hs.step (.k (.k (.k (.k (.k (.k (.k .nil))))))) hs'
          clear hs'
          refine stq hf rfl rfl rfl (ex_move hf rfl) (fun a hf => ?_)
          refine stq hf rfl rfl rfl (ex_extract hf rfl rfl) (fun a hf => ?_)
          refine stq hf rfl rfl rfl (ex_extract hf rfl rfl) (fun a hf => ?_)
          refine stq hf rfl rfl rfl (ex_assign hf rfl) (fun a hf => ?_)
          refine stq hf rfl rfl rfl (ex_assign hf rfl) (fun a hf => ?_)
          refine hK53 _ _ ?_
          refine hN50 _ _ ?_
          refine seq_n (fun Q54 hN54 hR54 hX54 => ?_)
          refine bnd H (fun x55 H55 HO55 => ?_)
          clear H
          refine seq_cut (fun a w => Fr a 188 [(3, v3), (4, v4), (12, .int .i64 (s10.1.length : Int)), (13, .pointer (some ⟨b45, 0, none⟩)), (15, .pointer none), (79, .bool true)] ∧ St M w0 w [bx b45 64 [v46, v47, .int .i64 c18.2.2.1, v48, .int .i64 c18.2.2.2.2], osl K_api_HeatDomain v46 c18.1, osl K_api_HeatLink v47 c18.2.1, osl K_int64 v48 c18.2.2.2.1]) (fun Q55 hJ55 hR55 hX55 => ?_) (fun a w hJ => ?_)
          · replace H := H55
            refine itt H (fun hc56 H => ?_) (fun hc56 H => ?_)
            · -- s17.2 = 0
              refine itt H (fun hc57 H => ?_) (fun hc57 H => ?_)
              · -- s51.2 = 0
                refine region_k (fun K58 hK58 => ?_)
                refine stq hf rfl rfl rfl (ex_move hf rfl) (fun a hf => ?_)
                refine stq hf rfl rfl rfl (ex_neq hf rfl rfl) (fun a hf => ?_)
                refine stq hf rfl rfl rfl (ex_move hf rfl) (fun a hf => ?_)
                replace hf := hf.castB (t := 67) rfl (ndec_f hc56)
                replace hf := hf.castB (t := 68) rfl (ndec_f hc56)
                refine stq hf rfl rfl rfl (ex_move hf rfl) (fun a hf => ?_)
                refine stq hf rfl rfl rfl (ex_neq hf rfl rfl) (fun a hf => ?_)
                refine stq hf rfl rfl rfl (ex_pickF hf rfl rfl) (fun a hf => ?_)
                refine stq hf rfl rfl rfl (ex_move hf rfl) (fun a hf => ?_)
                replace hf := hf.castB (t := 70) rfl (ndec_f hc57)
                replace hf := hf.castB (t := 71) rfl (ndec_f hc57)
                replace hf := hf.castB (t := 72) rfl (ndec_f hc57)
                refine stq hf rfl rfl rfl (ex_move hf rfl) (fun a hf => ?_)
                refine stq hf rfl rfl rfl (ex_eqp Try.underlying29 hf rfl rfl) (fun a hf => ?_)
                refine stq hf rfl rfl rfl (ex_pickF hf rfl rfl) (fun a hf => ?_)
                refine stq hf rfl rfl rfl (ex_move hf rfl) (fun a hf => ?_)
                refine stq hf rfl rfl rfl (ex_move hf rfl) (fun a hf => ?_)
                refine stq hf rfl rfl rfl (ex_eqp Try.underlying29 hf rfl rfl) (fun a hf => ?_)
                refine stq hf rfl rfl rfl (ex_pickF hf rfl rfl) (fun a hf => ?_)
                refine hK58 _ _ ?_
                replace hs := hs.keep (.k (.k (.k (.k (.d (.d (.d .nil)))))))
                have e55 := some_eq H; subst e55
                exact hJ55 _ _ ⟨hf.sub ⟨rfl, rfl, rfl, rfl, rfl, rfl, trivial⟩, hs⟩
              · -- not s51.2 = 0
                refine region_k (fun K59 hK59 => ?_)
                refine stq hf rfl rfl rfl (ex_move hf rfl) (fun a hf => ?_)
                refine stq hf rfl rfl rfl (ex_neq hf rfl rfl) (fun a hf => ?_)
                refine stq hf rfl rfl rfl (ex_move hf rfl) (fun a hf => ?_)
                replace hf := hf.castB (t := 67) rfl (ndec_f hc56)
                replace hf := hf.castB (t := 68) rfl (ndec_f hc56)
                refine stq hf rfl rfl rfl (ex_move hf rfl) (fun a hf => ?_)
                refine stq hf rfl rfl rfl (ex_neq hf rfl rfl) (fun a hf => ?_)
                refine stq hf rfl rfl rfl (ex_pickF hf rfl rfl) (fun a hf => ?_)
                refine stq hf rfl rfl rfl (ex_move hf rfl) (fun a hf => ?_)
                replace hf := hf.castB (t := 70) rfl (ndec_t hc57)
                replace hf := hf.castB (t := 71) rfl (ndec_t hc57)
                replace hf := hf.castB (t := 72) rfl (ndec_t hc57)
                refine stepN hf rfl rfl rfl (fun a hf => ?_)
                refine stepN hf rfl rfl rfl (fun a hf => ?_)
                refine stq hf rfl rfl rfl (ex_pickT hf rfl rfl) (fun a hf => ?_)
                refine stq hf rfl rfl rfl (ex_move hf rfl) (fun a hf => ?_)
                refine stepN hf rfl rfl rfl (fun a hf => ?_)
                refine stepN hf rfl rfl rfl (fun a hf => ?_)
                refine stq hf rfl rfl rfl (ex_pickT hf rfl rfl) (fun a hf => ?_)
                refine hK59 _ _ ?_
                replace hs := hs.keep (.k (.k (.k (.k (.d (.d (.d .nil)))))))
                have e55 := some_eq H; subst e55
                exact hJ55 _ _ ⟨hf.sub ⟨rfl, rfl, rfl, rfl, rfl, rfl, trivial⟩, hs⟩
            · -- not s17.2 = 0
              refine region_k (fun K60 hK60 => ?_)
              refine stq hf rfl rfl rfl (ex_move hf rfl) (fun a hf => ?_)
              refine stq hf rfl rfl rfl (ex_neq hf rfl rfl) (fun a hf => ?_)
              refine stq hf rfl rfl rfl (ex_move hf rfl) (fun a hf => ?_)
              replace hf := hf.castB (t := 67) rfl (ndec_t hc56)
              replace hf := hf.castB (t := 68) rfl (ndec_t hc56)
              refine stepN hf rfl rfl rfl (fun a hf => ?_)
              refine stepN hf rfl rfl rfl (fun a hf => ?_)
              refine stq hf rfl rfl rfl (ex_pickT hf rfl rfl) (fun a hf => ?_)
              refine stq hf rfl rfl rfl (ex_move hf rfl) (fun a hf => ?_)
              refine stepN hf rfl rfl rfl (fun a hf => ?_)
              refine stepN hf rfl rfl rfl (fun a hf => ?_)
              refine stq hf rfl rfl rfl (ex_pickT hf rfl rfl) (fun a hf => ?_)
              refine stq hf rfl rfl rfl (ex_move hf rfl) (fun a hf => ?_)
              refine stepN hf rfl rfl rfl (fun a hf => ?_)
              refine stepN hf rfl rfl rfl (fun a hf => ?_)
              refine stq hf rfl rfl rfl (ex_pickT hf rfl rfl) (fun a hf => ?_)
              refine hK60 _ _ ?_
              replace hs := hs.keep (.k (.k (.k (.k (.d (.d (.d .nil)))))))
              have e55 := some_eq H; subst e55
              exact hJ55 _ _ ⟨hf.sub ⟨rfl, rfl, rfl, rfl, rfl, rfl, trivial⟩, hs⟩
          · obtain ⟨hf, hs⟩ := hJ
            replace H := HO55
            clear HO55
            refine cond_T hf rfl ?_
            refine seq_reg (fun K61 hK61 => ?_)
            refine stq hf rfl rfl rfl (ex_assign hf rfl) (fun a hf => ?_)
            refine hK61 _ _ ?_
            refine wp_ret ?_
            refine hR54 _ _ ?_
            have eR := some_eq H; subst eR
            replace hs := hs.keep (.d (.d (.d (.d .nil))))
            exact ret1 Try.results5 hf rfl ⟨_, rfl, ⟨rfl, hs⟩⟩
        | some c52 =>
          replace H := elim_s hps51 H
          refine region_k (fun K66 hK66 => ?_)
          refine stq hf rfl rfl rfl (ex_fieldAddrB fa_27_0 rfl hf rfl) (fun a hf => ?_)
          refine stq hf rfl rfl rfl (ex_load sc_22 hf rfl (bx_cell (hs.get (i := 4) rfl) _ rfl)) (fun a hf => ?_)
          refine stq hf rfl rfl rfl (ex_fieldAddrB fa_27_1 rfl hf rfl) (fun a hf => ?_)
          refine stq hf rfl rfl rfl (ex_load sc_23 hf rfl (bx_cell (hs.get (i := 4) rfl) _ rfl)) (fun a hf => ?_)
          refine stq hf rfl rfl rfl (ex_fieldAddrB fa_27_2 rfl hf rfl) (fun a hf => ?_)
          refine stq hf rfl rfl rfl (ex_load sc_2 hf rfl (bx_cell (hs.get (i := 4) rfl) _ rfl)) (fun a hf => ?_)
          refine stepF hf rfl rfl rfl (ex_call cf_13 hf rfl) (heat_New.calls k s10.1 s10.2.1 s10.2.2 v11 v12 (hs.enter (.k (.k (.k (.k (.k (.k (.k .nil)))))))) (Sr.own hs (.k (.k (.k (.k (.k (.k (.k .nil))))))) (i := 5) rfl osl_rsl (fun _ h => h.1) (Sr.own hs (.k (.k (.k (.k (.k (.k (.k .nil))))))) (i := 6) rfl osl_rsl (fun _ h => h.1) (Sr.nil _ _))) hs51) (fun v w hR a hf => ?_)
          obtain ⟨hc', _⟩ | ⟨cc, hc', b62, v63, v64, v65, rfl, hs'⟩ := hR
          case inl => rw [hps51] at hc'; cases hc'
          obtain rfl : c52 = cc := by rw [hps51] at hc'; exact Option.some.inj hc'
          replace hs := hs.step (.k (.k (.k (.k (.k (.k (.k .nil))))))) hs'
          clear hs'
          refine stq hf rfl rfl rfl (ex_move hf rfl) (fun a hf => ?_)
          refine stq hf rfl rfl rfl (ex_extract hf rfl rfl) (fun a hf => ?_)
          refine stq hf rfl rfl rfl (ex_extract hf rfl rfl) (fun a hf => ?_)
          refine stq hf rfl rfl rfl (ex_assign hf rfl) (fun a hf => ?_)
          refine stq hf rfl rfl rfl (ex_assign hf rfl) (fun a hf => ?_)
          refine hK66 _ _ ?_
          refine hN50 _ _ ?_
          refine seq_n (fun Q67 hN67 hR67 hX67 => ?_)
          refine bnd H (fun x68 H68 HO68 => ?_)
          clear H
          refine seq_cut (fun a w => Fr a 188 [(3, v3), (4, v4), (12, .int .i64 (s10.1.length : Int)), (13, .pointer (some ⟨b45, 0, none⟩)), (15, .pointer (some ⟨b62, 0, none⟩)), (79, .bool x68)] ∧ St M w0 w [bx b45 64 [v46, v47, .int .i64 c18.2.2.1, v48, .int .i64 c18.2.2.2.2], osl K_api_HeatDomain v46 c18.1, osl K_api_HeatLink v47 c18.2.1, osl K_int64 v48 c18.2.2.2.1, bx b62 64 [v63, v64, .int .i64 c52.2.2.1, v65, .int .i64 c52.2.2.2.2], osl K_api_HeatDomain v63 c52.1, osl K_api_HeatLink v64 c52.2.1, osl K_int64 v65 c52.2.2.2.1]) (fun Q68 hJ68 hR68 hX68 => ?_) (fun a w hJ => ?_)
          · replace H := H68
            refine itt H (fun hc69 H => ?_) (fun hc69 H => ?_)
            · -- s17.2 = 0
              refine itt H (fun hc70 H => ?_) (fun hc70 H => ?_)
              · -- s51.2 = 0
                refine region_k (fun K71 hK71 => ?_)
                refine stq hf rfl rfl rfl (ex_move hf rfl) (fun a hf => ?_)
                refine stq hf rfl rfl rfl (ex_neq hf rfl rfl) (fun a hf => ?_)
                refine stq hf rfl rfl rfl (ex_move hf rfl) (fun a hf => ?_)
                replace hf := hf.castB (t := 67) rfl (ndec_f hc69)
                replace hf := hf.castB (t := 68) rfl (ndec_f hc69)
                refine stq hf rfl rfl rfl (ex_move hf rfl) (fun a hf => ?_)
                refine stq hf rfl rfl rfl (ex_neq hf rfl rfl) (fun a hf => ?_)
                refine stq hf rfl rfl rfl (ex_pickF hf rfl rfl) (fun a hf => ?_)
                refine stq hf rfl rfl rfl (ex_move hf rfl) (fun a hf => ?_)
                replace hf := hf.castB (t := 70) rfl (ndec_f hc70)
                replace hf := hf.castB (t := 71) rfl (ndec_f hc70)
                replace hf := hf.castB (t := 72) rfl (ndec_f hc70)
                refine stq hf rfl rfl rfl (ex_move hf rfl) (fun a hf => ?_)
                refine stq hf rfl rfl rfl (ex_eqp Try.underlying29 hf rfl rfl) (fun a hf => ?_)
                refine stq hf rfl rfl rfl (ex_pickF hf rfl rfl) (fun a hf => ?_)
                refine stq hf rfl rfl rfl (ex_move hf rfl) (fun a hf => ?_)
                refine stq hf rfl rfl rfl (ex_move hf rfl) (fun a hf => ?_)
                refine stq hf rfl rfl rfl (ex_eqp Try.underlying29 hf rfl rfl) (fun a hf => ?_)
                refine stq hf rfl rfl rfl (ex_pickF hf rfl rfl) (fun a hf => ?_)
                refine hK71 _ _ ?_
                replace hs := hs.keep (.k (.k (.k (.k (.k (.k (.k (.k (.d (.d (.d .nil)))))))))))
                replace hs := hs.pick (.k (.k (.k (.c (.k (.k (.k (.k .nil))))))))
                replace hs := hs.pick (.k (.k (.k (.c (.k (.k (.k (.k .nil))))))))
                replace hs := hs.pick (.k (.k (.k (.c (.k (.k (.k (.k .nil))))))))
                replace hs := hs.pick (.k (.k (.k (.c (.k (.k (.k (.k .nil))))))))
                replace hs := hs.pick (.k (.k (.k (.k (.k (.k (.k (.c .nil))))))))
                replace hs := hs.pick (.k (.k (.k (.k (.k (.k (.k (.c .nil))))))))
                replace hs := hs.pick (.k (.k (.k (.k (.k (.k (.k (.c .nil))))))))
                replace hs := hs.pick (.k (.k (.k (.k (.k (.k (.k (.c .nil))))))))
                have e68 := some_eq H; subst e68
                exact hJ68 _ _ ⟨hf.sub ⟨rfl, rfl, rfl, rfl, rfl, rfl, trivial⟩, hs⟩
              · -- not s51.2 = 0
                refine region_k (fun K72 hK72 => ?_)
                refine stq hf rfl rfl rfl (ex_move hf rfl) (fun a hf => ?_)
                refine stq hf rfl rfl rfl (ex_neq hf rfl rfl) (fun a hf => ?_)
                refine stq hf rfl rfl rfl (ex_move hf rfl) (fun a hf => ?_)
                replace hf := hf.castB (t := 67) rfl (ndec_f hc69)
                replace hf := hf.castB (t := 68) rfl (ndec_f hc69)
                refine stq hf rfl rfl rfl (ex_move hf rfl) (fun a hf => ?_)
                refine stq hf rfl rfl rfl (ex_neq hf rfl rfl) (fun a hf => ?_)
                refine stq hf rfl rfl rfl (ex_pickF hf rfl rfl) (fun a hf => ?_)
                refine stq hf rfl rfl rfl (ex_move hf rfl) (fun a hf => ?_)
                replace hf := hf.castB (t := 70) rfl (ndec_t hc70)
                replace hf := hf.castB (t := 71) rfl (ndec_t hc70)
                replace hf := hf.castB (t := 72) rfl (ndec_t hc70)
                refine stepN hf rfl rfl rfl (fun a hf => ?_)
                refine stepN hf rfl rfl rfl (fun a hf => ?_)
                refine stq hf rfl rfl rfl (ex_pickT hf rfl rfl) (fun a hf => ?_)
                refine stq hf rfl rfl rfl (ex_move hf rfl) (fun a hf => ?_)
                refine stepN hf rfl rfl rfl (fun a hf => ?_)
                refine stepN hf rfl rfl rfl (fun a hf => ?_)
                refine stq hf rfl rfl rfl (ex_pickT hf rfl rfl) (fun a hf => ?_)
                refine hK72 _ _ ?_
                replace hs := hs.keep (.k (.k (.k (.k (.k (.k (.k (.k (.d (.d (.d .nil)))))))))))
                replace hs := hs.pick (.k (.k (.k (.c (.k (.k (.k (.k .nil))))))))
                replace hs := hs.pick (.k (.k (.k (.c (.k (.k (.k (.k .nil))))))))
                replace hs := hs.pick (.k (.k (.k (.c (.k (.k (.k (.k .nil))))))))
                replace hs := hs.pick (.k (.k (.k (.c (.k (.k (.k (.k .nil))))))))
                replace hs := hs.pick (.k (.k (.k (.k (.k (.k (.k (.c .nil))))))))
                replace hs := hs.pick (.k (.k (.k (.k (.k (.k (.k (.c .nil))))))))
                replace hs := hs.pick (.k (.k (.k (.k (.k (.k (.k (.c .nil))))))))
                replace hs := hs.pick (.k (.k (.k (.k (.k (.k (.k (.c .nil))))))))
                have e68 := some_eq H; subst e68
                exact hJ68 _ _ ⟨hf.sub ⟨rfl, rfl, rfl, rfl, rfl, rfl, trivial⟩, hs⟩
            · -- not s17.2 = 0
              refine region_k (fun K73 hK73 => ?_)
              refine stq hf rfl rfl rfl (ex_move hf rfl) (fun a hf => ?_)
              refine stq hf rfl rfl rfl (ex_neq hf rfl rfl) (fun a hf => ?_)
              refine stq hf rfl rfl rfl (ex_move hf rfl) (fun a hf => ?_)
              replace hf := hf.castB (t := 67) rfl (ndec_t hc69)
              replace hf := hf.castB (t := 68) rfl (ndec_t hc69)
              refine stepN hf rfl rfl rfl (fun a hf => ?_)
              refine stepN hf rfl rfl rfl (fun a hf => ?_)
              refine stq hf rfl rfl rfl (ex_pickT hf rfl rfl) (fun a hf => ?_)
              refine stq hf rfl rfl rfl (ex_move hf rfl) (fun a hf => ?_)
              refine stepN hf rfl rfl rfl (fun a hf => ?_)
              refine stepN hf rfl rfl rfl (fun a hf => ?_)
              refine stq hf rfl rfl rfl (ex_pickT hf rfl rfl) (fun a hf => ?_)
              refine stq hf rfl rfl rfl (ex_move hf rfl) (fun a hf => ?_)
              refine stepN hf rfl rfl rfl (fun a hf => ?_)
              refine stepN hf rfl rfl rfl (fun a hf => ?_)
              refine stq hf rfl rfl rfl (ex_pickT hf rfl rfl) (fun a hf => ?_)
              refine hK73 _ _ ?_
              replace hs := hs.keep (.k (.k (.k (.k (.k (.k (.k (.k (.d (.d (.d .nil)))))))))))
              replace hs := hs.pick (.k (.k (.k (.c (.k (.k (.k (.k .nil))))))))
              replace hs := hs.pick (.k (.k (.k (.c (.k (.k (.k (.k .nil))))))))
              replace hs := hs.pick (.k (.k (.k (.c (.k (.k (.k (.k .nil))))))))
              replace hs := hs.pick (.k (.k (.k (.c (.k (.k (.k (.k .nil))))))))
              replace hs := hs.pick (.k (.k (.k (.k (.k (.k (.k (.c .nil))))))))
              replace hs := hs.pick (.k (.k (.k (.k (.k (.k (.k (.c .nil))))))))
              replace hs := hs.pick (.k (.k (.k (.k (.k (.k (.k (.c .nil))))))))
              replace hs := hs.pick (.k (.k (.k (.k (.k (.k (.k (.c .nil))))))))
              have e68 := some_eq H; subst e68
              exact hJ68 _ _ ⟨hf.sub ⟨rfl, rfl, rfl, rfl, rfl, rfl, trivial⟩, hs⟩
          · obtain ⟨hf, hs⟩ := hJ
            replace H := HO68
            clear HO68
            refine itt H (fun hc74 H => ?_) (fun hc74 H => ?_)
            · -- x68 = true
              replace hf := hf.castB (t := 79) rfl hc74
              refine cond_T hf rfl ?_
              refine seq_reg (fun K75 hK75 => ?_)
              refine stq hf rfl rfl rfl (ex_assign hf rfl) (fun a hf => ?_)
              refine hK75 _ _ ?_
              refine wp_ret ?_
              refine hR67 _ _ ?_
              have eR := some_eq H; subst eR
              replace hs := hs.keep (.d (.d (.d (.d (.d (.d (.d (.d .nil))))))))
              exact ret1 Try.results5 hf rfl ⟨_, rfl, ⟨rfl, hs⟩⟩
            · -- not x68 = true
              replace hf := hf.castB (t := 79) rfl (bool_f hc74)
              refine cond_F hf rfl ?_
              refine wp_skip ?_
              refine hN67 _ _ ?_
              refine bnd H (fun x76 H76 HO76 => ?_)
              clear H
              refine seq_cut (fun a w => ∃ (v77 : Value) (v78 : Value), Fr a 188 [(4, v4), (12, .int .i64 (s10.1.length : Int)), (13, .pointer (some ⟨b45, 0, none⟩)), (15, .pointer (some ⟨b62, 0, none⟩))] ∧ St M w0 w [bx b45 64 [v46, v47, .int .i64 c18.2.2.1, v77, .int .i64 x76.2.1], osl K_api_HeatDomain v46 c18.1, osl K_api_HeatLink v47 c18.2.1, osl K_int64 v77 x76.1, bx b62 64 [v63, v64, .int .i64 c52.2.2.1, v78, .int .i64 x76.2.2.2], osl K_api_HeatDomain v63 c52.1, osl K_api_HeatLink v64 c52.2.1, osl K_int64 v78 x76.2.2.1]) (fun Q76 hJ76 hR76 hX76 => ?_) (fun a w hJ => ?_)
              · replace H := H76
                refine seq_reg (fun K79 hK79 => ?_)
                refine stq hf rfl rfl rfl (ex_assign hf rfl) (fun a hf => ?_)
                refine hK79 _ _ ?_
                refine block_k (fun Q80 hN80 hR80 hX80 hY80 => ?_)
                refine loop_k (fun n a w => ∃ (y83 : (List Int)) (y84 : Int) (y85 : (List Int)) (y86 : Int) (y87 : Int) (v81 : Value) (v82 : Value), Fr a 188 [(3, v3), (4, v4), (12, .int .i64 (s10.1.length : Int)), (13, .pointer (some ⟨b45, 0, none⟩)), (15, .pointer (some ⟨b62, 0, none⟩)), (17, .int .i64 y87)] ∧ St M w0 w [bx b45 64 [v46, v47, .int .i64 c18.2.2.1, v81, .int .i64 y84], osl K_api_HeatDomain v46 c18.1, osl K_api_HeatLink v47 c18.2.1, osl K_int64 v81 y83, bx b62 64 [v63, v64, .int .i64 c52.2.2.1, v82, .int .i64 y86], osl K_api_HeatDomain v63 c52.1, osl K_api_HeatLink v64 c52.2.1, osl K_int64 v82 y85] ∧ law38_HeatCopies.l1 n a3 s10 c18 c52 y83 y84 y85 y86 y87 = some x76) k ?_ (fun n89 a w hI Q89 hL89 hR89 hX89 => ?_)
                · -- at the start
                  exact ⟨c18.2.2.2.1, c18.2.2.2.2, c52.2.2.2.1, c52.2.2.2.2, 0, v48, v65, hf.sub ⟨rfl, rfl, rfl, rfl, rfl, rfl, trivial⟩, hs, H⟩
                · obtain ⟨y83, y84, y85, y86, y87, v81, v82, hf, hs, H⟩ := hI
                  cases n89 with
                  | zero => exact absurd H (by rw [law38_HeatCopies.l1.eq_1]; intro h; cases h)
                  | succ k89 =>
                    replace H := (law38_HeatCopies.l1.eq_2 ..).symm.trans H
                    refine seq_n (fun Q90 hN90 hR90 hX90 => ?_)
                    refine seq_reg (fun K91 hK91 => ?_)
                    refine stq hf rfl rfl rfl (ex_move hf rfl) (fun a hf => ?_)
                    refine stq hf rfl rfl rfl (ex_move hf rfl) (fun a hf => ?_)
                    refine stq hf rfl rfl rfl (ex_lenS Try.underlying24 (rsl2_isSl (hr.now hs (i := 2) rfl)) hf rfl) (fun a hf => ?_)
                    refine stq hf rfl rfl rfl (ex_lss hf rfl rfl) (fun a hf => ?_)
                    refine hK91 _ _ ?_
                    refine itt H (fun hc92 H => ?_) (fun hc92 H => ?_)
                    · -- y87 < (a3.length : Int)
                      replace hf := hf.castB (t := 83) rfl (dec_t hc92)
                      refine cond_T hf rfl ?_
                      refine wp_skip ?_
                      refine hN90 _ _ ?_
                      refine seq_n (fun Q93 hN93 hR93 hX93 => ?_)
                      refine block_k (fun Q94 hN94 hR94 hX94 hY94 => ?_)
                      refine ck_some H (fun hc95 H => ?_)
                      refine bnd H (fun s96 hs96 H => ?_)
                      refine bnd H (fun s98 hs98 H => ?_)
                      refine seq_reg (fun K101 hK101 => ?_)
                      refine stq hf rfl rfl rfl (ex_move hf rfl) (fun a hf => ?_)
                      refine stq hf rfl rfl rfl (ex_move hf rfl) (fun a hf => ?_)
                      refine stq hf rfl rfl rfl (ex_move hf rfl) (fun a hf => ?_)
                      refine stq hf rfl rfl rfl (ex_indexAddr sa_24 (rsl2_isSl (hr.now hs (i := 2) rfl)) hc95.1 hc95.2 hf rfl rfl) (fun a hf => ?_)
                      refine stq hf rfl rfl rfl (ex_load sc_35 hf rfl (rsl2_cell (hr.now hs (i := 2) rfl) hc95.1 hc95.2)) (fun a hf => ?_)
                      refine stq hf rfl rfl rfl (ex_move hf rfl) (fun a hf => ?_)
                      refine stepF hf rfl rfl rfl (ex_call cf_14 hf rfl) (law38_Powers.calls k89 (gd [] a3 y87) (s10.1.length : Int) 200 (vs3 y87.toNat) (hs.enter (.k (.k (.k (.k (.k (.k (.k (.k .nil))))))))) (Sr.old hr hs (.k (.k (.k (.k (.k (.k (.k (.k .nil)))))))) (i := 2) rfl (fun _ h => rsl2_rsl _ h hc95.1 hc95.2) (fun _ h => rsl2_fs hc95.1 hc95.2 h) (Sr.nil _ _)) hs96) (fun v w hR a hf => ?_)
                      obtain ⟨v97, rfl, hs'⟩ := hR
                      replace hs := hs.step (.k (.k (.k (.k (.k (.k (.k (.k .nil)))))))) hs'
                      clear hs'
                      refine stepF hf rfl rfl rfl (ex_call cf_15 hf rfl) (heat_Model_Step.calls k89 c18.1 c18.2.1 c18.2.2.1 y83 y84 s96 b45 v46 v47 v81 v97 (hs.enter (.k (.c (.k (.k (.c (.k (.k (.k (.k .nil)))))))))) (Sr.own hs (.k (.c (.k (.k (.c (.k (.k (.k (.k .nil))))))))) (i := 1) rfl osl_rsl (fun _ h => h.1) (Sr.own hs (.k (.c (.k (.k (.c (.k (.k (.k (.k .nil))))))))) (i := 2) rfl osl_rsl (fun _ h => h.1) (Sr.own hs (.k (.c (.k (.k (.c (.k (.k (.k (.k .nil))))))))) (i := 0) rfl osl_rsl (fun _ h => h.1) (Sr.nil _ _)))) hs98) (fun v w hR a hf => ?_)
                      obtain ⟨v99, v100, rfl, hs'⟩ := hR
                      replace hs := hs.step (.k (.c (.k (.k (.c (.k (.k (.k (.k .nil))))))))) hs'
                      clear hs'
                      refine hK101 _ _ ?_
                      refine bnd H (fun s102 hs102 H => ?_)
                      refine bnd H (fun s104 hs104 H => ?_)
                      refine region_k (fun K107 hK107 => ?_)
                      refine stq hf rfl rfl rfl (ex_move hf rfl) (fun a hf => ?_)
                      refine stq hf rfl rfl rfl (ex_move hf rfl) (fun a hf => ?_)
                      refine stq hf rfl rfl rfl (ex_move hf rfl) (fun a hf => ?_)
                      refine stq hf rfl rfl rfl (ex_indexAddr sa_24 (rsl2_isSl (hr.now hs (i := 2) rfl)) hc95.1 hc95.2 hf rfl rfl) (fun a hf => ?_)
                      refine stq hf rfl rfl rfl (ex_load sc_35 hf rfl (rsl2_cell (hr.now hs (i := 2) rfl) hc95.1 hc95.2)) (fun a hf => ?_)
                      refine stq hf rfl rfl rfl (ex_move hf rfl) (fun a hf => ?_)
                      refine stepF hf rfl rfl rfl (ex_call cf_14 hf rfl) (law38_Powers.calls k89 (gd [] a3 y87) (s10.1.length : Int) 200 (vs3 y87.toNat) (hs.enter (.k (.k (.k (.k (.k (.k (.k (.k (.k (.k .nil))))))))))) (Sr.old hr hs (.k (.k (.k (.k (.k (.k (.k (.k (.k (.k .nil)))))))))) (i := 2) rfl (fun _ h => rsl2_rsl _ h hc95.1 hc95.2) (fun _ h => rsl2_fs hc95.1 hc95.2 h) (Sr.nil _ _)) hs102) (fun v w hR a hf => ?_)
                      obtain ⟨v103, rfl, hs'⟩ := hR
                      replace hs := hs.step (.k (.k (.k (.k (.k (.k (.k (.k (.k (.k .nil)))))))))) hs'
                      clear hs'
                      refine stepF hf rfl rfl rfl (ex_call cf_15 hf rfl) (heat_Model_Step.calls k89 c52.1 c52.2.1 c52.2.2.1 y85 y86 s102 b62 v63 v64 v82 v103 (hs.enter (.k (.k (.k (.k (.k (.k (.k (.c (.k (.k (.c .nil)))))))))))) (Sr.own hs (.k (.k (.k (.k (.k (.k (.k (.c (.k (.k (.c .nil))))))))))) (i := 7) rfl osl_rsl (fun _ h => h.1) (Sr.own hs (.k (.k (.k (.k (.k (.k (.k (.c (.k (.k (.c .nil))))))))))) (i := 8) rfl osl_rsl (fun _ h => h.1) (Sr.own hs (.k (.k (.k (.k (.k (.k (.k (.c (.k (.k (.c .nil))))))))))) (i := 0) rfl osl_rsl (fun _ h => h.1) (Sr.nil _ _)))) hs104) (fun v w hR a hf => ?_)
                      obtain ⟨v105, v106, rfl, hs'⟩ := hR
                      replace hs := hs.step (.k (.k (.k (.k (.k (.k (.k (.c (.k (.k (.c .nil))))))))))) hs'
                      clear hs'
                      refine hK107 _ _ ?_
                      refine hN94 _ _ ?_
                      refine hN93 _ _ ?_
                      refine region_k (fun K108 hK108 => ?_)
                      refine stq hf rfl rfl rfl (ex_move hf rfl) (fun a hf => ?_)
                      refine stq hf rfl rfl rfl (ex_add hf rfl rfl) (fun a hf => ?_)
                      refine stq hf rfl rfl rfl (ex_assign hf rfl) (fun a hf => ?_)
                      refine hK108 _ _ ?_
                      replace hs := hs.keep (.k (.k (.d (.d (.k (.k (.d (.d (.k (.k (.k (.k .nil))))))))))))
                      replace hs := hs.pick (.k (.c (.k (.k (.k (.k (.k (.k .nil))))))))
                      replace hs := hs.pick (.k (.k (.k (.k (.k (.k (.k (.c .nil))))))))
                      replace hs := hs.pick (.k (.k (.k (.k (.k (.k (.k (.c .nil))))))))
                      replace hs := hs.pick (.k (.k (.k (.c (.k (.k (.k (.k .nil))))))))
                      replace hs := hs.pick (.k (.k (.k (.k (.k (.c (.k (.k .nil))))))))
                      replace hs := hs.pick (.k (.k (.k (.k (.k (.k (.k (.c .nil))))))))
                      replace hs := hs.pick (.k (.k (.k (.k (.k (.k (.k (.c .nil))))))))
                      replace hs := hs.pick (.k (.k (.k (.k (.k (.k (.k (.c .nil))))))))
                      exact hL89 k89 _ _ (Nat.lt_succ_self _) ⟨s98.2.1, s98.1, s104.2.1, s104.1, (IntKind.i64.wrap (y87 + 1)), v99, v105, hf.sub ⟨rfl, rfl, rfl, rfl, rfl, rfl, trivial⟩, hs, H⟩
                    · -- not y87 < (a3.length : Int)
                      replace hf := hf.castB (t := 83) rfl (dec_f hc92)
                      refine cond_F hf rfl ?_
                      refine wp_exit ?_
                      refine hX90 0 _ _ ?_
                      refine hX89 0 _ _ ?_
                      refine hX80 _ _ ?_
                      have e76 := some_eq H; subst e76
                      exact hJ76 _ _ ⟨v81, v82, hf.sub ⟨rfl, rfl, rfl, rfl, trivial⟩, hs⟩
              · obtain ⟨v77, v78, hf, hs⟩ := hJ
                replace H := HO76
                clear HO76
                refine bnd H (fun s109 hs109 H => ?_)
                refine seq_reg (fun K112 hK112 => ?_)
                refine stq hf rfl rfl rfl (ex_move hf rfl) (fun a hf => ?_)
                refine stepF hf rfl rfl rfl (ex_call cf_18 hf rfl) (heat_Model_Copy.calls k c18.1 c18.2.1 c18.2.2.1 x76.1 x76.2.1 b45 v46 v47 v77 (hs.enter (.k (.k (.k (.k (.k (.k (.k (.k .nil))))))))) (Sr.own hs (.k (.k (.k (.k (.k (.k (.k (.k .nil)))))))) (i := 0) rfl (fun _ h => h) (fun _ h => h) (Sr.own hs (.k (.k (.k (.k (.k (.k (.k (.k .nil)))))))) (i := 1) rfl osl_rsl (fun _ h => h.1) (Sr.own hs (.k (.k (.k (.k (.k (.k (.k (.k .nil)))))))) (i := 2) rfl osl_rsl (fun _ h => h.1) (Sr.own hs (.k (.k (.k (.k (.k (.k (.k (.k .nil)))))))) (i := 3) rfl osl_rsl (fun _ h => h.1) (Sr.nil _ _))))) hs109) (fun v w hR a hf => ?_)
                obtain ⟨b110, v111, rfl, hs'⟩ := hR
                replace hs := hs.step (.k (.k (.k (.k (.k (.k (.k (.k .nil)))))))) hs'
                clear hs'
                refine stq hf rfl rfl rfl (ex_assign hf rfl) (fun a hf => ?_)
                refine hK112 _ _ ?_
                refine seq_n (fun Q113 hN113 hR113 hX113 => ?_)
                refine seq_reg (fun K114 hK114 => ?_)
                refine stq hf rfl rfl rfl (ex_move hf rfl) (fun a hf => ?_)
                refine stq hf rfl rfl rfl (ex_eqp Try.underlying29 hf rfl rfl) (fun a hf => ?_)
                refine hK114 _ _ ?_
                refine cond_F hf rfl ?_
                refine wp_skip ?_
                refine hN113 _ _ ?_
                refine bnd H (fun x115 H115 HO115 => ?_)
                clear H
                refine seq_cut (fun a w => ∃ (x115s : (List Int) × Int × (List Int) × Int) (v116 : Value) (v117 : Value), x115 = .go x115s ∧ Fr a 188 [(4, v4), (12, .int .i64 (s10.1.length : Int)), (13, .pointer (some ⟨b45, 0, none⟩)), (15, .pointer (some ⟨b62, 0, none⟩)), (18, .pointer (some ⟨b110, 0, none⟩))] ∧ St M w0 w [bx b45 64 [v46, v47, .int .i64 c18.2.2.1, v77, .int .i64 x76.2.1], osl K_api_HeatDomain v46 c18.1, osl K_api_HeatLink v47 c18.2.1, osl K_int64 v77 x76.1, bx b62 64 [v63, v64, .int .i64 c52.2.2.1, v116, .int .i64 x115s.2.1], osl K_api_HeatDomain v63 c52.1, osl K_api_HeatLink v64 c52.2.1, osl K_int64 v116 x115s.1, bx b110 64 [v46, v47, .int .i64 s109.1, v117, .int .i64 x115s.2.2.2], osl K_int64 v117 x115s.2.2.1]) (fun Q115 hJ115 hR115 hX115 => ?_) (fun a w hJ => ?_)
                · replace H := H115
                  refine seq_reg (fun K118 hK118 => ?_)
                  refine stq hf rfl rfl rfl (ex_assign hf rfl) (fun a hf => ?_)
                  refine hK118 _ _ ?_
                  refine block_k (fun Q119 hN119 hR119 hX119 hY119 => ?_)
                  refine loop_k (fun n a w => ∃ (y122 : (List Int)) (y123 : Int) (y124 : (List Int)) (y125 : Int) (y126 : Int) (v120 : Value) (v121 : Value), Fr a 188 [(4, v4), (12, .int .i64 (s10.1.length : Int)), (13, .pointer (some ⟨b45, 0, none⟩)), (15, .pointer (some ⟨b62, 0, none⟩)), (18, .pointer (some ⟨b110, 0, none⟩)), (19, .int .i64 y126)] ∧ St M w0 w [bx b45 64 [v46, v47, .int .i64 c18.2.2.1, v77, .int .i64 x76.2.1], osl K_api_HeatDomain v46 c18.1, osl K_api_HeatLink v47 c18.2.1, osl K_int64 v77 x76.1, bx b62 64 [v63, v64, .int .i64 c52.2.2.1, v120, .int .i64 y123], osl K_api_HeatDomain v63 c52.1, osl K_api_HeatLink v64 c52.2.1, osl K_int64 v120 y122, bx b110 64 [v46, v47, .int .i64 s109.1, v121, .int .i64 y125], osl K_int64 v121 y124] ∧ law38_HeatCopies.l2 n a4 s10 c18 s109 c52 y122 y123 y124 y125 y126 = some x115) k ?_ (fun n128 a w hI Q128 hL128 hR128 hX128 => ?_)
                  · -- at the start
                    replace hs := hs.pick (.k (.c (.k (.k (.k (.k (.k (.k (.k (.k .nil))))))))))
                    replace hs := hs.pick (.k (.c (.k (.k (.k (.k (.k (.k (.k (.k .nil))))))))))
                    replace hs := hs.pick (.k (.k (.k (.k (.k (.k (.k (.k (.k (.c .nil))))))))))
                    replace hs := hs.pick (.k (.k (.k (.k (.k (.k (.k (.k (.k (.c .nil))))))))))
                    replace hs := hs.pick (.k (.k (.k (.k (.k (.k (.k (.k (.k (.c .nil))))))))))
                    replace hs := hs.pick (.k (.k (.k (.k (.k (.k (.k (.k (.k (.c .nil))))))))))
                    replace hs := hs.pick (.k (.k (.k (.k (.k (.k (.k (.k (.k (.c .nil))))))))))
                    replace hs := hs.pick (.k (.k (.k (.k (.k (.k (.k (.k (.k (.c .nil))))))))))
                    replace hs := hs.pick (.k (.k (.k (.k (.k (.k (.k (.k (.k (.c .nil))))))))))
                    replace hs := hs.pick (.k (.k (.k (.k (.k (.k (.k (.k (.k (.c .nil))))))))))
                    exact ⟨x76.2.2.1, x76.2.2.2, s109.2.1, s109.2.2, 0, v78, v111, hf.sub ⟨rfl, rfl, rfl, rfl, rfl, rfl, trivial⟩, hs, H⟩
                  · obtain ⟨y122, y123, y124, y125, y126, v120, v121, hf, hs, H⟩ := hI
                    cases n128 with
                    | zero => exact absurd H (by rw [law38_HeatCopies.l2.eq_1]; intro h; cases h)
                    | succ k128 =>
                      replace H := (law38_HeatCopies.l2.eq_2 ..).symm.trans H
                      refine seq_n (fun Q129 hN129 hR129 hX129 => ?_)
                      refine seq_reg (fun K130 hK130 => ?_)
                      refine stq hf rfl rfl rfl (ex_move hf rfl) (fun a hf => ?_)
                      refine stq hf rfl rfl rfl (ex_move hf rfl) (fun a hf => ?_)
                      refine stq hf rfl rfl rfl (ex_lenS Try.underlying24 (rsl2_isSl (hr.now hs (i := 3) rfl)) hf rfl) (fun a hf => ?_)
                      refine stq hf rfl rfl rfl (ex_lss hf rfl rfl) (fun a hf => ?_)
                      refine hK130 _ _ ?_
                      refine itt H (fun hc131 H => ?_) (fun hc131 H => ?_)
                      · -- y126 < (a4.length : Int)
                        replace hf := hf.castB (t := 109) rfl (dec_t hc131)
                        refine cond_T hf rfl ?_
                        refine wp_skip ?_
                        refine hN129 _ _ ?_
                        refine seq_n (fun Q132 hN132 hR132 hX132 => ?_)
                        refine block_k (fun Q133 hN133 hR133 hX133 hY133 => ?_)
                        refine ck_some H (fun hc134 H => ?_)
                        refine bnd H (fun s135 hs135 H => ?_)
                        refine seq_reg (fun K137 hK137 => ?_)
                        refine stq hf rfl rfl rfl (ex_move hf rfl) (fun a hf => ?_)
                        refine stq hf rfl rfl rfl (ex_move hf rfl) (fun a hf => ?_)
                        refine stq hf rfl rfl rfl (ex_indexAddr sa_24 (rsl2_isSl (hr.now hs (i := 3) rfl)) hc134.1 hc134.2 hf rfl rfl) (fun a hf => ?_)
                        refine stq hf rfl rfl rfl (ex_load sc_35 hf rfl (rsl2_cell (hr.now hs (i := 3) rfl) hc134.1 hc134.2)) (fun a hf => ?_)
                        refine stq hf rfl rfl rfl (ex_move hf rfl) (fun a hf => ?_)
                        refine stepF hf rfl rfl rfl (ex_call cf_14 hf rfl) (law38_Powers.calls k128 (gd [] a4 y126) (s10.1.length : Int) 200 (vs4 y126.toNat) (hs.enter (.k (.k (.k (.k (.k (.k (.k (.k (.k (.k .nil))))))))))) (Sr.old hr hs (.k (.k (.k (.k (.k (.k (.k (.k (.k (.k .nil)))))))))) (i := 3) rfl (fun _ h => rsl2_rsl _ h hc134.1 hc134.2) (fun _ h => rsl2_fs hc134.1 hc134.2 h) (Sr.nil _ _)) hs135) (fun v w hR a hf => ?_)
                        obtain ⟨v136, rfl, hs'⟩ := hR
                        replace hs := hs.step (.k (.k (.k (.k (.k (.k (.k (.k (.k (.k .nil)))))))))) hs'
                        clear hs'
                        refine stq hf rfl rfl rfl (ex_assign hf rfl) (fun a hf => ?_)
                        refine hK137 _ _ ?_
                        refine bnd H (fun s138 hs138 H => ?_)
                        refine seq_reg (fun K141 hK141 => ?_)
                        refine stq hf rfl rfl rfl (ex_move hf rfl) (fun a hf => ?_)
                        refine stq hf rfl rfl rfl (ex_move hf rfl) (fun a hf => ?_)
                        refine stepF hf rfl rfl rfl (ex_call cf_15 hf rfl) (heat_Model_Step.calls k128 c18.1 c18.2.1 s109.1 y124 y125 s135 b110 v46 v47 v121 v136 (hs.enter (.k (.k (.k (.k (.k (.k (.k (.k (.k (.c (.c .nil)))))))))))) (Sr.own hs (.k (.k (.k (.k (.k (.k (.k (.k (.k (.c (.c .nil))))))))))) (i := 2) rfl osl_rsl (fun _ h => h.1) (Sr.own hs (.k (.k (.k (.k (.k (.k (.k (.k (.k (.c (.c .nil))))))))))) (i := 3) rfl osl_rsl (fun _ h => h.1) (Sr.own hs (.k (.k (.k (.k (.k (.k (.k (.k (.k (.c (.c .nil))))))))))) (i := 0) rfl osl_rsl (fun _ h => h.1) (Sr.nil _ _)))) hs138) (fun v w hR a hf => ?_)
                        obtain ⟨v139, v140, rfl, hs'⟩ := hR
                        replace hs := hs.step (.k (.k (.k (.k (.k (.k (.k (.k (.k (.c (.c .nil))))))))))) hs'
                        clear hs'
                        refine stq hf rfl rfl rfl (ex_move hf rfl) (fun a hf => ?_)
                        refine stq hf rfl rfl rfl (ex_extract hf rfl rfl) (fun a hf => ?_)
                        refine stq hf rfl rfl rfl (ex_extract hf rfl rfl) (fun a hf => ?_)
                        refine stq hf rfl rfl rfl (ex_assign hf rfl) (fun a hf => ?_)
                        refine stq hf rfl rfl rfl (ex_assign hf rfl) (fun a hf => ?_)
                        refine hK141 _ _ ?_
                        refine bnd H (fun s142 hs142 H => ?_)
                        refine seq_reg (fun K145 hK145 => ?_)
                        refine stq hf rfl rfl rfl (ex_move hf rfl) (fun a hf => ?_)
                        refine stq hf rfl rfl rfl (ex_move hf rfl) (fun a hf => ?_)
                        refine stepF hf rfl rfl rfl (ex_call cf_15 hf rfl) (heat_Model_Step.calls k128 c52.1 c52.2.1 c52.2.2.1 y122 y123 s135 b62 v63 v64 v120 v136 (hs.enter (.k (.k (.k (.k (.k (.k (.k (.k (.c (.k (.k (.c .nil))))))))))))) (Sr.own hs (.k (.k (.k (.k (.k (.k (.k (.k (.c (.k (.k (.c .nil)))))))))))) (i := 8) rfl osl_rsl (fun _ h => h.1) (Sr.own hs (.k (.k (.k (.k (.k (.k (.k (.k (.c (.k (.k (.c .nil)))))))))))) (i := 9) rfl osl_rsl (fun _ h => h.1) (Sr.own hs (.k (.k (.k (.k (.k (.k (.k (.k (.c (.k (.k (.c .nil)))))))))))) (i := 3) rfl osl_rsl (fun _ h => h.1) (Sr.nil _ _)))) hs142) (fun v w hR a hf => ?_)
                        obtain ⟨v143, v144, rfl, hs'⟩ := hR
                        replace hs := hs.step (.k (.k (.k (.k (.k (.k (.k (.k (.c (.k (.k (.c .nil)))))))))))) hs'
                        clear hs'
                        refine stq hf rfl rfl rfl (ex_move hf rfl) (fun a hf => ?_)
                        refine stq hf rfl rfl rfl (ex_extract hf rfl rfl) (fun a hf => ?_)
                        refine stq hf rfl rfl rfl (ex_extract hf rfl rfl) (fun a hf => ?_)
                        refine stq hf rfl rfl rfl (ex_assign hf rfl) (fun a hf => ?_)
                        refine stq hf rfl rfl rfl (ex_assign hf rfl) (fun a hf => ?_)
                        refine hK145 _ _ ?_
                        refine bnd H (fun x146 H146 HO146 => ?_)
                        clear H
                        refine seq_cut (fun a w => Fr a 188 [(4, v4), (12, .int .i64 (s10.1.length : Int)), (13, .pointer (some ⟨b45, 0, none⟩)), (15, .pointer (some ⟨b62, 0, none⟩)), (18, .pointer (some ⟨b110, 0, none⟩)), (19, .int .i64 y126), (138, .bool x146)] ∧ St M w0 w [bx b45 64 [v46, v47, .int .i64 c18.2.2.1, v77, .int .i64 x76.2.1], osl K_api_HeatDomain v46 c18.1, osl K_api_HeatLink v47 c18.2.1, osl K_int64 v77 x76.1, bx b62 64 [v63, v64, .int .i64 c52.2.2.1, v143, .int .i64 s142.1], osl K_api_HeatDomain v63 c52.1, osl K_api_HeatLink v64 c52.2.1, osl K_int64 v143 s142.2.1, bx b110 64 [v46, v47, .int .i64 s109.1, v139, .int .i64 s138.1], osl K_int64 v139 s138.2.1]) (fun Q146 hJ146 hR146 hX146 => ?_) (fun a w hJ => ?_)
                        · replace H := H146
                          refine itt H (fun hc147 H => ?_) (fun hc147 H => ?_)
                          · -- s138.2.2.2 = s142.2.2.2
                            refine bnd H (fun s148 hs148 H => ?_)
                            refine region_k (fun K149 hK149 => ?_)
                            refine stq hf rfl rfl rfl (ex_move hf rfl) (fun a hf => ?_)
                            refine stq hf rfl rfl rfl (ex_move hf rfl) (fun a hf => ?_)
                            refine stq hf rfl rfl rfl (ex_neq hf rfl rfl) (fun a hf => ?_)
                            refine stq hf rfl rfl rfl (ex_move hf rfl) (fun a hf => ?_)
                            replace hf := hf.castB (t := 132) rfl (ndec_f hc147)
                            replace hf := hf.castB (t := 133) rfl (ndec_f hc147)
                            refine stq hf rfl rfl rfl (ex_move hf rfl) (fun a hf => ?_)
                            refine stq hf rfl rfl rfl (ex_move hf rfl) (fun a hf => ?_)
                            refine stepF hf rfl rfl rfl (ex_call cf_19 hf rfl) (help_Equal_int64.calls k128 s138.2.2.1 s142.2.2.1 v140 v144 (hs.enter (.k (.k (.k (.k (.k (.k (.k (.k (.k (.k (.k (.k (.k .nil)))))))))))))) (Sr.own hs (.k (.k (.k (.k (.k (.k (.k (.k (.k (.k (.k (.k (.k .nil))))))))))))) (i := 5) rfl osl_rsl (fun _ h => h.1) (Sr.own hs (.k (.k (.k (.k (.k (.k (.k (.k (.k (.k (.k (.k (.k .nil))))))))))))) (i := 2) rfl osl_rsl (fun _ h => h.1) (Sr.nil _ _))) hs148) (fun v w hR a hf => ?_)
                            obtain ⟨rfl, hs'⟩ := hR
                            replace hs := hs.step (.k (.k (.k (.k (.k (.k (.k (.k (.k (.k (.k (.k (.k .nil))))))))))))) hs'
                            clear hs'
                            refine stq hf rfl rfl rfl (ex_not hf rfl) (fun a hf => ?_)
                            refine stq hf rfl rfl rfl (ex_pickF hf rfl rfl) (fun a hf => ?_)
                            refine hK149 _ _ ?_
                            replace hs := hs.keep (.k (.k (.d (.k (.k (.d (.d (.k (.k (.k (.k (.k (.k .nil)))))))))))))
                            replace hs := hs.pick (.k (.k (.k (.c (.k (.k (.k (.k (.k (.k .nil))))))))))
                            replace hs := hs.pick (.k (.k (.k (.c (.k (.k (.k (.k (.k (.k .nil))))))))))
                            replace hs := hs.pick (.k (.k (.k (.c (.k (.k (.k (.k (.k (.k .nil))))))))))
                            replace hs := hs.pick (.k (.k (.k (.k (.k (.k (.k (.k (.k (.c .nil))))))))))
                            replace hs := hs.pick (.k (.k (.k (.k (.k (.k (.k (.k (.k (.c .nil))))))))))
                            replace hs := hs.pick (.k (.k (.k (.k (.k (.c (.k (.k (.k (.k .nil))))))))))
                            replace hs := hs.pick (.k (.k (.k (.k (.k (.k (.k (.k (.k (.c .nil))))))))))
                            replace hs := hs.pick (.k (.k (.k (.k (.k (.k (.k (.k (.k (.c .nil))))))))))
                            replace hs := hs.pick (.k (.k (.k (.k (.k (.k (.k (.k (.k (.c .nil))))))))))
                            replace hs := hs.pick (.k (.k (.k (.k (.k (.k (.k (.k (.k (.c .nil))))))))))
                            have e146 := some_eq H; subst e146
                            exact hJ146 _ _ ⟨hf.sub ⟨rfl, rfl, rfl, rfl, rfl, rfl, rfl, trivial⟩, hs⟩
                          · -- not s138.2.2.2 = s142.2.2.2
                            refine region_k (fun K150 hK150 => ?_)
                            refine stq hf rfl rfl rfl (ex_move hf rfl) (fun a hf => ?_)
                            refine stq hf rfl rfl rfl (ex_move hf rfl) (fun a hf => ?_)
                            refine stq hf rfl rfl rfl (ex_neq hf rfl rfl) (fun a hf => ?_)
                            refine stq hf rfl rfl rfl (ex_move hf rfl) (fun a hf => ?_)
                            replace hf := hf.castB (t := 132) rfl (ndec_t hc147)
                            replace hf := hf.castB (t := 133) rfl (ndec_t hc147)
                            refine stepN hf rfl rfl rfl (fun a hf => ?_)
                            refine stepN hf rfl rfl rfl (fun a hf => ?_)
                            refine stepN hf rfl rfl rfl (fun a hf => ?_)
                            refine stepN hf rfl rfl rfl (fun a hf => ?_)
                            refine stq hf rfl rfl rfl (ex_pickT hf rfl rfl) (fun a hf => ?_)
                            refine hK150 _ _ ?_
                            replace hs := hs.keep (.k (.k (.d (.k (.k (.d (.d (.k (.k (.k (.k (.k (.k .nil)))))))))))))
                            replace hs := hs.pick (.k (.k (.k (.c (.k (.k (.k (.k (.k (.k .nil))))))))))
                            replace hs := hs.pick (.k (.k (.k (.c (.k (.k (.k (.k (.k (.k .nil))))))))))
                            replace hs := hs.pick (.k (.k (.k (.c (.k (.k (.k (.k (.k (.k .nil))))))))))
                            replace hs := hs.pick (.k (.k (.k (.k (.k (.k (.k (.k (.k (.c .nil))))))))))
                            replace hs := hs.pick (.k (.k (.k (.k (.k (.k (.k (.k (.k (.c .nil))))))))))
                            replace hs := hs.pick (.k (.k (.k (.k (.k (.c (.k (.k (.k (.k .nil))))))))))
                            replace hs := hs.pick (.k (.k (.k (.k (.k (.k (.k (.k (.k (.c .nil))))))))))
                            replace hs := hs.pick (.k (.k (.k (.k (.k (.k (.k (.k (.k (.c .nil))))))))))
                            replace hs := hs.pick (.k (.k (.k (.k (.k (.k (.k (.k (.k (.c .nil))))))))))
                            replace hs := hs.pick (.k (.k (.k (.k (.k (.k (.k (.k (.k (.c .nil))))))))))
                            have e146 := some_eq H; subst e146
                            exact hJ146 _ _ ⟨hf.sub ⟨rfl, rfl, rfl, rfl, rfl, rfl, rfl, trivial⟩, hs⟩
                        · obtain ⟨hf, hs⟩ := hJ
                          replace H := HO146
                          clear HO146
                          refine itt H (fun hc151 H => ?_) (fun hc151 H => ?_)
                          · -- x146 = true
                            replace hf := hf.castB (t := 138) rfl hc151
                            refine cond_T hf rfl ?_
                            refine seq_reg (fun K152 hK152 => ?_)
                            refine stq hf rfl rfl rfl (ex_assign hf rfl) (fun a hf => ?_)
                            refine hK152 _ _ ?_
                            refine wp_ret ?_
                            refine hR133 _ _ ?_
                            refine hR132 _ _ ?_
                            refine hR128 _ _ ?_
                            refine hR119 _ _ ?_
                            have e115 := some_eq H; subst e115; replace H := el_rt HO115
                            refine hR115 _ _ ?_
                            have eR := some_eq H; subst eR
                            replace hs := hs.keep (.d (.d (.d (.d (.d (.d (.d (.d (.d (.d .nil))))))))))
                            exact ret1 Try.results5 hf rfl ⟨_, rfl, ⟨rfl, hs⟩⟩
                          · -- not x146 = true
                            replace hf := hf.castB (t := 138) rfl (bool_f hc151)
                            refine cond_F hf rfl ?_
                            refine wp_skip ?_
                            refine hN133 _ _ ?_
                            refine hN132 _ _ ?_
                            refine region_k (fun K153 hK153 => ?_)
                            refine stq hf rfl rfl rfl (ex_move hf rfl) (fun a hf => ?_)
                            refine stq hf rfl rfl rfl (ex_add hf rfl rfl) (fun a hf => ?_)
                            refine stq hf rfl rfl rfl (ex_assign hf rfl) (fun a hf => ?_)
                            refine hK153 _ _ ?_
                            exact hL128 k128 _ _ (Nat.lt_succ_self _) ⟨s142.2.1, s142.1, s138.2.1, s138.1, (IntKind.i64.wrap (y126 + 1)), v143, v139, hf.sub ⟨rfl, rfl, rfl, rfl, rfl, rfl, trivial⟩, hs, H⟩
                      · -- not y126 < (a4.length : Int)
                        replace hf := hf.castB (t := 109) rfl (dec_f hc131)
                        refine cond_F hf rfl ?_
                        refine wp_exit ?_
                        refine hX129 2 _ _ ?_
                        refine hX128 2 _ _ ?_
                        refine hX119 _ _ ?_
                        have e115 := some_eq H; subst e115
                        exact hJ115 _ _ ⟨_, v120, v121, rfl, hf.sub ⟨rfl, rfl, rfl, rfl, rfl, trivial⟩, hs⟩
                · obtain ⟨x115s, v116, v117, rfl, hf, hs⟩ := hJ
                  replace H := el_go HO115
                  clear HO115
                  refine bnd H (fun x154 H154 HO154 => ?_)
                  clear H
                  refine seq_cut (fun a w => ∃ (x154s : (List Int) × Int) (v155 : Value), x154 = .go x154s ∧ Fr a 188 [(12, .int .i64 (s10.1.length : Int)), (13, .pointer (some ⟨b45, 0, none⟩)), (15, .pointer (some ⟨b62, 0, none⟩)), (18, .pointer (some ⟨b110, 0, none⟩))] ∧ St M w0 w [bx b45 64 [v46, v47, .int .i64 c18.2.2.1, v155, .int .i64 x154s.2], osl K_api_HeatDomain v46 c18.1, osl K_api_HeatLink v47 c18.2.1, osl K_int64 v155 x154s.1, bx b62 64 [v63, v64, .int .i64 c52.2.2.1, v116, .int .i64 x115s.2.1], osl K_api_HeatDomain v63 c52.1, osl K_api_HeatLink v64 c52.2.1, osl K_int64 v116 x115s.1, bx b110 64 [v46, v47, .int .i64 s109.1, v117, .int .i64 x115s.2.2.2], osl K_int64 v117 x115s.2.2.1]) (fun Q154 hJ154 hR154 hX154 => ?_) (fun a w hJ => ?_)
                  · replace H := H154
                    refine seq_reg (fun K156 hK156 => ?_)
                    refine stq hf rfl rfl rfl (ex_assign hf rfl) (fun a hf => ?_)
                    refine hK156 _ _ ?_
                    refine block_k (fun Q157 hN157 hR157 hX157 hY157 => ?_)
                    refine loop_k (fun n a w => ∃ (y159 : (List Int)) (y160 : Int) (y161 : Int) (v158 : Value), Fr a 188 [(4, v4), (12, .int .i64 (s10.1.length : Int)), (13, .pointer (some ⟨b45, 0, none⟩)), (15, .pointer (some ⟨b62, 0, none⟩)), (18, .pointer (some ⟨b110, 0, none⟩)), (25, .int .i64 y161)] ∧ St M w0 w [bx b45 64 [v46, v47, .int .i64 c18.2.2.1, v158, .int .i64 y160], osl K_api_HeatDomain v46 c18.1, osl K_api_HeatLink v47 c18.2.1, osl K_int64 v158 y159, bx b62 64 [v63, v64, .int .i64 c52.2.2.1, v116, .int .i64 x115s.2.1], osl K_api_HeatDomain v63 c52.1, osl K_api_HeatLink v64 c52.2.1, osl K_int64 v116 x115s.1, bx b110 64 [v46, v47, .int .i64 s109.1, v117, .int .i64 x115s.2.2.2], osl K_int64 v117 x115s.2.2.1] ∧ law38_HeatCopies.l3 n a4 s10 c18 y159 y160 y161 = some x154) k ?_ (fun n163 a w hI Q163 hL163 hR163 hX163 => ?_)
                    · -- at the start
                      exact ⟨x76.1, x76.2.1, 0, v77, hf.sub ⟨rfl, rfl, rfl, rfl, rfl, rfl, trivial⟩, hs, H⟩
                    · obtain ⟨y159, y160, y161, v158, hf, hs, H⟩ := hI
                      cases n163 with
                      | zero => exact absurd H (by rw [law38_HeatCopies.l3.eq_1]; intro h; cases h)
                      | succ k163 =>
                        replace H := (law38_HeatCopies.l3.eq_2 ..).symm.trans H
                        refine seq_n (fun Q164 hN164 hR164 hX164 => ?_)
                        refine seq_reg (fun K165 hK165 => ?_)
                        refine stq hf rfl rfl rfl (ex_move hf rfl) (fun a hf => ?_)
                        refine stq hf rfl rfl rfl (ex_move hf rfl) (fun a hf => ?_)
                        refine stq hf rfl rfl rfl (ex_lenS Try.underlying24 (rsl2_isSl (hr.now hs (i := 3) rfl)) hf rfl) (fun a hf => ?_)
                        refine stq hf rfl rfl rfl (ex_lss hf rfl rfl) (fun a hf => ?_)
                        refine hK165 _ _ ?_
                        refine itt H (fun hc166 H => ?_) (fun hc166 H => ?_)
                        · -- y161 < (a4.length : Int)
                          replace hf := hf.castB (t := 142) rfl (dec_t hc166)
                          refine cond_T hf rfl ?_
                          refine wp_skip ?_
                          refine hN164 _ _ ?_
                          refine seq_n (fun Q167 hN167 hR167 hX167 => ?_)
                          refine block_k (fun Q168 hN168 hR168 hX168 hY168 => ?_)
                          refine ck_some H (fun hc169 H => ?_)
                          refine bnd H (fun s170 hs170 H => ?_)
                          refine seq_reg (fun K172 hK172 => ?_)
                          refine stq hf rfl rfl rfl (ex_move hf rfl) (fun a hf => ?_)
                          refine stq hf rfl rfl rfl (ex_move hf rfl) (fun a hf => ?_)
                          refine stq hf rfl rfl rfl (ex_indexAddr sa_24 (rsl2_isSl (hr.now hs (i := 3) rfl)) hc169.1 hc169.2 hf rfl rfl) (fun a hf => ?_)
                          refine stq hf rfl rfl rfl (ex_load sc_35 hf rfl (rsl2_cell (hr.now hs (i := 3) rfl) hc169.1 hc169.2)) (fun a hf => ?_)
                          refine stq hf rfl rfl rfl (ex_move hf rfl) (fun a hf => ?_)
                          refine stepF hf rfl rfl rfl (ex_call cf_14 hf rfl) (law38_Powers.calls k163 (gd [] a4 y161) (s10.1.length : Int) 200 (vs4 y161.toNat) (hs.enter (.k (.k (.k (.k (.k (.k (.k (.k (.k (.k .nil))))))))))) (Sr.old hr hs (.k (.k (.k (.k (.k (.k (.k (.k (.k (.k .nil)))))))))) (i := 3) rfl (fun _ h => rsl2_rsl _ h hc169.1 hc169.2) (fun _ h => rsl2_fs hc169.1 hc169.2 h) (Sr.nil _ _)) hs170) (fun v w hR a hf => ?_)
                          obtain ⟨v171, rfl, hs'⟩ := hR
                          replace hs := hs.step (.k (.k (.k (.k (.k (.k (.k (.k (.k (.k .nil)))))))))) hs'
                          clear hs'
                          refine stq hf rfl rfl rfl (ex_assign hf rfl) (fun a hf => ?_)
                          refine hK172 _ _ ?_
                          refine bnd H (fun s173 hs173 H => ?_)
                          refine seq_reg (fun K176 hK176 => ?_)
                          refine stq hf rfl rfl rfl (ex_move hf rfl) (fun a hf => ?_)
                          refine stq hf rfl rfl rfl (ex_move hf rfl) (fun a hf => ?_)
                          refine stepF hf rfl rfl rfl (ex_call cf_15 hf rfl) (heat_Model_Step.calls k163 c18.1 c18.2.1 c18.2.2.1 y159 y160 s170 b45 v46 v47 v158 v171 (hs.enter (.k (.c (.k (.k (.c (.k (.k (.k (.k (.k (.k .nil)))))))))))) (Sr.own hs (.k (.c (.k (.k (.c (.k (.k (.k (.k (.k (.k .nil))))))))))) (i := 1) rfl osl_rsl (fun _ h => h.1) (Sr.own hs (.k (.c (.k (.k (.c (.k (.k (.k (.k (.k (.k .nil))))))))))) (i := 2) rfl osl_rsl (fun _ h => h.1) (Sr.own hs (.k (.c (.k (.k (.c (.k (.k (.k (.k (.k (.k .nil))))))))))) (i := 0) rfl osl_rsl (fun _ h => h.1) (Sr.nil _ _)))) hs173) (fun v w hR a hf => ?_)
                          obtain ⟨v174, v175, rfl, hs'⟩ := hR
                          replace hs := hs.step (.k (.c (.k (.k (.c (.k (.k (.k (.k (.k (.k .nil))))))))))) hs'
                          clear hs'
                          refine stq hf rfl rfl rfl (ex_move hf rfl) (fun a hf => ?_)
                          refine stq hf rfl rfl rfl (ex_extract hf rfl rfl) (fun a hf => ?_)
                          refine stq hf rfl rfl rfl (ex_extract hf rfl rfl) (fun a hf => ?_)
                          refine stq hf rfl rfl rfl (ex_assign hf rfl) (fun a hf => ?_)
                          refine stq hf rfl rfl rfl (ex_assign hf rfl) (fun a hf => ?_)
                          refine hK176 _ _ ?_
                          refine seq_reg (fun K177 hK177 => ?_)
                          refine stq hf rfl rfl rfl (ex_move hf rfl) (fun a hf => ?_)
                          refine stq hf rfl rfl rfl (ex_neq hf rfl rfl) (fun a hf => ?_)
                          refine hK177 _ _ ?_
                          refine itt H (fun hc178 H => ?_) (fun hc178 H => ?_)
                          · -- s173.2.2.2 = 0
                            replace hf := hf.castB (t := 158) rfl (ndec_f hc178)
                            refine cond_F hf rfl ?_
                            refine wp_skip ?_
                            refine hN168 _ _ ?_
                            refine hN167 _ _ ?_
                            refine region_k (fun K179 hK179 => ?_)
                            refine stq hf rfl rfl rfl (ex_move hf rfl) (fun a hf => ?_)
                            refine stq hf rfl rfl rfl (ex_add hf rfl rfl) (fun a hf => ?_)
                            refine stq hf rfl rfl rfl (ex_assign hf rfl) (fun a hf => ?_)
                            refine hK179 _ _ ?_
                            replace hs := hs.keep (.k (.k (.d (.d (.k (.k (.k (.k (.k (.k (.k (.k .nil))))))))))))
                            replace hs := hs.pick (.k (.k (.k (.k (.k (.k (.k (.k (.k (.c .nil))))))))))
                            replace hs := hs.pick (.k (.k (.k (.k (.k (.k (.k (.k (.k (.c .nil))))))))))
                            replace hs := hs.pick (.k (.k (.k (.k (.k (.k (.k (.k (.k (.c .nil))))))))))
                            replace hs := hs.pick (.k (.k (.k (.k (.k (.k (.k (.k (.k (.c .nil))))))))))
                            replace hs := hs.pick (.k (.k (.k (.k (.k (.k (.k (.k (.k (.c .nil))))))))))
                            replace hs := hs.pick (.k (.k (.k (.k (.k (.k (.k (.k (.k (.c .nil))))))))))
                            replace hs := hs.pick (.k (.k (.k (.k (.k (.k (.k (.c (.k (.k .nil))))))))))
                            replace hs := hs.pick (.k (.k (.k (.k (.k (.k (.k (.k (.k (.c .nil))))))))))
                            replace hs := hs.pick (.k (.k (.k (.k (.k (.k (.k (.k (.k (.c .nil))))))))))
                            replace hs := hs.pick (.k (.k (.k (.k (.k (.k (.k (.k (.k (.c .nil))))))))))
                            exact hL163 k163 _ _ (Nat.lt_succ_self _) ⟨s173.2.1, s173.1, (IntKind.i64.wrap (y161 + 1)), v174, hf.sub ⟨rfl, rfl, rfl, rfl, rfl, rfl, trivial⟩, hs, H⟩
                          · -- not s173.2.2.2 = 0
                            replace hf := hf.castB (t := 158) rfl (ndec_t hc178)
                            refine cond_T hf rfl ?_
                            refine seq_reg (fun K180 hK180 => ?_)
                            refine stq hf rfl rfl rfl (ex_assign hf rfl) (fun a hf => ?_)
                            refine hK180 _ _ ?_
                            refine wp_ret ?_
                            refine hR168 _ _ ?_
                            refine hR167 _ _ ?_
                            refine hR163 _ _ ?_
                            refine hR157 _ _ ?_
                            have e154 := some_eq H; subst e154; replace H := el_rt HO154
                            refine hR154 _ _ ?_
                            have eR := some_eq H; subst eR
                            replace hs := hs.keep (.d (.d (.d (.d (.d (.d (.d (.d (.d (.d (.d (.d .nil))))))))))))
                            exact ret1 Try.results5 hf rfl ⟨_, rfl, ⟨rfl, hs⟩⟩
                        · -- not y161 < (a4.length : Int)
                          replace hf := hf.castB (t := 142) rfl (dec_f hc166)
                          refine cond_F hf rfl ?_
                          refine wp_exit ?_
                          refine hX164 4 _ _ ?_
                          refine hX163 4 _ _ ?_
                          refine hX157 _ _ ?_
                          have e154 := some_eq H; subst e154
                          exact hJ154 _ _ ⟨_, v158, rfl, hf.sub ⟨rfl, rfl, rfl, rfl, trivial⟩, hs⟩
                  · obtain ⟨x154s, v155, rfl, hf, hs⟩ := hJ
                    replace H := el_go HO154
                    clear HO154
                    refine bnd H (fun x181 H181 HO181 => ?_)
                    clear H
                    refine seq_cut (fun a w => ∃ (x181s : Unit), x181 = .go x181s ∧ Fr a 188 [(13, .pointer (some ⟨b45, 0, none⟩)), (15, .pointer (some ⟨b62, 0, none⟩))] ∧ St M w0 w [bx b45 64 [v46, v47, .int .i64 c18.2.2.1, v155, .int .i64 x154s.2], osl K_api_HeatDomain v46 c18.1, osl K_api_HeatLink v47 c18.2.1, osl K_int64 v155 x154s.1, bx b62 64 [v63, v64, .int .i64 c52.2.2.1, v116, .int .i64 x115s.2.1], osl K_api_HeatDomain v63 c52.1, osl K_api_HeatLink v64 c52.2.1, osl K_int64 v116 x115s.1]) (fun Q181 hJ181 hR181 hX181 => ?_) (fun a w hJ => ?_)
                    · replace H := H181
                      refine seq_reg (fun K182 hK182 => ?_)
                      refine stq hf rfl rfl rfl (ex_assign hf rfl) (fun a hf => ?_)
                      refine hK182 _ _ ?_
                      refine block_k (fun Q183 hN183 hR183 hX183 hY183 => ?_)
                      refine loop_k (fun n a w => ∃ (y184 : Int), Fr a 188 [(12, .int .i64 (s10.1.length : Int)), (13, .pointer (some ⟨b45, 0, none⟩)), (15, .pointer (some ⟨b62, 0, none⟩)), (18, .pointer (some ⟨b110, 0, none⟩)), (29, .int .i64 y184)] ∧ St M w0 w [bx b45 64 [v46, v47, .int .i64 c18.2.2.1, v155, .int .i64 x154s.2], osl K_api_HeatDomain v46 c18.1, osl K_api_HeatLink v47 c18.2.1, osl K_int64 v155 x154s.1, bx b62 64 [v63, v64, .int .i64 c52.2.2.1, v116, .int .i64 x115s.2.1], osl K_api_HeatDomain v63 c52.1, osl K_api_HeatLink v64 c52.2.1, osl K_int64 v116 x115s.1, bx b110 64 [v46, v47, .int .i64 s109.1, v117, .int .i64 x115s.2.2.2], osl K_int64 v117 x115s.2.2.1] ∧ law38_HeatCopies.l4 n s10 c18 x154s c52 x115s s109 y184 = some x181) k ?_ (fun n186 a w hI Q186 hL186 hR186 hX186 => ?_)
                      · -- at the start
                        exact ⟨0, hf.sub ⟨rfl, rfl, rfl, rfl, rfl, trivial⟩, hs, H⟩
                      · obtain ⟨y184, hf, hs, H⟩ := hI
                        cases n186 with
                        | zero => exact absurd H (by rw [law38_HeatCopies.l4.eq_1]; intro h; cases h)
                        | succ k186 =>
                          replace H := (law38_HeatCopies.l4.eq_2 ..).symm.trans H
                          refine seq_n (fun Q187 hN187 hR187 hX187 => ?_)
                          refine seq_reg (fun K188 hK188 => ?_)
                          refine stq hf rfl rfl rfl (ex_move hf rfl) (fun a hf => ?_)
                          refine stq hf rfl rfl rfl (ex_move hf rfl) (fun a hf => ?_)
                          refine stq hf rfl rfl rfl (ex_lss hf rfl rfl) (fun a hf => ?_)
                          refine hK188 _ _ ?_
                          refine itt H (fun hc189 H => ?_) (fun hc189 H => ?_)
                          · -- y184 < (s10.1.length : Int)
                            replace hf := hf.castB (t := 161) rfl (dec_t hc189)
                            refine cond_T hf rfl ?_
                            refine wp_skip ?_
                            refine hN187 _ _ ?_
                            refine seq_n (fun Q190 hN190 hR190 hX190 => ?_)
                            refine block_k (fun Q191 hN191 hR191 hX191 hY191 => ?_)
                            refine bnd H (fun x192 H192 HO192 => ?_)
                            clear H
                            refine seq_cut (fun a w => Fr a 188 [(12, .int .i64 (s10.1.length : Int)), (13, .pointer (some ⟨b45, 0, none⟩)), (15, .pointer (some ⟨b62, 0, none⟩)), (18, .pointer (some ⟨b110, 0, none⟩)), (29, .int .i64 y184), (179, .bool x192)] ∧ St M w0 w [bx b45 64 [v46, v47, .int .i64 c18.2.2.1, v155, .int .i64 x154s.2], osl K_api_HeatDomain v46 c18.1, osl K_api_HeatLink v47 c18.2.1, osl K_int64 v155 x154s.1, bx b62 64 [v63, v64, .int .i64 c52.2.2.1, v116, .int .i64 x115s.2.1], osl K_api_HeatDomain v63 c52.1, osl K_api_HeatLink v64 c52.2.1, osl K_int64 v116 x115s.1, bx b110 64 [v46, v47, .int .i64 s109.1, v117, .int .i64 x115s.2.2.2], osl K_int64 v117 x115s.2.2.1]) (fun Q192 hJ192 hR192 hX192 => ?_) (fun a w hJ => ?_)
                            · replace H := H192
                              refine bnd H (fun s193 hs193 H => ?_)
                              refine bnd H (fun s194 hs194 H => ?_)
                              refine itt H (fun hc195 H => ?_) (fun hc195 H => ?_)
                              · -- s193 = s194
                                refine bnd H (fun s196 hs196 H => ?_)
                                refine bnd H (fun s197 hs197 H => ?_)
                                refine region_k (fun K198 hK198 => ?_)
                                refine stq hf rfl rfl rfl (ex_move hf rfl) (fun a hf => ?_)
                                refine stq hf rfl rfl rfl (ex_move hf rfl) (fun a hf => ?_)
                                refine stepF hf rfl rfl rfl (ex_call cf_17 hf rfl) (heat_Model_Energy.calls k186 c18.1 c18.2.1 c18.2.2.1 x154s.1 x154s.2 y184 b45 v46 v47 v155 (hs.enter (.k (.k (.k (.k (.k (.k (.k (.k (.k (.k .nil))))))))))) (Sr.own hs (.k (.k (.k (.k (.k (.k (.k (.k (.k (.k .nil)))))))))) (i := 0) rfl (fun _ h => h) (fun _ h => h) (Sr.own hs (.k (.k (.k (.k (.k (.k (.k (.k (.k (.k .nil)))))))))) (i := 1) rfl osl_rsl (fun _ h => h.1) (Sr.own hs (.k (.k (.k (.k (.k (.k (.k (.k (.k (.k .nil)))))))))) (i := 2) rfl osl_rsl (fun _ h => h.1) (Sr.own hs (.k (.k (.k (.k (.k (.k (.k (.k (.k (.k .nil)))))))))) (i := 3) rfl osl_rsl (fun _ h => h.1) (Sr.nil _ _))))) hs193) (fun v w hR a hf => ?_)
                                obtain ⟨rfl, hs'⟩ := hR
                                replace hs := hs.step (.k (.k (.k (.k (.k (.k (.k (.k (.k (.k .nil)))))))))) hs'
                                clear hs'
                                refine stq hf rfl rfl rfl (ex_move hf rfl) (fun a hf => ?_)
                                refine stq hf rfl rfl rfl (ex_move hf rfl) (fun a hf => ?_)
                                refine stepF hf rfl rfl rfl (ex_call cf_17 hf rfl) (heat_Model_Energy.calls k186 c52.1 c52.2.1 c52.2.2.1 x115s.1 x115s.2.1 y184 b62 v63 v64 v116 (hs.enter (.k (.k (.k (.k (.k (.k (.k (.k (.k (.k .nil))))))))))) (Sr.own hs (.k (.k (.k (.k (.k (.k (.k (.k (.k (.k .nil)))))))))) (i := 4) rfl (fun _ h => h) (fun _ h => h) (Sr.own hs (.k (.k (.k (.k (.k (.k (.k (.k (.k (.k .nil)))))))))) (i := 5) rfl osl_rsl (fun _ h => h.1) (Sr.own hs (.k (.k (.k (.k (.k (.k (.k (.k (.k (.k .nil)))))))))) (i := 6) rfl osl_rsl (fun _ h => h.1) (Sr.own hs (.k (.k (.k (.k (.k (.k (.k (.k (.k (.k .nil)))))))))) (i := 7) rfl osl_rsl (fun _ h => h.1) (Sr.nil _ _))))) hs194) (fun v w hR a hf => ?_)
                                obtain ⟨rfl, hs'⟩ := hR
                                replace hs := hs.step (.k (.k (.k (.k (.k (.k (.k (.k (.k (.k .nil)))))))))) hs'
                                clear hs'
                                refine stq hf rfl rfl rfl (ex_neq hf rfl rfl) (fun a hf => ?_)
                                refine stq hf rfl rfl rfl (ex_move hf rfl) (fun a hf => ?_)
                                replace hf := hf.castB (t := 170) rfl (ndec_f hc195)
                                replace hf := hf.castB (t := 171) rfl (ndec_f hc195)
                                refine stq hf rfl rfl rfl (ex_move hf rfl) (fun a hf => ?_)
                                refine stq hf rfl rfl rfl (ex_move hf rfl) (fun a hf => ?_)
                                refine stepF hf rfl rfl rfl (ex_call cf_17 hf rfl) (heat_Model_Energy.calls k186 c18.1 c18.2.1 s109.1 x115s.2.2.1 x115s.2.2.2 y184 b110 v46 v47 v117 (hs.enter (.k (.k (.k (.k (.k (.k (.k (.k (.k (.k .nil))))))))))) (Sr.own hs (.k (.k (.k (.k (.k (.k (.k (.k (.k (.k .nil)))))))))) (i := 8) rfl (fun _ h => h) (fun _ h => h) (Sr.own hs (.k (.k (.k (.k (.k (.k (.k (.k (.k (.k .nil)))))))))) (i := 1) rfl osl_rsl (fun _ h => h.1) (Sr.own hs (.k (.k (.k (.k (.k (.k (.k (.k (.k (.k .nil)))))))))) (i := 2) rfl osl_rsl (fun _ h => h.1) (Sr.own hs (.k (.k (.k (.k (.k (.k (.k (.k (.k (.k .nil)))))))))) (i := 9) rfl osl_rsl (fun _ h => h.1) (Sr.nil _ _))))) hs196) (fun v w hR a hf => ?_)
                                obtain ⟨rfl, hs'⟩ := hR
                                replace hs := hs.step (.k (.k (.k (.k (.k (.k (.k (.k (.k (.k .nil)))))))))) hs'
                                clear hs'
                                refine stq hf rfl rfl rfl (ex_move hf rfl) (fun a hf => ?_)
                                refine stq hf rfl rfl rfl (ex_move hf rfl) (fun a hf => ?_)
                                refine stepF hf rfl rfl rfl (ex_call cf_17 hf rfl) (heat_Model_Energy.calls k186 c52.1 c52.2.1 c52.2.2.1 x115s.1 x115s.2.1 y184 b62 v63 v64 v116 (hs.enter (.k (.k (.k (.k (.k (.k (.k (.k (.k (.k .nil))))))))))) (Sr.own hs (.k (.k (.k (.k (.k (.k (.k (.k (.k (.k .nil)))))))))) (i := 4) rfl (fun _ h => h) (fun _ h => h) (Sr.own hs (.k (.k (.k (.k (.k (.k (.k (.k (.k (.k .nil)))))))))) (i := 5) rfl osl_rsl (fun _ h => h.1) (Sr.own hs (.k (.k (.k (.k (.k (.k (.k (.k (.k (.k .nil)))))))))) (i := 6) rfl osl_rsl (fun _ h => h.1) (Sr.own hs (.k (.k (.k (.k (.k (.k (.k (.k (.k (.k .nil)))))))))) (i := 7) rfl osl_rsl (fun _ h => h.1) (Sr.nil _ _))))) hs197) (fun v w hR a hf => ?_)
                                obtain ⟨rfl, hs'⟩ := hR
                                replace hs := hs.step (.k (.k (.k (.k (.k (.k (.k (.k (.k (.k .nil)))))))))) hs'
                                clear hs'
                                refine stq hf rfl rfl rfl (ex_neq hf rfl rfl) (fun a hf => ?_)
                                refine stq hf rfl rfl rfl (ex_pickF hf rfl rfl) (fun a hf => ?_)
                                refine hK198 _ _ ?_
                                have e192 := some_eq H; subst e192
                                exact hJ192 _ _ ⟨hf.sub ⟨rfl, rfl, rfl, rfl, rfl, rfl, trivial⟩, hs⟩
                              · -- not s193 = s194
                                refine region_k (fun K199 hK199 => ?_)
                                refine stq hf rfl rfl rfl (ex_move hf rfl) (fun a hf => ?_)
                                refine stq hf rfl rfl rfl (ex_move hf rfl) (fun a hf => ?_)
                                refine stepF hf rfl rfl rfl (ex_call cf_17 hf rfl) (heat_Model_Energy.calls k186 c18.1 c18.2.1 c18.2.2.1 x154s.1 x154s.2 y184 b45 v46 v47 v155 (hs.enter (.k (.k (.k (.k (.k (.k (.k (.k (.k (.k .nil))))))))))) (Sr.own hs (.k (.k (.k (.k (.k (.k (.k (.k (.k (.k .nil)))))))))) (i := 0) rfl (fun _ h => h) (fun _ h => h) (Sr.own hs (.k (.k (.k (.k (.k (.k (.k (.k (.k (.k .nil)))))))))) (i := 1) rfl osl_rsl (fun _ h => h.1) (Sr.own hs (.k (.k (.k (.k (.k (.k (.k (.k (.k (.k .nil)))))))))) (i := 2) rfl osl_rsl (fun _ h => h.1) (Sr.own hs (.k (.k (.k (.k (.k (.k (.k (.k (.k (.k .nil)))))))))) (i := 3) rfl osl_rsl (fun _ h => h.1) (Sr.nil _ _))))) hs193) (fun v w hR a hf => ?_)
                                obtain ⟨rfl, hs'⟩ := hR
                                replace hs := hs.step (.k (.k (.k (.k (.k (.k (.k (.k (.k (.k .nil)))))))))) hs'
                                clear hs'
                                refine stq hf rfl rfl rfl (ex_move hf rfl) (fun a hf => ?_)
                                refine stq hf rfl rfl rfl (ex_move hf rfl) (fun a hf => ?_)
                                refine stepF hf rfl rfl rfl (ex_call cf_17 hf rfl) (heat_Model_Energy.calls k186 c52.1 c52.2.1 c52.2.2.1 x115s.1 x115s.2.1 y184 b62 v63 v64 v116 (hs.enter (.k (.k (.k (.k (.k (.k (.k (.k (.k (.k .nil))))))))))) (Sr.own hs (.k (.k (.k (.k (.k (.k (.k (.k (.k (.k .nil)))))))))) (i := 4) rfl (fun _ h => h) (fun _ h => h) (Sr.own hs (.k (.k (.k (.k (.k (.k (.k (.k (.k (.k .nil)))))))))) (i := 5) rfl osl_rsl (fun _ h => h.1) (Sr.own hs (.k (.k (.k (.k (.k (.k (.k (.k (.k (.k .nil)))))))))) (i := 6) rfl osl_rsl (fun _ h => h.1) (Sr.own hs (.k (.k (.k (.k (.k (.k (.k (.k (.k (.k .nil)))))))))) (i := 7) rfl osl_rsl (fun _ h => h.1) (Sr.nil _ _))))) hs194) (fun v w hR a hf => ?_)
                                obtain ⟨rfl, hs'⟩ := hR
                                replace hs := hs.step (.k (.k (.k (.k (.k (.k (.k (.k (.k (.k .nil)))))))))) hs'
                                clear hs'
                                refine stq hf rfl rfl rfl (ex_neq hf rfl rfl) (fun a hf => ?_)
                                refine stq hf rfl rfl rfl (ex_move hf rfl) (fun a hf => ?_)
                                replace hf := hf.castB (t := 170) rfl (ndec_t hc195)
                                replace hf := hf.castB (t := 171) rfl (ndec_t hc195)
                                refine stepN hf rfl rfl rfl (fun a hf => ?_)
                                refine stepN hf rfl rfl rfl (fun a hf => ?_)
                                refine stepN hf rfl rfl rfl (fun a hf => ?_)
                                refine stepN hf rfl rfl rfl (fun a hf => ?_)
                                refine stepN hf rfl rfl rfl (fun a hf => ?_)
                                refine stepN hf rfl rfl rfl (fun a hf => ?_)
                                refine stepN hf rfl rfl rfl (fun a hf => ?_)
                                refine stq hf rfl rfl rfl (ex_pickT hf rfl rfl) (fun a hf => ?_)
                                refine hK199 _ _ ?_
                                have e192 := some_eq H; subst e192
                                exact hJ192 _ _ ⟨hf.sub ⟨rfl, rfl, rfl, rfl, rfl, rfl, trivial⟩, hs⟩
                            · obtain ⟨hf, hs⟩ := hJ
                              replace H := HO192
                              clear HO192
                              refine itt H (fun hc200 H => ?_) (fun hc200 H => ?_)
                              · -- x192 = true
                                replace hf := hf.castB (t := 179) rfl hc200
                                refine cond_T hf rfl ?_
                                refine seq_reg (fun K201 hK201 => ?_)
                                refine stq hf rfl rfl rfl (ex_assign hf rfl) (fun a hf => ?_)
                                refine hK201 _ _ ?_
                                refine wp_ret ?_
                                refine hR191 _ _ ?_
                                refine hR190 _ _ ?_
                                refine hR186 _ _ ?_
                                refine hR183 _ _ ?_
                                have e181 := some_eq H; subst e181; replace H := el_rt HO181
                                refine hR181 _ _ ?_
                                have eR := some_eq H; subst eR
                                replace hs := hs.keep (.d (.d (.d (.d (.d (.d (.d (.d (.d (.d .nil))))))))))
                                exact ret1 Try.results5 hf rfl ⟨_, rfl, ⟨rfl, hs⟩⟩
                              · -- not x192 = true
                                replace hf := hf.castB (t := 179) rfl (bool_f hc200)
                                refine cond_F hf rfl ?_
                                refine wp_skip ?_
                                refine hN191 _ _ ?_
                                refine hN190 _ _ ?_
                                refine region_k (fun K202 hK202 => ?_)
                                refine stq hf rfl rfl rfl (ex_move hf rfl) (fun a hf => ?_)
                                refine stq hf rfl rfl rfl (ex_add hf rfl rfl) (fun a hf => ?_)
                                refine stq hf rfl rfl rfl (ex_assign hf rfl) (fun a hf => ?_)
                                refine hK202 _ _ ?_
                                exact hL186 k186 _ _ (Nat.lt_succ_self _) ⟨(IntKind.i64.wrap (y184 + 1)), hf.sub ⟨rfl, rfl, rfl, rfl, rfl, trivial⟩, hs, H⟩
                          · -- not y184 < (s10.1.length : Int)
                            replace hf := hf.castB (t := 161) rfl (dec_f hc189)
                            refine cond_F hf rfl ?_
                            refine wp_exit ?_
                            refine hX187 6 _ _ ?_
                            refine hX186 6 _ _ ?_
                            refine hX183 _ _ ?_
                            replace hs := hs.keep (.k (.k (.k (.k (.k (.k (.k (.k (.d (.d .nil))))))))))
                            have e181 := some_eq H; subst e181
                            exact hJ181 _ _ ⟨_, rfl, hf.sub ⟨rfl, rfl, trivial⟩, hs⟩
                    · obtain ⟨x181s, rfl, hf, hs⟩ := hJ
                      replace H := el_go HO181
                      clear HO181
                      refine bnd H (fun s203 hs203 H => ?_)
                      refine bnd H (fun s204 hs204 H => ?_)
                      refine itt H (fun hc205 H => ?_) (fun hc205 H => ?_)
                      · -- s203 = s204
                        refine bnd H (fun s206 hs206 H => ?_)
                        refine seq_reg (fun K207 hK207 => ?_)
                        refine stq hf rfl rfl rfl (ex_move hf rfl) (fun a hf => ?_)
                        refine stepF hf rfl rfl rfl (ex_call cf_16 hf rfl) (heat_Model_Released.calls k c18.1 c18.2.1 c18.2.2.1 x154s.1 x154s.2 b45 v46 v47 v155 (hs.enter (.k (.k (.k (.k (.k (.k (.k (.k .nil))))))))) (Sr.own hs (.k (.k (.k (.k (.k (.k (.k (.k .nil)))))))) (i := 0) rfl (fun _ h => h) (fun _ h => h) (Sr.own hs (.k (.k (.k (.k (.k (.k (.k (.k .nil)))))))) (i := 1) rfl osl_rsl (fun _ h => h.1) (Sr.own hs (.k (.k (.k (.k (.k (.k (.k (.k .nil)))))))) (i := 2) rfl osl_rsl (fun _ h => h.1) (Sr.own hs (.k (.k (.k (.k (.k (.k (.k (.k .nil)))))))) (i := 3) rfl osl_rsl (fun _ h => h.1) (Sr.nil _ _))))) hs203) (fun v w hR a hf => ?_)
                        obtain ⟨rfl, hs'⟩ := hR
                        replace hs := hs.step (.k (.k (.k (.k (.k (.k (.k (.k .nil)))))))) hs'
                        clear hs'
                        refine stq hf rfl rfl rfl (ex_move hf rfl) (fun a hf => ?_)
                        refine stepF hf rfl rfl rfl (ex_call cf_16 hf rfl) (heat_Model_Released.calls k c52.1 c52.2.1 c52.2.2.1 x115s.1 x115s.2.1 b62 v63 v64 v116 (hs.enter (.k (.k (.k (.k (.k (.k (.k (.k .nil))))))))) (Sr.own hs (.k (.k (.k (.k (.k (.k (.k (.k .nil)))))))) (i := 4) rfl (fun _ h => h) (fun _ h => h) (Sr.own hs (.k (.k (.k (.k (.k (.k (.k (.k .nil)))))))) (i := 5) rfl osl_rsl (fun _ h => h.1) (Sr.own hs (.k (.k (.k (.k (.k (.k (.k (.k .nil)))))))) (i := 6) rfl osl_rsl (fun _ h => h.1) (Sr.own hs (.k (.k (.k (.k (.k (.k (.k (.k .nil)))))))) (i := 7) rfl osl_rsl (fun _ h => h.1) (Sr.nil _ _))))) hs204) (fun v w hR a hf => ?_)
                        obtain ⟨rfl, hs'⟩ := hR
                        replace hs := hs.step (.k (.k (.k (.k (.k (.k (.k (.k .nil)))))))) hs'
                        clear hs'
                        refine stq hf rfl rfl rfl (ex_eql hf rfl rfl) (fun a hf => ?_)
                        refine stq hf rfl rfl rfl (ex_move hf rfl) (fun a hf => ?_)
                        replace hf := hf.castB (t := 184) rfl (dec_t hc205)
                        replace hf := hf.castB (t := 185) rfl (dec_t hc205)
                        refine stepF hf rfl rfl rfl (ex_call cf_11 hf rfl) (law38_awake.calls k (hs.enter (.k (.k (.k (.k (.k (.k (.k (.k .nil))))))))) (Sr.nil _ _) hs206) (fun v w hR a hf => ?_)
                        obtain ⟨rfl, hs'⟩ := hR
                        replace hs := hs.step (.k (.k (.k (.k (.k (.k (.k (.k .nil)))))))) hs'
                        clear hs'
                        refine stq hf rfl rfl rfl (ex_pickT hf rfl rfl) (fun a hf => ?_)
                        refine stq hf rfl rfl rfl (ex_assign hf rfl) (fun a hf => ?_)
                        refine hK207 _ _ ?_
                        refine wp_ret ?_
                        have eR := some_eq H; subst eR
                        replace hs := hs.keep (.d (.d (.d (.d (.d (.d (.d (.d .nil))))))))
                        exact ret1 Try.results5 hf rfl ⟨_, rfl, ⟨rfl, hs⟩⟩
                      · -- not s203 = s204
                        refine seq_reg (fun K208 hK208 => ?_)
                        refine stq hf rfl rfl rfl (ex_move hf rfl) (fun a hf => ?_)
                        refine stepF hf rfl rfl rfl (ex_call cf_16 hf rfl) (heat_Model_Released.calls k c18.1 c18.2.1 c18.2.2.1 x154s.1 x154s.2 b45 v46 v47 v155 (hs.enter (.k (.k (.k (.k (.k (.k (.k (.k .nil))))))))) (Sr.own hs (.k (.k (.k (.k (.k (.k (.k (.k .nil)))))))) (i := 0) rfl (fun _ h => h) (fun _ h => h) (Sr.own hs (.k (.k (.k (.k (.k (.k (.k (.k .nil)))))))) (i := 1) rfl osl_rsl (fun _ h => h.1) (Sr.own hs (.k (.k (.k (.k (.k (.k (.k (.k .nil)))))))) (i := 2) rfl osl_rsl (fun _ h => h.1) (Sr.own hs (.k (.k (.k (.k (.k (.k (.k (.k .nil)))))))) (i := 3) rfl osl_rsl (fun _ h => h.1) (Sr.nil _ _))))) hs203) (fun v w hR a hf => ?_)
                        obtain ⟨rfl, hs'⟩ := hR
                        replace hs := hs.step (.k (.k (.k (.k (.k (.k (.k (.k .nil)))))))) hs'
                        clear hs'
                        refine stq hf rfl rfl rfl (ex_move hf rfl) (fun a hf => ?_)
                        refine stepF hf rfl rfl rfl (ex_call cf_16 hf rfl) (heat_Model_Released.calls k c52.1 c52.2.1 c52.2.2.1 x115s.1 x115s.2.1 b62 v63 v64 v116 (hs.enter (.k (.k (.k (.k (.k (.k (.k (.k .nil))))))))) (Sr.own hs (.k (.k (.k (.k (.k (.k (.k (.k .nil)))))))) (i := 4) rfl (fun _ h => h) (fun _ h => h) (Sr.own hs (.k (.k (.k (.k (.k (.k (.k (.k .nil)))))))) (i := 5) rfl osl_rsl (fun _ h => h.1) (Sr.own hs (.k (.k (.k (.k (.k (.k (.k (.k .nil)))))))) (i := 6) rfl osl_rsl (fun _ h => h.1) (Sr.own hs (.k (.k (.k (.k (.k (.k (.k (.k .nil)))))))) (i := 7) rfl osl_rsl (fun _ h => h.1) (Sr.nil _ _))))) hs204) (fun v w hR a hf => ?_)
                        obtain ⟨rfl, hs'⟩ := hR
                        replace hs := hs.step (.k (.k (.k (.k (.k (.k (.k (.k .nil)))))))) hs'
                        clear hs'
                        refine stq hf rfl rfl rfl (ex_eql hf rfl rfl) (fun a hf => ?_)
                        refine stq hf rfl rfl rfl (ex_move hf rfl) (fun a hf => ?_)
                        replace hf := hf.castB (t := 184) rfl (dec_f hc205)
                        replace hf := hf.castB (t := 185) rfl (dec_f hc205)
                        refine stepN hf rfl rfl rfl (fun a hf => ?_)
                        refine stq hf rfl rfl rfl (ex_pickF hf rfl rfl) (fun a hf => ?_)
                        refine stq hf rfl rfl rfl (ex_assign hf rfl) (fun a hf => ?_)
                        refine hK208 _ _ ?_
                        refine wp_ret ?_
                        have eR := some_eq H; subst eR
                        replace hs := hs.keep (.d (.d (.d (.d (.d (.d (.d (.d .nil))))))))
                        exact ret1 Try.results5 hf rfl ⟨_, rfl, ⟨rfl, hs⟩⟩

end Go.Proofs.Ytakaooegofiloaa.X
