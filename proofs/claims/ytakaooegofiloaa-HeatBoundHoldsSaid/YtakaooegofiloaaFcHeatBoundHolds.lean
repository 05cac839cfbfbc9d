/- Each function of the machine comes to what its pure function says. -/
import Derived.Test.YtakaooegofiloaaFc1
import Derived.Test.YtakaooegofiloaaFc2
import Derived.Test.YtakaooegofiloaaFc3
import Derived.Test.YtakaooegofiloaaFc5
import Derived.Test.YtakaooegofiloaaFb
namespace Go.Proofs.Ytakaooegofiloaa.X
open Go Go.RowKit Go.Sx
set_option linter.unusedVariables false

set_option maxHeartbeats 4000000 in
set_option maxRecDepth 100000 in
theorem law38_HeatBoundHolds.calls {M : Nat → Prop} {w0 : World} (k : Nat) (a0 : (List HeatDomain)) (a1 : (List HeatLink)) (a2 : Int) (a3 : (List Int)) (a4 : (List (List Int))) (v0 : Value) (v1 : Value) (v3 : Value) (v4 : Value) (vs4 : (Nat → Value)) {r : Bool} (hs : St M w0 w0 []) (hr : Sr M w0 [rsl K_api_HeatDomain v0 a0, rsl K_api_HeatLink v1 a1, rsl K_int64 v3 a3, rsl2 K_int64 v4 vs4 a4])
    (h : law38_HeatBoundHolds.f k a0 a1 a2 a3 a4 = some r) : Calls Try.prog 10 #[v0, v1, .int .i64 a2, v3, v4] w0 fun e w => ∃ v, e = .returned v ∧ (.bool r = v ∧ St M w0 w []) := by
  have H := (law38_HeatBoundHolds.f.eq_1 ..).symm.trans h
  clear h
  refine enter Try.func10 rfl Try.ntmps10 rfl (fun a hf => ?_)
  refine seq_reg (fun K1 hK1 => ?_)
  refine stq hf rfl rfl rfl (ex_assign hf rfl) (fun a hf => ?_)
  refine hK1 _ _ ?_
  refine seq_n (fun Q2 hN2 hR2 hX2 => ?_)
  refine seq_reg (fun K3 hK3 => ?_)
  refine stq hf rfl rfl rfl (ex_move hf rfl) (fun a hf => ?_)
  refine stq hf rfl rfl rfl (ex_lenS Try.underlying24 (rsl2_isSl (hr.now hs (i := 3) rfl)) hf rfl) (fun a hf => ?_)
  refine stq hf rfl rfl rfl (ex_gtr hf rfl rfl) (fun a hf => ?_)
  refine hK3 _ _ ?_
  refine itt H (fun hc4 H => ?_) (fun hc4 H => ?_)
  · -- 60 < (a4.length : Int)
    replace hf := hf.castB (t := 26) rfl (dec_t hc4)
    refine cond_T hf rfl ?_
    refine bnd H (fun s5 hs5 H => ?_)
    refine seq_reg (fun K6 hK6 => ?_)
    refine stepF hf rfl rfl rfl (ex_call cf_11 hf rfl) (law38_awake.calls k (hs.enter .nil) (Sr.nil _ _) hs5) (fun v w hR a hf => ?_)
    obtain ⟨rfl, hs'⟩ := hR
    replace hs := hs.step .nil hs'
    clear hs'
    refine stq hf rfl rfl rfl (ex_assign hf rfl) (fun a hf => ?_)
    refine hK6 _ _ ?_
    refine wp_ret ?_
    refine hR2 _ _ ?_
    have eR := some_eq H; subst eR
    exact ret1 Try.results10 hf rfl ⟨_, rfl, ⟨rfl, hs⟩⟩
  · -- not 60 < (a4.length : Int)
    replace hf := hf.castB (t := 26) rfl (dec_f hc4)
    refine cond_F hf rfl ?_
    refine wp_skip ?_
    refine hN2 _ _ ?_
    refine bnd H (fun s7 hs7 H => ?_)
    refine seq_reg (fun K11 hK11 => ?_)
    refine stq hf rfl rfl rfl (ex_move hf rfl) (fun a hf => ?_)
    refine stq hf rfl rfl rfl (ex_move hf rfl) (fun a hf => ?_)
    refine stq hf rfl rfl rfl (ex_move hf rfl) (fun a hf => ?_)
    refine stepF hf rfl rfl rfl (ex_call cf_12 hf rfl) (law38_Some.calls k a0 a1 a2 v0 v1 (hs.enter .nil) (Sr.old hr hs .nil (i := 0) rfl (fun _ h => h) (fun _ h => h) (Sr.old hr hs .nil (i := 1) rfl (fun _ h => h) (fun _ h => h) (Sr.nil _ _))) hs7) (fun v w hR a hf => ?_)
    obtain ⟨v8, v9, rfl, hs'⟩ := hR
    replace hs := hs.step .nil hs'
    clear hs'
    refine stepV hf rfl rfl rfl (er_alloc hs ti_27 (cs := [(.slice none 0 0), (.slice none 0 0), .int .i64 0]) rfl) (fun v w hR a hf => ?_)
    obtain ⟨b10, rfl, hs⟩ := hR
    refine stepS hf rfl rfl (er_storeAB (vs := [v8, v9, .int .i64 s7.2.2]) (cs' := [v8, v9, .int .i64 s7.2.2]) hs (.c (.k (.k .nil))) sz_27 hf rfl rfl (all1 (IsSl.one (rsl_isSl (osl_rsl _ (hs.get (i := 1) rfl)))) (all1 (IsSl.one (rsl_isSl (osl_rsl _ (hs.get (i := 2) rfl)))) (all1 rfl (all1_nil)))) rfl rfl) (fun w hs => ?_)
    refine hK11 _ _ ?_
    refine seq_reg (fun K12 hK12 => ?_)
    refine stq hf rfl rfl rfl (ex_fieldAddrB fa_27_0 rfl hf rfl) (fun a hf => ?_)
    refine stq hf rfl rfl rfl (ex_load sc_22 hf rfl (bx_cell (hs.get (i := 0) rfl) _ rfl)) (fun a hf => ?_)
    refine stq hf rfl rfl rfl (ex_lenS Try.underlying22 (rsl_isSl (osl_rsl _ (hs.get (i := 1) rfl))) hf rfl) (fun a hf => ?_)
    refine stq hf rfl rfl rfl (ex_assign hf rfl) (fun a hf => ?_)
    refine hK12 _ _ ?_
    refine seq_n (fun Q13 hN13 hR13 hX13 => ?_)
    refine bnd H (fun s14 hs14 H => ?_)
    cases hps14 : s14.1 with
    | none =>
      replace H := elim_n hps14 H
      refine region_k (fun K16 hK16 => ?_)
      refine stq hf rfl rfl rfl (ex_fieldAddrB fa_27_0 rfl hf rfl) (fun a hf => ?_)
      refine stq hf rfl rfl rfl (ex_load sc_22 hf rfl (bx_cell (hs.get (i := 0) rfl) _ rfl)) (fun a hf => ?_)
      refine stq hf rfl rfl rfl (ex_fieldAddrB fa_27_1 rfl hf rfl) (fun a hf => ?_)
      refine stq hf rfl rfl rfl (ex_load sc_23 hf rfl (bx_cell (hs.get (i := 0) rfl) _ rfl)) (fun a hf => ?_)
      refine stq hf rfl rfl rfl (ex_fieldAddrB fa_27_2 rfl hf rfl) (fun a hf => ?_)
      refine stq hf rfl rfl rfl (ex_load sc_2 hf rfl (bx_cell (hs.get (i := 0) rfl) _ rfl)) (fun a hf => ?_)
      refine stepF hf rfl rfl rfl (ex_call cf_13 hf rfl) (heat_New.calls k s7.1 s7.2.1 s7.2.2 v8 v9 (hs.enter (.k (.k (.k .nil)))) (Sr.own hs (.k (.k (.k .nil))) (i := 1) rfl osl_rsl (fun _ h => h.1) (Sr.own hs (.k (.k (.k .nil))) (i := 2) rfl osl_rsl (fun _ h => h.1) (Sr.nil _ _))) hs14) (fun v w hR a hf => ?_)
      obtain ⟨_, rfl, hs'⟩ | ⟨_, hc', _⟩ := hR
      case inr => rw [hps14] at hc'; cases hc'
      replace hs := hs.step (.k (.k (.k .nil))) hs'
      clear hs'
      refine stq hf rfl rfl rfl (ex_move hf rfl) (fun a hf => ?_)
      refine stq hf rfl rfl rfl (ex_extract hf rfl rfl) (fun a hf => ?_)
      refine stq hf rfl rfl rfl (ex_extract hf rfl rfl) (fun a hf => ?_)
      refine stq hf rfl rfl rfl (ex_assign hf rfl) (fun a hf => ?_)
      refine stq hf rfl rfl rfl (ex_assign hf rfl) (fun a hf => ?_)
      refine hK16 _ _ ?_
      refine hN13 _ _ ?_
      refine bnd H (fun s17 hs17 H => ?_)
      refine seq_reg (fun K19 hK19 => ?_)
      refine stq hf rfl rfl rfl (ex_move hf rfl) (fun a hf => ?_)
      refine stq hf rfl rfl rfl (ex_move hf rfl) (fun a hf => ?_)
      refine stepF hf rfl rfl rfl (ex_call cf_14 hf rfl) (law38_Powers.calls k a3 (s7.1.length : Int) 300 v3 (hs.enter (.k (.k (.k .nil)))) (Sr.old hr hs (.k (.k (.k .nil))) (i := 2) rfl (fun _ h => h) (fun _ h => h) (Sr.nil _ _)) hs17) (fun v w hR a hf => ?_)
      obtain ⟨v18, rfl, hs'⟩ := hR
      replace hs := hs.step (.k (.k (.k .nil))) hs'
      clear hs'
      refine stq hf rfl rfl rfl (ex_assign hf rfl) (fun a hf => ?_)
      refine hK19 _ _ ?_
      refine bnd H (fun s20 hs20 H => ?_)
      refine seq_reg (fun K21 hK21 => ?_)
      refine stq hf rfl rfl rfl (ex_fieldAddrB fa_27_0 rfl hf rfl) (fun a hf => ?_)
      refine stq hf rfl rfl rfl (ex_load sc_22 hf rfl (bx_cell (hs.get (i := 1) rfl) _ rfl)) (fun a hf => ?_)
      refine stq hf rfl rfl rfl (ex_fieldAddrB fa_27_1 rfl hf rfl) (fun a hf => ?_)
      refine stq hf rfl rfl rfl (ex_load sc_23 hf rfl (bx_cell (hs.get (i := 1) rfl) _ rfl)) (fun a hf => ?_)
      refine stq hf rfl rfl rfl (ex_fieldAddrB fa_27_2 rfl hf rfl) (fun a hf => ?_)
      refine stq hf rfl rfl rfl (ex_load sc_2 hf rfl (bx_cell (hs.get (i := 1) rfl) _ rfl)) (fun a hf => ?_)
      refine stq hf rfl rfl rfl (ex_move hf rfl) (fun a hf => ?_)
      refine stepF hf rfl rfl rfl (ex_call cf_27 hf rfl) (heat_Bound.calls k s7.1 s7.2.1 s7.2.2 s17 v8 v9 v18 (hs.enter (.k (.k (.k (.k .nil))))) (Sr.own hs (.k (.k (.k (.k .nil)))) (i := 2) rfl osl_rsl (fun _ h => h.1) (Sr.own hs (.k (.k (.k (.k .nil)))) (i := 3) rfl osl_rsl (fun _ h => h.1) (Sr.own hs (.k (.k (.k (.k .nil)))) (i := 0) rfl osl_rsl (fun _ h => h.1) (Sr.nil _ _)))) hs20) (fun v w hR a hf => ?_)
      obtain ⟨rfl, hs'⟩ := hR
      replace hs := hs.step (.k (.k (.k (.k .nil)))) hs'
      clear hs'
      refine stq hf rfl rfl rfl (ex_move hf rfl) (fun a hf => ?_)
      refine stq hf rfl rfl rfl (ex_extract hf rfl rfl) (fun a hf => ?_)
      refine stq hf rfl rfl rfl (ex_extract hf rfl rfl) (fun a hf => ?_)
      refine stq hf rfl rfl rfl (ex_assign hf rfl) (fun a hf => ?_)
      refine stq hf rfl rfl rfl (ex_assign hf rfl) (fun a hf => ?_)
      refine hK21 _ _ ?_
      refine seq_n (fun Q22 hN22 hR22 hX22 => ?_)
      refine bnd H (fun x23 H23 HO23 => ?_)
      clear H
      refine seq_cut (fun a w => Fr a 143 [(4, v4), (11, .pointer (some ⟨b10, 0, none⟩)), (12, .int .i64 (s7.1.length : Int)), (13, .pointer none), (15, v18), (16, .int .i64 s20.1), (68, .bool true)] ∧ St M w0 w [bx b10 27 [v8, v9, .int .i64 s7.2.2], osl K_api_HeatDomain v8 s7.1, osl K_api_HeatLink v9 s7.2.1, osl K_int64 v18 s17]) (fun Q23 hJ23 hR23 hX23 => ?_) (fun a w hJ => ?_)
      · replace H := H23
        refine itt H (fun hc24 H => ?_) (fun hc24 H => ?_)
        · -- s14.2 = 0
          refine itt H (fun hc25 H => ?_) (fun hc25 H => ?_)
          · -- s20.2 = 0
            refine region_k (fun K26 hK26 => ?_)
            refine stq hf rfl rfl rfl (ex_move hf rfl) (fun a hf => ?_)
            refine stq hf rfl rfl rfl (ex_neq hf rfl rfl) (fun a hf => ?_)
            refine stq hf rfl rfl rfl (ex_move hf rfl) (fun a hf => ?_)
            replace hf := hf.castB (t := 60) rfl (ndec_f hc24)
            replace hf := hf.castB (t := 61) rfl (ndec_f hc24)
            refine stq hf rfl rfl rfl (ex_move hf rfl) (fun a hf => ?_)
            refine stq hf rfl rfl rfl (ex_neq hf rfl rfl) (fun a hf => ?_)
            refine stq hf rfl rfl rfl (ex_pickF hf rfl rfl) (fun a hf => ?_)
            refine stq hf rfl rfl rfl (ex_move hf rfl) (fun a hf => ?_)
            replace hf := hf.castB (t := 63) rfl (ndec_f hc25)
            replace hf := hf.castB (t := 64) rfl (ndec_f hc25)
            replace hf := hf.castB (t := 65) rfl (ndec_f hc25)
            refine stq hf rfl rfl rfl (ex_move hf rfl) (fun a hf => ?_)
            refine stq hf rfl rfl rfl (ex_eqp Try.underlying29 hf rfl rfl) (fun a hf => ?_)
            refine stq hf rfl rfl rfl (ex_pickF hf rfl rfl) (fun a hf => ?_)
            refine hK26 _ _ ?_
            replace hs := hs.pick (.k (.k (.k (.c .nil))))
            replace hs := hs.pick (.k (.k (.k (.c .nil))))
            replace hs := hs.pick (.k (.k (.k (.c .nil))))
            have e23 := some_eq H; subst e23
            exact hJ23 _ _ ⟨hf.sub ⟨rfl, rfl, rfl, rfl, rfl, rfl, rfl, trivial⟩, hs⟩
          · -- not s20.2 = 0
            refine region_k (fun K27 hK27 => ?_)
            refine stq hf rfl rfl rfl (ex_move hf rfl) (fun a hf => ?_)
            refine stq hf rfl rfl rfl (ex_neq hf rfl rfl) (fun a hf => ?_)
            refine stq hf rfl rfl rfl (ex_move hf rfl) (fun a hf => ?_)
            replace hf := hf.castB (t := 60) rfl (ndec_f hc24)
            replace hf := hf.castB (t := 61) rfl (ndec_f hc24)
            refine stq hf rfl rfl rfl (ex_move hf rfl) (fun a hf => ?_)
            refine stq hf rfl rfl rfl (ex_neq hf rfl rfl) (fun a hf => ?_)
            refine stq hf rfl rfl rfl (ex_pickF hf rfl rfl) (fun a hf => ?_)
            refine stq hf rfl rfl rfl (ex_move hf rfl) (fun a hf => ?_)
            replace hf := hf.castB (t := 63) rfl (ndec_t hc25)
            replace hf := hf.castB (t := 64) rfl (ndec_t hc25)
            replace hf := hf.castB (t := 65) rfl (ndec_t hc25)
            refine stepN hf rfl rfl rfl (fun a hf => ?_)
            refine stepN hf rfl rfl rfl (fun a hf => ?_)
            refine stq hf rfl rfl rfl (ex_pickT hf rfl rfl) (fun a hf => ?_)
            refine hK27 _ _ ?_
            replace hs := hs.pick (.k (.k (.k (.c .nil))))
            replace hs := hs.pick (.k (.k (.k (.c .nil))))
            replace hs := hs.pick (.k (.k (.k (.c .nil))))
            have e23 := some_eq H; subst e23
            exact hJ23 _ _ ⟨hf.sub ⟨rfl, rfl, rfl, rfl, rfl, rfl, rfl, trivial⟩, hs⟩
        · -- not s14.2 = 0
          refine region_k (fun K28 hK28 => ?_)
          refine stq hf rfl rfl rfl (ex_move hf rfl) (fun a hf => ?_)
          refine stq hf rfl rfl rfl (ex_neq hf rfl rfl) (fun a hf => ?_)
          refine stq hf rfl rfl rfl (ex_move hf rfl) (fun a hf => ?_)
          replace hf := hf.castB (t := 60) rfl (ndec_t hc24)
          replace hf := hf.castB (t := 61) rfl (ndec_t hc24)
          refine stepN hf rfl rfl rfl (fun a hf => ?_)
          refine stepN hf rfl rfl rfl (fun a hf => ?_)
          refine stq hf rfl rfl rfl (ex_pickT hf rfl rfl) (fun a hf => ?_)
          refine stq hf rfl rfl rfl (ex_move hf rfl) (fun a hf => ?_)
          refine stepN hf rfl rfl rfl (fun a hf => ?_)
          refine stepN hf rfl rfl rfl (fun a hf => ?_)
          refine stq hf rfl rfl rfl (ex_pickT hf rfl rfl) (fun a hf => ?_)
          refine hK28 _ _ ?_
          replace hs := hs.pick (.k (.k (.k (.c .nil))))
          replace hs := hs.pick (.k (.k (.k (.c .nil))))
          replace hs := hs.pick (.k (.k (.k (.c .nil))))
          have e23 := some_eq H; subst e23
          exact hJ23 _ _ ⟨hf.sub ⟨rfl, rfl, rfl, rfl, rfl, rfl, rfl, trivial⟩, hs⟩
      · obtain ⟨hf, hs⟩ := hJ
        replace H := HO23
        clear HO23
        refine cond_T hf rfl ?_
        refine seq_reg (fun K29 hK29 => ?_)
        refine stq hf rfl rfl rfl (ex_assign hf rfl) (fun a hf => ?_)
        refine hK29 _ _ ?_
        refine wp_ret ?_
        refine hR22 _ _ ?_
        have eR := some_eq H; subst eR
        replace hs := hs.keep (.d (.d (.d (.d .nil))))
        exact ret1 Try.results10 hf rfl ⟨_, rfl, ⟨rfl, hs⟩⟩
    | some c15 =>
      replace H := elim_s hps14 H
      refine region_k (fun K34 hK34 => ?_)
      refine stq hf rfl rfl rfl (ex_fieldAddrB fa_27_0 rfl hf rfl) (fun a hf => ?_)
      refine stq hf rfl rfl rfl (ex_load sc_22 hf rfl (bx_cell (hs.get (i := 0) rfl) _ rfl)) (fun a hf => ?_)
      refine stq hf rfl rfl rfl (ex_fieldAddrB fa_27_1 rfl hf rfl) (fun a hf => ?_)
      refine stq hf rfl rfl rfl (ex_load sc_23 hf rfl (bx_cell (hs.get (i := 0) rfl) _ rfl)) (fun a hf => ?_)
      refine stq hf rfl rfl rfl (ex_fieldAddrB fa_27_2 rfl hf rfl) (fun a hf => ?_)
      refine stq hf rfl rfl rfl (ex_load sc_2 hf rfl (bx_cell (hs.get (i := 0) rfl) _ rfl)) (fun a hf => ?_)
      refine stepF hf rfl rfl rfl (ex_call cf_13 hf rfl) (heat_New.calls k s7.1 s7.2.1 s7.2.2 v8 v9 (hs.enter (.k (.k (.k .nil)))) (Sr.own hs (.k (.k (.k .nil))) (i := 1) rfl osl_rsl (fun _ h => h.1) (Sr.own hs (.k (.k (.k .nil))) (i := 2) rfl osl_rsl (fun _ h => h.1) (Sr.nil _ _))) hs14) (fun v w hR a hf => ?_)
      obtain ⟨hc', _⟩ | ⟨cc, hc', b30, v31, v32, v33, rfl, hs'⟩ := hR
      case inl => rw [hps14] at hc'; cases hc'
      obtain rfl : c15 = cc := by rw [hps14] at hc'; exact Option.some.inj hc'
      replace hs := hs.step (.k (.k (.k .nil))) hs'
      clear hs'
      refine stq hf rfl rfl rfl (ex_move hf rfl) (fun a hf => ?_)
      refine stq hf rfl rfl rfl (ex_extract hf rfl rfl) (fun a hf => ?_)
      refine stq hf rfl rfl rfl (ex_extract hf rfl rfl) (fun a hf => ?_)
      refine stq hf rfl rfl rfl (ex_assign hf rfl) (fun a hf => ?_)
      refine stq hf rfl rfl rfl (ex_assign hf rfl) (fun a hf => ?_)
      refine hK34 _ _ ?_
      refine hN13 _ _ ?_
      refine bnd H (fun s35 hs35 H => ?_)
      refine seq_reg (fun K37 hK37 => ?_)
      refine stq hf rfl rfl rfl (ex_move hf rfl) (fun a hf => ?_)
      refine stq hf rfl rfl rfl (ex_move hf rfl) (fun a hf => ?_)
      refine stepF hf rfl rfl rfl (ex_call cf_14 hf rfl) (law38_Powers.calls k a3 (s7.1.length : Int) 300 v3 (hs.enter (.k (.k (.k (.k (.k (.k (.k .nil)))))))) (Sr.old hr hs (.k (.k (.k (.k (.k (.k (.k .nil))))))) (i := 2) rfl (fun _ h => h) (fun _ h => h) (Sr.nil _ _)) hs35) (fun v w hR a hf => ?_)
      obtain ⟨v36, rfl, hs'⟩ := hR
      replace hs := hs.step (.k (.k (.k (.k (.k (.k (.k .nil))))))) hs'
      clear hs'
      refine stq hf rfl rfl rfl (ex_assign hf rfl) (fun a hf => ?_)
      refine hK37 _ _ ?_
      refine bnd H (fun s38 hs38 H => ?_)
      refine seq_reg (fun K39 hK39 => ?_)
      refine stq hf rfl rfl rfl (ex_fieldAddrB fa_27_0 rfl hf rfl) (fun a hf => ?_)
      refine stq hf rfl rfl rfl (ex_load sc_22 hf rfl (bx_cell (hs.get (i := 5) rfl) _ rfl)) (fun a hf => ?_)
      refine stq hf rfl rfl rfl (ex_fieldAddrB fa_27_1 rfl hf rfl) (fun a hf => ?_)
      refine stq hf rfl rfl rfl (ex_load sc_23 hf rfl (bx_cell (hs.get (i := 5) rfl) _ rfl)) (fun a hf => ?_)
      refine stq hf rfl rfl rfl (ex_fieldAddrB fa_27_2 rfl hf rfl) (fun a hf => ?_)
      refine stq hf rfl rfl rfl (ex_load sc_2 hf rfl (bx_cell (hs.get (i := 5) rfl) _ rfl)) (fun a hf => ?_)
      refine stq hf rfl rfl rfl (ex_move hf rfl) (fun a hf => ?_)
      refine stepF hf rfl rfl rfl (ex_call cf_27 hf rfl) (heat_Bound.calls k s7.1 s7.2.1 s7.2.2 s35 v8 v9 v36 (hs.enter (.k (.k (.k (.k (.k (.k (.k (.k .nil))))))))) (Sr.own hs (.k (.k (.k (.k (.k (.k (.k (.k .nil)))))))) (i := 6) rfl osl_rsl (fun _ h => h.1) (Sr.own hs (.k (.k (.k (.k (.k (.k (.k (.k .nil)))))))) (i := 7) rfl osl_rsl (fun _ h => h.1) (Sr.own hs (.k (.k (.k (.k (.k (.k (.k (.k .nil)))))))) (i := 0) rfl osl_rsl (fun _ h => h.1) (Sr.nil _ _)))) hs38) (fun v w hR a hf => ?_)
      obtain ⟨rfl, hs'⟩ := hR
      replace hs := hs.step (.k (.k (.k (.k (.k (.k (.k (.k .nil)))))))) hs'
      clear hs'
      refine stq hf rfl rfl rfl (ex_move hf rfl) (fun a hf => ?_)
      refine stq hf rfl rfl rfl (ex_extract hf rfl rfl) (fun a hf => ?_)
      refine stq hf rfl rfl rfl (ex_extract hf rfl rfl) (fun a hf => ?_)
      refine stq hf rfl rfl rfl (ex_assign hf rfl) (fun a hf => ?_)
      refine stq hf rfl rfl rfl (ex_assign hf rfl) (fun a hf => ?_)
      refine hK39 _ _ ?_
      refine seq_n (fun Q40 hN40 hR40 hX40 => ?_)
      refine bnd H (fun x41 H41 HO41 => ?_)
      clear H
      refine seq_cut (fun a w => Fr a 143 [(4, v4), (11, .pointer (some ⟨b10, 0, none⟩)), (12, .int .i64 (s7.1.length : Int)), (13, .pointer (some ⟨b30, 0, none⟩)), (15, v36), (16, .int .i64 s38.1), (68, .bool x41)] ∧ St M w0 w [bx b10 27 [v8, v9, .int .i64 s7.2.2], osl K_api_HeatDomain v8 s7.1, osl K_api_HeatLink v9 s7.2.1, bx b30 64 [v31, v32, .int .i64 c15.2.2.1, v33, .int .i64 c15.2.2.2.2], osl K_api_HeatDomain v31 c15.1, osl K_api_HeatLink v32 c15.2.1, osl K_int64 v33 c15.2.2.2.1, osl K_int64 v36 s35]) (fun Q41 hJ41 hR41 hX41 => ?_) (fun a w hJ => ?_)
      · replace H := H41
        refine itt H (fun hc42 H => ?_) (fun hc42 H => ?_)
        · -- s14.2 = 0
          refine itt H (fun hc43 H => ?_) (fun hc43 H => ?_)
          · -- s38.2 = 0
            refine region_k (fun K44 hK44 => ?_)
            refine stq hf rfl rfl rfl (ex_move hf rfl) (fun a hf => ?_)
            refine stq hf rfl rfl rfl (ex_neq hf rfl rfl) (fun a hf => ?_)
            refine stq hf rfl rfl rfl (ex_move hf rfl) (fun a hf => ?_)
            replace hf := hf.castB (t := 60) rfl (ndec_f hc42)
            replace hf := hf.castB (t := 61) rfl (ndec_f hc42)
            refine stq hf rfl rfl rfl (ex_move hf rfl) (fun a hf => ?_)
            refine stq hf rfl rfl rfl (ex_neq hf rfl rfl) (fun a hf => ?_)
            refine stq hf rfl rfl rfl (ex_pickF hf rfl rfl) (fun a hf => ?_)
            refine stq hf rfl rfl rfl (ex_move hf rfl) (fun a hf => ?_)
            replace hf := hf.castB (t := 63) rfl (ndec_f hc43)
            replace hf := hf.castB (t := 64) rfl (ndec_f hc43)
            replace hf := hf.castB (t := 65) rfl (ndec_f hc43)
            refine stq hf rfl rfl rfl (ex_move hf rfl) (fun a hf => ?_)
            refine stq hf rfl rfl rfl (ex_eqp Try.underlying29 hf rfl rfl) (fun a hf => ?_)
            refine stq hf rfl rfl rfl (ex_pickF hf rfl rfl) (fun a hf => ?_)
            refine hK44 _ _ ?_
            replace hs := hs.pick (.k (.k (.k (.k (.c (.k (.k (.k .nil))))))))
            replace hs := hs.pick (.k (.k (.k (.k (.c (.k (.k (.k .nil))))))))
            replace hs := hs.pick (.k (.k (.k (.k (.c (.k (.k (.k .nil))))))))
            replace hs := hs.pick (.k (.k (.k (.k (.c (.k (.k (.k .nil))))))))
            replace hs := hs.pick (.k (.k (.k (.k (.k (.k (.k (.c .nil))))))))
            replace hs := hs.pick (.k (.k (.k (.k (.k (.k (.k (.c .nil))))))))
            replace hs := hs.pick (.k (.k (.k (.k (.k (.k (.k (.c .nil))))))))
            have e41 := some_eq H; subst e41
            exact hJ41 _ _ ⟨hf.sub ⟨rfl, rfl, rfl, rfl, rfl, rfl, rfl, trivial⟩, hs⟩
          · -- not s38.2 = 0
            refine region_k (fun K45 hK45 => ?_)
            refine stq hf rfl rfl rfl (ex_move hf rfl) (fun a hf => ?_)
            refine stq hf rfl rfl rfl (ex_neq hf rfl rfl) (fun a hf => ?_)
            refine stq hf rfl rfl rfl (ex_move hf rfl) (fun a hf => ?_)
            replace hf := hf.castB (t := 60) rfl (ndec_f hc42)
            replace hf := hf.castB (t := 61) rfl (ndec_f hc42)
            refine stq hf rfl rfl rfl (ex_move hf rfl) (fun a hf => ?_)
            refine stq hf rfl rfl rfl (ex_neq hf rfl rfl) (fun a hf => ?_)
            refine stq hf rfl rfl rfl (ex_pickF hf rfl rfl) (fun a hf => ?_)
            refine stq hf rfl rfl rfl (ex_move hf rfl) (fun a hf => ?_)
            replace hf := hf.castB (t := 63) rfl (ndec_t hc43)
            replace hf := hf.castB (t := 64) rfl (ndec_t hc43)
            replace hf := hf.castB (t := 65) rfl (ndec_t hc43)
            refine stepN hf rfl rfl rfl (fun a hf => ?_)
            refine stepN hf rfl rfl rfl (fun a hf => ?_)
            refine stq hf rfl rfl rfl (ex_pickT hf rfl rfl) (fun a hf => ?_)
            refine hK45 _ _ ?_
            replace hs := hs.pick (.k (.k (.k (.k (.c (.k (.k (.k .nil))))))))
            replace hs := hs.pick (.k (.k (.k (.k (.c (.k (.k (.k .nil))))))))
            replace hs := hs.pick (.k (.k (.k (.k (.c (.k (.k (.k .nil))))))))
            replace hs := hs.pick (.k (.k (.k (.k (.c (.k (.k (.k .nil))))))))
            replace hs := hs.pick (.k (.k (.k (.k (.k (.k (.k (.c .nil))))))))
            replace hs := hs.pick (.k (.k (.k (.k (.k (.k (.k (.c .nil))))))))
            replace hs := hs.pick (.k (.k (.k (.k (.k (.k (.k (.c .nil))))))))
            have e41 := some_eq H; subst e41
            exact hJ41 _ _ ⟨hf.sub ⟨rfl, rfl, rfl, rfl, rfl, rfl, rfl, trivial⟩, hs⟩
        · -- not s14.2 = 0
          refine region_k (fun K46 hK46 => ?_)
          refine stq hf rfl rfl rfl (ex_move hf rfl) (fun a hf => ?_)
          refine stq hf rfl rfl rfl (ex_neq hf rfl rfl) (fun a hf => ?_)
          refine stq hf rfl rfl rfl (ex_move hf rfl) (fun a hf => ?_)
          replace hf := hf.castB (t := 60) rfl (ndec_t hc42)
          replace hf := hf.castB (t := 61) rfl (ndec_t hc42)
          refine stepN hf rfl rfl rfl (fun a hf => ?_)
          refine stepN hf rfl rfl rfl (fun a hf => ?_)
          refine stq hf rfl rfl rfl (ex_pickT hf rfl rfl) (fun a hf => ?_)
          refine stq hf rfl rfl rfl (ex_move hf rfl) (fun a hf => ?_)
          refine stepN hf rfl rfl rfl (fun a hf => ?_)
          refine stepN hf rfl rfl rfl (fun a hf => ?_)
          refine stq hf rfl rfl rfl (ex_pickT hf rfl rfl) (fun a hf => ?_)
          refine hK46 _ _ ?_
          replace hs := hs.pick (.k (.k (.k (.k (.c (.k (.k (.k .nil))))))))
          replace hs := hs.pick (.k (.k (.k (.k (.c (.k (.k (.k .nil))))))))
          replace hs := hs.pick (.k (.k (.k (.k (.c (.k (.k (.k .nil))))))))
          replace hs := hs.pick (.k (.k (.k (.k (.c (.k (.k (.k .nil))))))))
          replace hs := hs.pick (.k (.k (.k (.k (.k (.k (.k (.c .nil))))))))
          replace hs := hs.pick (.k (.k (.k (.k (.k (.k (.k (.c .nil))))))))
          replace hs := hs.pick (.k (.k (.k (.k (.k (.k (.k (.c .nil))))))))
          have e41 := some_eq H; subst e41
          exact hJ41 _ _ ⟨hf.sub ⟨rfl, rfl, rfl, rfl, rfl, rfl, rfl, trivial⟩, hs⟩
      · obtain ⟨hf, hs⟩ := hJ
        replace H := HO41
        clear HO41
        refine itt H (fun hc47 H => ?_) (fun hc47 H => ?_)
        · -- x41 = true
          replace hf := hf.castB (t := 68) rfl hc47
          refine cond_T hf rfl ?_
          refine seq_reg (fun K48 hK48 => ?_)
          refine stq hf rfl rfl rfl (ex_assign hf rfl) (fun a hf => ?_)
          refine hK48 _ _ ?_
          refine wp_ret ?_
          refine hR40 _ _ ?_
          have eR := some_eq H; subst eR
          replace hs := hs.keep (.d (.d (.d (.d (.d (.d (.d (.d .nil))))))))
          exact ret1 Try.results10 hf rfl ⟨_, rfl, ⟨rfl, hs⟩⟩
        · -- not x41 = true
          replace hf := hf.castB (t := 68) rfl (bool_f hc47)
          refine cond_F hf rfl ?_
          refine wp_skip ?_
          refine hN40 _ _ ?_
          refine bnd H (fun x49 H49 HO49 => ?_)
          clear H
          refine seq_cut (fun a w => ∃ (x49s : Unit), x49 = .go x49s ∧ Fr a 143 [] ∧ St M w0 w []) (fun Q49 hJ49 hR49 hX49 => ?_) (fun a w hJ => ?_)
          · replace H := H49
            refine seq_reg (fun K50 hK50 => ?_)
            refine stq hf rfl rfl rfl (ex_assign hf rfl) (fun a hf => ?_)
            refine hK50 _ _ ?_
            refine block_k (fun Q51 hN51 hR51 hX51 hY51 => ?_)
            refine loop_k (fun n a w => ∃ (y53 : (List Int)) (y54 : Int) (y55 : Int) (v52 : Value), Fr a 143 [(4, v4), (11, .pointer (some ⟨b10, 0, none⟩)), (12, .int .i64 (s7.1.length : Int)), (13, .pointer (some ⟨b30, 0, none⟩)), (15, v36), (16, .int .i64 s38.1), (18, .int .i64 y55)] ∧ St M w0 w [bx b10 27 [v8, v9, .int .i64 s7.2.2], osl K_api_HeatDomain v8 s7.1, osl K_api_HeatLink v9 s7.2.1, bx b30 64 [v31, v32, .int .i64 c15.2.2.1, v52, .int .i64 y54], osl K_api_HeatDomain v31 c15.1, osl K_api_HeatLink v32 c15.2.1, osl K_int64 v52 y53, osl K_int64 v36 s35] ∧ law38_HeatBoundHolds.l1 n a4 s7 s35 c15 s38 y53 y54 y55 = some x49) k ?_ (fun n57 a w hI Q57 hL57 hR57 hX57 => ?_)
            · -- at the start
              exact ⟨c15.2.2.2.1, c15.2.2.2.2, 0, v33, hf.sub ⟨rfl, rfl, rfl, rfl, rfl, rfl, rfl, trivial⟩, hs, H⟩
            · obtain ⟨y53, y54, y55, v52, hf, hs, H⟩ := hI
              cases n57 with
              | zero => exact absurd H (by rw [law38_HeatBoundHolds.l1.eq_1]; intro h; cases h)
              | succ k57 =>
                replace H := (law38_HeatBoundHolds.l1.eq_2 ..).symm.trans H
                refine seq_n (fun Q58 hN58 hR58 hX58 => ?_)
                refine seq_reg (fun K59 hK59 => ?_)
                refine stq hf rfl rfl rfl (ex_move hf rfl) (fun a hf => ?_)
                refine stq hf rfl rfl rfl (ex_move hf rfl) (fun a hf => ?_)
                refine stq hf rfl rfl rfl (ex_lenS Try.underlying24 (rsl2_isSl (hr.now hs (i := 3) rfl)) hf rfl) (fun a hf => ?_)
                refine stq hf rfl rfl rfl (ex_lss hf rfl rfl) (fun a hf => ?_)
                refine hK59 _ _ ?_
                refine itt H (fun hc60 H => ?_) (fun hc60 H => ?_)
                · -- y55 < (a4.length : Int)
                  replace hf := hf.castB (t := 72) rfl (dec_t hc60)
                  refine cond_T hf rfl ?_
                  refine wp_skip ?_
                  refine hN58 _ _ ?_
                  refine bnd H (fun x61 H61 HO61 => ?_)
                  clear H
                  refine seq_cut (fun a w => ∃ (x61s : (List Int) × Int) (v62 : Value), x61 = .go x61s ∧ Fr a 143 [(4, v4), (11, .pointer (some ⟨b10, 0, none⟩)), (12, .int .i64 (s7.1.length : Int)), (13, .pointer (some ⟨b30, 0, none⟩)), (15, v36), (16, .int .i64 s38.1), (18, .int .i64 y55)] ∧ St M w0 w [bx b10 27 [v8, v9, .int .i64 s7.2.2], osl K_api_HeatDomain v8 s7.1, osl K_api_HeatLink v9 s7.2.1, bx b30 64 [v31, v32, .int .i64 c15.2.2.1, v62, .int .i64 x61s.2], osl K_api_HeatDomain v31 c15.1, osl K_api_HeatLink v32 c15.2.1, osl K_int64 v62 x61s.1, osl K_int64 v36 s35]) (fun Q61 hJ61 hR61 hX61 => ?_) (fun a w hJ => ?_)
                  · replace H := H61
                    refine block_k (fun Q63 hN63 hR63 hX63 hY63 => ?_)
                    refine ck_some H (fun hc64 H => ?_)
                    refine bnd H (fun s65 hs65 H => ?_)
                    refine seq_reg (fun K67 hK67 => ?_)
                    refine stq hf rfl rfl rfl (ex_move hf rfl) (fun a hf => ?_)
                    refine stq hf rfl rfl rfl (ex_move hf rfl) (fun a hf => ?_)
                    refine stq hf rfl rfl rfl (ex_indexAddr sa_24 (rsl2_isSl (hr.now hs (i := 3) rfl)) hc64.1 hc64.2 hf rfl rfl) (fun a hf => ?_)
                    refine stq hf rfl rfl rfl (ex_load sc_35 hf rfl (rsl2_cell (hr.now hs (i := 3) rfl) hc64.1 hc64.2)) (fun a hf => ?_)
                    refine stq hf rfl rfl rfl (ex_move hf rfl) (fun a hf => ?_)
                    refine stepF hf rfl rfl rfl (ex_call cf_14 hf rfl) (law38_Powers.calls k57 (gd [] a4 y55) (s7.1.length : Int) 300 (vs4 y55.toNat) (hs.enter (.k (.k (.k (.k (.k (.k (.k (.k .nil))))))))) (Sr.old hr hs (.k (.k (.k (.k (.k (.k (.k (.k .nil)))))))) (i := 3) rfl (fun _ h => rsl2_rsl _ h hc64.1 hc64.2) (fun _ h => rsl2_fs hc64.1 hc64.2 h) (Sr.nil _ _)) hs65) (fun v w hR a hf => ?_)
                    obtain ⟨v66, rfl, hs'⟩ := hR
                    replace hs := hs.step (.k (.k (.k (.k (.k (.k (.k (.k .nil)))))))) hs'
                    clear hs'
                    refine stq hf rfl rfl rfl (ex_assign hf rfl) (fun a hf => ?_)
                    refine hK67 _ _ ?_
                    refine bnd H (fun x68 H68 HO68 => ?_)
                    clear H
                    refine seq_cut (fun a w => Fr a 143 [(4, v4), (11, .pointer (some ⟨b10, 0, none⟩)), (12, .int .i64 (s7.1.length : Int)), (13, .pointer (some ⟨b30, 0, none⟩)), (15, v36), (16, .int .i64 s38.1), (18, .int .i64 y55), (19, v66)] ∧ St M w0 w [bx b10 27 [v8, v9, .int .i64 s7.2.2], osl K_api_HeatDomain v8 s7.1, osl K_api_HeatLink v9 s7.2.1, bx b30 64 [v31, v32, .int .i64 c15.2.2.1, v52, .int .i64 y54], osl K_api_HeatDomain v31 c15.1, osl K_api_HeatLink v32 c15.2.1, osl K_int64 v52 y53, osl K_int64 v36 s35, osl K_int64 v66 x68]) (fun Q68 hJ68 hR68 hX68 => ?_) (fun a w hJ => ?_)
                    · replace H := H68
                      refine seq_reg (fun K69 hK69 => ?_)
                      refine stq hf rfl rfl rfl (ex_assign hf rfl) (fun a hf => ?_)
                      refine hK69 _ _ ?_
                      refine block_k (fun Q70 hN70 hR70 hX70 hY70 => ?_)
                      refine loop_k (fun n a w => ∃ (y71 : (List Int)) (y72 : Int), Fr a 143 [(4, v4), (11, .pointer (some ⟨b10, 0, none⟩)), (12, .int .i64 (s7.1.length : Int)), (13, .pointer (some ⟨b30, 0, none⟩)), (15, v36), (16, .int .i64 s38.1), (18, .int .i64 y55), (19, v66), (20, .int .i64 y72)] ∧ St M w0 w [bx b10 27 [v8, v9, .int .i64 s7.2.2], osl K_api_HeatDomain v8 s7.1, osl K_api_HeatLink v9 s7.2.1, bx b30 64 [v31, v32, .int .i64 c15.2.2.1, v52, .int .i64 y54], osl K_api_HeatDomain v31 c15.1, osl K_api_HeatLink v32 c15.2.1, osl K_int64 v52 y53, osl K_int64 v36 s35, osl K_int64 v66 y71] ∧ law38_HeatBoundHolds.l2 n s7 s35 y71 y72 = some x68) k57 ?_ (fun n74 a w hI Q74 hL74 hR74 hX74 => ?_)
                      · -- at the start
                        replace hs := hs.pick (.k (.k (.k (.k (.k (.k (.k (.k (.c .nil)))))))))
                        replace hs := hs.pick (.k (.k (.k (.k (.k (.k (.k (.k (.c .nil)))))))))
                        replace hs := hs.pick (.k (.k (.k (.k (.k (.k (.k (.k (.c .nil)))))))))
                        replace hs := hs.pick (.k (.k (.k (.k (.k (.k (.k (.k (.c .nil)))))))))
                        replace hs := hs.pick (.k (.k (.k (.k (.k (.k (.k (.k (.c .nil)))))))))
                        replace hs := hs.pick (.k (.k (.k (.k (.k (.k (.k (.k (.c .nil)))))))))
                        replace hs := hs.pick (.k (.k (.k (.k (.k (.k (.k (.k (.c .nil)))))))))
                        replace hs := hs.pick (.k (.k (.k (.k (.k (.k (.k (.k (.c .nil)))))))))
                        exact ⟨s65, 0, hf.sub ⟨rfl, rfl, rfl, rfl, rfl, rfl, rfl, rfl, rfl, trivial⟩, hs, H⟩
                      · obtain ⟨y71, y72, hf, hs, H⟩ := hI
                        cases n74 with
                        | zero => exact absurd H (by rw [law38_HeatBoundHolds.l2.eq_1]; intro h; cases h)
                        | succ k74 =>
                          replace H := (law38_HeatBoundHolds.l2.eq_2 ..).symm.trans H
                          refine seq_n (fun Q75 hN75 hR75 hX75 => ?_)
                          refine seq_reg (fun K76 hK76 => ?_)
                          refine stq hf rfl rfl rfl (ex_move hf rfl) (fun a hf => ?_)
                          refine stq hf rfl rfl rfl (ex_move hf rfl) (fun a hf => ?_)
                          refine stq hf rfl rfl rfl (ex_lss hf rfl rfl) (fun a hf => ?_)
                          refine hK76 _ _ ?_
                          refine itt H (fun hc77 H => ?_) (fun hc77 H => ?_)
                          · -- y72 < (s7.1.length : Int)
                            replace hf := hf.castB (t := 83) rfl (dec_t hc77)
                            refine cond_T hf rfl ?_
                            refine wp_skip ?_
                            refine hN75 _ _ ?_
                            refine seq_n (fun Q78 hN78 hR78 hX78 => ?_)
                            refine block_k (fun Q79 hN79 hR79 hX79 hY79 => ?_)
                            refine ck_some H (fun hc80 H => ?_)
                            refine ck_some H (fun hc81 H => ?_)
                            refine region_d fol 11 [(4, v4), (11, .pointer (some ⟨b10, 0, none⟩)), (12, .int .i64 (s7.1.length : Int)), (13, .pointer (some ⟨b30, 0, none⟩)), (15, v36), (16, .int .i64 s38.1), (18, .int .i64 y55), (19, v66), (20, .int .i64 y72)] [(0, v66), (1, .int .i64 y72), (2, v66), (3, .int .i64 y72), (4, .pointer (some (sla v66 (y72.toNat * 1)))), (5, .int .i64 (gd 0 y71 y72)), (6, v36), (7, .int .i64 y72), (8, .pointer (some (sla v36 (y72.toNat * 1)))), (9, .int .i64 (gd 0 s35 y72)), (10, .int .i64 (mn (gd 0 y71 y72) (gd 0 s35 y72)))] [] (fun w => (osl K_int64 v66 y71).ok w ∧ (osl K_int64 v36 s35).ok w ∧ True) (fun w => St M w0 w [bx b10 27 [v8, v9, .int .i64 s7.2.2], osl K_api_HeatDomain v8 s7.1, osl K_api_HeatLink v9 s7.2.1, bx b30 64 [v31, v32, .int .i64 c15.2.2.1, v52, .int .i64 y54], osl K_api_HeatDomain v31 c15.1, osl K_api_HeatLink v32 c15.2.1, osl K_int64 v52 y53, osl K_int64 v36 s35, osl K_int64 v66 y71]) hf ⟨rfl, rfl, rfl, rfl, rfl, rfl, rfl, rfl, rfl, trivial⟩ (by kernel_rfl) (by kernel_rfl) rfl (by decide) ⟨hs.drew.get (i := 8) rfl, hs.drew.get (i := 7) rfl, trivial⟩ hs.drew (.cons (⟨_, _, rfl, rfl, rfl, rfl, fun a w hR hf => .inl ⟨wanted_yes hf rfl, ex_move hf rfl⟩⟩) (.cons (⟨_, _, rfl, rfl, rfl, rfl, fun a w hR hf => .inl ⟨wanted_yes hf rfl, ex_move hf rfl⟩⟩) (.cons (⟨_, _, rfl, rfl, rfl, rfl, fun a w hR hf => .inl ⟨wanted_yes hf rfl, ex_move hf rfl⟩⟩) (.cons (⟨_, _, rfl, rfl, rfl, rfl, fun a w hR hf => .inl ⟨wanted_yes hf rfl, ex_move hf rfl⟩⟩) (.cons (⟨_, _, rfl, rfl, rfl, rfl, fun a w hR hf => .inl ⟨wanted_yes hf rfl, ex_indexAddr sa_35 (rsl_isSl (osl_rsl _ hR.1)) hc80.1 hc80.2 hf rfl rfl⟩⟩) (.cons (⟨_, _, rfl, rfl, rfl, rfl, fun a w hR hf => .inl ⟨wanted_yes hf rfl, ex_load sc_2 hf rfl (el_cell (K := K_int64) (f := 0) (rsl_rd (osl_rsl _ hR.1)) hc80.1 hc80.2 rfl)⟩⟩) (.cons (⟨_, _, rfl, rfl, rfl, rfl, fun a w hR hf => .inl ⟨wanted_yes hf rfl, ex_move hf rfl⟩⟩) (.cons (⟨_, _, rfl, rfl, rfl, rfl, fun a w hR hf => .inl ⟨wanted_yes hf rfl, ex_move hf rfl⟩⟩) (.cons (⟨_, _, rfl, rfl, rfl, rfl, fun a w hR hf => .inl ⟨wanted_yes hf rfl, ex_indexAddr sa_35 (rsl_isSl (osl_rsl _ hR.2.1)) hc81.1 hc81.2 hf rfl rfl⟩⟩) (.cons (⟨_, _, rfl, rfl, rfl, rfl, fun a w hR hf => .inl ⟨wanted_yes hf rfl, ex_load sc_2 hf rfl (el_cell (K := K_int64) (f := 0) (rsl_rd (osl_rsl _ hR.2.1)) hc81.1 hc81.2 rfl)⟩⟩) (.cons (⟨_, _, rfl, rfl, rfl, rfl, fun a w hR hf => .inl ⟨wanted_yes hf rfl, ex_min hf rfl rfl⟩⟩) (.nil)))))))))))) (fun K82 hK82 => ?_)
                            refine RW.zero (by kernel_rfl) (by kernel_rfl) [(4, v4), (11, .pointer (some ⟨b10, 0, none⟩)), (12, .int .i64 (s7.1.length : Int)), (13, .pointer (some ⟨b30, 0, none⟩)), (15, v36), (16, .int .i64 s38.1), (18, .int .i64 y55), (19, v66), (20, .int .i64 y72), (86, v66), (87, .int .i64 y72), (96, .int .i64 (mn (gd 0 y71 y72) (gd 0 s35 y72)))] ⟨rfl, rfl, rfl, rfl, rfl, rfl, rfl, rfl, rfl, rfl, rfl, rfl, trivial⟩ (fun a w hR hs hf => ?_)
                            refine stq hf rfl rfl rfl (ex_indexAddr sa_35 (rsl_isSl (osl_rsl _ (hs.get (i := 8) rfl))) hc80.1 hc80.2 hf rfl rfl) (fun a hf => ?_)
                            refine stepS hf rfl rfl (er_storeE (K := K_int64) (f := 0) (x' := (mn (gd 0 y71 y72) (gd 0 s35 y72))) hs (.k (.k (.k (.k (.k (.k (.k (.k (.c .nil))))))))) hc80.1 hc80.2 hf rfl rfl rfl sz_2 rfl rfl) (fun w hs => ?_)
                            refine hK82 _ _ ?_
                            refine hN79 _ _ ?_
                            refine hN78 _ _ ?_
                            refine region_k (fun K83 hK83 => ?_)
                            refine stq hf rfl rfl rfl (ex_move hf rfl) (fun a hf => ?_)
                            refine stq hf rfl rfl rfl (ex_add hf rfl rfl) (fun a hf => ?_)
                            refine stq hf rfl rfl rfl (ex_assign hf rfl) (fun a hf => ?_)
                            refine hK83 _ _ ?_
                            replace hs := hs.pick (.k (.k (.k (.k (.k (.k (.k (.k (.c .nil)))))))))
                            replace hs := hs.pick (.k (.k (.k (.k (.k (.k (.k (.k (.c .nil)))))))))
                            replace hs := hs.pick (.k (.k (.k (.k (.k (.k (.k (.k (.c .nil)))))))))
                            replace hs := hs.pick (.k (.k (.k (.k (.k (.k (.k (.k (.c .nil)))))))))
                            replace hs := hs.pick (.k (.k (.k (.k (.k (.k (.k (.k (.c .nil)))))))))
                            replace hs := hs.pick (.k (.k (.k (.k (.k (.k (.k (.k (.c .nil)))))))))
                            replace hs := hs.pick (.k (.k (.k (.k (.k (.k (.k (.k (.c .nil)))))))))
                            replace hs := hs.pick (.k (.k (.k (.k (.k (.k (.k (.k (.c .nil)))))))))
                            exact hL74 k74 _ _ (Nat.lt_succ_self _) ⟨(y71.set y72.toNat (mn (gd 0 y71 y72) (gd 0 s35 y72))), (IntKind.i64.wrap (y72 + 1)), hf.sub ⟨rfl, rfl, rfl, rfl, rfl, rfl, rfl, rfl, rfl, trivial⟩, hs, H⟩
                          · -- not y72 < (s7.1.length : Int)
                            replace hf := hf.castB (t := 83) rfl (dec_f hc77)
                            refine cond_F hf rfl ?_
                            refine wp_exit ?_
                            refine hX75 2 _ _ ?_
                            refine hX74 2 _ _ ?_
                            refine hX70 _ _ ?_
                            have e68 := some_eq H; subst e68
                            exact hJ68 _ _ ⟨hf.sub ⟨rfl, rfl, rfl, rfl, rfl, rfl, rfl, rfl, trivial⟩, hs⟩
                    · obtain ⟨hf, hs⟩ := hJ
                      replace H := HO68
                      clear HO68
                      refine bnd H (fun s84 hs84 H => ?_)
                      refine seq_reg (fun K87 hK87 => ?_)
                      refine stq hf rfl rfl rfl (ex_move hf rfl) (fun a hf => ?_)
                      refine stq hf rfl rfl rfl (ex_move hf rfl) (fun a hf => ?_)
                      refine stepF hf rfl rfl rfl (ex_call cf_15 hf rfl) (heat_Model_Step.calls k57 c15.1 c15.2.1 c15.2.2.1 y53 y54 x68 b30 v31 v32 v52 v66 (hs.enter (.k (.k (.k (.c (.k (.k (.c (.k (.k .nil)))))))))) (Sr.own hs (.k (.k (.k (.c (.k (.k (.c (.k (.k .nil))))))))) (i := 3) rfl osl_rsl (fun _ h => h.1) (Sr.own hs (.k (.k (.k (.c (.k (.k (.c (.k (.k .nil))))))))) (i := 4) rfl osl_rsl (fun _ h => h.1) (Sr.own hs (.k (.k (.k (.c (.k (.k (.c (.k (.k .nil))))))))) (i := 6) rfl osl_rsl (fun _ h => h.1) (Sr.nil _ _)))) hs84) (fun v w hR a hf => ?_)
                      obtain ⟨v85, v86, rfl, hs'⟩ := hR
                      replace hs := hs.step (.k (.k (.k (.c (.k (.k (.c (.k (.k .nil))))))))) hs'
                      clear hs'
                      refine stq hf rfl rfl rfl (ex_move hf rfl) (fun a hf => ?_)
                      refine stq hf rfl rfl rfl (ex_extract hf rfl rfl) (fun a hf => ?_)
                      refine stq hf rfl rfl rfl (ex_extract hf rfl rfl) (fun a hf => ?_)
                      refine stq hf rfl rfl rfl (ex_assign hf rfl) (fun a hf => ?_)
                      refine stq hf rfl rfl rfl (ex_assign hf rfl) (fun a hf => ?_)
                      refine hK87 _ _ ?_
                      refine seq_n (fun Q88 hN88 hR88 hX88 => ?_)
                      refine bnd H (fun x89 H89 HO89 => ?_)
                      clear H
                      refine seq_cut (fun a w => Fr a 143 [(4, v4), (11, .pointer (some ⟨b10, 0, none⟩)), (12, .int .i64 (s7.1.length : Int)), (13, .pointer (some ⟨b30, 0, none⟩)), (15, v36), (16, .int .i64 s38.1), (18, .int .i64 y55), (21, v86), (111, .bool x89)] ∧ St M w0 w [bx b10 27 [v8, v9, .int .i64 s7.2.2], osl K_api_HeatDomain v8 s7.1, osl K_api_HeatLink v9 s7.2.1, bx b30 64 [v31, v32, .int .i64 c15.2.2.1, v85, .int .i64 s84.1], osl K_api_HeatDomain v31 c15.1, osl K_api_HeatLink v32 c15.2.1, osl K_int64 v85 s84.2.1, osl K_int64 v36 s35, osl K_int64 v86 s84.2.2.1]) (fun Q89 hJ89 hR89 hX89 => ?_) (fun a w hJ => ?_)
                      · replace H := H89
                        refine itt H (fun hc90 H => ?_) (fun hc90 H => ?_)
                        · -- s84.2.2.2 = 0
                          refine region_k (fun K91 hK91 => ?_)
                          refine stq hf rfl rfl rfl (ex_move hf rfl) (fun a hf => ?_)
                          refine stq hf rfl rfl rfl (ex_neq hf rfl rfl) (fun a hf => ?_)
                          refine stq hf rfl rfl rfl (ex_move hf rfl) (fun a hf => ?_)
                          replace hf := hf.castB (t := 105) rfl (ndec_f hc90)
                          replace hf := hf.castB (t := 106) rfl (ndec_f hc90)
                          refine stq hf rfl rfl rfl (ex_move hf rfl) (fun a hf => ?_)
                          refine stq hf rfl rfl rfl (ex_lenS Try.underlying35 (rsl_isSl (osl_rsl _ (hs.get (i := 2) rfl))) hf rfl) (fun a hf => ?_)
                          refine stq hf rfl rfl rfl (ex_move hf rfl) (fun a hf => ?_)
                          refine stq hf rfl rfl rfl (ex_neq hf rfl rfl) (fun a hf => ?_)
                          refine stq hf rfl rfl rfl (ex_pickF hf rfl rfl) (fun a hf => ?_)
                          refine hK91 _ _ ?_
                          replace hs := hs.keep (.k (.k (.k (.k (.k (.k (.k (.k (.k (.d .nil))))))))))
                          replace hs := hs.pick (.k (.k (.c (.k (.k (.k (.k (.k (.k .nil)))))))))
                          replace hs := hs.pick (.k (.k (.k (.k (.k (.k (.k (.k (.c .nil)))))))))
                          replace hs := hs.pick (.k (.k (.k (.c (.k (.k (.k (.k (.k .nil)))))))))
                          replace hs := hs.pick (.k (.k (.k (.k (.k (.k (.k (.k (.c .nil)))))))))
                          replace hs := hs.pick (.k (.k (.k (.k (.k (.k (.k (.k (.c .nil)))))))))
                          replace hs := hs.pick (.k (.k (.k (.k (.k (.c (.k (.k (.k .nil)))))))))
                          replace hs := hs.pick (.k (.k (.k (.k (.k (.k (.k (.k (.c .nil)))))))))
                          replace hs := hs.pick (.k (.k (.k (.k (.k (.k (.k (.k (.c .nil)))))))))
                          replace hs := hs.pick (.k (.k (.k (.k (.k (.k (.k (.k (.c .nil)))))))))
                          have e89 := some_eq H; subst e89
                          exact hJ89 _ _ ⟨hf.sub ⟨rfl, rfl, rfl, rfl, rfl, rfl, rfl, rfl, rfl, trivial⟩, hs⟩
                        · -- not s84.2.2.2 = 0
                          refine region_k (fun K92 hK92 => ?_)
                          refine stq hf rfl rfl rfl (ex_move hf rfl) (fun a hf => ?_)
                          refine stq hf rfl rfl rfl (ex_neq hf rfl rfl) (fun a hf => ?_)
                          refine stq hf rfl rfl rfl (ex_move hf rfl) (fun a hf => ?_)
                          replace hf := hf.castB (t := 105) rfl (ndec_t hc90)
                          replace hf := hf.castB (t := 106) rfl (ndec_t hc90)
                          refine stepN hf rfl rfl rfl (fun a hf => ?_)
                          refine stepN hf rfl rfl rfl (fun a hf => ?_)
                          refine stepN hf rfl rfl rfl (fun a hf => ?_)
                          refine stepN hf rfl rfl rfl (fun a hf => ?_)
                          refine stq hf rfl rfl rfl (ex_pickT hf rfl rfl) (fun a hf => ?_)
                          refine hK92 _ _ ?_
                          replace hs := hs.keep (.k (.k (.k (.k (.k (.k (.k (.k (.k (.d .nil))))))))))
                          replace hs := hs.pick (.k (.k (.c (.k (.k (.k (.k (.k (.k .nil)))))))))
                          replace hs := hs.pick (.k (.k (.k (.k (.k (.k (.k (.k (.c .nil)))))))))
                          replace hs := hs.pick (.k (.k (.k (.c (.k (.k (.k (.k (.k .nil)))))))))
                          replace hs := hs.pick (.k (.k (.k (.k (.k (.k (.k (.k (.c .nil)))))))))
                          replace hs := hs.pick (.k (.k (.k (.k (.k (.k (.k (.k (.c .nil)))))))))
                          replace hs := hs.pick (.k (.k (.k (.k (.k (.c (.k (.k (.k .nil)))))))))
                          replace hs := hs.pick (.k (.k (.k (.k (.k (.k (.k (.k (.c .nil)))))))))
                          replace hs := hs.pick (.k (.k (.k (.k (.k (.k (.k (.k (.c .nil)))))))))
                          replace hs := hs.pick (.k (.k (.k (.k (.k (.k (.k (.k (.c .nil)))))))))
                          have e89 := some_eq H; subst e89
                          exact hJ89 _ _ ⟨hf.sub ⟨rfl, rfl, rfl, rfl, rfl, rfl, rfl, rfl, rfl, trivial⟩, hs⟩
                      · obtain ⟨hf, hs⟩ := hJ
                        replace H := HO89
                        clear HO89
                        refine itt H (fun hc93 H => ?_) (fun hc93 H => ?_)
                        · -- x89 = true
                          replace hf := hf.castB (t := 111) rfl hc93
                          refine cond_T hf rfl ?_
                          refine seq_reg (fun K94 hK94 => ?_)
                          refine stq hf rfl rfl rfl (ex_assign hf rfl) (fun a hf => ?_)
                          refine hK94 _ _ ?_
                          refine wp_ret ?_
                          refine hR88 _ _ ?_
                          refine hR63 _ _ ?_
                          have e61 := some_eq H; subst e61; replace H := el_rt HO61
                          refine hR61 _ _ ?_
                          refine hR57 _ _ ?_
                          refine hR51 _ _ ?_
                          have e49 := some_eq H; subst e49; replace H := el_rt HO49
                          refine hR49 _ _ ?_
                          have eR := some_eq H; subst eR
                          replace hs := hs.keep (.d (.d (.d (.d (.d (.d (.d (.d (.d .nil)))))))))
                          exact ret1 Try.results10 hf rfl ⟨_, rfl, ⟨rfl, hs⟩⟩
                        · -- not x89 = true
                          replace hf := hf.castB (t := 111) rfl (bool_f hc93)
                          refine cond_F hf rfl ?_
                          refine wp_skip ?_
                          refine hN88 _ _ ?_
                          refine seq_reg (fun K95 hK95 => ?_)
                          refine stq hf rfl rfl rfl (ex_assign hf rfl) (fun a hf => ?_)
                          refine hK95 _ _ ?_
                          refine block_k (fun Q96 hN96 hR96 hX96 hY96 => ?_)
                          refine loop_k (fun n a w => ∃ (y97 : Int), Fr a 143 [(4, v4), (11, .pointer (some ⟨b10, 0, none⟩)), (12, .int .i64 (s7.1.length : Int)), (13, .pointer (some ⟨b30, 0, none⟩)), (15, v36), (16, .int .i64 s38.1), (18, .int .i64 y55), (21, v86), (23, .int .i64 y97)] ∧ St M w0 w [bx b10 27 [v8, v9, .int .i64 s7.2.2], osl K_api_HeatDomain v8 s7.1, osl K_api_HeatLink v9 s7.2.1, bx b30 64 [v31, v32, .int .i64 c15.2.2.1, v85, .int .i64 s84.1], osl K_api_HeatDomain v31 c15.1, osl K_api_HeatLink v32 c15.2.1, osl K_int64 v85 s84.2.1, osl K_int64 v36 s35, osl K_int64 v86 s84.2.2.1] ∧ law38_HeatBoundHolds.l3 n s7 s84 s38 c15 y97 = some x61) k57 ?_ (fun n99 a w hI Q99 hL99 hR99 hX99 => ?_)
                          · -- at the start
                            exact ⟨0, hf.sub ⟨rfl, rfl, rfl, rfl, rfl, rfl, rfl, rfl, rfl, trivial⟩, hs, H⟩
                          · obtain ⟨y97, hf, hs, H⟩ := hI
                            cases n99 with
                            | zero => exact absurd H (by rw [law38_HeatBoundHolds.l3.eq_1]; intro h; cases h)
                            | succ k99 =>
                              replace H := (law38_HeatBoundHolds.l3.eq_2 ..).symm.trans H
                              refine seq_n (fun Q100 hN100 hR100 hX100 => ?_)
                              refine seq_reg (fun K101 hK101 => ?_)
                              refine stq hf rfl rfl rfl (ex_move hf rfl) (fun a hf => ?_)
                              refine stq hf rfl rfl rfl (ex_move hf rfl) (fun a hf => ?_)
                              refine stq hf rfl rfl rfl (ex_lss hf rfl rfl) (fun a hf => ?_)
                              refine hK101 _ _ ?_
                              refine itt H (fun hc102 H => ?_) (fun hc102 H => ?_)
                              · -- y97 < (s7.1.length : Int)
                                replace hf := hf.castB (t := 114) rfl (dec_t hc102)
                                refine cond_T hf rfl ?_
                                refine wp_skip ?_
                                refine hN100 _ _ ?_
                                refine seq_n (fun Q103 hN103 hR103 hX103 => ?_)
                                refine block_k (fun Q104 hN104 hR104 hX104 hY104 => ?_)
                                refine bnd H (fun x105 H105 HO105 => ?_)
                                clear H
                                refine seq_cut (fun a w => Fr a 143 [(4, v4), (11, .pointer (some ⟨b10, 0, none⟩)), (12, .int .i64 (s7.1.length : Int)), (13, .pointer (some ⟨b30, 0, none⟩)), (15, v36), (16, .int .i64 s38.1), (18, .int .i64 y55), (21, v86), (23, .int .i64 y97), (141, .bool x105)] ∧ St M w0 w [bx b10 27 [v8, v9, .int .i64 s7.2.2], osl K_api_HeatDomain v8 s7.1, osl K_api_HeatLink v9 s7.2.1, bx b30 64 [v31, v32, .int .i64 c15.2.2.1, v85, .int .i64 s84.1], osl K_api_HeatDomain v31 c15.1, osl K_api_HeatLink v32 c15.2.1, osl K_int64 v85 s84.2.1, osl K_int64 v36 s35, osl K_int64 v86 s84.2.2.1]) (fun Q105 hJ105 hR105 hX105 => ?_) (fun a w hJ => ?_)
                                · replace H := H105
                                  refine ck_some H (fun hc106 H => ?_)
                                  refine itt H (fun hc107 H => ?_) (fun hc107 H => ?_)
                                  · -- (gd 0 s84.2.2.1 y97) < s7.2.2
                                    refine region_d fol 25 [(4, v4), (11, .pointer (some ⟨b10, 0, none⟩)), (12, .int .i64 (s7.1.length : Int)), (13, .pointer (some ⟨b30, 0, none⟩)), (15, v36), (16, .int .i64 s38.1), (18, .int .i64 y55), (21, v86), (23, .int .i64 y97)] [(0, v86), (1, .int .i64 y97), (2, .pointer (some (sla v86 (y97.toNat * 1)))), (3, .int .i64 (gd 0 s84.2.2.1 y97)), (4, .pointer (some ⟨b10, 2, none⟩)), (5, .int .i64 s7.2.2), (6, .bool true), (7, .bool true), (8, undef), (9, undef), (10, undef), (11, undef), (12, undef), (13, undef), (14, .bool true), (15, .bool true), (16, undef), (17, undef), (18, undef), (19, undef), (20, undef), (21, undef), (22, undef), (23, undef), (24, .bool true)] [] (fun w => (osl K_int64 v86 s84.2.2.1).ok w ∧ (bx b10 27 [v8, v9, .int .i64 s7.2.2]).ok w ∧ True) (fun w => St M w0 w [bx b10 27 [v8, v9, .int .i64 s7.2.2], osl K_api_HeatDomain v8 s7.1, osl K_api_HeatLink v9 s7.2.1, bx b30 64 [v31, v32, .int .i64 c15.2.2.1, v85, .int .i64 s84.1], osl K_api_HeatDomain v31 c15.1, osl K_api_HeatLink v32 c15.2.1, osl K_int64 v85 s84.2.1, osl K_int64 v36 s35, osl K_int64 v86 s84.2.2.1]) hf ⟨rfl, rfl, rfl, rfl, rfl, rfl, rfl, rfl, rfl, trivial⟩ (by kernel_rfl) (by kernel_rfl) rfl (by decide) ⟨hs.drew.get (i := 8) rfl, hs.drew.get (i := 0) rfl, trivial⟩ hs.drew (.cons (⟨_, _, rfl, rfl, rfl, rfl, fun a w hR hf => .inl ⟨wanted_yes hf rfl, ex_move hf rfl⟩⟩) (.cons (⟨_, _, rfl, rfl, rfl, rfl, fun a w hR hf => .inl ⟨wanted_yes hf rfl, ex_move hf rfl⟩⟩) (.cons (⟨_, _, rfl, rfl, rfl, rfl, fun a w hR hf => .inl ⟨wanted_yes hf rfl, ex_indexAddr sa_35 (rsl_isSl (osl_rsl _ hR.1)) hc106.1 hc106.2 hf rfl rfl⟩⟩) (.cons (⟨_, _, rfl, rfl, rfl, rfl, fun a w hR hf => .inl ⟨wanted_yes hf rfl, ex_load sc_2 hf rfl (el_cell (K := K_int64) (f := 0) (rsl_rd (osl_rsl _ hR.1)) hc106.1 hc106.2 rfl)⟩⟩) (.cons (⟨_, _, rfl, rfl, rfl, rfl, fun a w hR hf => .inl ⟨wanted_yes hf rfl, ex_fieldAddrB fa_27_2 rfl hf rfl⟩⟩) (.cons (⟨_, _, rfl, rfl, rfl, rfl, fun a w hR hf => .inl ⟨wanted_yes hf rfl, ex_load sc_2 hf rfl (bx_cell (hR.2.1) _ rfl)⟩⟩) (.cons (⟨_, _, rfl, rfl, rfl, rfl, fun a w hR hf => .inl ⟨wanted_yes hf rfl, ex_castB (ex_lss hf rfl rfl) (dec_t hc107)⟩⟩) (.cons (⟨_, _, rfl, rfl, rfl, rfl, fun a w hR hf => .inl ⟨wanted_yes hf rfl, ex_move hf rfl⟩⟩) (.cons (⟨_, _, rfl, rfl, rfl, rfl, fun a w hR hf => .inr ⟨wanted_no hf rfl, rfl⟩⟩) (.cons (⟨_, _, rfl, rfl, rfl, rfl, fun a w hR hf => .inr ⟨wanted_no hf rfl, rfl⟩⟩) (.cons (⟨_, _, rfl, rfl, rfl, rfl, fun a w hR hf => .inr ⟨wanted_no hf rfl, rfl⟩⟩) (.cons (⟨_, _, rfl, rfl, rfl, rfl, fun a w hR hf => .inr ⟨wanted_no hf rfl, rfl⟩⟩) (.cons (⟨_, _, rfl, rfl, rfl, rfl, fun a w hR hf => .inr ⟨wanted_no hf rfl, rfl⟩⟩) (.cons (⟨_, _, rfl, rfl, rfl, rfl, fun a w hR hf => .inr ⟨wanted_no hf rfl, rfl⟩⟩) (.cons (⟨_, _, rfl, rfl, rfl, rfl, fun a w hR hf => .inl ⟨wanted_yes hf rfl, ex_pickT hf rfl rfl⟩⟩) (.cons (⟨_, _, rfl, rfl, rfl, rfl, fun a w hR hf => .inl ⟨wanted_yes hf rfl, ex_move hf rfl⟩⟩) (.cons (⟨_, _, rfl, rfl, rfl, rfl, fun a w hR hf => .inr ⟨wanted_no hf rfl, rfl⟩⟩) (.cons (⟨_, _, rfl, rfl, rfl, rfl, fun a w hR hf => .inr ⟨wanted_no hf rfl, rfl⟩⟩) (.cons (⟨_, _, rfl, rfl, rfl, rfl, fun a w hR hf => .inr ⟨wanted_no hf rfl, rfl⟩⟩) (.cons (⟨_, _, rfl, rfl, rfl, rfl, fun a w hR hf => .inr ⟨wanted_no hf rfl, rfl⟩⟩) (.cons (⟨_, _, rfl, rfl, rfl, rfl, fun a w hR hf => .inr ⟨wanted_no hf rfl, rfl⟩⟩) (.cons (⟨_, _, rfl, rfl, rfl, rfl, fun a w hR hf => .inr ⟨wanted_no hf rfl, rfl⟩⟩) (.cons (⟨_, _, rfl, rfl, rfl, rfl, fun a w hR hf => .inr ⟨wanted_no hf rfl, rfl⟩⟩) (.cons (⟨_, _, rfl, rfl, rfl, rfl, fun a w hR hf => .inr ⟨wanted_no hf rfl, rfl⟩⟩) (.cons (⟨_, _, rfl, rfl, rfl, rfl, fun a w hR hf => .inl ⟨wanted_yes hf rfl, ex_pickT hf rfl rfl⟩⟩) (.nil)))))))))))))))))))))))))) (fun K108 hK108 => ?_)
                                    refine RW.zero (by kernel_rfl) (by kernel_rfl) [(4, v4), (11, .pointer (some ⟨b10, 0, none⟩)), (12, .int .i64 (s7.1.length : Int)), (13, .pointer (some ⟨b30, 0, none⟩)), (15, v36), (16, .int .i64 s38.1), (18, .int .i64 y55), (21, v86), (23, .int .i64 y97), (141, .bool true)] ⟨rfl, rfl, rfl, rfl, rfl, rfl, rfl, rfl, rfl, rfl, trivial⟩ (fun a w hR hs hf => ?_)
                                    refine hK108 _ _ ?_
                                    have e105 := some_eq H; subst e105
                                    exact hJ105 _ _ ⟨hf.sub ⟨rfl, rfl, rfl, rfl, rfl, rfl, rfl, rfl, rfl, rfl, trivial⟩, hs⟩
                                  · -- not (gd 0 s84.2.2.1 y97) < s7.2.2
                                    refine itt H (fun hc109 H => ?_) (fun hc109 H => ?_)
                                    · -- s38.1 < (gd 0 s84.2.2.1 y97)
                                      refine region_d fol 25 [(4, v4), (11, .pointer (some ⟨b10, 0, none⟩)), (12, .int .i64 (s7.1.length : Int)), (13, .pointer (some ⟨b30, 0, none⟩)), (15, v36), (16, .int .i64 s38.1), (18, .int .i64 y55), (21, v86), (23, .int .i64 y97)] [(0, v86), (1, .int .i64 y97), (2, .pointer (some (sla v86 (y97.toNat * 1)))), (3, .int .i64 (gd 0 s84.2.2.1 y97)), (4, .pointer (some ⟨b10, 2, none⟩)), (5, .int .i64 s7.2.2), (6, .bool false), (7, .bool false), (8, v86), (9, .int .i64 y97), (10, .pointer (some (sla v86 (y97.toNat * 1)))), (11, .int .i64 (gd 0 s84.2.2.1 y97)), (12, .int .i64 s38.1), (13, .bool true), (14, .bool true), (15, .bool true), (16, undef), (17, undef), (18, undef), (19, undef), (20, undef), (21, undef), (22, undef), (23, undef), (24, .bool true)] [] (fun w => (osl K_int64 v86 s84.2.2.1).ok w ∧ (bx b10 27 [v8, v9, .int .i64 s7.2.2]).ok w ∧ True) (fun w => St M w0 w [bx b10 27 [v8, v9, .int .i64 s7.2.2], osl K_api_HeatDomain v8 s7.1, osl K_api_HeatLink v9 s7.2.1, bx b30 64 [v31, v32, .int .i64 c15.2.2.1, v85, .int .i64 s84.1], osl K_api_HeatDomain v31 c15.1, osl K_api_HeatLink v32 c15.2.1, osl K_int64 v85 s84.2.1, osl K_int64 v36 s35, osl K_int64 v86 s84.2.2.1]) hf ⟨rfl, rfl, rfl, rfl, rfl, rfl, rfl, rfl, rfl, trivial⟩ (by kernel_rfl) (by kernel_rfl) rfl (by decide) ⟨hs.drew.get (i := 8) rfl, hs.drew.get (i := 0) rfl, trivial⟩ hs.drew (.cons (⟨_, _, rfl, rfl, rfl, rfl, fun a w hR hf => .inl ⟨wanted_yes hf rfl, ex_move hf rfl⟩⟩) (.cons (⟨_, _, rfl, rfl, rfl, rfl, fun a w hR hf => .inl ⟨wanted_yes hf rfl, ex_move hf rfl⟩⟩) (.cons (⟨_, _, rfl, rfl, rfl, rfl, fun a w hR hf => .inl ⟨wanted_yes hf rfl, ex_indexAddr sa_35 (rsl_isSl (osl_rsl _ hR.1)) hc106.1 hc106.2 hf rfl rfl⟩⟩) (.cons (⟨_, _, rfl, rfl, rfl, rfl, fun a w hR hf => .inl ⟨wanted_yes hf rfl, ex_load sc_2 hf rfl (el_cell (K := K_int64) (f := 0) (rsl_rd (osl_rsl _ hR.1)) hc106.1 hc106.2 rfl)⟩⟩) (.cons (⟨_, _, rfl, rfl, rfl, rfl, fun a w hR hf => .inl ⟨wanted_yes hf rfl, ex_fieldAddrB fa_27_2 rfl hf rfl⟩⟩) (.cons (⟨_, _, rfl, rfl, rfl, rfl, fun a w hR hf => .inl ⟨wanted_yes hf rfl, ex_load sc_2 hf rfl (bx_cell (hR.2.1) _ rfl)⟩⟩) (.cons (⟨_, _, rfl, rfl, rfl, rfl, fun a w hR hf => .inl ⟨wanted_yes hf rfl, ex_castB (ex_lss hf rfl rfl) (dec_f hc107)⟩⟩) (.cons (⟨_, _, rfl, rfl, rfl, rfl, fun a w hR hf => .inl ⟨wanted_yes hf rfl, ex_move hf rfl⟩⟩) (.cons (⟨_, _, rfl, rfl, rfl, rfl, fun a w hR hf => .inl ⟨wanted_yes hf rfl, ex_move hf rfl⟩⟩) (.cons (⟨_, _, rfl, rfl, rfl, rfl, fun a w hR hf => .inl ⟨wanted_yes hf rfl, ex_move hf rfl⟩⟩) (.cons (⟨_, _, rfl, rfl, rfl, rfl, fun a w hR hf => .inl ⟨wanted_yes hf rfl, ex_indexAddr sa_35 (rsl_isSl (osl_rsl _ hR.1)) hc106.1 hc106.2 hf rfl rfl⟩⟩) (.cons (⟨_, _, rfl, rfl, rfl, rfl, fun a w hR hf => .inl ⟨wanted_yes hf rfl, ex_load sc_2 hf rfl (el_cell (K := K_int64) (f := 0) (rsl_rd (osl_rsl _ hR.1)) hc106.1 hc106.2 rfl)⟩⟩) (.cons (⟨_, _, rfl, rfl, rfl, rfl, fun a w hR hf => .inl ⟨wanted_yes hf rfl, ex_move hf rfl⟩⟩) (.cons (⟨_, _, rfl, rfl, rfl, rfl, fun a w hR hf => .inl ⟨wanted_yes hf rfl, ex_castB (ex_gtr hf rfl rfl) (dec_t hc109)⟩⟩) (.cons (⟨_, _, rfl, rfl, rfl, rfl, fun a w hR hf => .inl ⟨wanted_yes hf rfl, ex_pickF hf rfl rfl⟩⟩) (.cons (⟨_, _, rfl, rfl, rfl, rfl, fun a w hR hf => .inl ⟨wanted_yes hf rfl, ex_move hf rfl⟩⟩) (.cons (⟨_, _, rfl, rfl, rfl, rfl, fun a w hR hf => .inr ⟨wanted_no hf rfl, rfl⟩⟩) (.cons (⟨_, _, rfl, rfl, rfl, rfl, fun a w hR hf => .inr ⟨wanted_no hf rfl, rfl⟩⟩) (.cons (⟨_, _, rfl, rfl, rfl, rfl, fun a w hR hf => .inr ⟨wanted_no hf rfl, rfl⟩⟩) (.cons (⟨_, _, rfl, rfl, rfl, rfl, fun a w hR hf => .inr ⟨wanted_no hf rfl, rfl⟩⟩) (.cons (⟨_, _, rfl, rfl, rfl, rfl, fun a w hR hf => .inr ⟨wanted_no hf rfl, rfl⟩⟩) (.cons (⟨_, _, rfl, rfl, rfl, rfl, fun a w hR hf => .inr ⟨wanted_no hf rfl, rfl⟩⟩) (.cons (⟨_, _, rfl, rfl, rfl, rfl, fun a w hR hf => .inr ⟨wanted_no hf rfl, rfl⟩⟩) (.cons (⟨_, _, rfl, rfl, rfl, rfl, fun a w hR hf => .inr ⟨wanted_no hf rfl, rfl⟩⟩) (.cons (⟨_, _, rfl, rfl, rfl, rfl, fun a w hR hf => .inl ⟨wanted_yes hf rfl, ex_pickT hf rfl rfl⟩⟩) (.nil)))))))))))))))))))))))))) (fun K110 hK110 => ?_)
                                      refine RW.zero (by kernel_rfl) (by kernel_rfl) [(4, v4), (11, .pointer (some ⟨b10, 0, none⟩)), (12, .int .i64 (s7.1.length : Int)), (13, .pointer (some ⟨b30, 0, none⟩)), (15, v36), (16, .int .i64 s38.1), (18, .int .i64 y55), (21, v86), (23, .int .i64 y97), (141, .bool true)] ⟨rfl, rfl, rfl, rfl, rfl, rfl, rfl, rfl, rfl, rfl, trivial⟩ (fun a w hR hs hf => ?_)
                                      refine hK110 _ _ ?_
                                      have e105 := some_eq H; subst e105
                                      exact hJ105 _ _ ⟨hf.sub ⟨rfl, rfl, rfl, rfl, rfl, rfl, rfl, rfl, rfl, rfl, trivial⟩, hs⟩
                                    · -- not s38.1 < (gd 0 s84.2.2.1 y97)
                                      refine bnd H (fun s111 hs111 H => ?_)
                                      refine region_d fol 25 [(4, v4), (11, .pointer (some ⟨b10, 0, none⟩)), (12, .int .i64 (s7.1.length : Int)), (13, .pointer (some ⟨b30, 0, none⟩)), (15, v36), (16, .int .i64 s38.1), (18, .int .i64 y55), (21, v86), (23, .int .i64 y97)] [(0, v86), (1, .int .i64 y97), (2, .pointer (some (sla v86 (y97.toNat * 1)))), (3, .int .i64 (gd 0 s84.2.2.1 y97)), (4, .pointer (some ⟨b10, 2, none⟩)), (5, .int .i64 s7.2.2), (6, .bool false), (7, .bool false), (8, v86), (9, .int .i64 y97), (10, .pointer (some (sla v86 (y97.toNat * 1)))), (11, .int .i64 (gd 0 s84.2.2.1 y97)), (12, .int .i64 s38.1), (13, .bool false), (14, .bool false), (15, .bool false), (16, .pointer (some ⟨b30, 0, none⟩)), (17, .int .i64 y97), (19, v86), (20, .int .i64 y97), (21, .pointer (some (sla v86 (y97.toNat * 1)))), (22, .int .i64 (gd 0 s84.2.2.1 y97))] [18] (fun w => (osl K_int64 v86 s84.2.2.1).ok w ∧ (bx b10 27 [v8, v9, .int .i64 s7.2.2]).ok w ∧ True) (fun w => St M w0 w [bx b10 27 [v8, v9, .int .i64 s7.2.2], osl K_api_HeatDomain v8 s7.1, osl K_api_HeatLink v9 s7.2.1, bx b30 64 [v31, v32, .int .i64 c15.2.2.1, v85, .int .i64 s84.1], osl K_api_HeatDomain v31 c15.1, osl K_api_HeatLink v32 c15.2.1, osl K_int64 v85 s84.2.1, osl K_int64 v36 s35, osl K_int64 v86 s84.2.2.1]) hf ⟨rfl, rfl, rfl, rfl, rfl, rfl, rfl, rfl, rfl, trivial⟩ (by kernel_rfl) (by kernel_rfl) rfl (by decide) ⟨hs.drew.get (i := 8) rfl, hs.drew.get (i := 0) rfl, trivial⟩ hs.drew (.cons (⟨_, _, rfl, rfl, rfl, rfl, fun a w hR hf => .inl ⟨wanted_yes hf rfl, ex_move hf rfl⟩⟩) (.cons (⟨_, _, rfl, rfl, rfl, rfl, fun a w hR hf => .inl ⟨wanted_yes hf rfl, ex_move hf rfl⟩⟩) (.cons (⟨_, _, rfl, rfl, rfl, rfl, fun a w hR hf => .inl ⟨wanted_yes hf rfl, ex_indexAddr sa_35 (rsl_isSl (osl_rsl _ hR.1)) hc106.1 hc106.2 hf rfl rfl⟩⟩) (.cons (⟨_, _, rfl, rfl, rfl, rfl, fun a w hR hf => .inl ⟨wanted_yes hf rfl, ex_load sc_2 hf rfl (el_cell (K := K_int64) (f := 0) (rsl_rd (osl_rsl _ hR.1)) hc106.1 hc106.2 rfl)⟩⟩) (.cons (⟨_, _, rfl, rfl, rfl, rfl, fun a w hR hf => .inl ⟨wanted_yes hf rfl, ex_fieldAddrB fa_27_2 rfl hf rfl⟩⟩) (.cons (⟨_, _, rfl, rfl, rfl, rfl, fun a w hR hf => .inl ⟨wanted_yes hf rfl, ex_load sc_2 hf rfl (bx_cell (hR.2.1) _ rfl)⟩⟩) (.cons (⟨_, _, rfl, rfl, rfl, rfl, fun a w hR hf => .inl ⟨wanted_yes hf rfl, ex_castB (ex_lss hf rfl rfl) (dec_f hc107)⟩⟩) (.cons (⟨_, _, rfl, rfl, rfl, rfl, fun a w hR hf => .inl ⟨wanted_yes hf rfl, ex_move hf rfl⟩⟩) (.cons (⟨_, _, rfl, rfl, rfl, rfl, fun a w hR hf => .inl ⟨wanted_yes hf rfl, ex_move hf rfl⟩⟩) (.cons (⟨_, _, rfl, rfl, rfl, rfl, fun a w hR hf => .inl ⟨wanted_yes hf rfl, ex_move hf rfl⟩⟩) (.cons (⟨_, _, rfl, rfl, rfl, rfl, fun a w hR hf => .inl ⟨wanted_yes hf rfl, ex_indexAddr sa_35 (rsl_isSl (osl_rsl _ hR.1)) hc106.1 hc106.2 hf rfl rfl⟩⟩) (.cons (⟨_, _, rfl, rfl, rfl, rfl, fun a w hR hf => .inl ⟨wanted_yes hf rfl, ex_load sc_2 hf rfl (el_cell (K := K_int64) (f := 0) (rsl_rd (osl_rsl _ hR.1)) hc106.1 hc106.2 rfl)⟩⟩) (.cons (⟨_, _, rfl, rfl, rfl, rfl, fun a w hR hf => .inl ⟨wanted_yes hf rfl, ex_move hf rfl⟩⟩) (.cons (⟨_, _, rfl, rfl, rfl, rfl, fun a w hR hf => .inl ⟨wanted_yes hf rfl, ex_castB (ex_gtr hf rfl rfl) (dec_f hc109)⟩⟩) (.cons (⟨_, _, rfl, rfl, rfl, rfl, fun a w hR hf => .inl ⟨wanted_yes hf rfl, ex_pickF hf rfl rfl⟩⟩) (.cons (⟨_, _, rfl, rfl, rfl, rfl, fun a w hR hf => .inl ⟨wanted_yes hf rfl, ex_move hf rfl⟩⟩) (.cons (⟨_, _, rfl, rfl, rfl, rfl, fun a w hR hf => .inl ⟨wanted_yes hf rfl, ex_move hf rfl⟩⟩) (.cons (⟨_, _, rfl, rfl, rfl, rfl, fun a w hR hf => .inl ⟨wanted_yes hf rfl, ex_move hf rfl⟩⟩) (.cons (⟨_, _, rfl, rfl, rfl, rfl, fun a w hR hf => .inl ⟨wanted_yes hf rfl, ex_move hf rfl⟩⟩) (.cons (⟨_, _, rfl, rfl, rfl, rfl, fun a w hR hf => .inl ⟨wanted_yes hf rfl, ex_move hf rfl⟩⟩) (.cons (⟨_, _, rfl, rfl, rfl, rfl, fun a w hR hf => .inl ⟨wanted_yes hf rfl, ex_indexAddr sa_35 (rsl_isSl (osl_rsl _ hR.1)) hc106.1 hc106.2 hf rfl rfl⟩⟩) (.cons (⟨_, _, rfl, rfl, rfl, rfl, fun a w hR hf => .inl ⟨wanted_yes hf rfl, ex_load sc_2 hf rfl (el_cell (K := K_int64) (f := 0) (rsl_rd (osl_rsl _ hR.1)) hc106.1 hc106.2 rfl)⟩⟩) (.nil))))))))))))))))))))))) (fun K112 hK112 => ?_)
                                      refine RW.one 18 (by kernel_rfl) (by kernel_rfl) rfl (fun d hd => by cases hd; rfl) [(132, .bool false), (133, .pointer (some ⟨b30, 0, none⟩)), (134, .int .i64 y97)] ⟨rfl, rfl, rfl, trivial⟩ (fun a w hR hs hf => ⟨wanted_yes hf rfl, ?_⟩)
                                      refine estep_f (ex_call cf_24 hf rfl) (heat_Model_Temperature.calls k99 c15.1 c15.2.1 c15.2.2.1 s84.2.1 s84.1 y97 b30 v31 v32 v85 (hs.enter (.k (.k (.k (.k (.k (.k (.k (.k (.k .nil)))))))))) (Sr.own hs (.k (.k (.k (.k (.k (.k (.k (.k (.k .nil))))))))) (i := 3) rfl (fun _ h => h) (fun _ h => h) (Sr.own hs (.k (.k (.k (.k (.k (.k (.k (.k (.k .nil))))))))) (i := 4) rfl osl_rsl (fun _ h => h.1) (Sr.own hs (.k (.k (.k (.k (.k (.k (.k (.k (.k .nil))))))))) (i := 5) rfl osl_rsl (fun _ h => h.1) (Sr.own hs (.k (.k (.k (.k (.k (.k (.k (.k (.k .nil))))))))) (i := 6) rfl osl_rsl (fun _ h => h.1) (Sr.nil _ _))))) hs111) (fun v w hR => ?_)
                                      obtain ⟨rfl, hs'⟩ := hR
                                      replace hs := hs.step (.k (.k (.k (.k (.k (.k (.k (.k (.k .nil))))))))) hs'
                                      clear hs'
                                      refine ⟨[(23, .bool (!decide (s111 = (gd 0 s84.2.2.1 y97)))), (24, .bool (!decide (s111 = (gd 0 s84.2.2.1 y97))))], [(23, .bool (!decide (s111 = (gd 0 s84.2.2.1 y97)))), (24, .bool (!decide (s111 = (gd 0 s84.2.2.1 y97)))), (18, .int .i64 s111), (0, v86), (1, .int .i64 y97), (2, .pointer (some (sla v86 (y97.toNat * 1)))), (3, .int .i64 (gd 0 s84.2.2.1 y97)), (4, .pointer (some ⟨b10, 2, none⟩)), (5, .int .i64 s7.2.2), (6, .bool false), (7, .bool false), (8, v86), (9, .int .i64 y97), (10, .pointer (some (sla v86 (y97.toNat * 1)))), (11, .int .i64 (gd 0 s84.2.2.1 y97)), (12, .int .i64 s38.1), (13, .bool false), (14, .bool false), (15, .bool false), (16, .pointer (some ⟨b30, 0, none⟩)), (17, .int .i64 y97), (19, v86), (20, .int .i64 y97), (21, .pointer (some (sla v86 (y97.toNat * 1)))), (22, .int .i64 (gd 0 s84.2.2.1 y97))], [], (fun _ => True), (fun w => St M w0 w [bx b10 27 [v8, v9, .int .i64 s7.2.2], osl K_api_HeatDomain v8 s7.1, osl K_api_HeatLink v9 s7.2.1, bx b30 64 [v31, v32, .int .i64 c15.2.2.1, v85, .int .i64 s84.1], osl K_api_HeatDomain v31 c15.1, osl K_api_HeatLink v32 c15.2.1, osl K_int64 v85 s84.2.1, osl K_int64 v36 s35, osl K_int64 v86 s84.2.2.1]), rfl, rfl, ⟨hs.get (i := 8) rfl, hs.get (i := 0) rfl, trivial⟩, trivial, hs, (by kernel_rfl), .cons (⟨_, _, rfl, rfl, rfl, rfl, fun a w hR hf => .inl ⟨wanted_yes hf rfl, ex_neq hf rfl rfl⟩⟩) (.cons (⟨_, _, rfl, rfl, rfl, rfl, fun a w hR hf => .inl ⟨wanted_yes hf rfl, ex_pickF hf rfl rfl⟩⟩) (.nil)), ?_⟩
                                      refine RW.zero (by kernel_rfl) (by kernel_rfl) [(4, v4), (11, .pointer (some ⟨b10, 0, none⟩)), (12, .int .i64 (s7.1.length : Int)), (13, .pointer (some ⟨b30, 0, none⟩)), (15, v36), (16, .int .i64 s38.1), (18, .int .i64 y55), (21, v86), (23, .int .i64 y97), (141, .bool (!decide (s111 = (gd 0 s84.2.2.1 y97))))] ⟨rfl, rfl, rfl, rfl, rfl, rfl, rfl, rfl, rfl, rfl, trivial⟩ (fun a w hR hs hf => ?_)
                                      refine hK112 _ _ ?_
                                      have e105 := some_eq H; subst e105
                                      exact hJ105 _ _ ⟨hf.sub ⟨rfl, rfl, rfl, rfl, rfl, rfl, rfl, rfl, rfl, rfl, trivial⟩, hs⟩
                                · obtain ⟨hf, hs⟩ := hJ
                                  replace H := HO105
                                  clear HO105
                                  refine itt H (fun hc113 H => ?_) (fun hc113 H => ?_)
                                  · -- x105 = true
                                    replace hf := hf.castB (t := 141) rfl hc113
                                    refine cond_T hf rfl ?_
                                    refine seq_reg (fun K114 hK114 => ?_)
                                    refine stq hf rfl rfl rfl (ex_assign hf rfl) (fun a hf => ?_)
                                    refine hK114 _ _ ?_
                                    refine wp_ret ?_
                                    refine hR104 _ _ ?_
                                    refine hR103 _ _ ?_
                                    refine hR99 _ _ ?_
                                    refine hR96 _ _ ?_
                                    refine hR63 _ _ ?_
                                    have e61 := some_eq H; subst e61; replace H := el_rt HO61
                                    refine hR61 _ _ ?_
                                    refine hR57 _ _ ?_
                                    refine hR51 _ _ ?_
                                    have e49 := some_eq H; subst e49; replace H := el_rt HO49
                                    refine hR49 _ _ ?_
                                    have eR := some_eq H; subst eR
                                    replace hs := hs.keep (.d (.d (.d (.d (.d (.d (.d (.d (.d .nil)))))))))
                                    exact ret1 Try.results10 hf rfl ⟨_, rfl, ⟨rfl, hs⟩⟩
                                  · -- not x105 = true
                                    replace hf := hf.castB (t := 141) rfl (bool_f hc113)
                                    refine cond_F hf rfl ?_
                                    refine wp_skip ?_
                                    refine hN104 _ _ ?_
                                    refine hN103 _ _ ?_
                                    refine region_k (fun K115 hK115 => ?_)
                                    refine stq hf rfl rfl rfl (ex_move hf rfl) (fun a hf => ?_)
                                    refine stq hf rfl rfl rfl (ex_add hf rfl rfl) (fun a hf => ?_)
                                    refine stq hf rfl rfl rfl (ex_assign hf rfl) (fun a hf => ?_)
                                    refine hK115 _ _ ?_
                                    exact hL99 k99 _ _ (Nat.lt_succ_self _) ⟨(IntKind.i64.wrap (y97 + 1)), hf.sub ⟨rfl, rfl, rfl, rfl, rfl, rfl, rfl, rfl, rfl, trivial⟩, hs, H⟩
                              · -- not y97 < (s7.1.length : Int)
                                replace hf := hf.castB (t := 114) rfl (dec_f hc102)
                                refine cond_F hf rfl ?_
                                refine wp_exit ?_
                                refine hX100 4 _ _ ?_
                                refine hX99 4 _ _ ?_
                                refine hX96 _ _ ?_
                                refine hN63 _ _ ?_
                                replace hs := hs.keep (.k (.k (.k (.k (.k (.k (.k (.k (.d .nil)))))))))
                                have e61 := some_eq H; subst e61
                                exact hJ61 _ _ ⟨_, v85, rfl, hf.sub ⟨rfl, rfl, rfl, rfl, rfl, rfl, rfl, trivial⟩, hs⟩
                  · obtain ⟨x61s, v62, rfl, hf, hs⟩ := hJ
                    replace H := el_go HO61
                    clear HO61
                    refine region_k (fun K116 hK116 => ?_)
                    refine stq hf rfl rfl rfl (ex_move hf rfl) (fun a hf => ?_)
                    refine stq hf rfl rfl rfl (ex_add hf rfl rfl) (fun a hf => ?_)
                    refine stq hf rfl rfl rfl (ex_assign hf rfl) (fun a hf => ?_)
                    refine hK116 _ _ ?_
                    exact hL57 k57 _ _ (Nat.lt_succ_self _) ⟨x61s.1, x61s.2, (IntKind.i64.wrap (y55 + 1)), v62, hf.sub ⟨rfl, rfl, rfl, rfl, rfl, rfl, rfl, trivial⟩, hs, H⟩
                · -- not y55 < (a4.length : Int)
                  replace hf := hf.castB (t := 72) rfl (dec_f hc60)
                  refine cond_F hf rfl ?_
                  refine wp_exit ?_
                  refine hX58 0 _ _ ?_
                  refine hX57 0 _ _ ?_
                  refine hX51 _ _ ?_
                  replace hs := hs.keep (.d (.d (.d (.d (.d (.d (.d (.d .nil))))))))
                  have e49 := some_eq H; subst e49
                  exact hJ49 _ _ ⟨_, rfl, hf.sub trivial, hs⟩
          · obtain ⟨x49s, rfl, hf, hs⟩ := hJ
            replace H := el_go HO49
            clear HO49
            refine bnd H (fun s117 hs117 H => ?_)
            refine seq_reg (fun K118 hK118 => ?_)
            refine stepF hf rfl rfl rfl (ex_call cf_11 hf rfl) (law38_awake.calls k (hs.enter .nil) (Sr.nil _ _) hs117) (fun v w hR a hf => ?_)
            obtain ⟨rfl, hs'⟩ := hR
            replace hs := hs.step .nil hs'
            clear hs'
            refine stq hf rfl rfl rfl (ex_assign hf rfl) (fun a hf => ?_)
            refine hK118 _ _ ?_
            refine wp_ret ?_
            have eR := some_eq H; subst eR
            exact ret1 Try.results10 hf rfl ⟨_, rfl, ⟨rfl, hs⟩⟩

end Go.Proofs.Ytakaooegofiloaa.X
