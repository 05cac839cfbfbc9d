/- Each function of the machine comes to what its pure function says. -/
import Derived.Test.YtakaooegofiloaaFc1
import Derived.Test.YtakaooegofiloaaFc2
import Derived.Test.YtakaooegofiloaaFc3
import Derived.Test.YtakaooegofiloaaFc5
import Derived.Test.YtakaooegofiloaaFb
namespace Go.Proofs.Ytakaooegofiloaa.X
open Go Go.RowKit Go.Sx
set_option linter.unusedVariables false

set_option maxHeartbeats 4000000 in
set_option maxRecDepth 100000 in
theorem law38_HeatShift.calls {M : Nat → Prop} {w0 : World} (k : Nat) (a0 : (List HeatDomain)) (a1 : (List HeatLink)) (a2 : Int) (a3 : (List (List Int))) (a4 : Int) (v0 : Value) (v1 : Value) (v3 : Value) (vs3 : (Nat → Value)) {r : Bool} (hs : St M w0 w0 []) (hr : Sr M w0 [rsl K_api_HeatDomain v0 a0, rsl K_api_HeatLink v1 a1, rsl2 K_int64 v3 vs3 a3])
    (h : law38_HeatShift.f k a0 a1 a2 a3 a4 = some r) : Calls Try.prog 9 #[v0, v1, .int .i64 a2, v3, .int .u16 a4] w0 fun e w => ∃ v, e = .returned v ∧ (.bool r = v ∧ St M w0 w []) := by
  have H := (law38_HeatShift.f.eq_1 ..).symm.trans h
  clear h
  refine enter Try.func9 rfl Try.ntmps9 rfl (fun a hf => ?_)
  refine seq_reg (fun K1 hK1 => ?_)
  refine stq hf rfl rfl rfl (ex_assign hf rfl) (fun a hf => ?_)
  refine hK1 _ _ ?_
  refine seq_n (fun Q2 hN2 hR2 hX2 => ?_)
  refine seq_reg (fun K3 hK3 => ?_)
  refine stq hf rfl rfl rfl (ex_move hf rfl) (fun a hf => ?_)
  refine stq hf rfl rfl rfl (ex_lenS Try.underlying24 (rsl2_isSl (hr.now hs (i := 2) rfl)) hf rfl) (fun a hf => ?_)
  refine stq hf rfl rfl rfl (ex_gtr hf rfl rfl) (fun a hf => ?_)
  refine hK3 _ _ ?_
  refine itt H (fun hc4 H => ?_) (fun hc4 H => ?_)
  · -- 30 < (a3.length : Int)
    replace hf := hf.castB (t := 31) rfl (dec_t hc4)
    refine cond_T hf rfl ?_
    refine bnd H (fun s5 hs5 H => ?_)
    refine seq_reg (fun K6 hK6 => ?_)
    refine stepF hf rfl rfl rfl (ex_call cf_11 hf rfl) (law38_awake.calls k (hs.enter .nil) (Sr.nil _ _) hs5) (fun v w hR a hf => ?_)
    obtain ⟨rfl, hs'⟩ := hR
    replace hs := hs.step .nil hs'
    clear hs'
    refine stq hf rfl rfl rfl (ex_assign hf rfl) (fun a hf => ?_)
    refine hK6 _ _ ?_
    refine wp_ret ?_
    refine hR2 _ _ ?_
    have eR := some_eq H; subst eR
    exact ret1 Try.results9 hf rfl ⟨_, rfl, ⟨rfl, hs⟩⟩
  · -- not 30 < (a3.length : Int)
    replace hf := hf.castB (t := 31) rfl (dec_f hc4)
    refine cond_F hf rfl ?_
    refine wp_skip ?_
    refine hN2 _ _ ?_
    refine bnd H (fun s7 hs7 H => ?_)
    refine seq_reg (fun K11 hK11 => ?_)
    refine stq hf rfl rfl rfl (ex_move hf rfl) (fun a hf => ?_)
    refine stq hf rfl rfl rfl (ex_move hf rfl) (fun a hf => ?_)
    refine stq hf rfl rfl rfl (ex_move hf rfl) (fun a hf => ?_)
    refine stepF hf rfl rfl rfl (ex_call cf_12 hf rfl) (law38_Some.calls k a0 a1 a2 v0 v1 (hs.enter .nil) (Sr.old hr hs .nil (i := 0) rfl (fun _ h => h) (fun _ h => h) (Sr.old hr hs .nil (i := 1) rfl (fun _ h => h) (fun _ h => h) (Sr.nil _ _))) hs7) (fun v w hR a hf => ?_)
    obtain ⟨v8, v9, rfl, hs'⟩ := hR
    replace hs := hs.step .nil hs'
    clear hs'
    refine stepV hf rfl rfl rfl (er_alloc hs ti_27 (cs := [(.slice none 0 0), (.slice none 0 0), .int .i64 0]) rfl) (fun v w hR a hf => ?_)
    obtain ⟨b10, rfl, hs⟩ := hR
    refine stepS hf rfl rfl (er_storeAB (vs := [v8, v9, .int .i64 s7.2.2]) (cs' := [v8, v9, .int .i64 s7.2.2]) hs (.c (.k (.k .nil))) sz_27 hf rfl rfl (all1 (IsSl.one (rsl_isSl (osl_rsl _ (hs.get (i := 1) rfl)))) (all1 (IsSl.one (rsl_isSl (osl_rsl _ (hs.get (i := 2) rfl)))) (all1 rfl (all1_nil)))) rfl rfl) (fun w hs => ?_)
    refine hK11 _ _ ?_
    refine seq_reg (fun K12 hK12 => ?_)
    refine stq hf rfl rfl rfl (ex_fieldAddrB fa_27_0 rfl hf rfl) (fun a hf => ?_)
    refine stq hf rfl rfl rfl (ex_load sc_22 hf rfl (bx_cell (hs.get (i := 0) rfl) _ rfl)) (fun a hf => ?_)
    refine stq hf rfl rfl rfl (ex_lenS Try.underlying22 (rsl_isSl (osl_rsl _ (hs.get (i := 1) rfl))) hf rfl) (fun a hf => ?_)
    refine stq hf rfl rfl rfl (ex_assign hf rfl) (fun a hf => ?_)
    refine hK12 _ _ ?_
    refine seq_reg (fun K13 hK13 => ?_)
    refine stq hf rfl rfl rfl (ex_move hf rfl) (fun a hf => ?_)
    refine stq hf rfl rfl rfl (ex_conv Try.underlying57 Try.underlying2 hf rfl) (fun a hf => ?_)
    refine stq hf rfl rfl rfl (ex_assign hf rfl) (fun a hf => ?_)
    refine hK13 _ _ ?_
    refine seq_n (fun Q14 hN14 hR14 hX14 => ?_)
    refine bnd H (fun s15 hs15 H => ?_)
    cases hps15 : s15.1 with
    | none =>
      replace H := elim_n hps15 H
      refine region_k (fun K17 hK17 => ?_)
      refine stq hf rfl rfl rfl (ex_fieldAddrB fa_27_0 rfl hf rfl) (fun a hf => ?_)
      refine stq hf rfl rfl rfl (ex_load sc_22 hf rfl (bx_cell (hs.get (i := 0) rfl) _ rfl)) (fun a hf => ?_)
      refine stq hf rfl rfl rfl (ex_fieldAddrB fa_27_1 rfl hf rfl) (fun a hf => ?_)
      refine stq hf rfl rfl rfl (ex_load sc_23 hf rfl (bx_cell (hs.get (i := 0) rfl) _ rfl)) (fun a hf => ?_)
      refine stq hf rfl rfl rfl (ex_fieldAddrB fa_27_2 rfl hf rfl) (fun a hf => ?_)
      refine stq hf rfl rfl rfl (ex_load sc_2 hf rfl (bx_cell (hs.get (i := 0) rfl) _ rfl)) (fun a hf => ?_)
      refine stepF hf rfl rfl rfl (ex_call cf_13 hf rfl) (heat_New.calls k s7.1 s7.2.1 s7.2.2 v8 v9 (hs.enter (.k (.k (.k .nil)))) (Sr.own hs (.k (.k (.k .nil))) (i := 1) rfl osl_rsl (fun _ h => h.1) (Sr.own hs (.k (.k (.k .nil))) (i := 2) rfl osl_rsl (fun _ h => h.1) (Sr.nil _ _))) hs15) (fun v w hR a hf => ?_)
      obtain ⟨_, rfl, hs'⟩ | ⟨_, hc', _⟩ := hR
      case inr => rw [hps15] at hc'; cases hc'
      replace hs := hs.step (.k (.k (.k .nil))) hs'
      clear hs'
      refine stq hf rfl rfl rfl (ex_move hf rfl) (fun a hf => ?_)
      refine stq hf rfl rfl rfl (ex_extract hf rfl rfl) (fun a hf => ?_)
      refine stq hf rfl rfl rfl (ex_extract hf rfl rfl) (fun a hf => ?_)
      refine stq hf rfl rfl rfl (ex_assign hf rfl) (fun a hf => ?_)
      refine stq hf rfl rfl rfl (ex_assign hf rfl) (fun a hf => ?_)
      refine hK17 _ _ ?_
      refine hN14 _ _ ?_
      refine seq_n (fun Q18 hN18 hR18 hX18 => ?_)
      refine bnd H (fun s19 hs19 H => ?_)
      cases hps19 : s19.1 with
      | none =>
        replace H := elim_n hps19 H
        refine region_k (fun K21 hK21 => ?_)
        refine stq hf rfl rfl rfl (ex_fieldAddrB fa_27_0 rfl hf rfl) (fun a hf => ?_)
        refine stq hf rfl rfl rfl (ex_load sc_22 hf rfl (bx_cell (hs.get (i := 0) rfl) _ rfl)) (fun a hf => ?_)
        refine stq hf rfl rfl rfl (ex_fieldAddrB fa_27_1 rfl hf rfl) (fun a hf => ?_)
        refine stq hf rfl rfl rfl (ex_load sc_23 hf rfl (bx_cell (hs.get (i := 0) rfl) _ rfl)) (fun a hf => ?_)
        refine stq hf rfl rfl rfl (ex_fieldAddrB fa_27_2 rfl hf rfl) (fun a hf => ?_)
        refine stq hf rfl rfl rfl (ex_load sc_2 hf rfl (bx_cell (hs.get (i := 0) rfl) _ rfl)) (fun a hf => ?_)
        refine stq hf rfl rfl rfl (ex_move hf rfl) (fun a hf => ?_)
        refine stq hf rfl rfl rfl (ex_add hf rfl rfl) (fun a hf => ?_)
        refine stepF hf rfl rfl rfl (ex_call cf_13 hf rfl) (heat_New.calls k s7.1 s7.2.1 (IntKind.i64.wrap (s7.2.2 + (IntKind.i64.wrap a4))) v8 v9 (hs.enter (.k (.k (.k .nil)))) (Sr.own hs (.k (.k (.k .nil))) (i := 1) rfl osl_rsl (fun _ h => h.1) (Sr.own hs (.k (.k (.k .nil))) (i := 2) rfl osl_rsl (fun _ h => h.1) (Sr.nil _ _))) hs19) (fun v w hR a hf => ?_)
        obtain ⟨_, rfl, hs'⟩ | ⟨_, hc', _⟩ := hR
        case inr => rw [hps19] at hc'; cases hc'
        replace hs := hs.step (.k (.k (.k .nil))) hs'
        clear hs'
        refine stq hf rfl rfl rfl (ex_move hf rfl) (fun a hf => ?_)
        refine stq hf rfl rfl rfl (ex_extract hf rfl rfl) (fun a hf => ?_)
        refine stq hf rfl rfl rfl (ex_extract hf rfl rfl) (fun a hf => ?_)
        refine stq hf rfl rfl rfl (ex_assign hf rfl) (fun a hf => ?_)
        refine stq hf rfl rfl rfl (ex_assign hf rfl) (fun a hf => ?_)
        refine hK21 _ _ ?_
        refine hN18 _ _ ?_
        refine seq_n (fun Q22 hN22 hR22 hX22 => ?_)
        refine bnd H (fun x23 H23 HO23 => ?_)
        clear H
        refine seq_cut (fun a w => Fr a 201 [(3, v3), (11, .pointer (some ⟨b10, 0, none⟩)), (12, .int .i64 (s7.1.length : Int)), (13, .int .i64 (IntKind.i64.wrap a4)), (14, .pointer none), (16, .pointer none), (77, .bool true)] ∧ St M w0 w [bx b10 27 [v8, v9, .int .i64 s7.2.2], osl K_api_HeatDomain v8 s7.1, osl K_api_HeatLink v9 s7.2.1]) (fun Q23 hJ23 hR23 hX23 => ?_) (fun a w hJ => ?_)
        · replace H := H23
          refine itt H (fun hc24 H => ?_) (fun hc24 H => ?_)
          · -- s15.2 = 0
            refine itt H (fun hc25 H => ?_) (fun hc25 H => ?_)
            · -- s19.2 = 0
              refine region_k (fun K26 hK26 => ?_)
              refine stq hf rfl rfl rfl (ex_move hf rfl) (fun a hf => ?_)
              refine stq hf rfl rfl rfl (ex_neq hf rfl rfl) (fun a hf => ?_)
              refine stq hf rfl rfl rfl (ex_move hf rfl) (fun a hf => ?_)
              replace hf := hf.castB (t := 65) rfl (ndec_f hc24)
              replace hf := hf.castB (t := 66) rfl (ndec_f hc24)
              refine stq hf rfl rfl rfl (ex_move hf rfl) (fun a hf => ?_)
              refine stq hf rfl rfl rfl (ex_neq hf rfl rfl) (fun a hf => ?_)
              refine stq hf rfl rfl rfl (ex_pickF hf rfl rfl) (fun a hf => ?_)
              refine stq hf rfl rfl rfl (ex_move hf rfl) (fun a hf => ?_)
              replace hf := hf.castB (t := 68) rfl (ndec_f hc25)
              replace hf := hf.castB (t := 69) rfl (ndec_f hc25)
              replace hf := hf.castB (t := 70) rfl (ndec_f hc25)
              refine stq hf rfl rfl rfl (ex_move hf rfl) (fun a hf => ?_)
              refine stq hf rfl rfl rfl (ex_eqp Try.underlying29 hf rfl rfl) (fun a hf => ?_)
              refine stq hf rfl rfl rfl (ex_pickF hf rfl rfl) (fun a hf => ?_)
              refine stq hf rfl rfl rfl (ex_move hf rfl) (fun a hf => ?_)
              refine stepN hf rfl rfl rfl (fun a hf => ?_)
              refine stepN hf rfl rfl rfl (fun a hf => ?_)
              refine stq hf rfl rfl rfl (ex_pickT hf rfl rfl) (fun a hf => ?_)
              refine hK26 _ _ ?_
              have e23 := some_eq H; subst e23
              exact hJ23 _ _ ⟨hf.sub ⟨rfl, rfl, rfl, rfl, rfl, rfl, rfl, trivial⟩, hs⟩
            · -- not s19.2 = 0
              refine region_k (fun K27 hK27 => ?_)
              refine stq hf rfl rfl rfl (ex_move hf rfl) (fun a hf => ?_)
              refine stq hf rfl rfl rfl (ex_neq hf rfl rfl) (fun a hf => ?_)
              refine stq hf rfl rfl rfl (ex_move hf rfl) (fun a hf => ?_)
              replace hf := hf.castB (t := 65) rfl (ndec_f hc24)
              replace hf := hf.castB (t := 66) rfl (ndec_f hc24)
              refine stq hf rfl rfl rfl (ex_move hf rfl) (fun a hf => ?_)
              refine stq hf rfl rfl rfl (ex_neq hf rfl rfl) (fun a hf => ?_)
              refine stq hf rfl rfl rfl (ex_pickF hf rfl rfl) (fun a hf => ?_)
              refine stq hf rfl rfl rfl (ex_move hf rfl) (fun a hf => ?_)
              replace hf := hf.castB (t := 68) rfl (ndec_t hc25)
              replace hf := hf.castB (t := 69) rfl (ndec_t hc25)
              replace hf := hf.castB (t := 70) rfl (ndec_t hc25)
              refine stepN hf rfl rfl rfl (fun a hf => ?_)
              refine stepN hf rfl rfl rfl (fun a hf => ?_)
              refine stq hf rfl rfl rfl (ex_pickT hf rfl rfl) (fun a hf => ?_)
              refine stq hf rfl rfl rfl (ex_move hf rfl) (fun a hf => ?_)
              refine stepN hf rfl rfl rfl (fun a hf => ?_)
              refine stepN hf rfl rfl rfl (fun a hf => ?_)
              refine stq hf rfl rfl rfl (ex_pickT hf rfl rfl) (fun a hf => ?_)
              refine hK27 _ _ ?_
              have e23 := some_eq H; subst e23
              exact hJ23 _ _ ⟨hf.sub ⟨rfl, rfl, rfl, rfl, rfl, rfl, rfl, trivial⟩, hs⟩
          · -- not s15.2 = 0
            refine region_k (fun K28 hK28 => ?_)
            refine stq hf rfl rfl rfl (ex_move hf rfl) (fun a hf => ?_)
            refine stq hf rfl rfl rfl (ex_neq hf rfl rfl) (fun a hf => ?_)
            refine stq hf rfl rfl rfl (ex_move hf rfl) (fun a hf => ?_)
            replace hf := hf.castB (t := 65) rfl (ndec_t hc24)
            replace hf := hf.castB (t := 66) rfl (ndec_t hc24)
            refine stepN hf rfl rfl rfl (fun a hf => ?_)
            refine stepN hf rfl rfl rfl (fun a hf => ?_)
            refine stq hf rfl rfl rfl (ex_pickT hf rfl rfl) (fun a hf => ?_)
            refine stq hf rfl rfl rfl (ex_move hf rfl) (fun a hf => ?_)
            refine stepN hf rfl rfl rfl (fun a hf => ?_)
            refine stepN hf rfl rfl rfl (fun a hf => ?_)
            refine stq hf rfl rfl rfl (ex_pickT hf rfl rfl) (fun a hf => ?_)
            refine stq hf rfl rfl rfl (ex_move hf rfl) (fun a hf => ?_)
            refine stepN hf rfl rfl rfl (fun a hf => ?_)
            refine stepN hf rfl rfl rfl (fun a hf => ?_)
            refine stq hf rfl rfl rfl (ex_pickT hf rfl rfl) (fun a hf => ?_)
            refine hK28 _ _ ?_
            have e23 := some_eq H; subst e23
            exact hJ23 _ _ ⟨hf.sub ⟨rfl, rfl, rfl, rfl, rfl, rfl, rfl, trivial⟩, hs⟩
        · obtain ⟨hf, hs⟩ := hJ
          replace H := HO23
          clear HO23
          refine cond_T hf rfl ?_
          refine seq_reg (fun K29 hK29 => ?_)
          refine stq hf rfl rfl rfl (ex_assign hf rfl) (fun a hf => ?_)
          refine hK29 _ _ ?_
          refine wp_ret ?_
          refine hR22 _ _ ?_
          have eR := some_eq H; subst eR
          replace hs := hs.keep (.d (.d (.d .nil)))
          exact ret1 Try.results9 hf rfl ⟨_, rfl, ⟨rfl, hs⟩⟩
      | some c20 =>
        replace H := elim_s hps19 H
        refine region_k (fun K34 hK34 => ?_)
        refine stq hf rfl rfl rfl (ex_fieldAddrB fa_27_0 rfl hf rfl) (fun a hf => ?_)
        refine stq hf rfl rfl rfl (ex_load sc_22 hf rfl (bx_cell (hs.get (i := 0) rfl) _ rfl)) (fun a hf => ?_)
        refine stq hf rfl rfl rfl (ex_fieldAddrB fa_27_1 rfl hf rfl) (fun a hf => ?_)
        refine stq hf rfl rfl rfl (ex_load sc_23 hf rfl (bx_cell (hs.get (i := 0) rfl) _ rfl)) (fun a hf => ?_)
        refine stq hf rfl rfl rfl (ex_fieldAddrB fa_27_2 rfl hf rfl) (fun a hf => ?_)
        refine stq hf rfl rfl rfl (ex_load sc_2 hf rfl (bx_cell (hs.get (i := 0) rfl) _ rfl)) (fun a hf => ?_)
        refine stq hf rfl rfl rfl (ex_move hf rfl) (fun a hf => ?_)
        refine stq hf rfl rfl rfl (ex_add hf rfl rfl) (fun a hf => ?_)
        refine stepF hf rfl rfl rfl (ex_call cf_13 hf rfl) (heat_New.calls k s7.1 s7.2.1 (IntKind.i64.wrap (s7.2.2 + (IntKind.i64.wrap a4))) v8 v9 (hs.enter (.k (.k (.k .nil)))) (Sr.own hs (.k (.k (.k .nil))) (i := 1) rfl osl_rsl (fun _ h => h.1) (Sr.own hs (.k (.k (.k .nil))) (i := 2) rfl osl_rsl (fun _ h => h.1) (Sr.nil _ _))) hs19) (fun v w hR a hf => ?_)
        obtain ⟨hc', _⟩ | ⟨cc, hc', b30, v31, v32, v33, rfl, hs'⟩ := hR
        case inl => rw [hps19] at hc'; cases hc'
        obtain rfl : c20 = cc := by rw [hps19] at hc'; exact Option.some.inj hc'
        replace hs := hs.step (.k (.k (.k .nil))) hs'
        clear hs'
        refine stq hf rfl rfl rfl (ex_move hf rfl) (fun a hf => ?_)
        refine stq hf rfl rfl rfl (ex_extract hf rfl rfl) (fun a hf => ?_)
        refine stq hf rfl rfl rfl (ex_extract hf rfl rfl) (fun a hf => ?_)
        refine stq hf rfl rfl rfl (ex_assign hf rfl) (fun a hf => ?_)
        refine stq hf rfl rfl rfl (ex_assign hf rfl) (fun a hf => ?_)
        refine hK34 _ _ ?_
        refine hN18 _ _ ?_
        refine seq_n (fun Q35 hN35 hR35 hX35 => ?_)
        refine bnd H (fun x36 H36 HO36 => ?_)
        clear H
        refine seq_cut (fun a w => Fr a 201 [(3, v3), (11, .pointer (some ⟨b10, 0, none⟩)), (12, .int .i64 (s7.1.length : Int)), (13, .int .i64 (IntKind.i64.wrap a4)), (14, .pointer none), (16, .pointer (some ⟨b30, 0, none⟩)), (77, .bool true)] ∧ St M w0 w [bx b10 27 [v8, v9, .int .i64 s7.2.2], osl K_api_HeatDomain v8 s7.1, osl K_api_HeatLink v9 s7.2.1, bx b30 64 [v31, v32, .int .i64 c20.2.2.1, v33, .int .i64 c20.2.2.2.2], osl K_api_HeatDomain v31 c20.1, osl K_api_HeatLink v32 c20.2.1, osl K_int64 v33 c20.2.2.2.1]) (fun Q36 hJ36 hR36 hX36 => ?_) (fun a w hJ => ?_)
        · replace H := H36
          refine itt H (fun hc37 H => ?_) (fun hc37 H => ?_)
          · -- s15.2 = 0
            refine itt H (fun hc38 H => ?_) (fun hc38 H => ?_)
            · -- s19.2 = 0
              refine region_k (fun K39 hK39 => ?_)
              refine stq hf rfl rfl rfl (ex_move hf rfl) (fun a hf => ?_)
              refine stq hf rfl rfl rfl (ex_neq hf rfl rfl) (fun a hf => ?_)
              refine stq hf rfl rfl rfl (ex_move hf rfl) (fun a hf => ?_)
              replace hf := hf.castB (t := 65) rfl (ndec_f hc37)
              replace hf := hf.castB (t := 66) rfl (ndec_f hc37)
              refine stq hf rfl rfl rfl (ex_move hf rfl) (fun a hf => ?_)
              refine stq hf rfl rfl rfl (ex_neq hf rfl rfl) (fun a hf => ?_)
              refine stq hf rfl rfl rfl (ex_pickF hf rfl rfl) (fun a hf => ?_)
              refine stq hf rfl rfl rfl (ex_move hf rfl) (fun a hf => ?_)
              replace hf := hf.castB (t := 68) rfl (ndec_f hc38)
              replace hf := hf.castB (t := 69) rfl (ndec_f hc38)
              replace hf := hf.castB (t := 70) rfl (ndec_f hc38)
              refine stq hf rfl rfl rfl (ex_move hf rfl) (fun a hf => ?_)
              refine stq hf rfl rfl rfl (ex_eqp Try.underlying29 hf rfl rfl) (fun a hf => ?_)
              refine stq hf rfl rfl rfl (ex_pickF hf rfl rfl) (fun a hf => ?_)
              refine stq hf rfl rfl rfl (ex_move hf rfl) (fun a hf => ?_)
              refine stepN hf rfl rfl rfl (fun a hf => ?_)
              refine stepN hf rfl rfl rfl (fun a hf => ?_)
              refine stq hf rfl rfl rfl (ex_pickT hf rfl rfl) (fun a hf => ?_)
              refine hK39 _ _ ?_
              replace hs := hs.pick (.k (.k (.k (.c (.k (.k (.k .nil)))))))
              replace hs := hs.pick (.k (.k (.k (.c (.k (.k (.k .nil)))))))
              replace hs := hs.pick (.k (.k (.k (.c (.k (.k (.k .nil)))))))
              replace hs := hs.pick (.k (.k (.k (.c (.k (.k (.k .nil)))))))
              replace hs := hs.pick (.k (.k (.k (.k (.k (.k (.c .nil)))))))
              replace hs := hs.pick (.k (.k (.k (.k (.k (.k (.c .nil)))))))
              replace hs := hs.pick (.k (.k (.k (.k (.k (.k (.c .nil)))))))
              have e36 := some_eq H; subst e36
              exact hJ36 _ _ ⟨hf.sub ⟨rfl, rfl, rfl, rfl, rfl, rfl, rfl, trivial⟩, hs⟩
            · -- not s19.2 = 0
              refine region_k (fun K40 hK40 => ?_)
              refine stq hf rfl rfl rfl (ex_move hf rfl) (fun a hf => ?_)
              refine stq hf rfl rfl rfl (ex_neq hf rfl rfl) (fun a hf => ?_)
              refine stq hf rfl rfl rfl (ex_move hf rfl) (fun a hf => ?_)
              replace hf := hf.castB (t := 65) rfl (ndec_f hc37)
              replace hf := hf.castB (t := 66) rfl (ndec_f hc37)
              refine stq hf rfl rfl rfl (ex_move hf rfl) (fun a hf => ?_)
              refine stq hf rfl rfl rfl (ex_neq hf rfl rfl) (fun a hf => ?_)
              refine stq hf rfl rfl rfl (ex_pickF hf rfl rfl) (fun a hf => ?_)
              refine stq hf rfl rfl rfl (ex_move hf rfl) (fun a hf => ?_)
              replace hf := hf.castB (t := 68) rfl (ndec_t hc38)
              replace hf := hf.castB (t := 69) rfl (ndec_t hc38)
              replace hf := hf.castB (t := 70) rfl (ndec_t hc38)
              refine stepN hf rfl rfl rfl (fun a hf => ?_)
              refine stepN hf rfl rfl rfl (fun a hf => ?_)
              refine stq hf rfl rfl rfl (ex_pickT hf rfl rfl) (fun a hf => ?_)
              refine stq hf rfl rfl rfl (ex_move hf rfl) (fun a hf => ?_)
              refine stepN hf rfl rfl rfl (fun a hf => ?_)
              refine stepN hf rfl rfl rfl (fun a hf => ?_)
              refine stq hf rfl rfl rfl (ex_pickT hf rfl rfl) (fun a hf => ?_)
              refine hK40 _ _ ?_
              replace hs := hs.pick (.k (.k (.k (.c (.k (.k (.k .nil)))))))
              replace hs := hs.pick (.k (.k (.k (.c (.k (.k (.k .nil)))))))
              replace hs := hs.pick (.k (.k (.k (.c (.k (.k (.k .nil)))))))
              replace hs := hs.pick (.k (.k (.k (.c (.k (.k (.k .nil)))))))
              replace hs := hs.pick (.k (.k (.k (.k (.k (.k (.c .nil)))))))
              replace hs := hs.pick (.k (.k (.k (.k (.k (.k (.c .nil)))))))
              replace hs := hs.pick (.k (.k (.k (.k (.k (.k (.c .nil)))))))
              have e36 := some_eq H; subst e36
              exact hJ36 _ _ ⟨hf.sub ⟨rfl, rfl, rfl, rfl, rfl, rfl, rfl, trivial⟩, hs⟩
          · -- not s15.2 = 0
            refine region_k (fun K41 hK41 => ?_)
            refine stq hf rfl rfl rfl (ex_move hf rfl) (fun a hf => ?_)
            refine stq hf rfl rfl rfl (ex_neq hf rfl rfl) (fun a hf => ?_)
            refine stq hf rfl rfl rfl (ex_move hf rfl) (fun a hf => ?_)
            replace hf := hf.castB (t := 65) rfl (ndec_t hc37)
            replace hf := hf.castB (t := 66) rfl (ndec_t hc37)
            refine stepN hf rfl rfl rfl (fun a hf => ?_)
            refine stepN hf rfl rfl rfl (fun a hf => ?_)
            refine stq hf rfl rfl rfl (ex_pickT hf rfl rfl) (fun a hf => ?_)
            refine stq hf rfl rfl rfl (ex_move hf rfl) (fun a hf => ?_)
            refine stepN hf rfl rfl rfl (fun a hf => ?_)
            refine stepN hf rfl rfl rfl (fun a hf => ?_)
            refine stq hf rfl rfl rfl (ex_pickT hf rfl rfl) (fun a hf => ?_)
            refine stq hf rfl rfl rfl (ex_move hf rfl) (fun a hf => ?_)
            refine stepN hf rfl rfl rfl (fun a hf => ?_)
            refine stepN hf rfl rfl rfl (fun a hf => ?_)
            refine stq hf rfl rfl rfl (ex_pickT hf rfl rfl) (fun a hf => ?_)
            refine hK41 _ _ ?_
            replace hs := hs.pick (.k (.k (.k (.c (.k (.k (.k .nil)))))))
            replace hs := hs.pick (.k (.k (.k (.c (.k (.k (.k .nil)))))))
            replace hs := hs.pick (.k (.k (.k (.c (.k (.k (.k .nil)))))))
            replace hs := hs.pick (.k (.k (.k (.c (.k (.k (.k .nil)))))))
            replace hs := hs.pick (.k (.k (.k (.k (.k (.k (.c .nil)))))))
            replace hs := hs.pick (.k (.k (.k (.k (.k (.k (.c .nil)))))))
            replace hs := hs.pick (.k (.k (.k (.k (.k (.k (.c .nil)))))))
            have e36 := some_eq H; subst e36
            exact hJ36 _ _ ⟨hf.sub ⟨rfl, rfl, rfl, rfl, rfl, rfl, rfl, trivial⟩, hs⟩
        · obtain ⟨hf, hs⟩ := hJ
          replace H := HO36
          clear HO36
          refine cond_T hf rfl ?_
          refine seq_reg (fun K42 hK42 => ?_)
          refine stq hf rfl rfl rfl (ex_assign hf rfl) (fun a hf => ?_)
          refine hK42 _ _ ?_
          refine wp_ret ?_
          refine hR35 _ _ ?_
          have eR := some_eq H; subst eR
          replace hs := hs.keep (.d (.d (.d (.d (.d (.d (.d .nil)))))))
          exact ret1 Try.results9 hf rfl ⟨_, rfl, ⟨rfl, hs⟩⟩
    | some c16 =>
      replace H := elim_s hps15 H
      refine region_k (fun K47 hK47 => ?_)
      refine stq hf rfl rfl rfl (ex_fieldAddrB fa_27_0 rfl hf rfl) (fun a hf => ?_)
      refine stq hf rfl rfl rfl (ex_load sc_22 hf rfl (bx_cell (hs.get (i := 0) rfl) _ rfl)) (fun a hf => ?_)
      refine stq hf rfl rfl rfl (ex_fieldAddrB fa_27_1 rfl hf rfl) (fun a hf => ?_)
      refine stq hf rfl rfl rfl (ex_load sc_23 hf rfl (bx_cell (hs.get (i := 0) rfl) _ rfl)) (fun a hf => ?_)
      refine stq hf rfl rfl rfl (ex_fieldAddrB fa_27_2 rfl hf rfl) (fun a hf => ?_)
      refine stq hf rfl rfl rfl (ex_load sc_2 hf rfl (bx_cell (hs.get (i := 0) rfl) _ rfl)) (fun a hf => ?_)
      refine stepF hf rfl rfl rfl (ex_call cf_13 hf rfl) (heat_New.calls k s7.1 s7.2.1 s7.2.2 v8 v9 (hs.enter (.k (.k (.k .nil)))) (Sr.own hs (.k (.k (.k .nil))) (i := 1) rfl osl_rsl (fun _ h => h.1) (Sr.own hs (.k (.k (.k .nil))) (i := 2) rfl osl_rsl (fun _ h => h.1) (Sr.nil _ _))) hs15) (fun v w hR a hf => ?_)
      obtain ⟨hc', _⟩ | ⟨cc, hc', b43, v44, v45, v46, rfl, hs'⟩ := hR
      case inl => rw [hps15] at hc'; cases hc'
      obtain rfl : c16 = cc := by rw [hps15] at hc'; exact Option.some.inj hc'
      replace hs := hs.step (.k (.k (.k .nil))) hs'
      clear hs'
      refine stq hf rfl rfl rfl (ex_move hf rfl) (fun a hf => ?_)
      refine stq hf rfl rfl rfl (ex_extract hf rfl rfl) (fun a hf => ?_)
      refine stq hf rfl rfl rfl (ex_extract hf rfl rfl) (fun a hf => ?_)
      refine stq hf rfl rfl rfl (ex_assign hf rfl) (fun a hf => ?_)
      refine stq hf rfl rfl rfl (ex_assign hf rfl) (fun a hf => ?_)
      refine hK47 _ _ ?_
      refine hN14 _ _ ?_
      refine seq_n (fun Q48 hN48 hR48 hX48 => ?_)
      refine bnd H (fun s49 hs49 H => ?_)
      cases hps49 : s49.1 with
      | none =>
        replace H := elim_n hps49 H
        refine region_k (fun K51 hK51 => ?_)
        refine stq hf rfl rfl rfl (ex_fieldAddrB fa_27_0 rfl hf rfl) (fun a hf => ?_)
        refine stq hf rfl rfl rfl (ex_load sc_22 hf rfl (bx_cell (hs.get (i := 4) rfl) _ rfl)) (fun a hf => ?_)
        refine stq hf rfl rfl rfl (ex_fieldAddrB fa_27_1 rfl hf rfl) (fun a hf => ?_)
        refine stq hf rfl rfl rfl (ex_load sc_23 hf rfl (bx_cell (hs.get (i := 4) rfl) _ rfl)) (fun a hf => ?_)
        refine stq hf rfl rfl rfl (ex_fieldAddrB fa_27_2 rfl hf rfl) (fun a hf => ?_)
        refine stq hf rfl rfl rfl (ex_load sc_2 hf rfl (bx_cell (hs.get (i := 4) rfl) _ rfl)) (fun a hf => ?_)
        refine stq hf rfl rfl rfl (ex_move hf rfl) (fun a hf => ?_)
        refine stq hf rfl rfl rfl (ex_add hf rfl rfl) (fun a hf => ?_)
        refine stepF hf rfl rfl rfl (ex_call cf_13 hf rfl) (heat_New.calls k s7.1 s7.2.1 (IntKind.i64.wrap (s7.2.2 + (IntKind.i64.wrap a4))) v8 v9 (hs.enter (.k (.k (.k (.k (.k (.k (.k .nil)))))))) (Sr.own hs (.k (.k (.k (.k (.k (.k (.k .nil))))))) (i := 5) rfl osl_rsl (fun _ h => h.1) (Sr.own hs (.k (.k (.k (.k (.k (.k (.k .nil))))))) (i := 6) rfl osl_rsl (fun _ h => h.1) (Sr.nil _ _))) hs49) (fun v w hR a hf => ?_)
        obtain ⟨_, rfl, hs'⟩ | ⟨_, hc', _⟩ := hR
        case inr => rw [hps49] at hc'; cases hc'
        replace hs := hs.step (.k (.k (.k (.k (.k (.k (.k .nil))))))) hs'
        clear hs'
        refine stq hf rfl rfl rfl (ex_move hf rfl) (fun a hf => ?_)
        refine stq hf rfl rfl rfl (ex_extract hf rfl rfl) (fun a hf => ?_)
        refine stq hf rfl rfl rfl (ex_extract hf rfl rfl) (fun a hf => ?_)
        refine stq hf rfl rfl rfl (ex_assign hf rfl) (fun a hf => ?_)
        refine stq hf rfl rfl rfl (ex_assign hf rfl) (fun a hf => ?_)
        refine hK51 _ _ ?_
        refine hN48 _ _ ?_
        refine seq_n (fun Q52 hN52 hR52 hX52 => ?_)
        refine bnd H (fun x53 H53 HO53 => ?_)
        clear H
        refine seq_cut (fun a w => Fr a 201 [(3, v3), (11, .pointer (some ⟨b10, 0, none⟩)), (12, .int .i64 (s7.1.length : Int)), (13, .int .i64 (IntKind.i64.wrap a4)), (14, .pointer (some ⟨b43, 0, none⟩)), (16, .pointer none), (77, .bool true)] ∧ St M w0 w [bx b10 27 [v8, v9, .int .i64 s7.2.2], osl K_api_HeatDomain v8 s7.1, osl K_api_HeatLink v9 s7.2.1, bx b43 64 [v44, v45, .int .i64 c16.2.2.1, v46, .int .i64 c16.2.2.2.2], osl K_api_HeatDomain v44 c16.1, osl K_api_HeatLink v45 c16.2.1, osl K_int64 v46 c16.2.2.2.1]) (fun Q53 hJ53 hR53 hX53 => ?_) (fun a w hJ => ?_)
        · replace H := H53
          refine itt H (fun hc54 H => ?_) (fun hc54 H => ?_)
          · -- s15.2 = 0
            refine itt H (fun hc55 H => ?_) (fun hc55 H => ?_)
            · -- s49.2 = 0
              refine region_k (fun K56 hK56 => ?_)
              refine stq hf rfl rfl rfl (ex_move hf rfl) (fun a hf => ?_)
              refine stq hf rfl rfl rfl (ex_neq hf rfl rfl) (fun a hf => ?_)
              refine stq hf rfl rfl rfl (ex_move hf rfl) (fun a hf => ?_)
              replace hf := hf.castB (t := 65) rfl (ndec_f hc54)
              replace hf := hf.castB (t := 66) rfl (ndec_f hc54)
              refine stq hf rfl rfl rfl (ex_move hf rfl) (fun a hf => ?_)
              refine stq hf rfl rfl rfl (ex_neq hf rfl rfl) (fun a hf => ?_)
              refine stq hf rfl rfl rfl (ex_pickF hf rfl rfl) (fun a hf => ?_)
              refine stq hf rfl rfl rfl (ex_move hf rfl) (fun a hf => ?_)
              replace hf := hf.castB (t := 68) rfl (ndec_f hc55)
              replace hf := hf.castB (t := 69) rfl (ndec_f hc55)
              replace hf := hf.castB (t := 70) rfl (ndec_f hc55)
              refine stq hf rfl rfl rfl (ex_move hf rfl) (fun a hf => ?_)
              refine stq hf rfl rfl rfl (ex_eqp Try.underlying29 hf rfl rfl) (fun a hf => ?_)
              refine stq hf rfl rfl rfl (ex_pickF hf rfl rfl) (fun a hf => ?_)
              refine stq hf rfl rfl rfl (ex_move hf rfl) (fun a hf => ?_)
              refine stq hf rfl rfl rfl (ex_move hf rfl) (fun a hf => ?_)
              refine stq hf rfl rfl rfl (ex_eqp Try.underlying29 hf rfl rfl) (fun a hf => ?_)
              refine stq hf rfl rfl rfl (ex_pickF hf rfl rfl) (fun a hf => ?_)
              refine hK56 _ _ ?_
              replace hs := hs.pick (.k (.k (.k (.c (.k (.k (.k .nil)))))))
              replace hs := hs.pick (.k (.k (.k (.c (.k (.k (.k .nil)))))))
              replace hs := hs.pick (.k (.k (.k (.c (.k (.k (.k .nil)))))))
              replace hs := hs.pick (.k (.k (.k (.c (.k (.k (.k .nil)))))))
              replace hs := hs.pick (.k (.k (.k (.k (.k (.k (.c .nil)))))))
              replace hs := hs.pick (.k (.k (.k (.k (.k (.k (.c .nil)))))))
              replace hs := hs.pick (.k (.k (.k (.k (.k (.k (.c .nil)))))))
              have e53 := some_eq H; subst e53
              exact hJ53 _ _ ⟨hf.sub ⟨rfl, rfl, rfl, rfl, rfl, rfl, rfl, trivial⟩, hs⟩
            · -- not s49.2 = 0
              refine region_k (fun K57 hK57 => ?_)
              refine stq hf rfl rfl rfl (ex_move hf rfl) (fun a hf => ?_)
              refine stq hf rfl rfl rfl (ex_neq hf rfl rfl) (fun a hf => ?_)
              refine stq hf rfl rfl rfl (ex_move hf rfl) (fun a hf => ?_)
              replace hf := hf.castB (t := 65) rfl (ndec_f hc54)
              replace hf := hf.castB (t := 66) rfl (ndec_f hc54)
              refine stq hf rfl rfl rfl (ex_move hf rfl) (fun a hf => ?_)
              refine stq hf rfl rfl rfl (ex_neq hf rfl rfl) (fun a hf => ?_)
              refine stq hf rfl rfl rfl (ex_pickF hf rfl rfl) (fun a hf => ?_)
              refine stq hf rfl rfl rfl (ex_move hf rfl) (fun a hf => ?_)
              replace hf := hf.castB (t := 68) rfl (ndec_t hc55)
              replace hf := hf.castB (t := 69) rfl (ndec_t hc55)
              replace hf := hf.castB (t := 70) rfl (ndec_t hc55)
              refine stepN hf rfl rfl rfl (fun a hf => ?_)
              refine stepN hf rfl rfl rfl (fun a hf => ?_)
              refine stq hf rfl rfl rfl (ex_pickT hf rfl rfl) (fun a hf => ?_)
              refine stq hf rfl rfl rfl (ex_move hf rfl) (fun a hf => ?_)
              refine stepN hf rfl rfl rfl (fun a hf => ?_)
              refine stepN hf rfl rfl rfl (fun a hf => ?_)
              refine stq hf rfl rfl rfl (ex_pickT hf rfl rfl) (fun a hf => ?_)
              refine hK57 _ _ ?_
              replace hs := hs.pick (.k (.k (.k (.c (.k (.k (.k .nil)))))))
              replace hs := hs.pick (.k (.k (.k (.c (.k (.k (.k .nil)))))))
              replace hs := hs.pick (.k (.k (.k (.c (.k (.k (.k .nil)))))))
              replace hs := hs.pick (.k (.k (.k (.c (.k (.k (.k .nil)))))))
              replace hs := hs.pick (.k (.k (.k (.k (.k (.k (.c .nil)))))))
              replace hs := hs.pick (.k (.k (.k (.k (.k (.k (.c .nil)))))))
              replace hs := hs.pick (.k (.k (.k (.k (.k (.k (.c .nil)))))))
              have e53 := some_eq H; subst e53
              exact hJ53 _ _ ⟨hf.sub ⟨rfl, rfl, rfl, rfl, rfl, rfl, rfl, trivial⟩, hs⟩
          · -- not s15.2 = 0
            refine region_k (fun K58 hK58 => ?_)
            refine stq hf rfl rfl rfl (ex_move hf rfl) (fun a hf => ?_)
            refine stq hf rfl rfl rfl (ex_neq hf rfl rfl) (fun a hf => ?_)
            refine stq hf rfl rfl rfl (ex_move hf rfl) (fun a hf => ?_)
            replace hf := hf.castB (t := 65) rfl (ndec_t hc54)
            replace hf := hf.castB (t := 66) rfl (ndec_t hc54)
            refine stepN hf rfl rfl rfl (fun a hf => ?_)
            refine stepN hf rfl rfl rfl (fun a hf => ?_)
            refine stq hf rfl rfl rfl (ex_pickT hf rfl rfl) (fun a hf => ?_)
            refine stq hf rfl rfl rfl (ex_move hf rfl) (fun a hf => ?_)
            refine stepN hf rfl rfl rfl (fun a hf => ?_)
            refine stepN hf rfl rfl rfl (fun a hf => ?_)
            refine stq hf rfl rfl rfl (ex_pickT hf rfl rfl) (fun a hf => ?_)
            refine stq hf rfl rfl rfl (ex_move hf rfl) (fun a hf => ?_)
            refine stepN hf rfl rfl rfl (fun a hf => ?_)
            refine stepN hf rfl rfl rfl (fun a hf => ?_)
            refine stq hf rfl rfl rfl (ex_pickT hf rfl rfl) (fun a hf => ?_)
            refine hK58 _ _ ?_
            replace hs := hs.pick (.k (.k (.k (.c (.k (.k (.k .nil)))))))
            replace hs := hs.pick (.k (.k (.k (.c (.k (.k (.k .nil)))))))
            replace hs := hs.pick (.k (.k (.k (.c (.k (.k (.k .nil)))))))
            replace hs := hs.pick (.k (.k (.k (.c (.k (.k (.k .nil)))))))
            replace hs := hs.pick (.k (.k (.k (.k (.k (.k (.c .nil)))))))
            replace hs := hs.pick (.k (.k (.k (.k (.k (.k (.c .nil)))))))
            replace hs := hs.pick (.k (.k (.k (.k (.k (.k (.c .nil)))))))
            have e53 := some_eq H; subst e53
            exact hJ53 _ _ ⟨hf.sub ⟨rfl, rfl, rfl, rfl, rfl, rfl, rfl, trivial⟩, hs⟩
        · obtain ⟨hf, hs⟩ := hJ
          replace H := HO53
          clear HO53
          refine cond_T hf rfl ?_
          refine seq_reg (fun K59 hK59 => ?_)
          refine stq hf rfl rfl rfl (ex_assign hf rfl) (fun a hf => ?_)
          refine hK59 _ _ ?_
          refine wp_ret ?_
          refine hR52 _ _ ?_
          have eR := some_eq H; subst eR
          replace hs := hs.keep (.d (.d (.d (.d (.d (.d (.d .nil)))))))
          exact ret1 Try.results9 hf rfl ⟨_, rfl, ⟨rfl, hs⟩⟩
      | some c50 =>
        replace H := elim_s hps49 H
        refine region_k (fun K64 hK64 => ?_)
        refine stq hf rfl rfl rfl (ex_fieldAddrB fa_27_0 rfl hf rfl) (fun a hf => ?_)
        refine stq hf rfl rfl rfl (ex_load sc_22 hf rfl (bx_cell (hs.get (i := 4) rfl) _ rfl)) (fun a hf => ?_)
        refine stq hf rfl rfl rfl (ex_fieldAddrB fa_27_1 rfl hf rfl) (fun a hf => ?_)
        refine stq hf rfl rfl rfl (ex_load sc_23 hf rfl (bx_cell (hs.get (i := 4) rfl) _ rfl)) (fun a hf => ?_)
        refine stq hf rfl rfl rfl (ex_fieldAddrB fa_27_2 rfl hf rfl) (fun a hf => ?_)
        refine stq hf rfl rfl rfl (ex_load sc_2 hf rfl (bx_cell (hs.get (i := 4) rfl) _ rfl)) (fun a hf => ?_)
        refine stq hf rfl rfl rfl (ex_move hf rfl) (fun a hf => ?_)
        refine stq hf rfl rfl rfl (ex_add hf rfl rfl) (fun a hf => ?_)
        refine stepF hf rfl rfl rfl (ex_call cf_13 hf rfl) (heat_New.calls k s7.1 s7.2.1 (IntKind.i64.wrap (s7.2.2 + (IntKind.i64.wrap a4))) v8 v9 (hs.enter (.k (.k (.k (.k (.k (.k (.k .nil)))))))) (Sr.own hs (.k (.k (.k (.k (.k (.k (.k .nil))))))) (i := 5) rfl osl_rsl (fun _ h => h.1) (Sr.own hs (.k (.k (.k (.k (.k (.k (.k .nil))))))) (i := 6) rfl osl_rsl (fun _ h => h.1) (Sr.nil _ _))) hs49) (fun v w hR a hf => ?_)
        obtain ⟨hc', _⟩ | ⟨cc, hc', b60, v61, v62, v63, rfl, hs'⟩ := hR
        case inl => rw [hps49] at hc'; cases hc'
        obtain rfl : c50 = cc := by rw [hps49] at hc'; exact Option.some.inj hc'
        replace hs := hs.step (.k (.k (.k (.k (.k (.k (.k .nil))))))) hs'
        clear hs'
        refine stq hf rfl rfl rfl (ex_move hf rfl) (fun a hf => ?_)
        refine stq hf rfl rfl rfl (ex_extract hf rfl rfl) (fun a hf => ?_)
        refine stq hf rfl rfl rfl (ex_extract hf rfl rfl) (fun a hf => ?_)
        refine stq hf rfl rfl rfl (ex_assign hf rfl) (fun a hf => ?_)
        refine stq hf rfl rfl rfl (ex_assign hf rfl) (fun a hf => ?_)
        refine hK64 _ _ ?_
        refine hN48 _ _ ?_
        refine seq_n (fun Q65 hN65 hR65 hX65 => ?_)
        refine bnd H (fun x66 H66 HO66 => ?_)
        clear H
        refine seq_cut (fun a w => Fr a 201 [(3, v3), (11, .pointer (some ⟨b10, 0, none⟩)), (12, .int .i64 (s7.1.length : Int)), (13, .int .i64 (IntKind.i64.wrap a4)), (14, .pointer (some ⟨b43, 0, none⟩)), (16, .pointer (some ⟨b60, 0, none⟩)), (77, .bool x66)] ∧ St M w0 w [bx b10 27 [v8, v9, .int .i64 s7.2.2], osl K_api_HeatDomain v8 s7.1, osl K_api_HeatLink v9 s7.2.1, bx b43 64 [v44, v45, .int .i64 c16.2.2.1, v46, .int .i64 c16.2.2.2.2], osl K_api_HeatDomain v44 c16.1, osl K_api_HeatLink v45 c16.2.1, osl K_int64 v46 c16.2.2.2.1, bx b60 64 [v61, v62, .int .i64 c50.2.2.1, v63, .int .i64 c50.2.2.2.2], osl K_api_HeatDomain v61 c50.1, osl K_api_HeatLink v62 c50.2.1, osl K_int64 v63 c50.2.2.2.1]) (fun Q66 hJ66 hR66 hX66 => ?_) (fun a w hJ => ?_)
        · replace H := H66
          refine itt H (fun hc67 H => ?_) (fun hc67 H => ?_)
          · -- s15.2 = 0
            refine itt H (fun hc68 H => ?_) (fun hc68 H => ?_)
            · -- s49.2 = 0
              refine region_k (fun K69 hK69 => ?_)
              refine stq hf rfl rfl rfl (ex_move hf rfl) (fun a hf => ?_)
              refine stq hf rfl rfl rfl (ex_neq hf rfl rfl) (fun a hf => ?_)
              refine stq hf rfl rfl rfl (ex_move hf rfl) (fun a hf => ?_)
              replace hf := hf.castB (t := 65) rfl (ndec_f hc67)
              replace hf := hf.castB (t := 66) rfl (ndec_f hc67)
              refine stq hf rfl rfl rfl (ex_move hf rfl) (fun a hf => ?_)
              refine stq hf rfl rfl rfl (ex_neq hf rfl rfl) (fun a hf => ?_)
              refine stq hf rfl rfl rfl (ex_pickF hf rfl rfl) (fun a hf => ?_)
              refine stq hf rfl rfl rfl (ex_move hf rfl) (fun a hf => ?_)
              replace hf := hf.castB (t := 68) rfl (ndec_f hc68)
              replace hf := hf.castB (t := 69) rfl (ndec_f hc68)
              replace hf := hf.castB (t := 70) rfl (ndec_f hc68)
              refine stq hf rfl rfl rfl (ex_move hf rfl) (fun a hf => ?_)
              refine stq hf rfl rfl rfl (ex_eqp Try.underlying29 hf rfl rfl) (fun a hf => ?_)
              refine stq hf rfl rfl rfl (ex_pickF hf rfl rfl) (fun a hf => ?_)
              refine stq hf rfl rfl rfl (ex_move hf rfl) (fun a hf => ?_)
              refine stq hf rfl rfl rfl (ex_move hf rfl) (fun a hf => ?_)
              refine stq hf rfl rfl rfl (ex_eqp Try.underlying29 hf rfl rfl) (fun a hf => ?_)
              refine stq hf rfl rfl rfl (ex_pickF hf rfl rfl) (fun a hf => ?_)
              refine hK69 _ _ ?_
              replace hs := hs.pick (.k (.k (.k (.c (.k (.k (.k (.k (.k (.k (.k .nil)))))))))))
              replace hs := hs.pick (.k (.k (.k (.c (.k (.k (.k (.k (.k (.k (.k .nil)))))))))))
              replace hs := hs.pick (.k (.k (.k (.c (.k (.k (.k (.k (.k (.k (.k .nil)))))))))))
              replace hs := hs.pick (.k (.k (.k (.c (.k (.k (.k (.k (.k (.k (.k .nil)))))))))))
              replace hs := hs.pick (.k (.k (.k (.k (.k (.k (.k (.c (.k (.k (.k .nil)))))))))))
              replace hs := hs.pick (.k (.k (.k (.k (.k (.k (.k (.c (.k (.k (.k .nil)))))))))))
              replace hs := hs.pick (.k (.k (.k (.k (.k (.k (.k (.c (.k (.k (.k .nil)))))))))))
              replace hs := hs.pick (.k (.k (.k (.k (.k (.k (.k (.c (.k (.k (.k .nil)))))))))))
              replace hs := hs.pick (.k (.k (.k (.k (.k (.k (.k (.k (.k (.k (.c .nil)))))))))))
              replace hs := hs.pick (.k (.k (.k (.k (.k (.k (.k (.k (.k (.k (.c .nil)))))))))))
              replace hs := hs.pick (.k (.k (.k (.k (.k (.k (.k (.k (.k (.k (.c .nil)))))))))))
              have e66 := some_eq H; subst e66
              exact hJ66 _ _ ⟨hf.sub ⟨rfl, rfl, rfl, rfl, rfl, rfl, rfl, trivial⟩, hs⟩
            · -- not s49.2 = 0
              refine region_k (fun K70 hK70 => ?_)
              refine stq hf rfl rfl rfl (ex_move hf rfl) (fun a hf => ?_)
              refine stq hf rfl rfl rfl (ex_neq hf rfl rfl) (fun a hf => ?_)
              refine stq hf rfl rfl rfl (ex_move hf rfl) (fun a hf => ?_)
              replace hf := hf.castB (t := 65) rfl (ndec_f hc67)
              replace hf := hf.castB (t := 66) rfl (ndec_f hc67)
              refine stq hf rfl rfl rfl (ex_move hf rfl) (fun a hf => ?_)
              refine stq hf rfl rfl rfl (ex_neq hf rfl rfl) (fun a hf => ?_)
              refine stq hf rfl rfl rfl (ex_pickF hf rfl rfl) (fun a hf => ?_)
              refine stq hf rfl rfl rfl (ex_move hf rfl) (fun a hf => ?_)
              replace hf := hf.castB (t := 68) rfl (ndec_t hc68)
              replace hf := hf.castB (t := 69) rfl (ndec_t hc68)
              replace hf := hf.castB (t := 70) rfl (ndec_t hc68)
              refine stepN hf rfl rfl rfl (fun a hf => ?_)
              refine stepN hf rfl rfl rfl (fun a hf => ?_)
              refine stq hf rfl rfl rfl (ex_pickT hf rfl rfl) (fun a hf => ?_)
              refine stq hf rfl rfl rfl (ex_move hf rfl) (fun a hf => ?_)
              refine stepN hf rfl rfl rfl (fun a hf => ?_)
              refine stepN hf rfl rfl rfl (fun a hf => ?_)
              refine stq hf rfl rfl rfl (ex_pickT hf rfl rfl) (fun a hf => ?_)
              refine hK70 _ _ ?_
              replace hs := hs.pick (.k (.k (.k (.c (.k (.k (.k (.k (.k (.k (.k .nil)))))))))))
              replace hs := hs.pick (.k (.k (.k (.c (.k (.k (.k (.k (.k (.k (.k .nil)))))))))))
              replace hs := hs.pick (.k (.k (.k (.c (.k (.k (.k (.k (.k (.k (.k .nil)))))))))))
              replace hs := hs.pick (.k (.k (.k (.c (.k (.k (.k (.k (.k (.k (.k .nil)))))))))))
              replace hs := hs.pick (.k (.k (.k (.k (.k (.k (.k (.c (.k (.k (.k .nil)))))))))))
              replace hs := hs.pick (.k (.k (.k (.k (.k (.k (.k (.c (.k (.k (.k .nil)))))))))))
              replace hs := hs.pick (.k (.k (.k (.k (.k (.k (.k (.c (.k (.k (.k .nil)))))))))))
              replace hs := hs.pick (.k (.k (.k (.k (.k (.k (.k (.c (.k (.k (.k .nil)))))))))))
              replace hs := hs.pick (.k (.k (.k (.k (.k (.k (.k (.k (.k (.k (.c .nil)))))))))))
              replace hs := hs.pick (.k (.k (.k (.k (.k (.k (.k (.k (.k (.k (.c .nil)))))))))))
              replace hs := hs.pick (.k (.k (.k (.k (.k (.k (.k (.k (.k (.k (.c .nil)))))))))))
              have e66 := some_eq H; subst e66
              exact hJ66 _ _ ⟨hf.sub ⟨rfl, rfl, rfl, rfl, rfl, rfl, rfl, trivial⟩, hs⟩
          · -- not s15.2 = 0
            refine region_k (fun K71 hK71 => ?_)
            refine stq hf rfl rfl rfl (ex_move hf rfl) (fun a hf => ?_)
            refine stq hf rfl rfl rfl (ex_neq hf rfl rfl) (fun a hf => ?_)
            refine stq hf rfl rfl rfl (ex_move hf rfl) (fun a hf => ?_)
            replace hf := hf.castB (t := 65) rfl (ndec_t hc67)
            replace hf := hf.castB (t := 66) rfl (ndec_t hc67)
            refine stepN hf rfl rfl rfl (fun a hf => ?_)
            refine stepN hf rfl rfl rfl (fun a hf => ?_)
            refine stq hf rfl rfl rfl (ex_pickT hf rfl rfl) (fun a hf => ?_)
            refine stq hf rfl rfl rfl (ex_move hf rfl) (fun a hf => ?_)
            refine stepN hf rfl rfl rfl (fun a hf => ?_)
            refine stepN hf rfl rfl rfl (fun a hf => ?_)
            refine stq hf rfl rfl rfl (ex_pickT hf rfl rfl) (fun a hf => ?_)
            refine stq hf rfl rfl rfl (ex_move hf rfl) (fun a hf => ?_)
            refine stepN hf rfl rfl rfl (fun a hf => ?_)
            refine stepN hf rfl rfl rfl (fun a hf => ?_)
            refine stq hf rfl rfl rfl (ex_pickT hf rfl rfl) (fun a hf => ?_)
            refine hK71 _ _ ?_
            replace hs := hs.pick (.k (.k (.k (.c (.k (.k (.k (.k (.k (.k (.k .nil)))))))))))
            replace hs := hs.pick (.k (.k (.k (.c (.k (.k (.k (.k (.k (.k (.k .nil)))))))))))
            replace hs := hs.pick (.k (.k (.k (.c (.k (.k (.k (.k (.k (.k (.k .nil)))))))))))
            replace hs := hs.pick (.k (.k (.k (.c (.k (.k (.k (.k (.k (.k (.k .nil)))))))))))
            replace hs := hs.pick (.k (.k (.k (.k (.k (.k (.k (.c (.k (.k (.k .nil)))))))))))
            replace hs := hs.pick (.k (.k (.k (.k (.k (.k (.k (.c (.k (.k (.k .nil)))))))))))
            replace hs := hs.pick (.k (.k (.k (.k (.k (.k (.k (.c (.k (.k (.k .nil)))))))))))
            replace hs := hs.pick (.k (.k (.k (.k (.k (.k (.k (.c (.k (.k (.k .nil)))))))))))
            replace hs := hs.pick (.k (.k (.k (.k (.k (.k (.k (.k (.k (.k (.c .nil)))))))))))
            replace hs := hs.pick (.k (.k (.k (.k (.k (.k (.k (.k (.k (.k (.c .nil)))))))))))
            replace hs := hs.pick (.k (.k (.k (.k (.k (.k (.k (.k (.k (.k (.c .nil)))))))))))
            have e66 := some_eq H; subst e66
            exact hJ66 _ _ ⟨hf.sub ⟨rfl, rfl, rfl, rfl, rfl, rfl, rfl, trivial⟩, hs⟩
        · obtain ⟨hf, hs⟩ := hJ
          replace H := HO66
          clear HO66
          refine itt H (fun hc72 H => ?_) (fun hc72 H => ?_)
          · -- x66 = true
            replace hf := hf.castB (t := 77) rfl hc72
            refine cond_T hf rfl ?_
            refine seq_reg (fun K73 hK73 => ?_)
            refine stq hf rfl rfl rfl (ex_assign hf rfl) (fun a hf => ?_)
            refine hK73 _ _ ?_
            refine wp_ret ?_
            refine hR65 _ _ ?_
            have eR := some_eq H; subst eR
            replace hs := hs.keep (.d (.d (.d (.d (.d (.d (.d (.d (.d (.d (.d .nil)))))))))))
            exact ret1 Try.results9 hf rfl ⟨_, rfl, ⟨rfl, hs⟩⟩
          · -- not x66 = true
            replace hf := hf.castB (t := 77) rfl (bool_f hc72)
            refine cond_F hf rfl ?_
            refine wp_skip ?_
            refine hN65 _ _ ?_
            refine bnd H (fun x74 H74 HO74 => ?_)
            clear H
            refine seq_cut (fun a w => ∃ (x74s : Unit), x74 = .go x74s ∧ Fr a 201 [] ∧ St M w0 w []) (fun Q74 hJ74 hR74 hX74 => ?_) (fun a w hJ => ?_)
            · replace H := H74
              refine seq_reg (fun K75 hK75 => ?_)
              refine stq hf rfl rfl rfl (ex_assign hf rfl) (fun a hf => ?_)
              refine hK75 _ _ ?_
              refine block_k (fun Q76 hN76 hR76 hX76 hY76 => ?_)
              refine loop_k (fun n a w => ∃ (y79 : (List Int)) (y80 : Int) (y81 : (List Int)) (y82 : Int) (y83 : Int) (v77 : Value) (v78 : Value), Fr a 201 [(3, v3), (11, .pointer (some ⟨b10, 0, none⟩)), (12, .int .i64 (s7.1.length : Int)), (13, .int .i64 (IntKind.i64.wrap a4)), (14, .pointer (some ⟨b43, 0, none⟩)), (16, .pointer (some ⟨b60, 0, none⟩)), (18, .int .i64 y83)] ∧ St M w0 w [bx b10 27 [v8, v9, .int .i64 s7.2.2], osl K_api_HeatDomain v8 s7.1, osl K_api_HeatLink v9 s7.2.1, bx b43 64 [v44, v45, .int .i64 c16.2.2.1, v77, .int .i64 y80], osl K_api_HeatDomain v44 c16.1, osl K_api_HeatLink v45 c16.2.1, osl K_int64 v77 y79, bx b60 64 [v61, v62, .int .i64 c50.2.2.1, v78, .int .i64 y82], osl K_api_HeatDomain v61 c50.1, osl K_api_HeatLink v62 c50.2.1, osl K_int64 v78 y81] ∧ law38_HeatShift.l1 n a3 s7 c16 c50 a4 y79 y80 y81 y82 y83 = some x74) k ?_ (fun n85 a w hI Q85 hL85 hR85 hX85 => ?_)
              · -- at the start
                exact ⟨c16.2.2.2.1, c16.2.2.2.2, c50.2.2.2.1, c50.2.2.2.2, 0, v46, v63, hf.sub ⟨rfl, rfl, rfl, rfl, rfl, rfl, rfl, trivial⟩, hs, H⟩
              · obtain ⟨y79, y80, y81, y82, y83, v77, v78, hf, hs, H⟩ := hI
                cases n85 with
                | zero => exact absurd H (by rw [law38_HeatShift.l1.eq_1]; intro h; cases h)
                | succ k85 =>
                  replace H := (law38_HeatShift.l1.eq_2 ..).symm.trans H
                  refine seq_n (fun Q86 hN86 hR86 hX86 => ?_)
                  refine seq_reg (fun K87 hK87 => ?_)
                  refine stq hf rfl rfl rfl (ex_move hf rfl) (fun a hf => ?_)
                  refine stq hf rfl rfl rfl (ex_move hf rfl) (fun a hf => ?_)
                  refine stq hf rfl rfl rfl (ex_lenS Try.underlying24 (rsl2_isSl (hr.now hs (i := 2) rfl)) hf rfl) (fun a hf => ?_)
                  refine stq hf rfl rfl rfl (ex_lss hf rfl rfl) (fun a hf => ?_)
                  refine hK87 _ _ ?_
                  refine itt H (fun hc88 H => ?_) (fun hc88 H => ?_)
                  · -- y83 < (a3.length : Int)
                    replace hf := hf.castB (t := 81) rfl (dec_t hc88)
                    refine cond_T hf rfl ?_
                    refine wp_skip ?_
                    refine hN86 _ _ ?_
                    refine bnd H (fun x89 H89 HO89 => ?_)
                    clear H
                    refine seq_cut (fun a w => ∃ (x89s : (List Int) × Int × (List Int) × Int) (v90 : Value) (v91 : Value), x89 = .go x89s ∧ Fr a 201 [(3, v3), (11, .pointer (some ⟨b10, 0, none⟩)), (12, .int .i64 (s7.1.length : Int)), (13, .int .i64 (IntKind.i64.wrap a4)), (14, .pointer (some ⟨b43, 0, none⟩)), (16, .pointer (some ⟨b60, 0, none⟩)), (18, .int .i64 y83)] ∧ St M w0 w [bx b10 27 [v8, v9, .int .i64 s7.2.2], osl K_api_HeatDomain v8 s7.1, osl K_api_HeatLink v9 s7.2.1, bx b43 64 [v44, v45, .int .i64 c16.2.2.1, v90, .int .i64 x89s.2.1], osl K_api_HeatDomain v44 c16.1, osl K_api_HeatLink v45 c16.2.1, osl K_int64 v90 x89s.1, bx b60 64 [v61, v62, .int .i64 c50.2.2.1, v91, .int .i64 x89s.2.2.2], osl K_api_HeatDomain v61 c50.1, osl K_api_HeatLink v62 c50.2.1, osl K_int64 v91 x89s.2.2.1]) (fun Q89 hJ89 hR89 hX89 => ?_) (fun a w hJ => ?_)
                    · replace H := H89
                      refine block_k (fun Q92 hN92 hR92 hX92 hY92 => ?_)
                      refine ck_some H (fun hc93 H => ?_)
                      refine bnd H (fun s94 hs94 H => ?_)
                      refine seq_reg (fun K96 hK96 => ?_)
                      refine stq hf rfl rfl rfl (ex_move hf rfl) (fun a hf => ?_)
                      refine stq hf rfl rfl rfl (ex_move hf rfl) (fun a hf => ?_)
                      refine stq hf rfl rfl rfl (ex_indexAddr sa_24 (rsl2_isSl (hr.now hs (i := 2) rfl)) hc93.1 hc93.2 hf rfl rfl) (fun a hf => ?_)
                      refine stq hf rfl rfl rfl (ex_load sc_35 hf rfl (rsl2_cell (hr.now hs (i := 2) rfl) hc93.1 hc93.2)) (fun a hf => ?_)
                      refine stq hf rfl rfl rfl (ex_move hf rfl) (fun a hf => ?_)
                      refine stepF hf rfl rfl rfl (ex_call cf_14 hf rfl) (law38_Powers.calls k85 (gd [] a3 y83) (s7.1.length : Int) 200 (vs3 y83.toNat) (hs.enter (.k (.k (.k (.k (.k (.k (.k (.k (.k (.k (.k .nil)))))))))))) (Sr.old hr hs (.k (.k (.k (.k (.k (.k (.k (.k (.k (.k (.k .nil))))))))))) (i := 2) rfl (fun _ h => rsl2_rsl _ h hc93.1 hc93.2) (fun _ h => rsl2_fs hc93.1 hc93.2 h) (Sr.nil _ _)) hs94) (fun v w hR a hf => ?_)
                      obtain ⟨v95, rfl, hs'⟩ := hR
                      replace hs := hs.step (.k (.k (.k (.k (.k (.k (.k (.k (.k (.k (.k .nil))))))))))) hs'
                      clear hs'
                      refine stq hf rfl rfl rfl (ex_assign hf rfl) (fun a hf => ?_)
                      refine hK96 _ _ ?_
                      refine bnd H (fun s97 hs97 H => ?_)
                      refine seq_reg (fun K100 hK100 => ?_)
                      refine stq hf rfl rfl rfl (ex_move hf rfl) (fun a hf => ?_)
                      refine stq hf rfl rfl rfl (ex_move hf rfl) (fun a hf => ?_)
                      refine stepF hf rfl rfl rfl (ex_call cf_15 hf rfl) (heat_Model_Step.calls k85 c16.1 c16.2.1 c16.2.2.1 y79 y80 s94 b43 v44 v45 v77 v95 (hs.enter (.k (.k (.k (.k (.c (.k (.k (.c (.k (.k (.k (.k .nil))))))))))))) (Sr.own hs (.k (.k (.k (.k (.c (.k (.k (.c (.k (.k (.k (.k .nil)))))))))))) (i := 4) rfl osl_rsl (fun _ h => h.1) (Sr.own hs (.k (.k (.k (.k (.c (.k (.k (.c (.k (.k (.k (.k .nil)))))))))))) (i := 5) rfl osl_rsl (fun _ h => h.1) (Sr.own hs (.k (.k (.k (.k (.c (.k (.k (.c (.k (.k (.k (.k .nil)))))))))))) (i := 0) rfl osl_rsl (fun _ h => h.1) (Sr.nil _ _)))) hs97) (fun v w hR a hf => ?_)
                      obtain ⟨v98, v99, rfl, hs'⟩ := hR
                      replace hs := hs.step (.k (.k (.k (.k (.c (.k (.k (.c (.k (.k (.k (.k .nil)))))))))))) hs'
                      clear hs'
                      refine stq hf rfl rfl rfl (ex_move hf rfl) (fun a hf => ?_)
                      refine stq hf rfl rfl rfl (ex_extract hf rfl rfl) (fun a hf => ?_)
                      refine stq hf rfl rfl rfl (ex_extract hf rfl rfl) (fun a hf => ?_)
                      refine stq hf rfl rfl rfl (ex_assign hf rfl) (fun a hf => ?_)
                      refine stq hf rfl rfl rfl (ex_assign hf rfl) (fun a hf => ?_)
                      refine hK100 _ _ ?_
                      refine bnd H (fun s101 hs101 H => ?_)
                      refine seq_reg (fun K104 hK104 => ?_)
                      refine stq hf rfl rfl rfl (ex_move hf rfl) (fun a hf => ?_)
                      refine stq hf rfl rfl rfl (ex_move hf rfl) (fun a hf => ?_)
                      refine stepF hf rfl rfl rfl (ex_call cf_15 hf rfl) (heat_Model_Step.calls k85 c50.1 c50.2.1 c50.2.2.1 y81 y82 s94 b60 v61 v62 v78 v95 (hs.enter (.k (.k (.k (.k (.k (.k (.k (.k (.k (.c (.k (.k (.c .nil)))))))))))))) (Sr.own hs (.k (.k (.k (.k (.k (.k (.k (.k (.k (.c (.k (.k (.c .nil))))))))))))) (i := 9) rfl osl_rsl (fun _ h => h.1) (Sr.own hs (.k (.k (.k (.k (.k (.k (.k (.k (.k (.c (.k (.k (.c .nil))))))))))))) (i := 10) rfl osl_rsl (fun _ h => h.1) (Sr.own hs (.k (.k (.k (.k (.k (.k (.k (.k (.k (.c (.k (.k (.c .nil))))))))))))) (i := 3) rfl osl_rsl (fun _ h => h.1) (Sr.nil _ _)))) hs101) (fun v w hR a hf => ?_)
                      obtain ⟨v102, v103, rfl, hs'⟩ := hR
                      replace hs := hs.step (.k (.k (.k (.k (.k (.k (.k (.k (.k (.c (.k (.k (.c .nil))))))))))))) hs'
                      clear hs'
                      refine stq hf rfl rfl rfl (ex_move hf rfl) (fun a hf => ?_)
                      refine stq hf rfl rfl rfl (ex_extract hf rfl rfl) (fun a hf => ?_)
                      refine stq hf rfl rfl rfl (ex_extract hf rfl rfl) (fun a hf => ?_)
                      refine stq hf rfl rfl rfl (ex_assign hf rfl) (fun a hf => ?_)
                      refine stq hf rfl rfl rfl (ex_assign hf rfl) (fun a hf => ?_)
                      refine hK104 _ _ ?_
                      refine bnd H (fun s105 hs105 H => ?_)
                      refine seq_reg (fun K106 hK106 => ?_)
                      refine stq hf rfl rfl rfl (ex_fieldAddrB fa_27_0 rfl hf rfl) (fun a hf => ?_)
                      refine stq hf rfl rfl rfl (ex_load sc_22 hf rfl (bx_cell (hs.get (i := 7) rfl) _ rfl)) (fun a hf => ?_)
                      refine stq hf rfl rfl rfl (ex_fieldAddrB fa_27_1 rfl hf rfl) (fun a hf => ?_)
                      refine stq hf rfl rfl rfl (ex_load sc_23 hf rfl (bx_cell (hs.get (i := 7) rfl) _ rfl)) (fun a hf => ?_)
                      refine stq hf rfl rfl rfl (ex_fieldAddrB fa_27_2 rfl hf rfl) (fun a hf => ?_)
                      refine stq hf rfl rfl rfl (ex_load sc_2 hf rfl (bx_cell (hs.get (i := 7) rfl) _ rfl)) (fun a hf => ?_)
                      refine stq hf rfl rfl rfl (ex_move hf rfl) (fun a hf => ?_)
                      refine stepF hf rfl rfl rfl (ex_call cf_27 hf rfl) (heat_Bound.calls k85 s7.1 s7.2.1 s7.2.2 s94 v8 v9 v95 (hs.enter (.k (.k (.k (.k (.k (.k (.k (.k (.k (.k (.k (.k (.k (.k .nil))))))))))))))) (Sr.own hs (.k (.k (.k (.k (.k (.k (.k (.k (.k (.k (.k (.k (.k (.k .nil)))))))))))))) (i := 8) rfl osl_rsl (fun _ h => h.1) (Sr.own hs (.k (.k (.k (.k (.k (.k (.k (.k (.k (.k (.k (.k (.k (.k .nil)))))))))))))) (i := 9) rfl osl_rsl (fun _ h => h.1) (Sr.own hs (.k (.k (.k (.k (.k (.k (.k (.k (.k (.k (.k (.k (.k (.k .nil)))))))))))))) (i := 6) rfl osl_rsl (fun _ h => h.1) (Sr.nil _ _)))) hs105) (fun v w hR a hf => ?_)
                      obtain ⟨rfl, hs'⟩ := hR
                      replace hs := hs.step (.k (.k (.k (.k (.k (.k (.k (.k (.k (.k (.k (.k (.k (.k .nil)))))))))))))) hs'
                      clear hs'
                      refine stq hf rfl rfl rfl (ex_move hf rfl) (fun a hf => ?_)
                      refine stq hf rfl rfl rfl (ex_extract hf rfl rfl) (fun a hf => ?_)
                      refine stq hf rfl rfl rfl (ex_extract hf rfl rfl) (fun a hf => ?_)
                      refine stq hf rfl rfl rfl (ex_assign hf rfl) (fun a hf => ?_)
                      refine stq hf rfl rfl rfl (ex_assign hf rfl) (fun a hf => ?_)
                      refine hK106 _ _ ?_
                      refine bnd H (fun s107 hs107 H => ?_)
                      refine seq_reg (fun K108 hK108 => ?_)
                      refine stq hf rfl rfl rfl (ex_fieldAddrB fa_27_0 rfl hf rfl) (fun a hf => ?_)
                      refine stq hf rfl rfl rfl (ex_load sc_22 hf rfl (bx_cell (hs.get (i := 7) rfl) _ rfl)) (fun a hf => ?_)
                      refine stq hf rfl rfl rfl (ex_fieldAddrB fa_27_1 rfl hf rfl) (fun a hf => ?_)
                      refine stq hf rfl rfl rfl (ex_load sc_23 hf rfl (bx_cell (hs.get (i := 7) rfl) _ rfl)) (fun a hf => ?_)
                      refine stq hf rfl rfl rfl (ex_fieldAddrB fa_27_2 rfl hf rfl) (fun a hf => ?_)
                      refine stq hf rfl rfl rfl (ex_load sc_2 hf rfl (bx_cell (hs.get (i := 7) rfl) _ rfl)) (fun a hf => ?_)
                      refine stq hf rfl rfl rfl (ex_move hf rfl) (fun a hf => ?_)
                      refine stq hf rfl rfl rfl (ex_add hf rfl rfl) (fun a hf => ?_)
                      refine stq hf rfl rfl rfl (ex_move hf rfl) (fun a hf => ?_)
                      refine stepF hf rfl rfl rfl (ex_call cf_27 hf rfl) (heat_Bound.calls k85 s7.1 s7.2.1 (IntKind.i64.wrap (s7.2.2 + (IntKind.i64.wrap a4))) s94 v8 v9 v95 (hs.enter (.k (.k (.k (.k (.k (.k (.k (.k (.k (.k (.k (.k (.k (.k .nil))))))))))))))) (Sr.own hs (.k (.k (.k (.k (.k (.k (.k (.k (.k (.k (.k (.k (.k (.k .nil)))))))))))))) (i := 8) rfl osl_rsl (fun _ h => h.1) (Sr.own hs (.k (.k (.k (.k (.k (.k (.k (.k (.k (.k (.k (.k (.k (.k .nil)))))))))))))) (i := 9) rfl osl_rsl (fun _ h => h.1) (Sr.own hs (.k (.k (.k (.k (.k (.k (.k (.k (.k (.k (.k (.k (.k (.k .nil)))))))))))))) (i := 6) rfl osl_rsl (fun _ h => h.1) (Sr.nil _ _)))) hs107) (fun v w hR a hf => ?_)
                      obtain ⟨rfl, hs'⟩ := hR
                      replace hs := hs.step (.k (.k (.k (.k (.k (.k (.k (.k (.k (.k (.k (.k (.k (.k .nil)))))))))))))) hs'
                      clear hs'
                      refine stq hf rfl rfl rfl (ex_move hf rfl) (fun a hf => ?_)
                      refine stq hf rfl rfl rfl (ex_extract hf rfl rfl) (fun a hf => ?_)
                      refine stq hf rfl rfl rfl (ex_extract hf rfl rfl) (fun a hf => ?_)
                      refine stq hf rfl rfl rfl (ex_assign hf rfl) (fun a hf => ?_)
                      refine stq hf rfl rfl rfl (ex_assign hf rfl) (fun a hf => ?_)
                      refine hK108 _ _ ?_
                      refine seq_n (fun Q109 hN109 hR109 hX109 => ?_)
                      refine bnd H (fun x110 H110 HO110 => ?_)
                      clear H
                      refine seq_cut (fun a w => Fr a 201 [(3, v3), (11, .pointer (some ⟨b10, 0, none⟩)), (12, .int .i64 (s7.1.length : Int)), (13, .int .i64 (IntKind.i64.wrap a4)), (14, .pointer (some ⟨b43, 0, none⟩)), (16, .pointer (some ⟨b60, 0, none⟩)), (18, .int .i64 y83), (20, v99), (22, v103), (165, .bool x110)] ∧ St M w0 w [bx b10 27 [v8, v9, .int .i64 s7.2.2], osl K_api_HeatDomain v8 s7.1, osl K_api_HeatLink v9 s7.2.1, bx b43 64 [v44, v45, .int .i64 c16.2.2.1, v98, .int .i64 s97.1], osl K_api_HeatDomain v44 c16.1, osl K_api_HeatLink v45 c16.2.1, osl K_int64 v98 s97.2.1, bx b60 64 [v61, v62, .int .i64 c50.2.2.1, v102, .int .i64 s101.1], osl K_api_HeatDomain v61 c50.1, osl K_api_HeatLink v62 c50.2.1, osl K_int64 v102 s101.2.1, osl K_int64 v99 s97.2.2.1, osl K_int64 v103 s101.2.2.1]) (fun Q110 hJ110 hR110 hX110 => ?_) (fun a w hJ => ?_)
                      · replace H := H110
                        refine itt H (fun hc111 H => ?_) (fun hc111 H => ?_)
                        · -- s97.2.2.2 = 0
                          refine itt H (fun hc112 H => ?_) (fun hc112 H => ?_)
                          · -- s101.2.2.2 = 0
                            refine itt H (fun hc113 H => ?_) (fun hc113 H => ?_)
                            · -- s105.2 = 0
                              refine itt H (fun hc114 H => ?_) (fun hc114 H => ?_)
                              · -- s107.2 = 0
                                refine itt H (fun hc115 H => ?_) (fun hc115 H => ?_)
                                · -- (s97.2.2.1.length : Int) = (s7.1.length : Int)
                                  refine itt H (fun hc116 H => ?_) (fun hc116 H => ?_)
                                  · -- (s101.2.2.1.length : Int) = (s7.1.length : Int)
                                    refine itt H (fun hc117 H => ?_) (fun hc117 H => ?_)
                                    · -- s107.1 = (IntKind.i64.wrap (s105.1 + (IntKind.i64.wrap a4)))
                                      refine bnd H (fun s118 hs118 H => ?_)
                                      refine bnd H (fun s119 hs119 H => ?_)
                                      refine region_k (fun K120 hK120 => ?_)
                                      refine stq hf rfl rfl rfl (ex_move hf rfl) (fun a hf => ?_)
                                      refine stq hf rfl rfl rfl (ex_neq hf rfl rfl) (fun a hf => ?_)
                                      refine stq hf rfl rfl rfl (ex_move hf rfl) (fun a hf => ?_)
                                      replace hf := hf.castB (t := 127) rfl (ndec_f hc111)
                                      replace hf := hf.castB (t := 128) rfl (ndec_f hc111)
                                      refine stq hf rfl rfl rfl (ex_move hf rfl) (fun a hf => ?_)
                                      refine stq hf rfl rfl rfl (ex_neq hf rfl rfl) (fun a hf => ?_)
                                      refine stq hf rfl rfl rfl (ex_pickF hf rfl rfl) (fun a hf => ?_)
                                      refine stq hf rfl rfl rfl (ex_move hf rfl) (fun a hf => ?_)
                                      replace hf := hf.castB (t := 130) rfl (ndec_f hc112)
                                      replace hf := hf.castB (t := 131) rfl (ndec_f hc112)
                                      replace hf := hf.castB (t := 132) rfl (ndec_f hc112)
                                      refine stq hf rfl rfl rfl (ex_move hf rfl) (fun a hf => ?_)
                                      refine stq hf rfl rfl rfl (ex_neq hf rfl rfl) (fun a hf => ?_)
                                      refine stq hf rfl rfl rfl (ex_pickF hf rfl rfl) (fun a hf => ?_)
                                      refine stq hf rfl rfl rfl (ex_move hf rfl) (fun a hf => ?_)
                                      replace hf := hf.castB (t := 134) rfl (ndec_f hc113)
                                      replace hf := hf.castB (t := 135) rfl (ndec_f hc113)
                                      replace hf := hf.castB (t := 136) rfl (ndec_f hc113)
                                      refine stq hf rfl rfl rfl (ex_move hf rfl) (fun a hf => ?_)
                                      refine stq hf rfl rfl rfl (ex_neq hf rfl rfl) (fun a hf => ?_)
                                      refine stq hf rfl rfl rfl (ex_pickF hf rfl rfl) (fun a hf => ?_)
                                      refine stq hf rfl rfl rfl (ex_move hf rfl) (fun a hf => ?_)
                                      replace hf := hf.castB (t := 138) rfl (ndec_f hc114)
                                      replace hf := hf.castB (t := 139) rfl (ndec_f hc114)
                                      replace hf := hf.castB (t := 140) rfl (ndec_f hc114)
                                      refine stq hf rfl rfl rfl (ex_move hf rfl) (fun a hf => ?_)
                                      refine stq hf rfl rfl rfl (ex_lenS Try.underlying35 (rsl_isSl (osl_rsl _ (hs.get (i := 5) rfl))) hf rfl) (fun a hf => ?_)
                                      refine stq hf rfl rfl rfl (ex_move hf rfl) (fun a hf => ?_)
                                      refine stq hf rfl rfl rfl (ex_neq hf rfl rfl) (fun a hf => ?_)
                                      refine stq hf rfl rfl rfl (ex_pickF hf rfl rfl) (fun a hf => ?_)
                                      refine stq hf rfl rfl rfl (ex_move hf rfl) (fun a hf => ?_)
                                      replace hf := hf.castB (t := 144) rfl (ndec_f hc115)
                                      replace hf := hf.castB (t := 145) rfl (ndec_f hc115)
                                      replace hf := hf.castB (t := 146) rfl (ndec_f hc115)
                                      refine stq hf rfl rfl rfl (ex_move hf rfl) (fun a hf => ?_)
                                      refine stq hf rfl rfl rfl (ex_lenS Try.underlying35 (rsl_isSl (osl_rsl _ (hs.get (i := 2) rfl))) hf rfl) (fun a hf => ?_)
                                      refine stq hf rfl rfl rfl (ex_move hf rfl) (fun a hf => ?_)
                                      refine stq hf rfl rfl rfl (ex_neq hf rfl rfl) (fun a hf => ?_)
                                      refine stq hf rfl rfl rfl (ex_pickF hf rfl rfl) (fun a hf => ?_)
                                      refine stq hf rfl rfl rfl (ex_move hf rfl) (fun a hf => ?_)
                                      replace hf := hf.castB (t := 150) rfl (ndec_f hc116)
                                      replace hf := hf.castB (t := 151) rfl (ndec_f hc116)
                                      replace hf := hf.castB (t := 152) rfl (ndec_f hc116)
                                      refine stq hf rfl rfl rfl (ex_move hf rfl) (fun a hf => ?_)
                                      refine stq hf rfl rfl rfl (ex_move hf rfl) (fun a hf => ?_)
                                      refine stq hf rfl rfl rfl (ex_move hf rfl) (fun a hf => ?_)
                                      refine stq hf rfl rfl rfl (ex_add hf rfl rfl) (fun a hf => ?_)
                                      refine stq hf rfl rfl rfl (ex_neq hf rfl rfl) (fun a hf => ?_)
                                      refine stq hf rfl rfl rfl (ex_pickF hf rfl rfl) (fun a hf => ?_)
                                      refine stq hf rfl rfl rfl (ex_move hf rfl) (fun a hf => ?_)
                                      replace hf := hf.castB (t := 157) rfl (ndec_f hc117)
                                      replace hf := hf.castB (t := 158) rfl (ndec_f hc117)
                                      replace hf := hf.castB (t := 159) rfl (ndec_f hc117)
                                      refine stq hf rfl rfl rfl (ex_move hf rfl) (fun a hf => ?_)
                                      refine stepF hf rfl rfl rfl (ex_call cf_16 hf rfl) (heat_Model_Released.calls k85 c16.1 c16.2.1 c16.2.2.1 s97.2.1 s97.1 b43 v44 v45 v98 (hs.enter (.k (.k (.k (.k (.k (.k (.k (.k (.k (.k (.k (.k (.k (.k .nil))))))))))))))) (Sr.own hs (.k (.k (.k (.k (.k (.k (.k (.k (.k (.k (.k (.k (.k (.k .nil)))))))))))))) (i := 3) rfl (fun _ h => h) (fun _ h => h) (Sr.own hs (.k (.k (.k (.k (.k (.k (.k (.k (.k (.k (.k (.k (.k (.k .nil)))))))))))))) (i := 10) rfl osl_rsl (fun _ h => h.1) (Sr.own hs (.k (.k (.k (.k (.k (.k (.k (.k (.k (.k (.k (.k (.k (.k .nil)))))))))))))) (i := 11) rfl osl_rsl (fun _ h => h.1) (Sr.own hs (.k (.k (.k (.k (.k (.k (.k (.k (.k (.k (.k (.k (.k (.k .nil)))))))))))))) (i := 4) rfl osl_rsl (fun _ h => h.1) (Sr.nil _ _))))) hs118) (fun v w hR a hf => ?_)
                                      obtain ⟨rfl, hs'⟩ := hR
                                      replace hs := hs.step (.k (.k (.k (.k (.k (.k (.k (.k (.k (.k (.k (.k (.k (.k .nil)))))))))))))) hs'
                                      clear hs'
                                      refine stq hf rfl rfl rfl (ex_move hf rfl) (fun a hf => ?_)
                                      refine stepF hf rfl rfl rfl (ex_call cf_16 hf rfl) (heat_Model_Released.calls k85 c50.1 c50.2.1 c50.2.2.1 s101.2.1 s101.1 b60 v61 v62 v102 (hs.enter (.k (.k (.k (.k (.k (.k (.k (.k (.k (.k (.k (.k (.k (.k .nil))))))))))))))) (Sr.own hs (.k (.k (.k (.k (.k (.k (.k (.k (.k (.k (.k (.k (.k (.k .nil)))))))))))))) (i := 0) rfl (fun _ h => h) (fun _ h => h) (Sr.own hs (.k (.k (.k (.k (.k (.k (.k (.k (.k (.k (.k (.k (.k (.k .nil)))))))))))))) (i := 12) rfl osl_rsl (fun _ h => h.1) (Sr.own hs (.k (.k (.k (.k (.k (.k (.k (.k (.k (.k (.k (.k (.k (.k .nil)))))))))))))) (i := 13) rfl osl_rsl (fun _ h => h.1) (Sr.own hs (.k (.k (.k (.k (.k (.k (.k (.k (.k (.k (.k (.k (.k (.k .nil)))))))))))))) (i := 1) rfl osl_rsl (fun _ h => h.1) (Sr.nil _ _))))) hs119) (fun v w hR a hf => ?_)
                                      obtain ⟨rfl, hs'⟩ := hR
                                      replace hs := hs.step (.k (.k (.k (.k (.k (.k (.k (.k (.k (.k (.k (.k (.k (.k .nil)))))))))))))) hs'
                                      clear hs'
                                      refine stq hf rfl rfl rfl (ex_neq hf rfl rfl) (fun a hf => ?_)
                                      refine stq hf rfl rfl rfl (ex_pickF hf rfl rfl) (fun a hf => ?_)
                                      refine hK120 _ _ ?_
                                      replace hs := hs.keep (.k (.k (.k (.k (.k (.k (.d (.k (.k (.k (.k (.k (.k (.k .nil))))))))))))))
                                      replace hs := hs.pick (.k (.k (.c (.k (.k (.k (.k (.k (.k (.k (.k (.k (.k .nil)))))))))))))
                                      replace hs := hs.pick (.k (.k (.k (.k (.k (.c (.k (.k (.k (.k (.k (.k (.k .nil)))))))))))))
                                      replace hs := hs.pick (.k (.k (.k (.c (.k (.k (.k (.k (.k (.k (.k (.k (.k .nil)))))))))))))
                                      replace hs := hs.pick (.k (.k (.k (.k (.k (.k (.k (.k (.k (.k (.k (.k (.c .nil)))))))))))))
                                      replace hs := hs.pick (.k (.k (.k (.k (.k (.k (.k (.k (.k (.k (.k (.k (.c .nil)))))))))))))
                                      replace hs := hs.pick (.k (.k (.k (.k (.k (.c (.k (.k (.k (.k (.k (.k (.k .nil)))))))))))))
                                      replace hs := hs.pick (.k (.k (.k (.k (.k (.k (.k (.c (.k (.k (.k (.k (.k .nil)))))))))))))
                                      replace hs := hs.pick (.k (.k (.k (.k (.k (.k (.k (.k (.k (.k (.k (.k (.c .nil)))))))))))))
                                      replace hs := hs.pick (.k (.k (.k (.k (.k (.k (.k (.k (.k (.k (.k (.k (.c .nil)))))))))))))
                                      replace hs := hs.pick (.k (.k (.k (.k (.k (.k (.k (.k (.k (.c (.k (.k (.k .nil)))))))))))))
                                      replace hs := hs.pick (.k (.k (.k (.k (.k (.k (.k (.k (.k (.k (.k (.k (.c .nil)))))))))))))
                                      replace hs := hs.pick (.k (.k (.k (.k (.k (.k (.k (.k (.k (.k (.k (.k (.c .nil)))))))))))))
                                      replace hs := hs.pick (.k (.k (.k (.k (.k (.k (.k (.k (.k (.k (.k (.k (.c .nil)))))))))))))
                                      have e110 := some_eq H; subst e110
                                      exact hJ110 _ _ ⟨hf.sub ⟨rfl, rfl, rfl, rfl, rfl, rfl, rfl, rfl, rfl, rfl, trivial⟩, hs⟩
                                    · -- not s107.1 = (IntKind.i64.wrap (s105.1 + (IntKind.i64.wrap a4)))
                                      refine region_k (fun K121 hK121 => ?_)
                                      refine stq hf rfl rfl rfl (ex_move hf rfl) (fun a hf => ?_)
                                      refine stq hf rfl rfl rfl (ex_neq hf rfl rfl) (fun a hf => ?_)
                                      refine stq hf rfl rfl rfl (ex_move hf rfl) (fun a hf => ?_)
                                      replace hf := hf.castB (t := 127) rfl (ndec_f hc111)
                                      replace hf := hf.castB (t := 128) rfl (ndec_f hc111)
                                      refine stq hf rfl rfl rfl (ex_move hf rfl) (fun a hf => ?_)
                                      refine stq hf rfl rfl rfl (ex_neq hf rfl rfl) (fun a hf => ?_)
                                      refine stq hf rfl rfl rfl (ex_pickF hf rfl rfl) (fun a hf => ?_)
                                      refine stq hf rfl rfl rfl (ex_move hf rfl) (fun a hf => ?_)
                                      replace hf := hf.castB (t := 130) rfl (ndec_f hc112)
                                      replace hf := hf.castB (t := 131) rfl (ndec_f hc112)
                                      replace hf := hf.castB (t := 132) rfl (ndec_f hc112)
                                      refine stq hf rfl rfl rfl (ex_move hf rfl) (fun a hf => ?_)
                                      refine stq hf rfl rfl rfl (ex_neq hf rfl rfl) (fun a hf => ?_)
                                      refine stq hf rfl rfl rfl (ex_pickF hf rfl rfl) (fun a hf => ?_)
                                      refine stq hf rfl rfl rfl (ex_move hf rfl) (fun a hf => ?_)
                                      replace hf := hf.castB (t := 134) rfl (ndec_f hc113)
                                      replace hf := hf.castB (t := 135) rfl (ndec_f hc113)
                                      replace hf := hf.castB (t := 136) rfl (ndec_f hc113)
                                      refine stq hf rfl rfl rfl (ex_move hf rfl) (fun a hf => ?_)
                                      refine stq hf rfl rfl rfl (ex_neq hf rfl rfl) (fun a hf => ?_)
                                      refine stq hf rfl rfl rfl (ex_pickF hf rfl rfl) (fun a hf => ?_)
                                      refine stq hf rfl rfl rfl (ex_move hf rfl) (fun a hf => ?_)
                                      replace hf := hf.castB (t := 138) rfl (ndec_f hc114)
                                      replace hf := hf.castB (t := 139) rfl (ndec_f hc114)
                                      replace hf := hf.castB (t := 140) rfl (ndec_f hc114)
                                      refine stq hf rfl rfl rfl (ex_move hf rfl) (fun a hf => ?_)
                                      refine stq hf rfl rfl rfl (ex_lenS Try.underlying35 (rsl_isSl (osl_rsl _ (hs.get (i := 5) rfl))) hf rfl) (fun a hf => ?_)
                                      refine stq hf rfl rfl rfl (ex_move hf rfl) (fun a hf => ?_)
                                      refine stq hf rfl rfl rfl (ex_neq hf rfl rfl) (fun a hf => ?_)
                                      refine stq hf rfl rfl rfl (ex_pickF hf rfl rfl) (fun a hf => ?_)
                                      refine stq hf rfl rfl rfl (ex_move hf rfl) (fun a hf => ?_)
                                      replace hf := hf.castB (t := 144) rfl (ndec_f hc115)
                                      replace hf := hf.castB (t := 145) rfl (ndec_f hc115)
                                      replace hf := hf.castB (t := 146) rfl (ndec_f hc115)
                                      refine stq hf rfl rfl rfl (ex_move hf rfl) (fun a hf => ?_)
                                      refine stq hf rfl rfl rfl (ex_lenS Try.underlying35 (rsl_isSl (osl_rsl _ (hs.get (i := 2) rfl))) hf rfl) (fun a hf => ?_)
                                      refine stq hf rfl rfl rfl (ex_move hf rfl) (fun a hf => ?_)
                                      refine stq hf rfl rfl rfl (ex_neq hf rfl rfl) (fun a hf => ?_)
                                      refine stq hf rfl rfl rfl (ex_pickF hf rfl rfl) (fun a hf => ?_)
                                      refine stq hf rfl rfl rfl (ex_move hf rfl) (fun a hf => ?_)
                                      replace hf := hf.castB (t := 150) rfl (ndec_f hc116)
                                      replace hf := hf.castB (t := 151) rfl (ndec_f hc116)
                                      replace hf := hf.castB (t := 152) rfl (ndec_f hc116)
                                      refine stq hf rfl rfl rfl (ex_move hf rfl) (fun a hf => ?_)
                                      refine stq hf rfl rfl rfl (ex_move hf rfl) (fun a hf => ?_)
                                      refine stq hf rfl rfl rfl (ex_move hf rfl) (fun a hf => ?_)
                                      refine stq hf rfl rfl rfl (ex_add hf rfl rfl) (fun a hf => ?_)
                                      refine stq hf rfl rfl rfl (ex_neq hf rfl rfl) (fun a hf => ?_)
                                      refine stq hf rfl rfl rfl (ex_pickF hf rfl rfl) (fun a hf => ?_)
                                      refine stq hf rfl rfl rfl (ex_move hf rfl) (fun a hf => ?_)
                                      replace hf := hf.castB (t := 157) rfl (ndec_t hc117)
                                      replace hf := hf.castB (t := 158) rfl (ndec_t hc117)
                                      replace hf := hf.castB (t := 159) rfl (ndec_t hc117)
                                      refine stepN hf rfl rfl rfl (fun a hf => ?_)
                                      refine stepN hf rfl rfl rfl (fun a hf => ?_)
                                      refine stepN hf rfl rfl rfl (fun a hf => ?_)
                                      refine stepN hf rfl rfl rfl (fun a hf => ?_)
                                      refine stepN hf rfl rfl rfl (fun a hf => ?_)
                                      refine stq hf rfl rfl rfl (ex_pickT hf rfl rfl) (fun a hf => ?_)
                                      refine hK121 _ _ ?_
                                      replace hs := hs.keep (.k (.k (.k (.k (.k (.k (.d (.k (.k (.k (.k (.k (.k (.k .nil))))))))))))))
                                      replace hs := hs.pick (.k (.k (.c (.k (.k (.k (.k (.k (.k (.k (.k (.k (.k .nil)))))))))))))
                                      replace hs := hs.pick (.k (.k (.k (.k (.k (.c (.k (.k (.k (.k (.k (.k (.k .nil)))))))))))))
                                      replace hs := hs.pick (.k (.k (.k (.c (.k (.k (.k (.k (.k (.k (.k (.k (.k .nil)))))))))))))
                                      replace hs := hs.pick (.k (.k (.k (.k (.k (.k (.k (.k (.k (.k (.k (.k (.c .nil)))))))))))))
                                      replace hs := hs.pick (.k (.k (.k (.k (.k (.k (.k (.k (.k (.k (.k (.k (.c .nil)))))))))))))
                                      replace hs := hs.pick (.k (.k (.k (.k (.k (.c (.k (.k (.k (.k (.k (.k (.k .nil)))))))))))))
                                      replace hs := hs.pick (.k (.k (.k (.k (.k (.k (.k (.c (.k (.k (.k (.k (.k .nil)))))))))))))
                                      replace hs := hs.pick (.k (.k (.k (.k (.k (.k (.k (.k (.k (.k (.k (.k (.c .nil)))))))))))))
                                      replace hs := hs.pick (.k (.k (.k (.k (.k (.k (.k (.k (.k (.k (.k (.k (.c .nil)))))))))))))
                                      replace hs := hs.pick (.k (.k (.k (.k (.k (.k (.k (.k (.k (.c (.k (.k (.k .nil)))))))))))))
                                      replace hs := hs.pick (.k (.k (.k (.k (.k (.k (.k (.k (.k (.k (.k (.k (.c .nil)))))))))))))
                                      replace hs := hs.pick (.k (.k (.k (.k (.k (.k (.k (.k (.k (.k (.k (.k (.c .nil)))))))))))))
                                      replace hs := hs.pick (.k (.k (.k (.k (.k (.k (.k (.k (.k (.k (.k (.k (.c .nil)))))))))))))
                                      have e110 := some_eq H; subst e110
                                      exact hJ110 _ _ ⟨hf.sub ⟨rfl, rfl, rfl, rfl, rfl, rfl, rfl, rfl, rfl, rfl, trivial⟩, hs⟩
                                  · -- not (s101.2.2.1.length : Int) = (s7.1.length : Int)
                                    refine region_k (fun K122 hK122 => ?_)
                                    refine stq hf rfl rfl rfl (ex_move hf rfl) (fun a hf => ?_)
                                    refine stq hf rfl rfl rfl (ex_neq hf rfl rfl) (fun a hf => ?_)
                                    refine stq hf rfl rfl rfl (ex_move hf rfl) (fun a hf => ?_)
                                    replace hf := hf.castB (t := 127) rfl (ndec_f hc111)
                                    replace hf := hf.castB (t := 128) rfl (ndec_f hc111)
                                    refine stq hf rfl rfl rfl (ex_move hf rfl) (fun a hf => ?_)
                                    refine stq hf rfl rfl rfl (ex_neq hf rfl rfl) (fun a hf => ?_)
                                    refine stq hf rfl rfl rfl (ex_pickF hf rfl rfl) (fun a hf => ?_)
                                    refine stq hf rfl rfl rfl (ex_move hf rfl) (fun a hf => ?_)
                                    replace hf := hf.castB (t := 130) rfl (ndec_f hc112)
                                    replace hf := hf.castB (t := 131) rfl (ndec_f hc112)
                                    replace hf := hf.castB (t := 132) rfl (ndec_f hc112)
                                    refine stq hf rfl rfl rfl (ex_move hf rfl) (fun a hf => ?_)
                                    refine stq hf rfl rfl rfl (ex_neq hf rfl rfl) (fun a hf => ?_)
                                    refine stq hf rfl rfl rfl (ex_pickF hf rfl rfl) (fun a hf => ?_)
                                    refine stq hf rfl rfl rfl (ex_move hf rfl) (fun a hf => ?_)
                                    replace hf := hf.castB (t := 134) rfl (ndec_f hc113)
                                    replace hf := hf.castB (t := 135) rfl (ndec_f hc113)
                                    replace hf := hf.castB (t := 136) rfl (ndec_f hc113)
                                    refine stq hf rfl rfl rfl (ex_move hf rfl) (fun a hf => ?_)
                                    refine stq hf rfl rfl rfl (ex_neq hf rfl rfl) (fun a hf => ?_)
                                    refine stq hf rfl rfl rfl (ex_pickF hf rfl rfl) (fun a hf => ?_)
                                    refine stq hf rfl rfl rfl (ex_move hf rfl) (fun a hf => ?_)
                                    replace hf := hf.castB (t := 138) rfl (ndec_f hc114)
                                    replace hf := hf.castB (t := 139) rfl (ndec_f hc114)
                                    replace hf := hf.castB (t := 140) rfl (ndec_f hc114)
                                    refine stq hf rfl rfl rfl (ex_move hf rfl) (fun a hf => ?_)
                                    refine stq hf rfl rfl rfl (ex_lenS Try.underlying35 (rsl_isSl (osl_rsl _ (hs.get (i := 5) rfl))) hf rfl) (fun a hf => ?_)
                                    refine stq hf rfl rfl rfl (ex_move hf rfl) (fun a hf => ?_)
                                    refine stq hf rfl rfl rfl (ex_neq hf rfl rfl) (fun a hf => ?_)
                                    refine stq hf rfl rfl rfl (ex_pickF hf rfl rfl) (fun a hf => ?_)
                                    refine stq hf rfl rfl rfl (ex_move hf rfl) (fun a hf => ?_)
                                    replace hf := hf.castB (t := 144) rfl (ndec_f hc115)
                                    replace hf := hf.castB (t := 145) rfl (ndec_f hc115)
                                    replace hf := hf.castB (t := 146) rfl (ndec_f hc115)
                                    refine stq hf rfl rfl rfl (ex_move hf rfl) (fun a hf => ?_)
                                    refine stq hf rfl rfl rfl (ex_lenS Try.underlying35 (rsl_isSl (osl_rsl _ (hs.get (i := 2) rfl))) hf rfl) (fun a hf => ?_)
                                    refine stq hf rfl rfl rfl (ex_move hf rfl) (fun a hf => ?_)
                                    refine stq hf rfl rfl rfl (ex_neq hf rfl rfl) (fun a hf => ?_)
                                    refine stq hf rfl rfl rfl (ex_pickF hf rfl rfl) (fun a hf => ?_)
                                    refine stq hf rfl rfl rfl (ex_move hf rfl) (fun a hf => ?_)
                                    replace hf := hf.castB (t := 150) rfl (ndec_t hc116)
                                    replace hf := hf.castB (t := 151) rfl (ndec_t hc116)
                                    replace hf := hf.castB (t := 152) rfl (ndec_t hc116)
                                    refine stepN hf rfl rfl rfl (fun a hf => ?_)
                                    refine stepN hf rfl rfl rfl (fun a hf => ?_)
                                    refine stepN hf rfl rfl rfl (fun a hf => ?_)
                                    refine stepN hf rfl rfl rfl (fun a hf => ?_)
                                    refine stepN hf rfl rfl rfl (fun a hf => ?_)
                                    refine stq hf rfl rfl rfl (ex_pickT hf rfl rfl) (fun a hf => ?_)
                                    refine stq hf rfl rfl rfl (ex_move hf rfl) (fun a hf => ?_)
                                    refine stepN hf rfl rfl rfl (fun a hf => ?_)
                                    refine stepN hf rfl rfl rfl (fun a hf => ?_)
                                    refine stepN hf rfl rfl rfl (fun a hf => ?_)
                                    refine stepN hf rfl rfl rfl (fun a hf => ?_)
                                    refine stepN hf rfl rfl rfl (fun a hf => ?_)
                                    refine stq hf rfl rfl rfl (ex_pickT hf rfl rfl) (fun a hf => ?_)
                                    refine hK122 _ _ ?_
                                    replace hs := hs.keep (.k (.k (.k (.k (.k (.k (.d (.k (.k (.k (.k (.k (.k (.k .nil))))))))))))))
                                    replace hs := hs.pick (.k (.k (.c (.k (.k (.k (.k (.k (.k (.k (.k (.k (.k .nil)))))))))))))
                                    replace hs := hs.pick (.k (.k (.k (.k (.k (.c (.k (.k (.k (.k (.k (.k (.k .nil)))))))))))))
                                    replace hs := hs.pick (.k (.k (.k (.c (.k (.k (.k (.k (.k (.k (.k (.k (.k .nil)))))))))))))
                                    replace hs := hs.pick (.k (.k (.k (.k (.k (.k (.k (.k (.k (.k (.k (.k (.c .nil)))))))))))))
                                    replace hs := hs.pick (.k (.k (.k (.k (.k (.k (.k (.k (.k (.k (.k (.k (.c .nil)))))))))))))
                                    replace hs := hs.pick (.k (.k (.k (.k (.k (.c (.k (.k (.k (.k (.k (.k (.k .nil)))))))))))))
                                    replace hs := hs.pick (.k (.k (.k (.k (.k (.k (.k (.c (.k (.k (.k (.k (.k .nil)))))))))))))
                                    replace hs := hs.pick (.k (.k (.k (.k (.k (.k (.k (.k (.k (.k (.k (.k (.c .nil)))))))))))))
                                    replace hs := hs.pick (.k (.k (.k (.k (.k (.k (.k (.k (.k (.k (.k (.k (.c .nil)))))))))))))
                                    replace hs := hs.pick (.k (.k (.k (.k (.k (.k (.k (.k (.k (.c (.k (.k (.k .nil)))))))))))))
                                    replace hs := hs.pick (.k (.k (.k (.k (.k (.k (.k (.k (.k (.k (.k (.k (.c .nil)))))))))))))
                                    replace hs := hs.pick (.k (.k (.k (.k (.k (.k (.k (.k (.k (.k (.k (.k (.c .nil)))))))))))))
                                    replace hs := hs.pick (.k (.k (.k (.k (.k (.k (.k (.k (.k (.k (.k (.k (.c .nil)))))))))))))
                                    have e110 := some_eq H; subst e110
                                    exact hJ110 _ _ ⟨hf.sub ⟨rfl, rfl, rfl, rfl, rfl, rfl, rfl, rfl, rfl, rfl, trivial⟩, hs⟩
                                · -- not (s97.2.2.1.length : Int) = (s7.1.length : Int)
                                  refine region_k (fun K123 hK123 => ?_)
                                  refine stq hf rfl rfl rfl (ex_move hf rfl) (fun a hf => ?_)
                                  refine stq hf rfl rfl rfl (ex_neq hf rfl rfl) (fun a hf => ?_)
                                  refine stq hf rfl rfl rfl (ex_move hf rfl) (fun a hf => ?_)
                                  replace hf := hf.castB (t := 127) rfl (ndec_f hc111)
                                  replace hf := hf.castB (t := 128) rfl (ndec_f hc111)
                                  refine stq hf rfl rfl rfl (ex_move hf rfl) (fun a hf => ?_)
                                  refine stq hf rfl rfl rfl (ex_neq hf rfl rfl) (fun a hf => ?_)
                                  refine stq hf rfl rfl rfl (ex_pickF hf rfl rfl) (fun a hf => ?_)
                                  refine stq hf rfl rfl rfl (ex_move hf rfl) (fun a hf => ?_)
                                  replace hf := hf.castB (t := 130) rfl (ndec_f hc112)
                                  replace hf := hf.castB (t := 131) rfl (ndec_f hc112)
                                  replace hf := hf.castB (t := 132) rfl (ndec_f hc112)
                                  refine stq hf rfl rfl rfl (ex_move hf rfl) (fun a hf => ?_)
                                  refine stq hf rfl rfl rfl (ex_neq hf rfl rfl) (fun a hf => ?_)
                                  refine stq hf rfl rfl rfl (ex_pickF hf rfl rfl) (fun a hf => ?_)
                                  refine stq hf rfl rfl rfl (ex_move hf rfl) (fun a hf => ?_)
                                  replace hf := hf.castB (t := 134) rfl (ndec_f hc113)
                                  replace hf := hf.castB (t := 135) rfl (ndec_f hc113)
                                  replace hf := hf.castB (t := 136) rfl (ndec_f hc113)
                                  refine stq hf rfl rfl rfl (ex_move hf rfl) (fun a hf => ?_)
                                  refine stq hf rfl rfl rfl (ex_neq hf rfl rfl) (fun a hf => ?_)
                                  refine stq hf rfl rfl rfl (ex_pickF hf rfl rfl) (fun a hf => ?_)
                                  refine stq hf rfl rfl rfl (ex_move hf rfl) (fun a hf => ?_)
                                  replace hf := hf.castB (t := 138) rfl (ndec_f hc114)
                                  replace hf := hf.castB (t := 139) rfl (ndec_f hc114)
                                  replace hf := hf.castB (t := 140) rfl (ndec_f hc114)
                                  refine stq hf rfl rfl rfl (ex_move hf rfl) (fun a hf => ?_)
                                  refine stq hf rfl rfl rfl (ex_lenS Try.underlying35 (rsl_isSl (osl_rsl _ (hs.get (i := 5) rfl))) hf rfl) (fun a hf => ?_)
                                  refine stq hf rfl rfl rfl (ex_move hf rfl) (fun a hf => ?_)
                                  refine stq hf rfl rfl rfl (ex_neq hf rfl rfl) (fun a hf => ?_)
                                  refine stq hf rfl rfl rfl (ex_pickF hf rfl rfl) (fun a hf => ?_)
                                  refine stq hf rfl rfl rfl (ex_move hf rfl) (fun a hf => ?_)
                                  replace hf := hf.castB (t := 144) rfl (ndec_t hc115)
                                  replace hf := hf.castB (t := 145) rfl (ndec_t hc115)
                                  replace hf := hf.castB (t := 146) rfl (ndec_t hc115)
                                  refine stepN hf rfl rfl rfl (fun a hf => ?_)
                                  refine stepN hf rfl rfl rfl (fun a hf => ?_)
                                  refine stepN hf rfl rfl rfl (fun a hf => ?_)
                                  refine stepN hf rfl rfl rfl (fun a hf => ?_)
                                  refine stq hf rfl rfl rfl (ex_pickT hf rfl rfl) (fun a hf => ?_)
                                  refine stq hf rfl rfl rfl (ex_move hf rfl) (fun a hf => ?_)
                                  refine stepN hf rfl rfl rfl (fun a hf => ?_)
                                  refine stepN hf rfl rfl rfl (fun a hf => ?_)
                                  refine stepN hf rfl rfl rfl (fun a hf => ?_)
                                  refine stepN hf rfl rfl rfl (fun a hf => ?_)
                                  refine stepN hf rfl rfl rfl (fun a hf => ?_)
                                  refine stq hf rfl rfl rfl (ex_pickT hf rfl rfl) (fun a hf => ?_)
                                  refine stq hf rfl rfl rfl (ex_move hf rfl) (fun a hf => ?_)
                                  refine stepN hf rfl rfl rfl (fun a hf => ?_)
                                  refine stepN hf rfl rfl rfl (fun a hf => ?_)
                                  refine stepN hf rfl rfl rfl (fun a hf => ?_)
                                  refine stepN hf rfl rfl rfl (fun a hf => ?_)
                                  refine stepN hf rfl rfl rfl (fun a hf => ?_)
                                  refine stq hf rfl rfl rfl (ex_pickT hf rfl rfl) (fun a hf => ?_)
                                  refine hK123 _ _ ?_
                                  replace hs := hs.keep (.k (.k (.k (.k (.k (.k (.d (.k (.k (.k (.k (.k (.k (.k .nil))))))))))))))
                                  replace hs := hs.pick (.k (.k (.c (.k (.k (.k (.k (.k (.k (.k (.k (.k (.k .nil)))))))))))))
                                  replace hs := hs.pick (.k (.k (.k (.k (.k (.c (.k (.k (.k (.k (.k (.k (.k .nil)))))))))))))
                                  replace hs := hs.pick (.k (.k (.k (.c (.k (.k (.k (.k (.k (.k (.k (.k (.k .nil)))))))))))))
                                  replace hs := hs.pick (.k (.k (.k (.k (.k (.k (.k (.k (.k (.k (.k (.k (.c .nil)))))))))))))
                                  replace hs := hs.pick (.k (.k (.k (.k (.k (.k (.k (.k (.k (.k (.k (.k (.c .nil)))))))))))))
                                  replace hs := hs.pick (.k (.k (.k (.k (.k (.c (.k (.k (.k (.k (.k (.k (.k .nil)))))))))))))
                                  replace hs := hs.pick (.k (.k (.k (.k (.k (.k (.k (.c (.k (.k (.k (.k (.k .nil)))))))))))))
                                  replace hs := hs.pick (.k (.k (.k (.k (.k (.k (.k (.k (.k (.k (.k (.k (.c .nil)))))))))))))
                                  replace hs := hs.pick (.k (.k (.k (.k (.k (.k (.k (.k (.k (.k (.k (.k (.c .nil)))))))))))))
                                  replace hs := hs.pick (.k (.k (.k (.k (.k (.k (.k (.k (.k (.c (.k (.k (.k .nil)))))))))))))
                                  replace hs := hs.pick (.k (.k (.k (.k (.k (.k (.k (.k (.k (.k (.k (.k (.c .nil)))))))))))))
                                  replace hs := hs.pick (.k (.k (.k (.k (.k (.k (.k (.k (.k (.k (.k (.k (.c .nil)))))))))))))
                                  replace hs := hs.pick (.k (.k (.k (.k (.k (.k (.k (.k (.k (.k (.k (.k (.c .nil)))))))))))))
                                  have e110 := some_eq H; subst e110
                                  exact hJ110 _ _ ⟨hf.sub ⟨rfl, rfl, rfl, rfl, rfl, rfl, rfl, rfl, rfl, rfl, trivial⟩, hs⟩
                              · -- not s107.2 = 0
                                refine region_k (fun K124 hK124 => ?_)
                                refine stq hf rfl rfl rfl (ex_move hf rfl) (fun a hf => ?_)
                                refine stq hf rfl rfl rfl (ex_neq hf rfl rfl) (fun a hf => ?_)
                                refine stq hf rfl rfl rfl (ex_move hf rfl) (fun a hf => ?_)
                                replace hf := hf.castB (t := 127) rfl (ndec_f hc111)
                                replace hf := hf.castB (t := 128) rfl (ndec_f hc111)
                                refine stq hf rfl rfl rfl (ex_move hf rfl) (fun a hf => ?_)
                                refine stq hf rfl rfl rfl (ex_neq hf rfl rfl) (fun a hf => ?_)
                                refine stq hf rfl rfl rfl (ex_pickF hf rfl rfl) (fun a hf => ?_)
                                refine stq hf rfl rfl rfl (ex_move hf rfl) (fun a hf => ?_)
                                replace hf := hf.castB (t := 130) rfl (ndec_f hc112)
                                replace hf := hf.castB (t := 131) rfl (ndec_f hc112)
                                replace hf := hf.castB (t := 132) rfl (ndec_f hc112)
                                refine stq hf rfl rfl rfl (ex_move hf rfl) (fun a hf => ?_)
                                refine stq hf rfl rfl rfl (ex_neq hf rfl rfl) (fun a hf => ?_)
                                refine stq hf rfl rfl rfl (ex_pickF hf rfl rfl) (fun a hf => ?_)
                                refine stq hf rfl rfl rfl (ex_move hf rfl) (fun a hf => ?_)
                                replace hf := hf.castB (t := 134) rfl (ndec_f hc113)
                                replace hf := hf.castB (t := 135) rfl (ndec_f hc113)
                                replace hf := hf.castB (t := 136) rfl (ndec_f hc113)
                                refine stq hf rfl rfl rfl (ex_move hf rfl) (fun a hf => ?_)
                                refine stq hf rfl rfl rfl (ex_neq hf rfl rfl) (fun a hf => ?_)
                                refine stq hf rfl rfl rfl (ex_pickF hf rfl rfl) (fun a hf => ?_)
                                refine stq hf rfl rfl rfl (ex_move hf rfl) (fun a hf => ?_)
                                replace hf := hf.castB (t := 138) rfl (ndec_t hc114)
                                replace hf := hf.castB (t := 139) rfl (ndec_t hc114)
                                replace hf := hf.castB (t := 140) rfl (ndec_t hc114)
                                refine stepN hf rfl rfl rfl (fun a hf => ?_)
                                refine stepN hf rfl rfl rfl (fun a hf => ?_)
                                refine stepN hf rfl rfl rfl (fun a hf => ?_)
                                refine stepN hf rfl rfl rfl (fun a hf => ?_)
                                refine stq hf rfl rfl rfl (ex_pickT hf rfl rfl) (fun a hf => ?_)
                                refine stq hf rfl rfl rfl (ex_move hf rfl) (fun a hf => ?_)
                                refine stepN hf rfl rfl rfl (fun a hf => ?_)
                                refine stepN hf rfl rfl rfl (fun a hf => ?_)
                                refine stepN hf rfl rfl rfl (fun a hf => ?_)
                                refine stepN hf rfl rfl rfl (fun a hf => ?_)
                                refine stq hf rfl rfl rfl (ex_pickT hf rfl rfl) (fun a hf => ?_)
                                refine stq hf rfl rfl rfl (ex_move hf rfl) (fun a hf => ?_)
                                refine stepN hf rfl rfl rfl (fun a hf => ?_)
                                refine stepN hf rfl rfl rfl (fun a hf => ?_)
                                refine stepN hf rfl rfl rfl (fun a hf => ?_)
                                refine stepN hf rfl rfl rfl (fun a hf => ?_)
                                refine stepN hf rfl rfl rfl (fun a hf => ?_)
                                refine stq hf rfl rfl rfl (ex_pickT hf rfl rfl) (fun a hf => ?_)
                                refine stq hf rfl rfl rfl (ex_move hf rfl) (fun a hf => ?_)
                                refine stepN hf rfl rfl rfl (fun a hf => ?_)
                                refine stepN hf rfl rfl rfl (fun a hf => ?_)
                                refine stepN hf rfl rfl rfl (fun a hf => ?_)
                                refine stepN hf rfl rfl rfl (fun a hf => ?_)
                                refine stepN hf rfl rfl rfl (fun a hf => ?_)
                                refine stq hf rfl rfl rfl (ex_pickT hf rfl rfl) (fun a hf => ?_)
                                refine hK124 _ _ ?_
                                replace hs := hs.keep (.k (.k (.k (.k (.k (.k (.d (.k (.k (.k (.k (.k (.k (.k .nil))))))))))))))
                                replace hs := hs.pick (.k (.k (.c (.k (.k (.k (.k (.k (.k (.k (.k (.k (.k .nil)))))))))))))
                                replace hs := hs.pick (.k (.k (.k (.k (.k (.c (.k (.k (.k (.k (.k (.k (.k .nil)))))))))))))
                                replace hs := hs.pick (.k (.k (.k (.c (.k (.k (.k (.k (.k (.k (.k (.k (.k .nil)))))))))))))
                                replace hs := hs.pick (.k (.k (.k (.k (.k (.k (.k (.k (.k (.k (.k (.k (.c .nil)))))))))))))
                                replace hs := hs.pick (.k (.k (.k (.k (.k (.k (.k (.k (.k (.k (.k (.k (.c .nil)))))))))))))
                                replace hs := hs.pick (.k (.k (.k (.k (.k (.c (.k (.k (.k (.k (.k (.k (.k .nil)))))))))))))
                                replace hs := hs.pick (.k (.k (.k (.k (.k (.k (.k (.c (.k (.k (.k (.k (.k .nil)))))))))))))
                                replace hs := hs.pick (.k (.k (.k (.k (.k (.k (.k (.k (.k (.k (.k (.k (.c .nil)))))))))))))
                                replace hs := hs.pick (.k (.k (.k (.k (.k (.k (.k (.k (.k (.k (.k (.k (.c .nil)))))))))))))
                                replace hs := hs.pick (.k (.k (.k (.k (.k (.k (.k (.k (.k (.c (.k (.k (.k .nil)))))))))))))
                                replace hs := hs.pick (.k (.k (.k (.k (.k (.k (.k (.k (.k (.k (.k (.k (.c .nil)))))))))))))
                                replace hs := hs.pick (.k (.k (.k (.k (.k (.k (.k (.k (.k (.k (.k (.k (.c .nil)))))))))))))
                                replace hs := hs.pick (.k (.k (.k (.k (.k (.k (.k (.k (.k (.k (.k (.k (.c .nil)))))))))))))
                                have e110 := some_eq H; subst e110
                                exact hJ110 _ _ ⟨hf.sub ⟨rfl, rfl, rfl, rfl, rfl, rfl, rfl, rfl, rfl, rfl, trivial⟩, hs⟩
                            · -- not s105.2 = 0
                              refine region_k (fun K125 hK125 => ?_)
                              refine stq hf rfl rfl rfl (ex_move hf rfl) (fun a hf => ?_)
                              refine stq hf rfl rfl rfl (ex_neq hf rfl rfl) (fun a hf => ?_)
                              refine stq hf rfl rfl rfl (ex_move hf rfl) (fun a hf => ?_)
                              replace hf := hf.castB (t := 127) rfl (ndec_f hc111)
                              replace hf := hf.castB (t := 128) rfl (ndec_f hc111)
                              refine stq hf rfl rfl rfl (ex_move hf rfl) (fun a hf => ?_)
                              refine stq hf rfl rfl rfl (ex_neq hf rfl rfl) (fun a hf => ?_)
                              refine stq hf rfl rfl rfl (ex_pickF hf rfl rfl) (fun a hf => ?_)
                              refine stq hf rfl rfl rfl (ex_move hf rfl) (fun a hf => ?_)
                              replace hf := hf.castB (t := 130) rfl (ndec_f hc112)
                              replace hf := hf.castB (t := 131) rfl (ndec_f hc112)
                              replace hf := hf.castB (t := 132) rfl (ndec_f hc112)
                              refine stq hf rfl rfl rfl (ex_move hf rfl) (fun a hf => ?_)
                              refine stq hf rfl rfl rfl (ex_neq hf rfl rfl) (fun a hf => ?_)
                              refine stq hf rfl rfl rfl (ex_pickF hf rfl rfl) (fun a hf => ?_)
                              refine stq hf rfl rfl rfl (ex_move hf rfl) (fun a hf => ?_)
                              replace hf := hf.castB (t := 134) rfl (ndec_t hc113)
                              replace hf := hf.castB (t := 135) rfl (ndec_t hc113)
                              replace hf := hf.castB (t := 136) rfl (ndec_t hc113)
                              refine stepN hf rfl rfl rfl (fun a hf => ?_)
                              refine stepN hf rfl rfl rfl (fun a hf => ?_)
                              refine stq hf rfl rfl rfl (ex_pickT hf rfl rfl) (fun a hf => ?_)
                              refine stq hf rfl rfl rfl (ex_move hf rfl) (fun a hf => ?_)
                              refine stepN hf rfl rfl rfl (fun a hf => ?_)
                              refine stepN hf rfl rfl rfl (fun a hf => ?_)
                              refine stepN hf rfl rfl rfl (fun a hf => ?_)
                              refine stepN hf rfl rfl rfl (fun a hf => ?_)
                              refine stq hf rfl rfl rfl (ex_pickT hf rfl rfl) (fun a hf => ?_)
                              refine stq hf rfl rfl rfl (ex_move hf rfl) (fun a hf => ?_)
                              refine stepN hf rfl rfl rfl (fun a hf => ?_)
                              refine stepN hf rfl rfl rfl (fun a hf => ?_)
                              refine stepN hf rfl rfl rfl (fun a hf => ?_)
                              refine stepN hf rfl rfl rfl (fun a hf => ?_)
                              refine stq hf rfl rfl rfl (ex_pickT hf rfl rfl) (fun a hf => ?_)
                              refine stq hf rfl rfl rfl (ex_move hf rfl) (fun a hf => ?_)
                              refine stepN hf rfl rfl rfl (fun a hf => ?_)
                              refine stepN hf rfl rfl rfl (fun a hf => ?_)
                              refine stepN hf rfl rfl rfl (fun a hf => ?_)
                              refine stepN hf rfl rfl rfl (fun a hf => ?_)
                              refine stepN hf rfl rfl rfl (fun a hf => ?_)
                              refine stq hf rfl rfl rfl (ex_pickT hf rfl rfl) (fun a hf => ?_)
                              refine stq hf rfl rfl rfl (ex_move hf rfl) (fun a hf => ?_)
                              refine stepN hf rfl rfl rfl (fun a hf => ?_)
                              refine stepN hf rfl rfl rfl (fun a hf => ?_)
                              refine stepN hf rfl rfl rfl (fun a hf => ?_)
                              refine stepN hf rfl rfl rfl (fun a hf => ?_)
                              refine stepN hf rfl rfl rfl (fun a hf => ?_)
                              refine stq hf rfl rfl rfl (ex_pickT hf rfl rfl) (fun a hf => ?_)
                              refine hK125 _ _ ?_
                              replace hs := hs.keep (.k (.k (.k (.k (.k (.k (.d (.k (.k (.k (.k (.k (.k (.k .nil))))))))))))))
                              replace hs := hs.pick (.k (.k (.c (.k (.k (.k (.k (.k (.k (.k (.k (.k (.k .nil)))))))))))))
                              replace hs := hs.pick (.k (.k (.k (.k (.k (.c (.k (.k (.k (.k (.k (.k (.k .nil)))))))))))))
                              replace hs := hs.pick (.k (.k (.k (.c (.k (.k (.k (.k (.k (.k (.k (.k (.k .nil)))))))))))))
                              replace hs := hs.pick (.k (.k (.k (.k (.k (.k (.k (.k (.k (.k (.k (.k (.c .nil)))))))))))))
                              replace hs := hs.pick (.k (.k (.k (.k (.k (.k (.k (.k (.k (.k (.k (.k (.c .nil)))))))))))))
                              replace hs := hs.pick (.k (.k (.k (.k (.k (.c (.k (.k (.k (.k (.k (.k (.k .nil)))))))))))))
                              replace hs := hs.pick (.k (.k (.k (.k (.k (.k (.k (.c (.k (.k (.k (.k (.k .nil)))))))))))))
                              replace hs := hs.pick (.k (.k (.k (.k (.k (.k (.k (.k (.k (.k (.k (.k (.c .nil)))))))))))))
                              replace hs := hs.pick (.k (.k (.k (.k (.k (.k (.k (.k (.k (.k (.k (.k (.c .nil)))))))))))))
                              replace hs := hs.pick (.k (.k (.k (.k (.k (.k (.k (.k (.k (.c (.k (.k (.k .nil)))))))))))))
                              replace hs := hs.pick (.k (.k (.k (.k (.k (.k (.k (.k (.k (.k (.k (.k (.c .nil)))))))))))))
                              replace hs := hs.pick (.k (.k (.k (.k (.k (.k (.k (.k (.k (.k (.k (.k (.c .nil)))))))))))))
                              replace hs := hs.pick (.k (.k (.k (.k (.k (.k (.k (.k (.k (.k (.k (.k (.c .nil)))))))))))))
                              have e110 := some_eq H; subst e110
                              exact hJ110 _ _ ⟨hf.sub ⟨rfl, rfl, rfl, rfl, rfl, rfl, rfl, rfl, rfl, rfl, trivial⟩, hs⟩
                          · -- not s101.2.2.2 = 0
                            refine region_k (fun K126 hK126 => ?_)
                            refine stq hf rfl rfl rfl (ex_move hf rfl) (fun a hf => ?_)
                            refine stq hf rfl rfl rfl (ex_neq hf rfl rfl) (fun a hf => ?_)
                            refine stq hf rfl rfl rfl (ex_move hf rfl) (fun a hf => ?_)
                            replace hf := hf.castB (t := 127) rfl (ndec_f hc111)
                            replace hf := hf.castB (t := 128) rfl (ndec_f hc111)
                            refine stq hf rfl rfl rfl (ex_move hf rfl) (fun a hf => ?_)
                            refine stq hf rfl rfl rfl (ex_neq hf rfl rfl) (fun a hf => ?_)
                            refine stq hf rfl rfl rfl (ex_pickF hf rfl rfl) (fun a hf => ?_)
                            refine stq hf rfl rfl rfl (ex_move hf rfl) (fun a hf => ?_)
                            replace hf := hf.castB (t := 130) rfl (ndec_t hc112)
                            replace hf := hf.castB (t := 131) rfl (ndec_t hc112)
                            replace hf := hf.castB (t := 132) rfl (ndec_t hc112)
                            refine stepN hf rfl rfl rfl (fun a hf => ?_)
                            refine stepN hf rfl rfl rfl (fun a hf => ?_)
                            refine stq hf rfl rfl rfl (ex_pickT hf rfl rfl) (fun a hf => ?_)
                            refine stq hf rfl rfl rfl (ex_move hf rfl) (fun a hf => ?_)
                            refine stepN hf rfl rfl rfl (fun a hf => ?_)
                            refine stepN hf rfl rfl rfl (fun a hf => ?_)
                            refine stq hf rfl rfl rfl (ex_pickT hf rfl rfl) (fun a hf => ?_)
                            refine stq hf rfl rfl rfl (ex_move hf rfl) (fun a hf => ?_)
                            refine stepN hf rfl rfl rfl (fun a hf => ?_)
                            refine stepN hf rfl rfl rfl (fun a hf => ?_)
                            refine stepN hf rfl rfl rfl (fun a hf => ?_)
                            refine stepN hf rfl rfl rfl (fun a hf => ?_)
                            refine stq hf rfl rfl rfl (ex_pickT hf rfl rfl) (fun a hf => ?_)
                            refine stq hf rfl rfl rfl (ex_move hf rfl) (fun a hf => ?_)
                            refine stepN hf rfl rfl rfl (fun a hf => ?_)
                            refine stepN hf rfl rfl rfl (fun a hf => ?_)
                            refine stepN hf rfl rfl rfl (fun a hf => ?_)
                            refine stepN hf rfl rfl rfl (fun a hf => ?_)
                            refine stq hf rfl rfl rfl (ex_pickT hf rfl rfl) (fun a hf => ?_)
                            refine stq hf rfl rfl rfl (ex_move hf rfl) (fun a hf => ?_)
                            refine stepN hf rfl rfl rfl (fun a hf => ?_)
                            refine stepN hf rfl rfl rfl (fun a hf => ?_)
                            refine stepN hf rfl rfl rfl (fun a hf => ?_)
                            refine stepN hf rfl rfl rfl (fun a hf => ?_)
                            refine stepN hf rfl rfl rfl (fun a hf => ?_)
                            refine stq hf rfl rfl rfl (ex_pickT hf rfl rfl) (fun a hf => ?_)
                            refine stq hf rfl rfl rfl (ex_move hf rfl) (fun a hf => ?_)
                            refine stepN hf rfl rfl rfl (fun a hf => ?_)
                            refine stepN hf rfl rfl rfl (fun a hf => ?_)
                            refine stepN hf rfl rfl rfl (fun a hf => ?_)
                            refine stepN hf rfl rfl rfl (fun a hf => ?_)
                            refine stepN hf rfl rfl rfl (fun a hf => ?_)
                            refine stq hf rfl rfl rfl (ex_pickT hf rfl rfl) (fun a hf => ?_)
                            refine hK126 _ _ ?_
                            replace hs := hs.keep (.k (.k (.k (.k (.k (.k (.d (.k (.k (.k (.k (.k (.k (.k .nil))))))))))))))
                            replace hs := hs.pick (.k (.k (.c (.k (.k (.k (.k (.k (.k (.k (.k (.k (.k .nil)))))))))))))
                            replace hs := hs.pick (.k (.k (.k (.k (.k (.c (.k (.k (.k (.k (.k (.k (.k .nil)))))))))))))
                            replace hs := hs.pick (.k (.k (.k (.c (.k (.k (.k (.k (.k (.k (.k (.k (.k .nil)))))))))))))
                            replace hs := hs.pick (.k (.k (.k (.k (.k (.k (.k (.k (.k (.k (.k (.k (.c .nil)))))))))))))
                            replace hs := hs.pick (.k (.k (.k (.k (.k (.k (.k (.k (.k (.k (.k (.k (.c .nil)))))))))))))
                            replace hs := hs.pick (.k (.k (.k (.k (.k (.c (.k (.k (.k (.k (.k (.k (.k .nil)))))))))))))
                            replace hs := hs.pick (.k (.k (.k (.k (.k (.k (.k (.c (.k (.k (.k (.k (.k .nil)))))))))))))
                            replace hs := hs.pick (.k (.k (.k (.k (.k (.k (.k (.k (.k (.k (.k (.k (.c .nil)))))))))))))
                            replace hs := hs.pick (.k (.k (.k (.k (.k (.k (.k (.k (.k (.k (.k (.k (.c .nil)))))))))))))
                            replace hs := hs.pick (.k (.k (.k (.k (.k (.k (.k (.k (.k (.c (.k (.k (.k .nil)))))))))))))
                            replace hs := hs.pick (.k (.k (.k (.k (.k (.k (.k (.k (.k (.k (.k (.k (.c .nil)))))))))))))
                            replace hs := hs.pick (.k (.k (.k (.k (.k (.k (.k (.k (.k (.k (.k (.k (.c .nil)))))))))))))
                            replace hs := hs.pick (.k (.k (.k (.k (.k (.k (.k (.k (.k (.k (.k (.k (.c .nil)))))))))))))
                            have e110 := some_eq H; subst e110
                            exact hJ110 _ _ ⟨hf.sub ⟨rfl, rfl, rfl, rfl, rfl, rfl, rfl, rfl, rfl, rfl, trivial⟩, hs⟩
                        · -- not s97.2.2.2 = 0
                          refine region_k (fun K127 hK127 => ?_)
                          refine stq hf rfl rfl rfl (ex_move hf rfl) (fun a hf => ?_)
                          refine stq hf rfl rfl rfl (ex_neq hf rfl rfl) (fun a hf => ?_)
                          refine stq hf rfl rfl rfl (ex_move hf rfl) (fun a hf => ?_)
                          replace hf := hf.castB (t := 127) rfl (ndec_t hc111)
                          replace hf := hf.castB (t := 128) rfl (ndec_t hc111)
                          refine stepN hf rfl rfl rfl (fun a hf => ?_)
                          refine stepN hf rfl rfl rfl (fun a hf => ?_)
                          refine stq hf rfl rfl rfl (ex_pickT hf rfl rfl) (fun a hf => ?_)
                          refine stq hf rfl rfl rfl (ex_move hf rfl) (fun a hf => ?_)
                          refine stepN hf rfl rfl rfl (fun a hf => ?_)
                          refine stepN hf rfl rfl rfl (fun a hf => ?_)
                          refine stq hf rfl rfl rfl (ex_pickT hf rfl rfl) (fun a hf => ?_)
                          refine stq hf rfl rfl rfl (ex_move hf rfl) (fun a hf => ?_)
                          refine stepN hf rfl rfl rfl (fun a hf => ?_)
                          refine stepN hf rfl rfl rfl (fun a hf => ?_)
                          refine stq hf rfl rfl rfl (ex_pickT hf rfl rfl) (fun a hf => ?_)
                          refine stq hf rfl rfl rfl (ex_move hf rfl) (fun a hf => ?_)
                          refine stepN hf rfl rfl rfl (fun a hf => ?_)
                          refine stepN hf rfl rfl rfl (fun a hf => ?_)
                          refine stepN hf rfl rfl rfl (fun a hf => ?_)
                          refine stepN hf rfl rfl rfl (fun a hf => ?_)
                          refine stq hf rfl rfl rfl (ex_pickT hf rfl rfl) (fun a hf => ?_)
                          refine stq hf rfl rfl rfl (ex_move hf rfl) (fun a hf => ?_)
                          refine stepN hf rfl rfl rfl (fun a hf => ?_)
                          refine stepN hf rfl rfl rfl (fun a hf => ?_)
                          refine stepN hf rfl rfl rfl (fun a hf => ?_)
                          refine stepN hf rfl rfl rfl (fun a hf => ?_)
                          refine stq hf rfl rfl rfl (ex_pickT hf rfl rfl) (fun a hf => ?_)
                          refine stq hf rfl rfl rfl (ex_move hf rfl) (fun a hf => ?_)
                          refine stepN hf rfl rfl rfl (fun a hf => ?_)
                          refine stepN hf rfl rfl rfl (fun a hf => ?_)
                          refine stepN hf rfl rfl rfl (fun a hf => ?_)
                          refine stepN hf rfl rfl rfl (fun a hf => ?_)
                          refine stepN hf rfl rfl rfl (fun a hf => ?_)
                          refine stq hf rfl rfl rfl (ex_pickT hf rfl rfl) (fun a hf => ?_)
                          refine stq hf rfl rfl rfl (ex_move hf rfl) (fun a hf => ?_)
                          refine stepN hf rfl rfl rfl (fun a hf => ?_)
                          refine stepN hf rfl rfl rfl (fun a hf => ?_)
                          refine stepN hf rfl rfl rfl (fun a hf => ?_)
                          refine stepN hf rfl rfl rfl (fun a hf => ?_)
                          refine stepN hf rfl rfl rfl (fun a hf => ?_)
                          refine stq hf rfl rfl rfl (ex_pickT hf rfl rfl) (fun a hf => ?_)
                          refine hK127 _ _ ?_
                          replace hs := hs.keep (.k (.k (.k (.k (.k (.k (.d (.k (.k (.k (.k (.k (.k (.k .nil))))))))))))))
                          replace hs := hs.pick (.k (.k (.c (.k (.k (.k (.k (.k (.k (.k (.k (.k (.k .nil)))))))))))))
                          replace hs := hs.pick (.k (.k (.k (.k (.k (.c (.k (.k (.k (.k (.k (.k (.k .nil)))))))))))))
                          replace hs := hs.pick (.k (.k (.k (.c (.k (.k (.k (.k (.k (.k (.k (.k (.k .nil)))))))))))))
                          replace hs := hs.pick (.k (.k (.k (.k (.k (.k (.k (.k (.k (.k (.k (.k (.c .nil)))))))))))))
                          replace hs := hs.pick (.k (.k (.k (.k (.k (.k (.k (.k (.k (.k (.k (.k (.c .nil)))))))))))))
                          replace hs := hs.pick (.k (.k (.k (.k (.k (.c (.k (.k (.k (.k (.k (.k (.k .nil)))))))))))))
                          replace hs := hs.pick (.k (.k (.k (.k (.k (.k (.k (.c (.k (.k (.k (.k (.k .nil)))))))))))))
                          replace hs := hs.pick (.k (.k (.k (.k (.k (.k (.k (.k (.k (.k (.k (.k (.c .nil)))))))))))))
                          replace hs := hs.pick (.k (.k (.k (.k (.k (.k (.k (.k (.k (.k (.k (.k (.c .nil)))))))))))))
                          replace hs := hs.pick (.k (.k (.k (.k (.k (.k (.k (.k (.k (.c (.k (.k (.k .nil)))))))))))))
                          replace hs := hs.pick (.k (.k (.k (.k (.k (.k (.k (.k (.k (.k (.k (.k (.c .nil)))))))))))))
                          replace hs := hs.pick (.k (.k (.k (.k (.k (.k (.k (.k (.k (.k (.k (.k (.c .nil)))))))))))))
                          replace hs := hs.pick (.k (.k (.k (.k (.k (.k (.k (.k (.k (.k (.k (.k (.c .nil)))))))))))))
                          have e110 := some_eq H; subst e110
                          exact hJ110 _ _ ⟨hf.sub ⟨rfl, rfl, rfl, rfl, rfl, rfl, rfl, rfl, rfl, rfl, trivial⟩, hs⟩
                      · obtain ⟨hf, hs⟩ := hJ
                        replace H := HO110
                        clear HO110
                        refine itt H (fun hc128 H => ?_) (fun hc128 H => ?_)
                        · -- x110 = true
                          replace hf := hf.castB (t := 165) rfl hc128
                          refine cond_T hf rfl ?_
                          refine seq_reg (fun K129 hK129 => ?_)
                          refine stq hf rfl rfl rfl (ex_assign hf rfl) (fun a hf => ?_)
                          refine hK129 _ _ ?_
                          refine wp_ret ?_
                          refine hR109 _ _ ?_
                          refine hR92 _ _ ?_
                          have e89 := some_eq H; subst e89; replace H := el_rt HO89
                          refine hR89 _ _ ?_
                          refine hR85 _ _ ?_
                          refine hR76 _ _ ?_
                          have e74 := some_eq H; subst e74; replace H := el_rt HO74
                          refine hR74 _ _ ?_
                          have eR := some_eq H; subst eR
                          replace hs := hs.keep (.d (.d (.d (.d (.d (.d (.d (.d (.d (.d (.d (.d (.d .nil)))))))))))))
                          exact ret1 Try.results9 hf rfl ⟨_, rfl, ⟨rfl, hs⟩⟩
                        · -- not x110 = true
                          replace hf := hf.castB (t := 165) rfl (bool_f hc128)
                          refine cond_F hf rfl ?_
                          refine wp_skip ?_
                          refine hN109 _ _ ?_
                          refine seq_reg (fun K130 hK130 => ?_)
                          refine stq hf rfl rfl rfl (ex_assign hf rfl) (fun a hf => ?_)
                          refine hK130 _ _ ?_
                          refine block_k (fun Q131 hN131 hR131 hX131 hY131 => ?_)
                          refine loop_k (fun n a w => ∃ (y132 : Int), Fr a 201 [(3, v3), (11, .pointer (some ⟨b10, 0, none⟩)), (12, .int .i64 (s7.1.length : Int)), (13, .int .i64 (IntKind.i64.wrap a4)), (14, .pointer (some ⟨b43, 0, none⟩)), (16, .pointer (some ⟨b60, 0, none⟩)), (18, .int .i64 y83), (20, v99), (22, v103), (28, .int .i64 y132)] ∧ St M w0 w [bx b10 27 [v8, v9, .int .i64 s7.2.2], osl K_api_HeatDomain v8 s7.1, osl K_api_HeatLink v9 s7.2.1, bx b43 64 [v44, v45, .int .i64 c16.2.2.1, v98, .int .i64 s97.1], osl K_api_HeatDomain v44 c16.1, osl K_api_HeatLink v45 c16.2.1, osl K_int64 v98 s97.2.1, bx b60 64 [v61, v62, .int .i64 c50.2.2.1, v102, .int .i64 s101.1], osl K_api_HeatDomain v61 c50.1, osl K_api_HeatLink v62 c50.2.1, osl K_int64 v102 s101.2.1, osl K_int64 v99 s97.2.2.1, osl K_int64 v103 s101.2.2.1] ∧ law38_HeatShift.l2 n s7 s101 s97 a4 c50 c16 y132 = some x89) k85 ?_ (fun n134 a w hI Q134 hL134 hR134 hX134 => ?_)
                          · -- at the start
                            exact ⟨0, hf.sub ⟨rfl, rfl, rfl, rfl, rfl, rfl, rfl, rfl, rfl, rfl, trivial⟩, hs, H⟩
                          · obtain ⟨y132, hf, hs, H⟩ := hI
                            cases n134 with
                            | zero => exact absurd H (by rw [law38_HeatShift.l2.eq_1]; intro h; cases h)
                            | succ k134 =>
                              replace H := (law38_HeatShift.l2.eq_2 ..).symm.trans H
                              refine seq_n (fun Q135 hN135 hR135 hX135 => ?_)
                              refine seq_reg (fun K136 hK136 => ?_)
                              refine stq hf rfl rfl rfl (ex_move hf rfl) (fun a hf => ?_)
                              refine stq hf rfl rfl rfl (ex_move hf rfl) (fun a hf => ?_)
                              refine stq hf rfl rfl rfl (ex_lss hf rfl rfl) (fun a hf => ?_)
                              refine hK136 _ _ ?_
                              refine itt H (fun hc137 H => ?_) (fun hc137 H => ?_)
                              · -- y132 < (s7.1.length : Int)
                                replace hf := hf.castB (t := 168) rfl (dec_t hc137)
                                refine cond_T hf rfl ?_
                                refine wp_skip ?_
                                refine hN135 _ _ ?_
                                refine seq_n (fun Q138 hN138 hR138 hX138 => ?_)
                                refine block_k (fun Q139 hN139 hR139 hX139 hY139 => ?_)
                                refine bnd H (fun x140 H140 HO140 => ?_)
                                clear H
                                refine seq_cut (fun a w => Fr a 201 [(3, v3), (11, .pointer (some ⟨b10, 0, none⟩)), (12, .int .i64 (s7.1.length : Int)), (13, .int .i64 (IntKind.i64.wrap a4)), (14, .pointer (some ⟨b43, 0, none⟩)), (16, .pointer (some ⟨b60, 0, none⟩)), (18, .int .i64 y83), (20, v99), (22, v103), (28, .int .i64 y132), (199, .bool x140)] ∧ St M w0 w [bx b10 27 [v8, v9, .int .i64 s7.2.2], osl K_api_HeatDomain v8 s7.1, osl K_api_HeatLink v9 s7.2.1, bx b43 64 [v44, v45, .int .i64 c16.2.2.1, v98, .int .i64 s97.1], osl K_api_HeatDomain v44 c16.1, osl K_api_HeatLink v45 c16.2.1, osl K_int64 v98 s97.2.1, bx b60 64 [v61, v62, .int .i64 c50.2.2.1, v102, .int .i64 s101.1], osl K_api_HeatDomain v61 c50.1, osl K_api_HeatLink v62 c50.2.1, osl K_int64 v102 s101.2.1, osl K_int64 v99 s97.2.2.1, osl K_int64 v103 s101.2.2.1]) (fun Q140 hJ140 hR140 hX140 => ?_) (fun a w hJ => ?_)
                                · replace H := H140
                                  refine ck_some H (fun hc141 H => ?_)
                                  refine ck_some H (fun hc142 H => ?_)
                                  refine itt H (fun hc143 H => ?_) (fun hc143 H => ?_)
                                  · -- (gd 0 s101.2.2.1 y132) = (IntKind.i64.wrap ((gd 0 s97.2.2.1 
                                    refine bnd H (fun s144 hs144 H => ?_)
                                    refine bnd H (fun s145 hs145 H => ?_)
                                    refine ck_some H (fun hc146 H => ?_)
                                    refine region_d fol 29 [(3, v3), (11, .pointer (some ⟨b10, 0, none⟩)), (12, .int .i64 (s7.1.length : Int)), (13, .int .i64 (IntKind.i64.wrap a4)), (14, .pointer (some ⟨b43, 0, none⟩)), (16, .pointer (some ⟨b60, 0, none⟩)), (18, .int .i64 y83), (20, v99), (22, v103), (28, .int .i64 y132)] [(0, v103), (1, .int .i64 y132), (2, .pointer (some (sla v103 (y132.toNat * 1)))), (3, .int .i64 (gd 0 s101.2.2.1 y132)), (4, v99), (5, .int .i64 y132), (6, .pointer (some (sla v99 (y132.toNat * 1)))), (7, .int .i64 (gd 0 s97.2.2.1 y132)), (8, .int .i64 (IntKind.i64.wrap a4)), (9, .int .i64 (IntKind.i64.wrap ((gd 0 s97.2.2.1 y132) + (IntKind.i64.wrap a4)))), (10, .bool false), (11, .bool false), (12, .pointer (some ⟨b60, 0, none⟩)), (13, .int .i64 y132), (15, .pointer (some ⟨b43, 0, none⟩)), (16, .int .i64 y132), (18, .pointer (some ⟨b10, 0, none⟩)), (19, v8), (20, .int .i64 y132), (21, .pointer (some (sla v8 (y132.toNat * 2)))), (22, .pointer (some (sla v8 (y132.toNat * 2 + 0)))), (23, .int .i64 ((gd HeatDomain.zero s7.1 y132).Capacity)), (24, .int .i64 (IntKind.i64.wrap a4)), (25, .int .i64 (IntKind.i64.wrap (((gd HeatDomain.zero s7.1 y132).Capacity) * (IntKind.i64.wrap a4))))] [14, 17] (fun w => (osl K_int64 v103 s101.2.2.1).ok w ∧ (osl K_int64 v99 s97.2.2.1).ok w ∧ (bx b10 27 [v8, v9, .int .i64 s7.2.2]).ok w ∧ (osl K_api_HeatDomain v8 s7.1).ok w ∧ True) (fun w => St M w0 w [bx b10 27 [v8, v9, .int .i64 s7.2.2], osl K_api_HeatDomain v8 s7.1, osl K_api_HeatLink v9 s7.2.1, bx b43 64 [v44, v45, .int .i64 c16.2.2.1, v98, .int .i64 s97.1], osl K_api_HeatDomain v44 c16.1, osl K_api_HeatLink v45 c16.2.1, osl K_int64 v98 s97.2.1, bx b60 64 [v61, v62, .int .i64 c50.2.2.1, v102, .int .i64 s101.1], osl K_api_HeatDomain v61 c50.1, osl K_api_HeatLink v62 c50.2.1, osl K_int64 v102 s101.2.1, osl K_int64 v99 s97.2.2.1, osl K_int64 v103 s101.2.2.1]) hf ⟨rfl, rfl, rfl, rfl, rfl, rfl, rfl, rfl, rfl, rfl, trivial⟩ (by kernel_rfl) (by kernel_rfl) rfl (by decide) ⟨hs.drew.get (i := 12) rfl, hs.drew.get (i := 11) rfl, hs.drew.get (i := 0) rfl, hs.drew.get (i := 1) rfl, trivial⟩ hs.drew (.cons (⟨_, _, rfl, rfl, rfl, rfl, fun a w hR hf => .inl ⟨wanted_yes hf rfl, ex_move hf rfl⟩⟩) (.cons (⟨_, _, rfl, rfl, rfl, rfl, fun a w hR hf => .inl ⟨wanted_yes hf rfl, ex_move hf rfl⟩⟩) (.cons (⟨_, _, rfl, rfl, rfl, rfl, fun a w hR hf => .inl ⟨wanted_yes hf rfl, ex_indexAddr sa_35 (rsl_isSl (osl_rsl _ hR.1)) hc141.1 hc141.2 hf rfl rfl⟩⟩) (.cons (⟨_, _, rfl, rfl, rfl, rfl, fun a w hR hf => .inl ⟨wanted_yes hf rfl, ex_load sc_2 hf rfl (el_cell (K := K_int64) (f := 0) (rsl_rd (osl_rsl _ hR.1)) hc141.1 hc141.2 rfl)⟩⟩) (.cons (⟨_, _, rfl, rfl, rfl, rfl, fun a w hR hf => .inl ⟨wanted_yes hf rfl, ex_move hf rfl⟩⟩) (.cons (⟨_, _, rfl, rfl, rfl, rfl, fun a w hR hf => .inl ⟨wanted_yes hf rfl, ex_move hf rfl⟩⟩) (.cons (⟨_, _, rfl, rfl, rfl, rfl, fun a w hR hf => .inl ⟨wanted_yes hf rfl, ex_indexAddr sa_35 (rsl_isSl (osl_rsl _ hR.2.1)) hc142.1 hc142.2 hf rfl rfl⟩⟩) (.cons (⟨_, _, rfl, rfl, rfl, rfl, fun a w hR hf => .inl ⟨wanted_yes hf rfl, ex_load sc_2 hf rfl (el_cell (K := K_int64) (f := 0) (rsl_rd (osl_rsl _ hR.2.1)) hc142.1 hc142.2 rfl)⟩⟩) (.cons (⟨_, _, rfl, rfl, rfl, rfl, fun a w hR hf => .inl ⟨wanted_yes hf rfl, ex_move hf rfl⟩⟩) (.cons (⟨_, _, rfl, rfl, rfl, rfl, fun a w hR hf => .inl ⟨wanted_yes hf rfl, ex_add hf rfl rfl⟩⟩) (.cons (⟨_, _, rfl, rfl, rfl, rfl, fun a w hR hf => .inl ⟨wanted_yes hf rfl, ex_castB (ex_neq hf rfl rfl) (ndec_f hc143)⟩⟩) (.cons (⟨_, _, rfl, rfl, rfl, rfl, fun a w hR hf => .inl ⟨wanted_yes hf rfl, ex_move hf rfl⟩⟩) (.cons (⟨_, _, rfl, rfl, rfl, rfl, fun a w hR hf => .inl ⟨wanted_yes hf rfl, ex_move hf rfl⟩⟩) (.cons (⟨_, _, rfl, rfl, rfl, rfl, fun a w hR hf => .inl ⟨wanted_yes hf rfl, ex_move hf rfl⟩⟩) (.cons (⟨_, _, rfl, rfl, rfl, rfl, fun a w hR hf => .inl ⟨wanted_yes hf rfl, ex_move hf rfl⟩⟩) (.cons (⟨_, _, rfl, rfl, rfl, rfl, fun a w hR hf => .inl ⟨wanted_yes hf rfl, ex_move hf rfl⟩⟩) (.cons (⟨_, _, rfl, rfl, rfl, rfl, fun a w hR hf => .inl ⟨wanted_yes hf rfl, ex_fieldAddrB fa_27_0 rfl hf rfl⟩⟩) (.cons (⟨_, _, rfl, rfl, rfl, rfl, fun a w hR hf => .inl ⟨wanted_yes hf rfl, ex_load sc_22 hf rfl (bx_cell (hR.2.2.1) _ rfl)⟩⟩) (.cons (⟨_, _, rfl, rfl, rfl, rfl, fun a w hR hf => .inl ⟨wanted_yes hf rfl, ex_move hf rfl⟩⟩) (.cons (⟨_, _, rfl, rfl, rfl, rfl, fun a w hR hf => .inl ⟨wanted_yes hf rfl, ex_indexAddr sa_22 (rsl_isSl (osl_rsl _ hR.2.2.2.1)) hc146.1 hc146.2 hf rfl rfl⟩⟩) (.cons (⟨_, _, rfl, rfl, rfl, rfl, fun a w hR hf => .inl ⟨wanted_yes hf rfl, ex_fieldAddrS fa_34_0 rfl hf rfl⟩⟩) (.cons (⟨_, _, rfl, rfl, rfl, rfl, fun a w hR hf => .inl ⟨wanted_yes hf rfl, ex_load sc_2 hf rfl (el_cell (K := K_api_HeatDomain) (f := 0) (rsl_rd (osl_rsl _ hR.2.2.2.1)) hc146.1 hc146.2 rfl)⟩⟩) (.cons (⟨_, _, rfl, rfl, rfl, rfl, fun a w hR hf => .inl ⟨wanted_yes hf rfl, ex_move hf rfl⟩⟩) (.cons (⟨_, _, rfl, rfl, rfl, rfl, fun a w hR hf => .inl ⟨wanted_yes hf rfl, ex_mul hf rfl rfl⟩⟩) (.nil))))))))))))))))))))))))) (fun K147 hK147 => ?_)
                                    refine RW.one 14 (by kernel_rfl) (by kernel_rfl) rfl (fun d hd => by cases hd; rfl) [(182, .bool false), (183, .pointer (some ⟨b60, 0, none⟩)), (184, .int .i64 y132)] ⟨rfl, rfl, rfl, trivial⟩ (fun a w hR hs hf => ⟨wanted_yes hf rfl, ?_⟩)
                                    refine estep_f (ex_call cf_17 hf rfl) (heat_Model_Energy.calls k134 c50.1 c50.2.1 c50.2.2.1 s101.2.1 s101.1 y132 b60 v61 v62 v102 (hs.enter (.k (.k (.k (.k (.k (.k (.k (.k (.k (.k (.k (.k (.k .nil)))))))))))))) (Sr.own hs (.k (.k (.k (.k (.k (.k (.k (.k (.k (.k (.k (.k (.k .nil))))))))))))) (i := 7) rfl (fun _ h => h) (fun _ h => h) (Sr.own hs (.k (.k (.k (.k (.k (.k (.k (.k (.k (.k (.k (.k (.k .nil))))))))))))) (i := 8) rfl osl_rsl (fun _ h => h.1) (Sr.own hs (.k (.k (.k (.k (.k (.k (.k (.k (.k (.k (.k (.k (.k .nil))))))))))))) (i := 9) rfl osl_rsl (fun _ h => h.1) (Sr.own hs (.k (.k (.k (.k (.k (.k (.k (.k (.k (.k (.k (.k (.k .nil))))))))))))) (i := 10) rfl osl_rsl (fun _ h => h.1) (Sr.nil _ _))))) hs144) (fun v w hR => ?_)
                                    obtain ⟨rfl, hs'⟩ := hR
                                    replace hs := hs.step (.k (.k (.k (.k (.k (.k (.k (.k (.k (.k (.k (.k (.k .nil))))))))))))) hs'
                                    clear hs'
                                    refine ⟨[], [(14, .int .i64 s144), (0, v103), (1, .int .i64 y132), (2, .pointer (some (sla v103 (y132.toNat * 1)))), (3, .int .i64 (gd 0 s101.2.2.1 y132)), (4, v99), (5, .int .i64 y132), (6, .pointer (some (sla v99 (y132.toNat * 1)))), (7, .int .i64 (gd 0 s97.2.2.1 y132)), (8, .int .i64 (IntKind.i64.wrap a4)), (9, .int .i64 (IntKind.i64.wrap ((gd 0 s97.2.2.1 y132) + (IntKind.i64.wrap a4)))), (10, .bool false), (11, .bool false), (12, .pointer (some ⟨b60, 0, none⟩)), (13, .int .i64 y132), (15, .pointer (some ⟨b43, 0, none⟩)), (16, .int .i64 y132), (18, .pointer (some ⟨b10, 0, none⟩)), (19, v8), (20, .int .i64 y132), (21, .pointer (some (sla v8 (y132.toNat * 2)))), (22, .pointer (some (sla v8 (y132.toNat * 2 + 0)))), (23, .int .i64 ((gd HeatDomain.zero s7.1 y132).Capacity)), (24, .int .i64 (IntKind.i64.wrap a4)), (25, .int .i64 (IntKind.i64.wrap (((gd HeatDomain.zero s7.1 y132).Capacity) * (IntKind.i64.wrap a4))))], [17], (fun _ => True), (fun w => St M w0 w [bx b10 27 [v8, v9, .int .i64 s7.2.2], osl K_api_HeatDomain v8 s7.1, osl K_api_HeatLink v9 s7.2.1, bx b43 64 [v44, v45, .int .i64 c16.2.2.1, v98, .int .i64 s97.1], osl K_api_HeatDomain v44 c16.1, osl K_api_HeatLink v45 c16.2.1, osl K_int64 v98 s97.2.1, bx b60 64 [v61, v62, .int .i64 c50.2.2.1, v102, .int .i64 s101.1], osl K_api_HeatDomain v61 c50.1, osl K_api_HeatLink v62 c50.2.1, osl K_int64 v102 s101.2.1, osl K_int64 v99 s97.2.2.1, osl K_int64 v103 s101.2.2.1]), rfl, rfl, ⟨hs.get (i := 12) rfl, hs.get (i := 11) rfl, hs.get (i := 0) rfl, hs.get (i := 1) rfl, trivial⟩, trivial, hs, (by kernel_rfl), .nil, ?_⟩
                                    refine RW.one 17 (by kernel_rfl) (by kernel_rfl) rfl (fun d hd => by cases hd; rfl) [(182, .bool false), (186, .pointer (some ⟨b43, 0, none⟩)), (187, .int .i64 y132)] ⟨rfl, rfl, rfl, trivial⟩ (fun a w hR hs hf => ⟨wanted_yes hf rfl, ?_⟩)
                                    refine estep_f (ex_call cf_17 hf rfl) (heat_Model_Energy.calls k134 c16.1 c16.2.1 c16.2.2.1 s97.2.1 s97.1 y132 b43 v44 v45 v98 (hs.enter (.k (.k (.k (.k (.k (.k (.k (.k (.k (.k (.k (.k (.k .nil)))))))))))))) (Sr.own hs (.k (.k (.k (.k (.k (.k (.k (.k (.k (.k (.k (.k (.k .nil))))))))))))) (i := 3) rfl (fun _ h => h) (fun _ h => h) (Sr.own hs (.k (.k (.k (.k (.k (.k (.k (.k (.k (.k (.k (.k (.k .nil))))))))))))) (i := 4) rfl osl_rsl (fun _ h => h.1) (Sr.own hs (.k (.k (.k (.k (.k (.k (.k (.k (.k (.k (.k (.k (.k .nil))))))))))))) (i := 5) rfl osl_rsl (fun _ h => h.1) (Sr.own hs (.k (.k (.k (.k (.k (.k (.k (.k (.k (.k (.k (.k (.k .nil))))))))))))) (i := 6) rfl osl_rsl (fun _ h => h.1) (Sr.nil _ _))))) hs145) (fun v w hR => ?_)
                                    obtain ⟨rfl, hs'⟩ := hR
                                    replace hs := hs.step (.k (.k (.k (.k (.k (.k (.k (.k (.k (.k (.k (.k (.k .nil))))))))))))) hs'
                                    clear hs'
                                    refine ⟨[(26, .int .i64 (IntKind.i64.wrap (s145 + (IntKind.i64.wrap (((gd HeatDomain.zero s7.1 y132).Capacity) * (IntKind.i64.wrap a4)))))), (27, .bool (!decide (s144 = (IntKind.i64.wrap (s145 + (IntKind.i64.wrap (((gd HeatDomain.zero s7.1 y132).Capacity) * (IntKind.i64.wrap a4)))))))), (28, .bool (!decide (s144 = (IntKind.i64.wrap (s145 + (IntKind.i64.wrap (((gd HeatDomain.zero s7.1 y132).Capacity) * (IntKind.i64.wrap a4))))))))], [(26, .int .i64 (IntKind.i64.wrap (s145 + (IntKind.i64.wrap (((gd HeatDomain.zero s7.1 y132).Capacity) * (IntKind.i64.wrap a4)))))), (27, .bool (!decide (s144 = (IntKind.i64.wrap (s145 + (IntKind.i64.wrap (((gd HeatDomain.zero s7.1 y132).Capacity) * (IntKind.i64.wrap a4)))))))), (28, .bool (!decide (s144 = (IntKind.i64.wrap (s145 + (IntKind.i64.wrap (((gd HeatDomain.zero s7.1 y132).Capacity) * (IntKind.i64.wrap a4)))))))), (17, .int .i64 s145), (14, .int .i64 s144), (0, v103), (1, .int .i64 y132), (2, .pointer (some (sla v103 (y132.toNat * 1)))), (3, .int .i64 (gd 0 s101.2.2.1 y132)), (4, v99), (5, .int .i64 y132), (6, .pointer (some (sla v99 (y132.toNat * 1)))), (7, .int .i64 (gd 0 s97.2.2.1 y132)), (8, .int .i64 (IntKind.i64.wrap a4)), (9, .int .i64 (IntKind.i64.wrap ((gd 0 s97.2.2.1 y132) + (IntKind.i64.wrap a4)))), (10, .bool false), (11, .bool false), (12, .pointer (some ⟨b60, 0, none⟩)), (13, .int .i64 y132), (15, .pointer (some ⟨b43, 0, none⟩)), (16, .int .i64 y132), (18, .pointer (some ⟨b10, 0, none⟩)), (19, v8), (20, .int .i64 y132), (21, .pointer (some (sla v8 (y132.toNat * 2)))), (22, .pointer (some (sla v8 (y132.toNat * 2 + 0)))), (23, .int .i64 ((gd HeatDomain.zero s7.1 y132).Capacity)), (24, .int .i64 (IntKind.i64.wrap a4)), (25, .int .i64 (IntKind.i64.wrap (((gd HeatDomain.zero s7.1 y132).Capacity) * (IntKind.i64.wrap a4))))], [], (fun _ => True), (fun w => St M w0 w [bx b10 27 [v8, v9, .int .i64 s7.2.2], osl K_api_HeatDomain v8 s7.1, osl K_api_HeatLink v9 s7.2.1, bx b43 64 [v44, v45, .int .i64 c16.2.2.1, v98, .int .i64 s97.1], osl K_api_HeatDomain v44 c16.1, osl K_api_HeatLink v45 c16.2.1, osl K_int64 v98 s97.2.1, bx b60 64 [v61, v62, .int .i64 c50.2.2.1, v102, .int .i64 s101.1], osl K_api_HeatDomain v61 c50.1, osl K_api_HeatLink v62 c50.2.1, osl K_int64 v102 s101.2.1, osl K_int64 v99 s97.2.2.1, osl K_int64 v103 s101.2.2.1]), rfl, rfl, ⟨⟨hs.get (i := 12) rfl, hs.get (i := 11) rfl, hs.get (i := 0) rfl, hs.get (i := 1) rfl, trivial⟩, trivial⟩, trivial, hs, (by kernel_rfl), .cons (⟨_, _, rfl, rfl, rfl, rfl, fun a w hR hf => .inl ⟨wanted_yes hf rfl, ex_add hf rfl rfl⟩⟩) (.cons (⟨_, _, rfl, rfl, rfl, rfl, fun a w hR hf => .inl ⟨wanted_yes hf rfl, ex_neq hf rfl rfl⟩⟩) (.cons (⟨_, _, rfl, rfl, rfl, rfl, fun a w hR hf => .inl ⟨wanted_yes hf rfl, ex_pickF hf rfl rfl⟩⟩) (.nil))), ?_⟩
                                    refine RW.zero (by kernel_rfl) (by kernel_rfl) [(3, v3), (11, .pointer (some ⟨b10, 0, none⟩)), (12, .int .i64 (s7.1.length : Int)), (13, .int .i64 (IntKind.i64.wrap a4)), (14, .pointer (some ⟨b43, 0, none⟩)), (16, .pointer (some ⟨b60, 0, none⟩)), (18, .int .i64 y83), (20, v99), (22, v103), (28, .int .i64 y132), (199, .bool (!decide (s144 = (IntKind.i64.wrap (s145 + (IntKind.i64.wrap (((gd HeatDomain.zero s7.1 y132).Capacity) * (IntKind.i64.wrap a4))))))))] ⟨rfl, rfl, rfl, rfl, rfl, rfl, rfl, rfl, rfl, rfl, rfl, trivial⟩ (fun a w hR hs hf => ?_)
                                    refine hK147 _ _ ?_
                                    have e140 := some_eq H; subst e140
                                    exact hJ140 _ _ ⟨hf.sub ⟨rfl, rfl, rfl, rfl, rfl, rfl, rfl, rfl, rfl, rfl, rfl, trivial⟩, hs⟩
                                  · -- not (gd 0 s101.2.2.1 y132) = (IntKind.i64.wrap ((gd 0 s97.2.2.1 
                                    refine region_d fol 29 [(3, v3), (11, .pointer (some ⟨b10, 0, none⟩)), (12, .int .i64 (s7.1.length : Int)), (13, .int .i64 (IntKind.i64.wrap a4)), (14, .pointer (some ⟨b43, 0, none⟩)), (16, .pointer (some ⟨b60, 0, none⟩)), (18, .int .i64 y83), (20, v99), (22, v103), (28, .int .i64 y132)] [(0, v103), (1, .int .i64 y132), (2, .pointer (some (sla v103 (y132.toNat * 1)))), (3, .int .i64 (gd 0 s101.2.2.1 y132)), (4, v99), (5, .int .i64 y132), (6, .pointer (some (sla v99 (y132.toNat * 1)))), (7, .int .i64 (gd 0 s97.2.2.1 y132)), (8, .int .i64 (IntKind.i64.wrap a4)), (9, .int .i64 (IntKind.i64.wrap ((gd 0 s97.2.2.1 y132) + (IntKind.i64.wrap a4)))), (10, .bool true), (11, .bool true), (12, undef), (13, undef), (14, undef), (15, undef), (16, undef), (17, undef), (18, undef), (19, undef), (20, undef), (21, undef), (22, undef), (23, undef), (24, undef), (25, undef), (26, undef), (27, undef), (28, .bool true)] [] (fun w => (osl K_int64 v103 s101.2.2.1).ok w ∧ (osl K_int64 v99 s97.2.2.1).ok w ∧ (bx b10 27 [v8, v9, .int .i64 s7.2.2]).ok w ∧ (osl K_api_HeatDomain v8 s7.1).ok w ∧ True) (fun w => St M w0 w [bx b10 27 [v8, v9, .int .i64 s7.2.2], osl K_api_HeatDomain v8 s7.1, osl K_api_HeatLink v9 s7.2.1, bx b43 64 [v44, v45, .int .i64 c16.2.2.1, v98, .int .i64 s97.1], osl K_api_HeatDomain v44 c16.1, osl K_api_HeatLink v45 c16.2.1, osl K_int64 v98 s97.2.1, bx b60 64 [v61, v62, .int .i64 c50.2.2.1, v102, .int .i64 s101.1], osl K_api_HeatDomain v61 c50.1, osl K_api_HeatLink v62 c50.2.1, osl K_int64 v102 s101.2.1, osl K_int64 v99 s97.2.2.1, osl K_int64 v103 s101.2.2.1]) hf ⟨rfl, rfl, rfl, rfl, rfl, rfl, rfl, rfl, rfl, rfl, trivial⟩ (by kernel_rfl) (by kernel_rfl) rfl (by decide) ⟨hs.drew.get (i := 12) rfl, hs.drew.get (i := 11) rfl, hs.drew.get (i := 0) rfl, hs.drew.get (i := 1) rfl, trivial⟩ hs.drew (.cons (⟨_, _, rfl, rfl, rfl, rfl, fun a w hR hf => .inl ⟨wanted_yes hf rfl, ex_move hf rfl⟩⟩) (.cons (⟨_, _, rfl, rfl, rfl, rfl, fun a w hR hf => .inl ⟨wanted_yes hf rfl, ex_move hf rfl⟩⟩) (.cons (⟨_, _, rfl, rfl, rfl, rfl, fun a w hR hf => .inl ⟨wanted_yes hf rfl, ex_indexAddr sa_35 (rsl_isSl (osl_rsl _ hR.1)) hc141.1 hc141.2 hf rfl rfl⟩⟩) (.cons (⟨_, _, rfl, rfl, rfl, rfl, fun a w hR hf => .inl ⟨wanted_yes hf rfl, ex_load sc_2 hf rfl (el_cell (K := K_int64) (f := 0) (rsl_rd (osl_rsl _ hR.1)) hc141.1 hc141.2 rfl)⟩⟩) (.cons (⟨_, _, rfl, rfl, rfl, rfl, fun a w hR hf => .inl ⟨wanted_yes hf rfl, ex_move hf rfl⟩⟩) (.cons (⟨_, _, rfl, rfl, rfl, rfl, fun a w hR hf => .inl ⟨wanted_yes hf rfl, ex_move hf rfl⟩⟩) (.cons (⟨_, _, rfl, rfl, rfl, rfl, fun a w hR hf => .inl ⟨wanted_yes hf rfl, ex_indexAddr sa_35 (rsl_isSl (osl_rsl _ hR.2.1)) hc142.1 hc142.2 hf rfl rfl⟩⟩) (.cons (⟨_, _, rfl, rfl, rfl, rfl, fun a w hR hf => .inl ⟨wanted_yes hf rfl, ex_load sc_2 hf rfl (el_cell (K := K_int64) (f := 0) (rsl_rd (osl_rsl _ hR.2.1)) hc142.1 hc142.2 rfl)⟩⟩) (.cons (⟨_, _, rfl, rfl, rfl, rfl, fun a w hR hf => .inl ⟨wanted_yes hf rfl, ex_move hf rfl⟩⟩) (.cons (⟨_, _, rfl, rfl, rfl, rfl, fun a w hR hf => .inl ⟨wanted_yes hf rfl, ex_add hf rfl rfl⟩⟩) (.cons (⟨_, _, rfl, rfl, rfl, rfl, fun a w hR hf => .inl ⟨wanted_yes hf rfl, ex_castB (ex_neq hf rfl rfl) (ndec_t hc143)⟩⟩) (.cons (⟨_, _, rfl, rfl, rfl, rfl, fun a w hR hf => .inl ⟨wanted_yes hf rfl, ex_move hf rfl⟩⟩) (.cons (⟨_, _, rfl, rfl, rfl, rfl, fun a w hR hf => .inr ⟨wanted_no hf rfl, rfl⟩⟩) (.cons (⟨_, _, rfl, rfl, rfl, rfl, fun a w hR hf => .inr ⟨wanted_no hf rfl, rfl⟩⟩) (.cons (⟨_, _, rfl, rfl, rfl, rfl, fun a w hR hf => .inr ⟨wanted_no hf rfl, rfl⟩⟩) (.cons (⟨_, _, rfl, rfl, rfl, rfl, fun a w hR hf => .inr ⟨wanted_no hf rfl, rfl⟩⟩) (.cons (⟨_, _, rfl, rfl, rfl, rfl, fun a w hR hf => .inr ⟨wanted_no hf rfl, rfl⟩⟩) (.cons (⟨_, _, rfl, rfl, rfl, rfl, fun a w hR hf => .inr ⟨wanted_no hf rfl, rfl⟩⟩) (.cons (⟨_, _, rfl, rfl, rfl, rfl, fun a w hR hf => .inr ⟨wanted_no hf rfl, rfl⟩⟩) (.cons (⟨_, _, rfl, rfl, rfl, rfl, fun a w hR hf => .inr ⟨wanted_no hf rfl, rfl⟩⟩) (.cons (⟨_, _, rfl, rfl, rfl, rfl, fun a w hR hf => .inr ⟨wanted_no hf rfl, rfl⟩⟩) (.cons (⟨_, _, rfl, rfl, rfl, rfl, fun a w hR hf => .inr ⟨wanted_no hf rfl, rfl⟩⟩) (.cons (⟨_, _, rfl, rfl, rfl, rfl, fun a w hR hf => .inr ⟨wanted_no hf rfl, rfl⟩⟩) (.cons (⟨_, _, rfl, rfl, rfl, rfl, fun a w hR hf => .inr ⟨wanted_no hf rfl, rfl⟩⟩) (.cons (⟨_, _, rfl, rfl, rfl, rfl, fun a w hR hf => .inr ⟨wanted_no hf rfl, rfl⟩⟩) (.cons (⟨_, _, rfl, rfl, rfl, rfl, fun a w hR hf => .inr ⟨wanted_no hf rfl, rfl⟩⟩) (.cons (⟨_, _, rfl, rfl, rfl, rfl, fun a w hR hf => .inr ⟨wanted_no hf rfl, rfl⟩⟩) (.cons (⟨_, _, rfl, rfl, rfl, rfl, fun a w hR hf => .inr ⟨wanted_no hf rfl, rfl⟩⟩) (.cons (⟨_, _, rfl, rfl, rfl, rfl, fun a w hR hf => .inl ⟨wanted_yes hf rfl, ex_pickT hf rfl rfl⟩⟩) (.nil)))))))))))))))))))))))))))))) (fun K148 hK148 => ?_)
                                    refine RW.zero (by kernel_rfl) (by kernel_rfl) [(3, v3), (11, .pointer (some ⟨b10, 0, none⟩)), (12, .int .i64 (s7.1.length : Int)), (13, .int .i64 (IntKind.i64.wrap a4)), (14, .pointer (some ⟨b43, 0, none⟩)), (16, .pointer (some ⟨b60, 0, none⟩)), (18, .int .i64 y83), (20, v99), (22, v103), (28, .int .i64 y132), (199, .bool true)] ⟨rfl, rfl, rfl, rfl, rfl, rfl, rfl, rfl, rfl, rfl, rfl, trivial⟩ (fun a w hR hs hf => ?_)
                                    refine hK148 _ _ ?_
                                    have e140 := some_eq H; subst e140
                                    exact hJ140 _ _ ⟨hf.sub ⟨rfl, rfl, rfl, rfl, rfl, rfl, rfl, rfl, rfl, rfl, rfl, trivial⟩, hs⟩
                                · obtain ⟨hf, hs⟩ := hJ
                                  replace H := HO140
                                  clear HO140
                                  refine itt H (fun hc149 H => ?_) (fun hc149 H => ?_)
                                  · -- x140 = true
                                    replace hf := hf.castB (t := 199) rfl hc149
                                    refine cond_T hf rfl ?_
                                    refine seq_reg (fun K150 hK150 => ?_)
                                    refine stq hf rfl rfl rfl (ex_assign hf rfl) (fun a hf => ?_)
                                    refine hK150 _ _ ?_
                                    refine wp_ret ?_
                                    refine hR139 _ _ ?_
                                    refine hR138 _ _ ?_
                                    refine hR134 _ _ ?_
                                    refine hR131 _ _ ?_
                                    refine hR92 _ _ ?_
                                    have e89 := some_eq H; subst e89; replace H := el_rt HO89
                                    refine hR89 _ _ ?_
                                    refine hR85 _ _ ?_
                                    refine hR76 _ _ ?_
                                    have e74 := some_eq H; subst e74; replace H := el_rt HO74
                                    refine hR74 _ _ ?_
                                    have eR := some_eq H; subst eR
                                    replace hs := hs.keep (.d (.d (.d (.d (.d (.d (.d (.d (.d (.d (.d (.d (.d .nil)))))))))))))
                                    exact ret1 Try.results9 hf rfl ⟨_, rfl, ⟨rfl, hs⟩⟩
                                  · -- not x140 = true
                                    replace hf := hf.castB (t := 199) rfl (bool_f hc149)
                                    refine cond_F hf rfl ?_
                                    refine wp_skip ?_
                                    refine hN139 _ _ ?_
                                    refine hN138 _ _ ?_
                                    refine region_k (fun K151 hK151 => ?_)
                                    refine stq hf rfl rfl rfl (ex_move hf rfl) (fun a hf => ?_)
                                    refine stq hf rfl rfl rfl (ex_add hf rfl rfl) (fun a hf => ?_)
                                    refine stq hf rfl rfl rfl (ex_assign hf rfl) (fun a hf => ?_)
                                    refine hK151 _ _ ?_
                                    exact hL134 k134 _ _ (Nat.lt_succ_self _) ⟨(IntKind.i64.wrap (y132 + 1)), hf.sub ⟨rfl, rfl, rfl, rfl, rfl, rfl, rfl, rfl, rfl, rfl, trivial⟩, hs, H⟩
                              · -- not y132 < (s7.1.length : Int)
                                replace hf := hf.castB (t := 168) rfl (dec_f hc137)
                                refine cond_F hf rfl ?_
                                refine wp_exit ?_
                                refine hX135 2 _ _ ?_
                                refine hX134 2 _ _ ?_
                                refine hX131 _ _ ?_
                                refine hN92 _ _ ?_
                                replace hs := hs.keep (.k (.k (.k (.k (.k (.k (.k (.k (.k (.k (.k (.d (.d .nil)))))))))))))
                                have e89 := some_eq H; subst e89
                                exact hJ89 _ _ ⟨_, v98, v102, rfl, hf.sub ⟨rfl, rfl, rfl, rfl, rfl, rfl, rfl, trivial⟩, hs⟩
                    · obtain ⟨x89s, v90, v91, rfl, hf, hs⟩ := hJ
                      replace H := el_go HO89
                      clear HO89
                      refine region_k (fun K152 hK152 => ?_)
                      refine stq hf rfl rfl rfl (ex_move hf rfl) (fun a hf => ?_)
                      refine stq hf rfl rfl rfl (ex_add hf rfl rfl) (fun a hf => ?_)
                      refine stq hf rfl rfl rfl (ex_assign hf rfl) (fun a hf => ?_)
                      refine hK152 _ _ ?_
                      exact hL85 k85 _ _ (Nat.lt_succ_self _) ⟨x89s.1, x89s.2.1, x89s.2.2.1, x89s.2.2.2, (IntKind.i64.wrap (y83 + 1)), v90, v91, hf.sub ⟨rfl, rfl, rfl, rfl, rfl, rfl, rfl, trivial⟩, hs, H⟩
                  · -- not y83 < (a3.length : Int)
                    replace hf := hf.castB (t := 81) rfl (dec_f hc88)
                    refine cond_F hf rfl ?_
                    refine wp_exit ?_
                    refine hX86 0 _ _ ?_
                    refine hX85 0 _ _ ?_
                    refine hX76 _ _ ?_
                    replace hs := hs.keep (.d (.d (.d (.d (.d (.d (.d (.d (.d (.d (.d .nil)))))))))))
                    have e74 := some_eq H; subst e74
                    exact hJ74 _ _ ⟨_, rfl, hf.sub trivial, hs⟩
            · obtain ⟨x74s, rfl, hf, hs⟩ := hJ
              replace H := el_go HO74
              clear HO74
              refine bnd H (fun s153 hs153 H => ?_)
              refine seq_reg (fun K154 hK154 => ?_)
              refine stepF hf rfl rfl rfl (ex_call cf_11 hf rfl) (law38_awake.calls k (hs.enter .nil) (Sr.nil _ _) hs153) (fun v w hR a hf => ?_)
              obtain ⟨rfl, hs'⟩ := hR
              replace hs := hs.step .nil hs'
              clear hs'
              refine stq hf rfl rfl rfl (ex_assign hf rfl) (fun a hf => ?_)
              refine hK154 _ _ ?_
              refine wp_ret ?_
              have eR := some_eq H; subst eR
              exact ret1 Try.results9 hf rfl ⟨_, rfl, ⟨rfl, hs⟩⟩

end Go.Proofs.Ytakaooegofiloaa.X
