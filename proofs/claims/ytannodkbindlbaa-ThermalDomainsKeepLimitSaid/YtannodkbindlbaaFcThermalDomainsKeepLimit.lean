/- Each function of the machine comes to what its pure function says. -/
import Derived.Test.YtannodkbindlbaaFc1
import Derived.Test.YtannodkbindlbaaFc2
import Derived.Test.YtannodkbindlbaaFc4
import Derived.Test.YtannodkbindlbaaFc5
import Derived.Test.YtannodkbindlbaaFc6
import Derived.Test.YtannodkbindlbaaFb
namespace Go.Proofs.Ytannodkbindlbaa.X
open Go Go.RowKit Go.Sx
set_option linter.unusedVariables false

set_option maxHeartbeats 4000000 in
set_option maxRecDepth 100000 in
theorem law39_ThermalDomainsKeepLimit.calls {M : Nat → Prop} {w0 : World} (k : Nat) (a0 : (List HeatDomain)) (a1 : (List HeatLink)) (a2 : Int) (a3 : Int) (a4 : (List Int)) (a5 : (List (List Int))) (v0 : Value) (v1 : Value) (v4 : Value) (v5 : Value) (vs5 : (Nat → Value)) {r : Bool} (hs : St M w0 w0 []) (hr : Sr M w0 [rsl K_api_HeatDomain v0 a0, rsl K_api_HeatLink v1 a1, rsl K_uint64 v4 a4, rsl2 K_uint64 v5 vs5 a5])
    (h : law39_ThermalDomainsKeepLimit.f k a0 a1 a2 a3 a4 a5 = some r) : Calls Try.prog 7 #[v0, v1, .int .i64 a2, .int .i64 a3, v4, v5] w0 fun e w => ∃ v, e = .returned v ∧ (.bool r = v ∧ St M w0 w []) := by
  have H := (law39_ThermalDomainsKeepLimit.f.eq_1 ..).symm.trans h
  clear h
  refine enter Try.func7 rfl Try.ntmps7 rfl (fun a hf => ?_)
  refine seq_reg (fun K1 hK1 => ?_)
  refine stq hf rfl rfl rfl (ex_assign hf rfl) (fun a hf => ?_)
  refine hK1 _ _ ?_
  refine seq_n (fun Q2 hN2 hR2 hX2 => ?_)
  refine seq_reg (fun K3 hK3 => ?_)
  refine stq hf rfl rfl rfl (ex_move hf rfl) (fun a hf => ?_)
  refine stq hf rfl rfl rfl (ex_lenS Try.underlying62 (rsl_isSl (hr.now hs (i := 2) rfl)) hf rfl) (fun a hf => ?_)
  refine stq hf rfl rfl rfl (ex_gtr hf rfl rfl) (fun a hf => ?_)
  refine hK3 _ _ ?_
  refine itt H (fun hc4 H => ?_) (fun hc4 H => ?_)
  · -- 30 < (a4.length : Int)
    replace hf := hf.castB (t := 34) rfl (dec_t hc4)
    refine cond_T hf rfl ?_
    refine bnd H (fun s5 hs5 H => ?_)
    refine seq_reg (fun K6 hK6 => ?_)
    refine stepF hf rfl rfl rfl (ex_call cf_9 hf rfl) (law39_awake.calls k (hs.enter .nil) (Sr.nil _ _) hs5) (fun v w hR a hf => ?_)
    obtain ⟨rfl, hs'⟩ := hR
    replace hs := hs.step .nil hs'
    clear hs'
    refine stq hf rfl rfl rfl (ex_assign hf rfl) (fun a hf => ?_)
    refine hK6 _ _ ?_
    refine wp_ret ?_
    refine hR2 _ _ ?_
    have eR := some_eq H; subst eR
    exact ret1 Try.results7 hf rfl ⟨_, rfl, ⟨rfl, hs⟩⟩
  · -- not 30 < (a4.length : Int)
    replace hf := hf.castB (t := 34) rfl (dec_f hc4)
    refine cond_F hf rfl ?_
    refine wp_skip ?_
    refine hN2 _ _ ?_
    refine bnd H (fun s7 hs7 H => ?_)
    refine seq_reg (fun K11 hK11 => ?_)
    refine stq hf rfl rfl rfl (ex_move hf rfl) (fun a hf => ?_)
    refine stq hf rfl rfl rfl (ex_move hf rfl) (fun a hf => ?_)
    refine stq hf rfl rfl rfl (ex_move hf rfl) (fun a hf => ?_)
    refine stepF hf rfl rfl rfl (ex_call cf_13 hf rfl) (law38_Some.calls k a0 a1 a2 v0 v1 (hs.enter .nil) (Sr.old hr hs .nil (i := 0) rfl (fun _ h => h) (fun _ h => h) (Sr.old hr hs .nil (i := 1) rfl (fun _ h => h) (fun _ h => h) (Sr.nil _ _))) hs7) (fun v w hR a hf => ?_)
    obtain ⟨v8, v9, rfl, hs'⟩ := hR
    replace hs := hs.step .nil hs'
    clear hs'
    refine stepV hf rfl rfl rfl (er_alloc hs ti_38 (cs := [(.slice none 0 0), (.slice none 0 0), .int .i64 0]) rfl) (fun v w hR a hf => ?_)
    obtain ⟨b10, rfl, hs⟩ := hR
    refine stepS hf rfl rfl (er_storeAB (vs := [v8, v9, .int .i64 s7.2.2]) (cs' := [v8, v9, .int .i64 s7.2.2]) hs (.c (.k (.k .nil))) sz_38 hf rfl rfl (all1 (IsSl.one (rsl_isSl (osl_rsl _ (hs.get (i := 1) rfl)))) (all1 (IsSl.one (rsl_isSl (osl_rsl _ (hs.get (i := 2) rfl)))) (all1 rfl (all1_nil)))) rfl rfl) (fun w hs => ?_)
    refine hK11 _ _ ?_
    refine seq_reg (fun K12 hK12 => ?_)
    refine stq hf rfl rfl rfl (ex_fieldAddrB fa_38_0 rfl hf rfl) (fun a hf => ?_)
    refine stq hf rfl rfl rfl (ex_load sc_35 hf rfl (bx_cell (hs.get (i := 0) rfl) _ rfl)) (fun a hf => ?_)
    refine stq hf rfl rfl rfl (ex_lenS Try.underlying35 (rsl_isSl (osl_rsl _ (hs.get (i := 1) rfl))) hf rfl) (fun a hf => ?_)
    refine stq hf rfl rfl rfl (ex_assign hf rfl) (fun a hf => ?_)
    refine hK12 _ _ ?_
    refine seq_reg (fun K13 hK13 => ?_)
    refine stq hf rfl rfl rfl (ex_fieldAddrB fa_38_2 rfl hf rfl) (fun a hf => ?_)
    refine stq hf rfl rfl rfl (ex_load sc_2 hf rfl (bx_cell (hs.get (i := 0) rfl) _ rfl)) (fun a hf => ?_)
    refine stq hf rfl rfl rfl (ex_move hf rfl) (fun a hf => ?_)
    refine stq hf rfl rfl rfl (ex_conv Try.underlying2 Try.underlying23 hf rfl) (fun a hf => ?_)
    refine stq hf rfl rfl rfl (ex_rem hf rfl rfl (by decide)) (fun a hf => ?_)
    refine stq hf rfl rfl rfl (ex_conv Try.underlying23 Try.underlying2 hf rfl) (fun a hf => ?_)
    refine stq hf rfl rfl rfl (ex_add hf rfl rfl) (fun a hf => ?_)
    refine stq hf rfl rfl rfl (ex_assign hf rfl) (fun a hf => ?_)
    refine hK13 _ _ ?_
    refine seq_n (fun Q14 hN14 hR14 hX14 => ?_)
    refine bnd H (fun s15 hs15 H => ?_)
    cases hps15 : s15.1 with
    | none =>
      replace H := elim_n hps15 H
      refine region_k (fun K17 hK17 => ?_)
      refine stq hf rfl rfl rfl (ex_fieldAddrB fa_38_0 rfl hf rfl) (fun a hf => ?_)
      refine stq hf rfl rfl rfl (ex_load sc_35 hf rfl (bx_cell (hs.get (i := 0) rfl) _ rfl)) (fun a hf => ?_)
      refine stq hf rfl rfl rfl (ex_fieldAddrB fa_38_1 rfl hf rfl) (fun a hf => ?_)
      refine stq hf rfl rfl rfl (ex_load sc_36 hf rfl (bx_cell (hs.get (i := 0) rfl) _ rfl)) (fun a hf => ?_)
      refine stq hf rfl rfl rfl (ex_fieldAddrB fa_38_2 rfl hf rfl) (fun a hf => ?_)
      refine stq hf rfl rfl rfl (ex_load sc_2 hf rfl (bx_cell (hs.get (i := 0) rfl) _ rfl)) (fun a hf => ?_)
      refine stepF hf rfl rfl rfl (ex_call cf_15 hf rfl) (heat_New.calls k s7.1 s7.2.1 s7.2.2 v8 v9 (hs.enter (.k (.k (.k .nil)))) (Sr.own hs (.k (.k (.k .nil))) (i := 1) rfl osl_rsl (fun _ h => h.1) (Sr.own hs (.k (.k (.k .nil))) (i := 2) rfl osl_rsl (fun _ h => h.1) (Sr.nil _ _))) hs15) (fun v w hR a hf => ?_)
      obtain ⟨_, rfl, hs'⟩ | ⟨_, hc', _⟩ := hR
      case inr => rw [hps15] at hc'; cases hc'
      replace hs := hs.step (.k (.k (.k .nil))) hs'
      clear hs'
      refine stq hf rfl rfl rfl (ex_move hf rfl) (fun a hf => ?_)
      refine stq hf rfl rfl rfl (ex_extract hf rfl rfl) (fun a hf => ?_)
      refine stq hf rfl rfl rfl (ex_extract hf rfl rfl) (fun a hf => ?_)
      refine stq hf rfl rfl rfl (ex_assign hf rfl) (fun a hf => ?_)
      refine stq hf rfl rfl rfl (ex_assign hf rfl) (fun a hf => ?_)
      refine hK17 _ _ ?_
      refine hN14 _ _ ?_
      refine seq_n (fun Q18 hN18 hR18 hX18 => ?_)
      refine bnd H (fun x19 H19 HO19 => ?_)
      clear H
      refine seq_cut (fun a w => Fr a 224 [(4, v4), (5, v5), (13, .pointer (some ⟨b10, 0, none⟩)), (14, .int .i64 (s7.1.length : Int)), (15, .int .i64 (IntKind.i64.wrap (s7.2.2 + (IntKind.i64.wrap (Int.tmod (IntKind.u64.wrap a3) 60))))), (16, .pointer none), (65, .bool true)] ∧ St M w0 w [bx b10 38 [v8, v9, .int .i64 s7.2.2], osl K_api_HeatDomain v8 s7.1, osl K_api_HeatLink v9 s7.2.1]) (fun Q19 hJ19 hR19 hX19 => ?_) (fun a w hJ => ?_)
      · replace H := H19
        refine itt H (fun hc20 H => ?_) (fun hc20 H => ?_)
        · -- s15.2 = 0
          refine region_k (fun K21 hK21 => ?_)
          refine stq hf rfl rfl rfl (ex_move hf rfl) (fun a hf => ?_)
          refine stq hf rfl rfl rfl (ex_neq hf rfl rfl) (fun a hf => ?_)
          refine stq hf rfl rfl rfl (ex_move hf rfl) (fun a hf => ?_)
          replace hf := hf.castB (t := 61) rfl (ndec_f hc20)
          replace hf := hf.castB (t := 62) rfl (ndec_f hc20)
          refine stq hf rfl rfl rfl (ex_move hf rfl) (fun a hf => ?_)
          refine stq hf rfl rfl rfl (ex_eqp Try.underlying42 hf rfl rfl) (fun a hf => ?_)
          refine stq hf rfl rfl rfl (ex_pickF hf rfl rfl) (fun a hf => ?_)
          refine hK21 _ _ ?_
          have e19 := some_eq H; subst e19
          exact hJ19 _ _ ⟨hf.sub ⟨rfl, rfl, rfl, rfl, rfl, rfl, rfl, trivial⟩, hs⟩
        · -- not s15.2 = 0
          refine region_k (fun K22 hK22 => ?_)
          refine stq hf rfl rfl rfl (ex_move hf rfl) (fun a hf => ?_)
          refine stq hf rfl rfl rfl (ex_neq hf rfl rfl) (fun a hf => ?_)
          refine stq hf rfl rfl rfl (ex_move hf rfl) (fun a hf => ?_)
          replace hf := hf.castB (t := 61) rfl (ndec_t hc20)
          replace hf := hf.castB (t := 62) rfl (ndec_t hc20)
          refine stepN hf rfl rfl rfl (fun a hf => ?_)
          refine stepN hf rfl rfl rfl (fun a hf => ?_)
          refine stq hf rfl rfl rfl (ex_pickT hf rfl rfl) (fun a hf => ?_)
          refine hK22 _ _ ?_
          have e19 := some_eq H; subst e19
          exact hJ19 _ _ ⟨hf.sub ⟨rfl, rfl, rfl, rfl, rfl, rfl, rfl, trivial⟩, hs⟩
      · obtain ⟨hf, hs⟩ := hJ
        replace H := HO19
        clear HO19
        refine cond_T hf rfl ?_
        refine seq_reg (fun K23 hK23 => ?_)
        refine stq hf rfl rfl rfl (ex_assign hf rfl) (fun a hf => ?_)
        refine hK23 _ _ ?_
        refine wp_ret ?_
        refine hR18 _ _ ?_
        have eR := some_eq H; subst eR
        replace hs := hs.keep (.d (.d (.d .nil)))
        exact ret1 Try.results7 hf rfl ⟨_, rfl, ⟨rfl, hs⟩⟩
    | some c16 =>
      replace H := elim_s hps15 H
      refine region_k (fun K28 hK28 => ?_)
      refine stq hf rfl rfl rfl (ex_fieldAddrB fa_38_0 rfl hf rfl) (fun a hf => ?_)
      refine stq hf rfl rfl rfl (ex_load sc_35 hf rfl (bx_cell (hs.get (i := 0) rfl) _ rfl)) (fun a hf => ?_)
      refine stq hf rfl rfl rfl (ex_fieldAddrB fa_38_1 rfl hf rfl) (fun a hf => ?_)
      refine stq hf rfl rfl rfl (ex_load sc_36 hf rfl (bx_cell (hs.get (i := 0) rfl) _ rfl)) (fun a hf => ?_)
      refine stq hf rfl rfl rfl (ex_fieldAddrB fa_38_2 rfl hf rfl) (fun a hf => ?_)
      refine stq hf rfl rfl rfl (ex_load sc_2 hf rfl (bx_cell (hs.get (i := 0) rfl) _ rfl)) (fun a hf => ?_)
      refine stepF hf rfl rfl rfl (ex_call cf_15 hf rfl) (heat_New.calls k s7.1 s7.2.1 s7.2.2 v8 v9 (hs.enter (.k (.k (.k .nil)))) (Sr.own hs (.k (.k (.k .nil))) (i := 1) rfl osl_rsl (fun _ h => h.1) (Sr.own hs (.k (.k (.k .nil))) (i := 2) rfl osl_rsl (fun _ h => h.1) (Sr.nil _ _))) hs15) (fun v w hR a hf => ?_)
      obtain ⟨hc', _⟩ | ⟨cc, hc', b24, v25, v26, v27, rfl, hs'⟩ := hR
      case inl => rw [hps15] at hc'; cases hc'
      obtain rfl : c16 = cc := by rw [hps15] at hc'; exact Option.some.inj hc'
      replace hs := hs.step (.k (.k (.k .nil))) hs'
      clear hs'
      refine stq hf rfl rfl rfl (ex_move hf rfl) (fun a hf => ?_)
      refine stq hf rfl rfl rfl (ex_extract hf rfl rfl) (fun a hf => ?_)
      refine stq hf rfl rfl rfl (ex_extract hf rfl rfl) (fun a hf => ?_)
      refine stq hf rfl rfl rfl (ex_assign hf rfl) (fun a hf => ?_)
      refine stq hf rfl rfl rfl (ex_assign hf rfl) (fun a hf => ?_)
      refine hK28 _ _ ?_
      refine hN14 _ _ ?_
      refine seq_n (fun Q29 hN29 hR29 hX29 => ?_)
      refine bnd H (fun x30 H30 HO30 => ?_)
      clear H
      refine seq_cut (fun a w => Fr a 224 [(4, v4), (5, v5), (13, .pointer (some ⟨b10, 0, none⟩)), (14, .int .i64 (s7.1.length : Int)), (15, .int .i64 (IntKind.i64.wrap (s7.2.2 + (IntKind.i64.wrap (Int.tmod (IntKind.u64.wrap a3) 60))))), (16, .pointer (some ⟨b24, 0, none⟩)), (65, .bool x30)] ∧ St M w0 w [bx b10 38 [v8, v9, .int .i64 s7.2.2], osl K_api_HeatDomain v8 s7.1, osl K_api_HeatLink v9 s7.2.1, bx b24 89 [v25, v26, .int .i64 c16.2.2.1, v27, .int .i64 c16.2.2.2.2], osl K_api_HeatDomain v25 c16.1, osl K_api_HeatLink v26 c16.2.1, osl K_int64 v27 c16.2.2.2.1]) (fun Q30 hJ30 hR30 hX30 => ?_) (fun a w hJ => ?_)
      · replace H := H30
        refine itt H (fun hc31 H => ?_) (fun hc31 H => ?_)
        · -- s15.2 = 0
          refine region_k (fun K32 hK32 => ?_)
          refine stq hf rfl rfl rfl (ex_move hf rfl) (fun a hf => ?_)
          refine stq hf rfl rfl rfl (ex_neq hf rfl rfl) (fun a hf => ?_)
          refine stq hf rfl rfl rfl (ex_move hf rfl) (fun a hf => ?_)
          replace hf := hf.castB (t := 61) rfl (ndec_f hc31)
          replace hf := hf.castB (t := 62) rfl (ndec_f hc31)
          refine stq hf rfl rfl rfl (ex_move hf rfl) (fun a hf => ?_)
          refine stq hf rfl rfl rfl (ex_eqp Try.underlying42 hf rfl rfl) (fun a hf => ?_)
          refine stq hf rfl rfl rfl (ex_pickF hf rfl rfl) (fun a hf => ?_)
          refine hK32 _ _ ?_
          replace hs := hs.pick (.k (.k (.k (.c (.k (.k (.k .nil)))))))
          replace hs := hs.pick (.k (.k (.k (.c (.k (.k (.k .nil)))))))
          replace hs := hs.pick (.k (.k (.k (.c (.k (.k (.k .nil)))))))
          replace hs := hs.pick (.k (.k (.k (.c (.k (.k (.k .nil)))))))
          replace hs := hs.pick (.k (.k (.k (.k (.k (.k (.c .nil)))))))
          replace hs := hs.pick (.k (.k (.k (.k (.k (.k (.c .nil)))))))
          replace hs := hs.pick (.k (.k (.k (.k (.k (.k (.c .nil)))))))
          have e30 := some_eq H; subst e30
          exact hJ30 _ _ ⟨hf.sub ⟨rfl, rfl, rfl, rfl, rfl, rfl, rfl, trivial⟩, hs⟩
        · -- not s15.2 = 0
          refine region_k (fun K33 hK33 => ?_)
          refine stq hf rfl rfl rfl (ex_move hf rfl) (fun a hf => ?_)
          refine stq hf rfl rfl rfl (ex_neq hf rfl rfl) (fun a hf => ?_)
          refine stq hf rfl rfl rfl (ex_move hf rfl) (fun a hf => ?_)
          replace hf := hf.castB (t := 61) rfl (ndec_t hc31)
          replace hf := hf.castB (t := 62) rfl (ndec_t hc31)
          refine stepN hf rfl rfl rfl (fun a hf => ?_)
          refine stepN hf rfl rfl rfl (fun a hf => ?_)
          refine stq hf rfl rfl rfl (ex_pickT hf rfl rfl) (fun a hf => ?_)
          refine hK33 _ _ ?_
          replace hs := hs.pick (.k (.k (.k (.c (.k (.k (.k .nil)))))))
          replace hs := hs.pick (.k (.k (.k (.c (.k (.k (.k .nil)))))))
          replace hs := hs.pick (.k (.k (.k (.c (.k (.k (.k .nil)))))))
          replace hs := hs.pick (.k (.k (.k (.c (.k (.k (.k .nil)))))))
          replace hs := hs.pick (.k (.k (.k (.k (.k (.k (.c .nil)))))))
          replace hs := hs.pick (.k (.k (.k (.k (.k (.k (.c .nil)))))))
          replace hs := hs.pick (.k (.k (.k (.k (.k (.k (.c .nil)))))))
          have e30 := some_eq H; subst e30
          exact hJ30 _ _ ⟨hf.sub ⟨rfl, rfl, rfl, rfl, rfl, rfl, rfl, trivial⟩, hs⟩
      · obtain ⟨hf, hs⟩ := hJ
        replace H := HO30
        clear HO30
        refine itt H (fun hc34 H => ?_) (fun hc34 H => ?_)
        · -- x30 = true
          replace hf := hf.castB (t := 65) rfl hc34
          refine cond_T hf rfl ?_
          refine seq_reg (fun K35 hK35 => ?_)
          refine stq hf rfl rfl rfl (ex_assign hf rfl) (fun a hf => ?_)
          refine hK35 _ _ ?_
          refine wp_ret ?_
          refine hR29 _ _ ?_
          have eR := some_eq H; subst eR
          replace hs := hs.keep (.d (.d (.d (.d (.d (.d (.d .nil)))))))
          exact ret1 Try.results7 hf rfl ⟨_, rfl, ⟨rfl, hs⟩⟩
        · -- not x30 = true
          replace hf := hf.castB (t := 65) rfl (bool_f hc34)
          refine cond_F hf rfl ?_
          refine wp_skip ?_
          refine hN29 _ _ ?_
          refine ck_some H (fun hc36 H => ?_)
          refine seq_reg (fun K38 hK38 => ?_)
          refine stq hf rfl rfl rfl (ex_move hf rfl) (fun a hf => ?_)
          refine stepV hf rfl rfl rfl (er_makeSlice (K := K_api_Actor) hs Try.underlying60 ep_69 hc36.1 hc36.2 rfl hf rfl rfl) (fun v37 w hs a hf => ?_)
          refine stq hf rfl rfl rfl (ex_assign hf rfl) (fun a hf => ?_)
          refine hK38 _ _ ?_
          refine bnd H (fun x39 H39 HO39 => ?_)
          clear H
          refine seq_cut (fun a w => ∃ (x39s : (List Actor)), x39 = .go x39s ∧ Fr a 224 [(4, v4), (5, v5), (14, .int .i64 (s7.1.length : Int)), (15, .int .i64 (IntKind.i64.wrap (s7.2.2 + (IntKind.i64.wrap (Int.tmod (IntKind.u64.wrap a3) 60))))), (16, .pointer (some ⟨b24, 0, none⟩)), (18, v37)] ∧ St M w0 w [bx b24 89 [v25, v26, .int .i64 c16.2.2.1, v27, .int .i64 c16.2.2.2.2], osl K_api_HeatDomain v25 c16.1, osl K_api_HeatLink v26 c16.2.1, osl K_int64 v27 c16.2.2.2.1, osl K_api_Actor v37 x39s]) (fun Q39 hJ39 hR39 hX39 => ?_) (fun a w hJ => ?_)
          · replace H := H39
            refine seq_reg (fun K40 hK40 => ?_)
            refine stq hf rfl rfl rfl (ex_assign hf rfl) (fun a hf => ?_)
            refine hK40 _ _ ?_
            refine block_k (fun Q41 hN41 hR41 hX41 hY41 => ?_)
            refine loop_k (fun n a w => ∃ (y42 : (List Actor)) (y43 : Int), Fr a 224 [(4, v4), (5, v5), (13, .pointer (some ⟨b10, 0, none⟩)), (14, .int .i64 (s7.1.length : Int)), (15, .int .i64 (IntKind.i64.wrap (s7.2.2 + (IntKind.i64.wrap (Int.tmod (IntKind.u64.wrap a3) 60))))), (16, .pointer (some ⟨b24, 0, none⟩)), (18, v37), (19, .int .i64 y43)] ∧ St M w0 w [bx b10 38 [v8, v9, .int .i64 s7.2.2], osl K_api_HeatDomain v8 s7.1, osl K_api_HeatLink v9 s7.2.1, bx b24 89 [v25, v26, .int .i64 c16.2.2.1, v27, .int .i64 c16.2.2.2.2], osl K_api_HeatDomain v25 c16.1, osl K_api_HeatLink v26 c16.2.1, osl K_int64 v27 c16.2.2.2.1, osl K_api_Actor v37 y42] ∧ law39_ThermalDomainsKeepLimit.l1 n s7 a3 y42 y43 = some x39) k ?_ (fun n45 a w hI Q45 hL45 hR45 hX45 => ?_)
            · -- at the start
              replace hs := hs.pick (.k (.k (.k (.k (.k (.k (.k (.c .nil))))))))
              replace hs := hs.pick (.k (.k (.k (.k (.k (.k (.k (.c .nil))))))))
              replace hs := hs.pick (.k (.k (.k (.k (.k (.k (.k (.c .nil))))))))
              replace hs := hs.pick (.k (.k (.k (.k (.k (.k (.k (.c .nil))))))))
              replace hs := hs.pick (.k (.k (.k (.k (.k (.k (.k (.c .nil))))))))
              replace hs := hs.pick (.k (.k (.k (.k (.k (.k (.k (.c .nil))))))))
              replace hs := hs.pick (.k (.k (.k (.k (.k (.k (.k (.c .nil))))))))
              exact ⟨(List.replicate (s7.1.length : Int).toNat Actor.zero), 0, hf.sub ⟨rfl, rfl, rfl, rfl, rfl, rfl, rfl, rfl, trivial⟩, hs, H⟩
            · obtain ⟨y42, y43, hf, hs, H⟩ := hI
              cases n45 with
              | zero => exact absurd H (by rw [law39_ThermalDomainsKeepLimit.l1.eq_1]; intro h; cases h)
              | succ k45 =>
                replace H := (law39_ThermalDomainsKeepLimit.l1.eq_2 ..).symm.trans H
                refine seq_n (fun Q46 hN46 hR46 hX46 => ?_)
                refine seq_reg (fun K47 hK47 => ?_)
                refine stq hf rfl rfl rfl (ex_move hf rfl) (fun a hf => ?_)
                refine stq hf rfl rfl rfl (ex_move hf rfl) (fun a hf => ?_)
                refine stq hf rfl rfl rfl (ex_lss hf rfl rfl) (fun a hf => ?_)
                refine hK47 _ _ ?_
                refine itt H (fun hc48 H => ?_) (fun hc48 H => ?_)
                · -- y43 < (s7.1.length : Int)
                  replace hf := hf.castB (t := 70) rfl (dec_t hc48)
                  refine cond_T hf rfl ?_
                  refine wp_skip ?_
                  refine hN46 _ _ ?_
                  refine seq_n (fun Q49 hN49 hR49 hX49 => ?_)
                  refine block_k (fun Q50 hN50 hR50 hX50 hY50 => ?_)
                  refine seq_n (fun Q51 hN51 hR51 hX51 => ?_)
                  refine ck_some H (fun hc52 H => ?_)
                  refine bnd H (fun s53 hs53 H => ?_)
                  refine region_d fol 13 [(4, v4), (5, v5), (13, .pointer (some ⟨b10, 0, none⟩)), (14, .int .i64 (s7.1.length : Int)), (15, .int .i64 (IntKind.i64.wrap (s7.2.2 + (IntKind.i64.wrap (Int.tmod (IntKind.u64.wrap a3) 60))))), (16, .pointer (some ⟨b24, 0, none⟩)), (18, v37), (19, .int .i64 y43)] [(0, .pointer (some ⟨b10, 0, none⟩)), (1, v8), (2, .int .i64 y43), (3, .pointer (some (sla v8 (y43.toNat * 2)))), (4, .agg #[.int .i64 ((gd HeatDomain.zero s7.1 y43).Capacity), .int .i64 ((gd HeatDomain.zero s7.1 y43).Ambient)]), (5, .pointer (some ⟨b10, 2, none⟩)), (6, .int .i64 s7.2.2), (7, .int .i64 (IntKind.i64.wrap (s7.2.2 + (IntKind.i64.wrap (Int.tmod (IntKind.u64.wrap a3) 60)))))] [8] (fun w => (bx b10 38 [v8, v9, .int .i64 s7.2.2]).ok w ∧ (osl K_api_HeatDomain v8 s7.1).ok w ∧ True) (fun w => St M w0 w [bx b10 38 [v8, v9, .int .i64 s7.2.2], osl K_api_HeatDomain v8 s7.1, osl K_api_HeatLink v9 s7.2.1, bx b24 89 [v25, v26, .int .i64 c16.2.2.1, v27, .int .i64 c16.2.2.2.2], osl K_api_HeatDomain v25 c16.1, osl K_api_HeatLink v26 c16.2.1, osl K_int64 v27 c16.2.2.2.1, osl K_api_Actor v37 y42]) hf ⟨rfl, rfl, rfl, rfl, rfl, rfl, rfl, rfl, trivial⟩ (by kernel_rfl) (by kernel_rfl) rfl (by decide) ⟨hs.drew.get (i := 0) rfl, hs.drew.get (i := 1) rfl, trivial⟩ hs.drew (.cons (⟨_, _, rfl, rfl, rfl, rfl, fun a w hR hf => .inl ⟨wanted_yes hf rfl, ex_fieldAddrB fa_38_0 rfl hf rfl⟩⟩) (.cons (⟨_, _, rfl, rfl, rfl, rfl, fun a w hR hf => .inl ⟨wanted_yes hf rfl, ex_load sc_35 hf rfl (bx_cell (hR.1) _ rfl)⟩⟩) (.cons (⟨_, _, rfl, rfl, rfl, rfl, fun a w hR hf => .inl ⟨wanted_yes hf rfl, ex_move hf rfl⟩⟩) (.cons (⟨_, _, rfl, rfl, rfl, rfl, fun a w hR hf => .inl ⟨wanted_yes hf rfl, ex_indexAddr sa_35 (rsl_isSl (osl_rsl _ hR.2.1)) hc52.1 hc52.2 hf rfl rfl⟩⟩) (.cons (⟨_, _, rfl, rfl, rfl, rfl, fun a w hR hf => .inl ⟨wanted_yes hf rfl, ex_loadA (cs := [.int .i64 ((gd HeatDomain.zero s7.1 y43).Capacity), .int .i64 ((gd HeatDomain.zero s7.1 y43).Ambient)]) ag_33 hf rfl (el_cells (K := K_api_HeatDomain) (rsl_rd (osl_rsl _ hR.2.1)) hc52.1 hc52.2 rfl)⟩⟩) (.cons (⟨_, _, rfl, rfl, rfl, rfl, fun a w hR hf => .inl ⟨wanted_yes hf rfl, ex_fieldAddrB fa_38_2 rfl hf rfl⟩⟩) (.cons (⟨_, _, rfl, rfl, rfl, rfl, fun a w hR hf => .inl ⟨wanted_yes hf rfl, ex_load sc_2 hf rfl (bx_cell (hR.1) _ rfl)⟩⟩) (.cons (⟨_, _, rfl, rfl, rfl, rfl, fun a w hR hf => .inl ⟨wanted_yes hf rfl, ex_move hf rfl⟩⟩) (.nil))))))))) (fun K54 hK54 => ?_)
                  refine RW.one 8 (by kernel_rfl) (by kernel_rfl) rfl (fun d hd => by cases hd; rfl) [(78, .agg #[.int .i64 ((gd HeatDomain.zero s7.1 y43).Capacity), .int .i64 ((gd HeatDomain.zero s7.1 y43).Ambient)]), (80, .int .i64 s7.2.2), (81, .int .i64 (IntKind.i64.wrap (s7.2.2 + (IntKind.i64.wrap (Int.tmod (IntKind.u64.wrap a3) 60)))))] ⟨rfl, rfl, rfl, trivial⟩ (fun a w hR hs hf => ⟨wanted_yes hf rfl, ?_⟩)
                  refine estep_f (ex_call cf_14 hf rfl) (thermal_Sustainable.calls k45 (⟨((gd HeatDomain.zero s7.1 y43).Capacity), ((gd HeatDomain.zero s7.1 y43).Ambient)⟩ : HeatDomain) s7.2.2 (IntKind.i64.wrap (s7.2.2 + (IntKind.i64.wrap (Int.tmod (IntKind.u64.wrap a3) 60)))) (hs.enter (.k (.k (.k (.k (.k (.k (.k (.k .nil))))))))) (Sr.nil _ _) hs53) (fun v w hR => ?_)
                  obtain ⟨rfl, hs'⟩ := hR
                  replace hs := hs.step (.k (.k (.k (.k (.k (.k (.k (.k .nil)))))))) hs'
                  clear hs'
                  refine ⟨[(9, .tuple #[.int .i64 s53.1, .int .i64 s53.2]), (10, .int .i64 s53.1), (11, .int .i64 s53.2), (12, .int .i64 s53.1)], [(9, .tuple #[.int .i64 s53.1, .int .i64 s53.2]), (10, .int .i64 s53.1), (11, .int .i64 s53.2), (12, .int .i64 s53.1), (8, .tuple #[.int .i64 s53.1, .int .i64 s53.2]), (0, .pointer (some ⟨b10, 0, none⟩)), (1, v8), (2, .int .i64 y43), (3, .pointer (some (sla v8 (y43.toNat * 2)))), (4, .agg #[.int .i64 ((gd HeatDomain.zero s7.1 y43).Capacity), .int .i64 ((gd HeatDomain.zero s7.1 y43).Ambient)]), (5, .pointer (some ⟨b10, 2, none⟩)), (6, .int .i64 s7.2.2), (7, .int .i64 (IntKind.i64.wrap (s7.2.2 + (IntKind.i64.wrap (Int.tmod (IntKind.u64.wrap a3) 60)))))], [], (fun _ => True), (fun w => St M w0 w [bx b10 38 [v8, v9, .int .i64 s7.2.2], osl K_api_HeatDomain v8 s7.1, osl K_api_HeatLink v9 s7.2.1, bx b24 89 [v25, v26, .int .i64 c16.2.2.1, v27, .int .i64 c16.2.2.2.2], osl K_api_HeatDomain v25 c16.1, osl K_api_HeatLink v26 c16.2.1, osl K_int64 v27 c16.2.2.2.1, osl K_api_Actor v37 y42]), rfl, rfl, ⟨hs.get (i := 0) rfl, hs.get (i := 1) rfl, trivial⟩, trivial, hs, (by kernel_rfl), .cons (⟨_, _, rfl, rfl, rfl, rfl, fun a w hR hf => .inl ⟨wanted_yes hf rfl, ex_move hf rfl⟩⟩) (.cons (⟨_, _, rfl, rfl, rfl, rfl, fun a w hR hf => .inl ⟨wanted_yes hf rfl, ex_extract hf rfl rfl⟩⟩) (.cons (⟨_, _, rfl, rfl, rfl, rfl, fun a w hR hf => .inl ⟨wanted_yes hf rfl, ex_extract hf rfl rfl⟩⟩) (.cons (⟨_, _, rfl, rfl, rfl, rfl, fun a w hR hf => .inl ⟨wanted_yes hf rfl, ex_assign hf rfl⟩⟩) (.nil)))), ?_⟩
                  refine RW.zero (by kernel_rfl) (by kernel_rfl) [(4, v4), (5, v5), (13, .pointer (some ⟨b10, 0, none⟩)), (14, .int .i64 (s7.1.length : Int)), (15, .int .i64 (IntKind.i64.wrap (s7.2.2 + (IntKind.i64.wrap (Int.tmod (IntKind.u64.wrap a3) 60))))), (16, .pointer (some ⟨b24, 0, none⟩)), (18, v37), (19, .int .i64 y43), (20, .int .i64 s53.1), (84, .int .i64 s53.2)] ⟨rfl, rfl, rfl, rfl, rfl, rfl, rfl, rfl, rfl, rfl, trivial⟩ (fun a w hR hs hf => ?_)
                  refine stq hf rfl rfl rfl (ex_assign hf rfl) (fun a hf => ?_)
                  refine hK54 _ _ ?_
                  refine hN51 _ _ ?_
                  refine seq_n (fun Q55 hN55 hR55 hX55 => ?_)
                  refine bnd H (fun x56 H56 HO56 => ?_)
                  clear H
                  refine seq_cut (fun a w => Fr a 224 [(4, v4), (5, v5), (13, .pointer (some ⟨b10, 0, none⟩)), (14, .int .i64 (s7.1.length : Int)), (15, .int .i64 (IntKind.i64.wrap (s7.2.2 + (IntKind.i64.wrap (Int.tmod (IntKind.u64.wrap a3) 60))))), (16, .pointer (some ⟨b24, 0, none⟩)), (18, v37), (19, .int .i64 y43), (20, .int .i64 s53.1), (90, .bool x56)] ∧ St M w0 w [bx b10 38 [v8, v9, .int .i64 s7.2.2], osl K_api_HeatDomain v8 s7.1, osl K_api_HeatLink v9 s7.2.1, bx b24 89 [v25, v26, .int .i64 c16.2.2.1, v27, .int .i64 c16.2.2.2.2], osl K_api_HeatDomain v25 c16.1, osl K_api_HeatLink v26 c16.2.1, osl K_int64 v27 c16.2.2.2.1, osl K_api_Actor v37 y42]) (fun Q56 hJ56 hR56 hX56 => ?_) (fun a w hJ => ?_)
                  · replace H := H56
                    refine itt H (fun hc57 H => ?_) (fun hc57 H => ?_)
                    · -- s53.2 = 0
                      refine region_k (fun K58 hK58 => ?_)
                      refine stq hf rfl rfl rfl (ex_move hf rfl) (fun a hf => ?_)
                      refine stq hf rfl rfl rfl (ex_neq hf rfl rfl) (fun a hf => ?_)
                      refine stq hf rfl rfl rfl (ex_move hf rfl) (fun a hf => ?_)
                      replace hf := hf.castB (t := 86) rfl (ndec_f hc57)
                      replace hf := hf.castB (t := 87) rfl (ndec_f hc57)
                      refine stq hf rfl rfl rfl (ex_move hf rfl) (fun a hf => ?_)
                      refine stq hf rfl rfl rfl (ex_lss hf rfl rfl) (fun a hf => ?_)
                      refine stq hf rfl rfl rfl (ex_pickF hf rfl rfl) (fun a hf => ?_)
                      refine hK58 _ _ ?_
                      have e56 := some_eq H; subst e56
                      exact hJ56 _ _ ⟨hf.sub ⟨rfl, rfl, rfl, rfl, rfl, rfl, rfl, rfl, rfl, rfl, trivial⟩, hs⟩
                    · -- not s53.2 = 0
                      refine region_k (fun K59 hK59 => ?_)
                      refine stq hf rfl rfl rfl (ex_move hf rfl) (fun a hf => ?_)
                      refine stq hf rfl rfl rfl (ex_neq hf rfl rfl) (fun a hf => ?_)
                      refine stq hf rfl rfl rfl (ex_move hf rfl) (fun a hf => ?_)
                      replace hf := hf.castB (t := 86) rfl (ndec_t hc57)
                      replace hf := hf.castB (t := 87) rfl (ndec_t hc57)
                      refine stepN hf rfl rfl rfl (fun a hf => ?_)
                      refine stepN hf rfl rfl rfl (fun a hf => ?_)
                      refine stq hf rfl rfl rfl (ex_pickT hf rfl rfl) (fun a hf => ?_)
                      refine hK59 _ _ ?_
                      have e56 := some_eq H; subst e56
                      exact hJ56 _ _ ⟨hf.sub ⟨rfl, rfl, rfl, rfl, rfl, rfl, rfl, rfl, rfl, rfl, trivial⟩, hs⟩
                  · obtain ⟨hf, hs⟩ := hJ
                    replace H := HO56
                    clear HO56
                    refine itt H (fun hc60 H => ?_) (fun hc60 H => ?_)
                    · -- x56 = true
                      replace hf := hf.castB (t := 90) rfl hc60
                      refine cond_T hf rfl ?_
                      refine seq_reg (fun K61 hK61 => ?_)
                      refine stq hf rfl rfl rfl (ex_assign hf rfl) (fun a hf => ?_)
                      refine hK61 _ _ ?_
                      refine wp_ret ?_
                      refine hR55 _ _ ?_
                      refine hR50 _ _ ?_
                      refine hR49 _ _ ?_
                      refine hR45 _ _ ?_
                      refine hR41 _ _ ?_
                      have e39 := some_eq H; subst e39; replace H := el_rt HO39
                      refine hR39 _ _ ?_
                      have eR := some_eq H; subst eR
                      replace hs := hs.keep (.d (.d (.d (.d (.d (.d (.d (.d .nil))))))))
                      exact ret1 Try.results7 hf rfl ⟨_, rfl, ⟨rfl, hs⟩⟩
                    · -- not x56 = true
                      replace hf := hf.castB (t := 90) rfl (bool_f hc60)
                      refine cond_F hf rfl ?_
                      refine wp_skip ?_
                      refine hN55 _ _ ?_
                      refine ck_some H (fun hc62 H => ?_)
                      refine region_k (fun K63 hK63 => ?_)
                      refine stq hf rfl rfl rfl (ex_move hf rfl) (fun a hf => ?_)
                      refine stq hf rfl rfl rfl (ex_move hf rfl) (fun a hf => ?_)
                      refine stq hf rfl rfl rfl (ex_move hf rfl) (fun a hf => ?_)
                      refine stq hf rfl rfl rfl (ex_conv Try.underlying2 Try.underlying23 hf rfl) (fun a hf => ?_)
                      refine stq hf rfl rfl rfl (ex_indexAddr sa_60 (rsl_isSl (osl_rsl _ (hs.get (i := 7) rfl))) hc62.1 hc62.2 hf rfl rfl) (fun a hf => ?_)
                      refine stq hf rfl rfl rfl (ex_fieldAddrS fa_69_2 rfl hf rfl) (fun a hf => ?_)
                      refine stepS hf rfl rfl (er_storeE (K := K_api_Actor) (f := 2) (x' := (⟨((gd Actor.zero y42 y43).Request), ((gd Actor.zero y42 y43).Min), (IntKind.u64.wrap s53.1)⟩ : Actor)) hs (.k (.k (.k (.k (.k (.k (.k (.c .nil)))))))) hc62.1 hc62.2 hf rfl rfl rfl sz_23 rfl rfl) (fun w hs => ?_)
                      refine hK63 _ _ ?_
                      refine hN50 _ _ ?_
                      refine hN49 _ _ ?_
                      refine region_k (fun K64 hK64 => ?_)
                      refine stq hf rfl rfl rfl (ex_move hf rfl) (fun a hf => ?_)
                      refine stq hf rfl rfl rfl (ex_add hf rfl rfl) (fun a hf => ?_)
                      refine stq hf rfl rfl rfl (ex_assign hf rfl) (fun a hf => ?_)
                      refine hK64 _ _ ?_
                      replace hs := hs.pick (.k (.k (.k (.k (.k (.k (.k (.c .nil))))))))
                      replace hs := hs.pick (.k (.k (.k (.k (.k (.k (.k (.c .nil))))))))
                      replace hs := hs.pick (.k (.k (.k (.k (.k (.k (.k (.c .nil))))))))
                      replace hs := hs.pick (.k (.k (.k (.k (.k (.k (.k (.c .nil))))))))
                      replace hs := hs.pick (.k (.k (.k (.k (.k (.k (.k (.c .nil))))))))
                      replace hs := hs.pick (.k (.k (.k (.k (.k (.k (.k (.c .nil))))))))
                      replace hs := hs.pick (.k (.k (.k (.k (.k (.k (.k (.c .nil))))))))
                      exact hL45 k45 _ _ (Nat.lt_succ_self _) ⟨(y42.set y43.toNat (⟨((gd Actor.zero y42 y43).Request), ((gd Actor.zero y42 y43).Min), (IntKind.u64.wrap s53.1)⟩ : Actor)), (IntKind.i64.wrap (y43 + 1)), hf.sub ⟨rfl, rfl, rfl, rfl, rfl, rfl, rfl, rfl, trivial⟩, hs, H⟩
                · -- not y43 < (s7.1.length : Int)
                  replace hf := hf.castB (t := 70) rfl (dec_f hc48)
                  refine cond_F hf rfl ?_
                  refine wp_exit ?_
                  refine hX46 0 _ _ ?_
                  refine hX45 0 _ _ ?_
                  refine hX41 _ _ ?_
                  replace hs := hs.keep (.d (.d (.d (.k (.k (.k (.k (.k .nil))))))))
                  have e39 := some_eq H; subst e39
                  exact hJ39 _ _ ⟨_, rfl, hf.sub ⟨rfl, rfl, rfl, rfl, rfl, rfl, trivial⟩, hs⟩
          · obtain ⟨x39s, rfl, hf, hs⟩ := hJ
            replace H := el_go HO39
            clear HO39
            refine bnd H (fun x65 H65 HO65 => ?_)
            clear H
            refine seq_cut (fun a w => ∃ (x65s : Unit), x65 = .go x65s ∧ Fr a 224 [] ∧ St M w0 w []) (fun Q65 hJ65 hR65 hX65 => ?_) (fun a w hJ => ?_)
            · replace H := H65
              refine seq_reg (fun K66 hK66 => ?_)
              refine stq hf rfl rfl rfl (ex_assign hf rfl) (fun a hf => ?_)
              refine hK66 _ _ ?_
              refine block_k (fun Q67 hN67 hR67 hX67 hY67 => ?_)
              refine loop_k (fun n a w => ∃ (y69 : (List Int)) (y70 : Int) (y71 : (List Actor)) (y72 : Int) (v68 : Value), Fr a 224 [(4, v4), (5, v5), (14, .int .i64 (s7.1.length : Int)), (15, .int .i64 (IntKind.i64.wrap (s7.2.2 + (IntKind.i64.wrap (Int.tmod (IntKind.u64.wrap a3) 60))))), (16, .pointer (some ⟨b24, 0, none⟩)), (18, v37), (22, .int .i64 y72)] ∧ St M w0 w [bx b24 89 [v25, v26, .int .i64 c16.2.2.1, v68, .int .i64 y70], osl K_api_HeatDomain v25 c16.1, osl K_api_HeatLink v26 c16.2.1, osl K_int64 v68 y69, osl K_api_Actor v37 y71] ∧ law39_ThermalDomainsKeepLimit.l2 n a4 s7 a5 c16 a3 y69 y70 y71 y72 = some x65) k ?_ (fun n74 a w hI Q74 hL74 hR74 hX74 => ?_)
              · -- at the start
                exact ⟨c16.2.2.2.1, c16.2.2.2.2, x39s, 0, v27, hf.sub ⟨rfl, rfl, rfl, rfl, rfl, rfl, rfl, trivial⟩, hs, H⟩
              · obtain ⟨y69, y70, y71, y72, v68, hf, hs, H⟩ := hI
                cases n74 with
                | zero => exact absurd H (by rw [law39_ThermalDomainsKeepLimit.l2.eq_1]; intro h; cases h)
                | succ k74 =>
                  replace H := (law39_ThermalDomainsKeepLimit.l2.eq_2 ..).symm.trans H
                  refine seq_n (fun Q75 hN75 hR75 hX75 => ?_)
                  refine seq_reg (fun K76 hK76 => ?_)
                  refine stq hf rfl rfl rfl (ex_move hf rfl) (fun a hf => ?_)
                  refine stq hf rfl rfl rfl (ex_move hf rfl) (fun a hf => ?_)
                  refine stq hf rfl rfl rfl (ex_lenS Try.underlying62 (rsl_isSl (hr.now hs (i := 2) rfl)) hf rfl) (fun a hf => ?_)
                  refine stq hf rfl rfl rfl (ex_lss hf rfl rfl) (fun a hf => ?_)
                  refine hK76 _ _ ?_
                  refine itt H (fun hc77 H => ?_) (fun hc77 H => ?_)
                  · -- y72 < (a4.length : Int)
                    replace hf := hf.castB (t := 100) rfl (dec_t hc77)
                    refine cond_T hf rfl ?_
                    refine wp_skip ?_
                    refine hN75 _ _ ?_
                    refine bnd H (fun x78 H78 HO78 => ?_)
                    clear H
                    refine seq_cut (fun a w => ∃ (x78s : (List Int) × Int × (List Actor)) (v79 : Value), x78 = .go x78s ∧ Fr a 224 [(4, v4), (5, v5), (14, .int .i64 (s7.1.length : Int)), (15, .int .i64 (IntKind.i64.wrap (s7.2.2 + (IntKind.i64.wrap (Int.tmod (IntKind.u64.wrap a3) 60))))), (16, .pointer (some ⟨b24, 0, none⟩)), (18, v37), (22, .int .i64 y72)] ∧ St M w0 w [bx b24 89 [v25, v26, .int .i64 c16.2.2.1, v79, .int .i64 x78s.2.1], osl K_api_HeatDomain v25 c16.1, osl K_api_HeatLink v26 c16.2.1, osl K_int64 v79 x78s.1, osl K_api_Actor v37 x78s.2.2]) (fun Q78 hJ78 hR78 hX78 => ?_) (fun a w hJ => ?_)
                    · replace H := H78
                      refine block_k (fun Q80 hN80 hR80 hX80 hY80 => ?_)
                      refine bnd H (fun x81 H81 HO81 => ?_)
                      clear H
                      refine seq_cut (fun a w => Fr a 224 [(4, v4), (5, v5), (14, .int .i64 (s7.1.length : Int)), (15, .int .i64 (IntKind.i64.wrap (s7.2.2 + (IntKind.i64.wrap (Int.tmod (IntKind.u64.wrap a3) 60))))), (16, .pointer (some ⟨b24, 0, none⟩)), (18, v37), (22, .int .i64 y72)] ∧ St M w0 w [bx b24 89 [v25, v26, .int .i64 c16.2.2.1, v68, .int .i64 y70], osl K_api_HeatDomain v25 c16.1, osl K_api_HeatLink v26 c16.2.1, osl K_int64 v68 y69, osl K_api_Actor v37 x81]) (fun Q81 hJ81 hR81 hX81 => ?_) (fun a w hJ => ?_)
                      · replace H := H81
                        refine seq_reg (fun K82 hK82 => ?_)
                        refine stq hf rfl rfl rfl (ex_assign hf rfl) (fun a hf => ?_)
                        refine hK82 _ _ ?_
                        refine block_k (fun Q83 hN83 hR83 hX83 hY83 => ?_)
                        refine loop_k (fun n a w => ∃ (y84 : (List Actor)) (y85 : Int), Fr a 224 [(4, v4), (5, v5), (14, .int .i64 (s7.1.length : Int)), (15, .int .i64 (IntKind.i64.wrap (s7.2.2 + (IntKind.i64.wrap (Int.tmod (IntKind.u64.wrap a3) 60))))), (16, .pointer (some ⟨b24, 0, none⟩)), (18, v37), (22, .int .i64 y72), (23, .int .i64 y85)] ∧ St M w0 w [bx b24 89 [v25, v26, .int .i64 c16.2.2.1, v68, .int .i64 y70], osl K_api_HeatDomain v25 c16.1, osl K_api_HeatLink v26 c16.2.1, osl K_int64 v68 y69, osl K_api_Actor v37 y84] ∧ law39_ThermalDomainsKeepLimit.l3 n s7 y72 a5 y84 y85 = some x81) k74 ?_ (fun n87 a w hI Q87 hL87 hR87 hX87 => ?_)
                        · -- at the start
                          exact ⟨y71, 0, hf.sub ⟨rfl, rfl, rfl, rfl, rfl, rfl, rfl, rfl, trivial⟩, hs, H⟩
                        · obtain ⟨y84, y85, hf, hs, H⟩ := hI
                          cases n87 with
                          | zero => exact absurd H (by rw [law39_ThermalDomainsKeepLimit.l3.eq_1]; intro h; cases h)
                          | succ k87 =>
                            replace H := (law39_ThermalDomainsKeepLimit.l3.eq_2 ..).symm.trans H
                            refine seq_n (fun Q88 hN88 hR88 hX88 => ?_)
                            refine seq_reg (fun K89 hK89 => ?_)
                            refine stq hf rfl rfl rfl (ex_move hf rfl) (fun a hf => ?_)
                            refine stq hf rfl rfl rfl (ex_move hf rfl) (fun a hf => ?_)
                            refine stq hf rfl rfl rfl (ex_lss hf rfl rfl) (fun a hf => ?_)
                            refine hK89 _ _ ?_
                            refine itt H (fun hc90 H => ?_) (fun hc90 H => ?_)
                            · -- y85 < (s7.1.length : Int)
                              replace hf := hf.castB (t := 105) rfl (dec_t hc90)
                              refine cond_T hf rfl ?_
                              refine wp_skip ?_
                              refine hN88 _ _ ?_
                              refine bnd H (fun x91 H91 HO91 => ?_)
                              clear H
                              refine seq_cut (fun a w => Fr a 224 [(4, v4), (5, v5), (14, .int .i64 (s7.1.length : Int)), (15, .int .i64 (IntKind.i64.wrap (s7.2.2 + (IntKind.i64.wrap (Int.tmod (IntKind.u64.wrap a3) 60))))), (16, .pointer (some ⟨b24, 0, none⟩)), (18, v37), (22, .int .i64 y72), (23, .int .i64 y85)] ∧ St M w0 w [bx b24 89 [v25, v26, .int .i64 c16.2.2.1, v68, .int .i64 y70], osl K_api_HeatDomain v25 c16.1, osl K_api_HeatLink v26 c16.2.1, osl K_int64 v68 y69, osl K_api_Actor v37 x91]) (fun Q91 hJ91 hR91 hX91 => ?_) (fun a w hJ => ?_)
                              · replace H := H91
                                refine block_k (fun Q92 hN92 hR92 hX92 hY92 => ?_)
                                refine ck_some H (fun hc93 H => ?_)
                                refine seq_reg (fun K94 hK94 => ?_)
                                refine stq hf rfl rfl rfl (ex_move hf rfl) (fun a hf => ?_)
                                refine stq hf rfl rfl rfl (ex_move hf rfl) (fun a hf => ?_)
                                refine stq hf rfl rfl rfl (ex_move hf rfl) (fun a hf => ?_)
                                refine stq hf rfl rfl rfl (ex_move hf rfl) (fun a hf => ?_)
                                refine stq hf rfl rfl rfl (ex_add hf rfl rfl) (fun a hf => ?_)
                                refine stq hf rfl rfl rfl (ex_conv Try.underlying3 Try.underlying23 hf rfl) (fun a hf => ?_)
                                refine stq hf rfl rfl rfl (ex_indexAddr sa_60 (rsl_isSl (osl_rsl _ (hs.get (i := 4) rfl))) hc93.1 hc93.2 hf rfl rfl) (fun a hf => ?_)
                                refine stq hf rfl rfl rfl (ex_fieldAddrS fa_69_0 rfl hf rfl) (fun a hf => ?_)
                                refine stepS hf rfl rfl (er_storeE (K := K_api_Actor) (f := 0) (x' := (⟨(IntKind.u64.wrap (IntKind.i64.wrap (y72 + y85))), ((gd Actor.zero y84 y85).Min), ((gd Actor.zero y84 y85).Max)⟩ : Actor)) hs (.k (.k (.k (.k (.c .nil))))) hc93.1 hc93.2 hf rfl rfl rfl sz_23 rfl rfl) (fun w hs => ?_)
                                refine hK94 _ _ ?_
                                refine bnd H (fun x95 H95 HO95 => ?_)
                                clear H
                                refine seq_cut (fun a w => Fr a 224 [(4, v4), (5, v5), (14, .int .i64 (s7.1.length : Int)), (15, .int .i64 (IntKind.i64.wrap (s7.2.2 + (IntKind.i64.wrap (Int.tmod (IntKind.u64.wrap a3) 60))))), (16, .pointer (some ⟨b24, 0, none⟩)), (18, v37), (22, .int .i64 y72), (23, .int .i64 y85), (128, .bool x95)] ∧ St M w0 w [bx b24 89 [v25, v26, .int .i64 c16.2.2.1, v68, .int .i64 y70], osl K_api_HeatDomain v25 c16.1, osl K_api_HeatLink v26 c16.2.1, osl K_int64 v68 y69, osl K_api_Actor v37 (y84.set y85.toNat (⟨(IntKind.u64.wrap (IntKind.i64.wrap (y72 + y85))), ((gd Actor.zero y84 y85).Min), ((gd Actor.zero y84 y85).Max)⟩ : Actor))]) (fun Q95 hJ95 hR95 hX95 => ?_) (fun a w hJ => ?_)
                                · replace H := H95
                                  refine itt H (fun hc96 H => ?_) (fun hc96 H => ?_)
                                  · -- y72 < (a5.length : Int)
                                    refine ck_some H (fun hc97 H => ?_)
                                    refine region_k (fun K98 hK98 => ?_)
                                    refine stq hf rfl rfl rfl (ex_move hf rfl) (fun a hf => ?_)
                                    refine stq hf rfl rfl rfl (ex_move hf rfl) (fun a hf => ?_)
                                    refine stq hf rfl rfl rfl (ex_lenS Try.underlying67 (rsl2_isSl (hr.now hs (i := 3) rfl)) hf rfl) (fun a hf => ?_)
                                    refine stq hf rfl rfl rfl (ex_lss hf rfl rfl) (fun a hf => ?_)
                                    refine stq hf rfl rfl rfl (ex_move hf rfl) (fun a hf => ?_)
                                    replace hf := hf.castB (t := 119) rfl (dec_t hc96)
                                    replace hf := hf.castB (t := 120) rfl (dec_t hc96)
                                    refine stq hf rfl rfl rfl (ex_move hf rfl) (fun a hf => ?_)
                                    refine stq hf rfl rfl rfl (ex_move hf rfl) (fun a hf => ?_)
                                    refine stq hf rfl rfl rfl (ex_move hf rfl) (fun a hf => ?_)
                                    refine stq hf rfl rfl rfl (ex_indexAddr sa_67 (rsl2_isSl (hr.now hs (i := 3) rfl)) hc97.1 hc97.2 hf rfl rfl) (fun a hf => ?_)
                                    refine stq hf rfl rfl rfl (ex_load sc_62 hf rfl (rsl2_cell (hr.now hs (i := 3) rfl) hc97.1 hc97.2)) (fun a hf => ?_)
                                    refine stq hf rfl rfl rfl (ex_lenS Try.underlying62 (rsl_isSl (rsl2_rsl _ (hr.now hs (i := 3) rfl) hc97.1 hc97.2)) hf rfl) (fun a hf => ?_)
                                    refine stq hf rfl rfl rfl (ex_lss hf rfl rfl) (fun a hf => ?_)
                                    refine stq hf rfl rfl rfl (ex_pickT hf rfl rfl) (fun a hf => ?_)
                                    refine hK98 _ _ ?_
                                    replace hs := hs.pick (.k (.k (.k (.k (.c .nil)))))
                                    replace hs := hs.pick (.k (.k (.k (.k (.c .nil)))))
                                    replace hs := hs.pick (.k (.k (.k (.k (.c .nil)))))
                                    replace hs := hs.pick (.k (.k (.k (.k (.c .nil)))))
                                    have e95 := some_eq H; subst e95
                                    exact hJ95 _ _ ⟨hf.sub ⟨rfl, rfl, rfl, rfl, rfl, rfl, rfl, rfl, rfl, trivial⟩, hs⟩
                                  · -- not y72 < (a5.length : Int)
                                    refine region_k (fun K99 hK99 => ?_)
                                    refine stq hf rfl rfl rfl (ex_move hf rfl) (fun a hf => ?_)
                                    refine stq hf rfl rfl rfl (ex_move hf rfl) (fun a hf => ?_)
                                    refine stq hf rfl rfl rfl (ex_lenS Try.underlying67 (rsl2_isSl (hr.now hs (i := 3) rfl)) hf rfl) (fun a hf => ?_)
                                    refine stq hf rfl rfl rfl (ex_lss hf rfl rfl) (fun a hf => ?_)
                                    refine stq hf rfl rfl rfl (ex_move hf rfl) (fun a hf => ?_)
                                    replace hf := hf.castB (t := 119) rfl (dec_f hc96)
                                    replace hf := hf.castB (t := 120) rfl (dec_f hc96)
                                    refine stepN hf rfl rfl rfl (fun a hf => ?_)
                                    refine stepN hf rfl rfl rfl (fun a hf => ?_)
                                    refine stepN hf rfl rfl rfl (fun a hf => ?_)
                                    refine stepN hf rfl rfl rfl (fun a hf => ?_)
                                    refine stepN hf rfl rfl rfl (fun a hf => ?_)
                                    refine stepN hf rfl rfl rfl (fun a hf => ?_)
                                    refine stepN hf rfl rfl rfl (fun a hf => ?_)
                                    refine stq hf rfl rfl rfl (ex_pickF hf rfl rfl) (fun a hf => ?_)
                                    refine hK99 _ _ ?_
                                    replace hs := hs.pick (.k (.k (.k (.k (.c .nil)))))
                                    replace hs := hs.pick (.k (.k (.k (.k (.c .nil)))))
                                    replace hs := hs.pick (.k (.k (.k (.k (.c .nil)))))
                                    replace hs := hs.pick (.k (.k (.k (.k (.c .nil)))))
                                    have e95 := some_eq H; subst e95
                                    exact hJ95 _ _ ⟨hf.sub ⟨rfl, rfl, rfl, rfl, rfl, rfl, rfl, rfl, rfl, trivial⟩, hs⟩
                                · obtain ⟨hf, hs⟩ := hJ
                                  replace H := HO95
                                  clear HO95
                                  refine itt H (fun hc100 H => ?_) (fun hc100 H => ?_)
                                  · -- x95 = true
                                    replace hf := hf.castB (t := 128) rfl hc100
                                    refine cond_T hf rfl ?_
                                    refine ck_some H (fun hc101 H => ?_)
                                    refine ck_some H (fun hc102 H => ?_)
                                    refine ck_some H (fun hc103 H => ?_)
                                    refine region_k (fun K104 hK104 => ?_)
                                    refine stq hf rfl rfl rfl (ex_move hf rfl) (fun a hf => ?_)
                                    refine stq hf rfl rfl rfl (ex_move hf rfl) (fun a hf => ?_)
                                    refine stq hf rfl rfl rfl (ex_move hf rfl) (fun a hf => ?_)
                                    refine stq hf rfl rfl rfl (ex_move hf rfl) (fun a hf => ?_)
                                    refine stq hf rfl rfl rfl (ex_indexAddr sa_67 (rsl2_isSl (hr.now hs (i := 3) rfl)) hc101.1 hc101.2 hf rfl rfl) (fun a hf => ?_)
                                    refine stq hf rfl rfl rfl (ex_load sc_62 hf rfl (rsl2_cell (hr.now hs (i := 3) rfl) hc101.1 hc101.2)) (fun a hf => ?_)
                                    refine stq hf rfl rfl rfl (ex_move hf rfl) (fun a hf => ?_)
                                    refine stq hf rfl rfl rfl (ex_indexAddr sa_62 (rsl_isSl (rsl2_rsl _ (hr.now hs (i := 3) rfl) hc101.1 hc101.2)) hc102.1 hc102.2 hf rfl rfl) (fun a hf => ?_)
                                    refine stq hf rfl rfl rfl (ex_load sc_23 hf rfl (el_cell (K := K_uint64) (f := 0) (rsl_rd (rsl2_rsl _ (hr.now hs (i := 3) rfl) hc101.1 hc101.2)) hc102.1 hc102.2 rfl)) (fun a hf => ?_)
                                    refine stq hf rfl rfl rfl (ex_indexAddr sa_60 (rsl_isSl (osl_rsl _ (hs.get (i := 4) rfl))) hc103.1 hc103.2 hf rfl rfl) (fun a hf => ?_)
                                    refine stq hf rfl rfl rfl (ex_fieldAddrS fa_69_0 rfl hf rfl) (fun a hf => ?_)
                                    refine stepS hf rfl rfl (er_storeE (K := K_api_Actor) (f := 0) (x' := (⟨(gd 0 (gd [] a5 y72) y85), ((gd Actor.zero (y84.set y85.toNat (⟨(IntKind.u64.wrap (IntKind.i64.wrap (y72 + y85))), ((gd Actor.zero y84 y85).Min), ((gd Actor.zero y84 y85).Max)⟩ : Actor)) y85).Min), ((gd Actor.zero (y84.set y85.toNat (⟨(IntKind.u64.wrap (IntKind.i64.wrap (y72 + y85))), ((gd Actor.zero y84 y85).Min), ((gd Actor.zero y84 y85).Max)⟩ : Actor)) y85).Max)⟩ : Actor)) hs (.k (.k (.k (.k (.c .nil))))) hc103.1 hc103.2 hf rfl rfl rfl sz_23 rfl rfl) (fun w hs => ?_)
                                    refine hK104 _ _ ?_
                                    refine hN92 _ _ ?_
                                    replace hs := hs.pick (.k (.k (.k (.k (.c .nil)))))
                                    replace hs := hs.pick (.k (.k (.k (.k (.c .nil)))))
                                    replace hs := hs.pick (.k (.k (.k (.k (.c .nil)))))
                                    replace hs := hs.pick (.k (.k (.k (.k (.c .nil)))))
                                    have e91 := some_eq H; subst e91
                                    exact hJ91 _ _ ⟨hf.sub ⟨rfl, rfl, rfl, rfl, rfl, rfl, rfl, rfl, trivial⟩, hs⟩
                                  · -- not x95 = true
                                    replace hf := hf.castB (t := 128) rfl (bool_f hc100)
                                    refine cond_F hf rfl ?_
                                    refine wp_skip ?_
                                    refine hN92 _ _ ?_
                                    have e91 := some_eq H; subst e91
                                    exact hJ91 _ _ ⟨hf.sub ⟨rfl, rfl, rfl, rfl, rfl, rfl, rfl, rfl, trivial⟩, hs⟩
                              · obtain ⟨hf, hs⟩ := hJ
                                replace H := HO91
                                clear HO91
                                refine region_k (fun K105 hK105 => ?_)
                                refine stq hf rfl rfl rfl (ex_move hf rfl) (fun a hf => ?_)
                                refine stq hf rfl rfl rfl (ex_add hf rfl rfl) (fun a hf => ?_)
                                refine stq hf rfl rfl rfl (ex_assign hf rfl) (fun a hf => ?_)
                                refine hK105 _ _ ?_
                                exact hL87 k87 _ _ (Nat.lt_succ_self _) ⟨x91, (IntKind.i64.wrap (y85 + 1)), hf.sub ⟨rfl, rfl, rfl, rfl, rfl, rfl, rfl, rfl, trivial⟩, hs, H⟩
                            · -- not y85 < (s7.1.length : Int)
                              replace hf := hf.castB (t := 105) rfl (dec_f hc90)
                              refine cond_F hf rfl ?_
                              refine wp_exit ?_
                              refine hX88 4 _ _ ?_
                              refine hX87 4 _ _ ?_
                              refine hX83 _ _ ?_
                              have e81 := some_eq H; subst e81
                              exact hJ81 _ _ ⟨hf.sub ⟨rfl, rfl, rfl, rfl, rfl, rfl, rfl, trivial⟩, hs⟩
                      · obtain ⟨hf, hs⟩ := hJ
                        replace H := HO81
                        clear HO81
                        refine ck_some H (fun hc106 H => ?_)
                        refine bnd H (fun s107 hs107 H => ?_)
                        refine seq_reg (fun K109 hK109 => ?_)
                        refine stq hf rfl rfl rfl (ex_move hf rfl) (fun a hf => ?_)
                        refine stq hf rfl rfl rfl (ex_move hf rfl) (fun a hf => ?_)
                        refine stq hf rfl rfl rfl (ex_indexAddr sa_62 (rsl_isSl (hr.now hs (i := 2) rfl)) hc106.1 hc106.2 hf rfl rfl) (fun a hf => ?_)
                        refine stq hf rfl rfl rfl (ex_load sc_23 hf rfl (el_cell (K := K_uint64) (f := 0) (rsl_rd (hr.now hs (i := 2) rfl)) hc106.1 hc106.2 rfl)) (fun a hf => ?_)
                        refine stq hf rfl rfl rfl (ex_rem hf rfl rfl (by decide)) (fun a hf => ?_)
                        refine stq hf rfl rfl rfl (ex_move hf rfl) (fun a hf => ?_)
                        refine stepF hf rfl rfl rfl (ex_call cf_22 hf rfl) (thermal_Allocate.calls k74 (Int.tmod (gd 0 a4 y72) 600) x81 v37 (hs.enter (.k (.k (.k (.k (.k .nil)))))) (Sr.own hs (.k (.k (.k (.k (.k .nil))))) (i := 4) rfl osl_rsl (fun _ h => h.1) (Sr.nil _ _)) hs107) (fun v w hR a hf => ?_)
                        obtain ⟨v108, rfl, hs'⟩ := hR
                        replace hs := hs.step (.k (.k (.k (.k (.k .nil))))) hs'
                        clear hs'
                        refine stq hf rfl rfl rfl (ex_move hf rfl) (fun a hf => ?_)
                        refine stq hf rfl rfl rfl (ex_extract hf rfl rfl) (fun a hf => ?_)
                        refine stq hf rfl rfl rfl (ex_extract hf rfl rfl) (fun a hf => ?_)
                        refine stq hf rfl rfl rfl (ex_assign hf rfl) (fun a hf => ?_)
                        refine stq hf rfl rfl rfl (ex_assign hf rfl) (fun a hf => ?_)
                        refine hK109 _ _ ?_
                        refine seq_n (fun Q110 hN110 hR110 hX110 => ?_)
                        refine bnd H (fun x111 H111 HO111 => ?_)
                        clear H
                        refine seq_cut (fun a w => Fr a 224 [(4, v4), (5, v5), (14, .int .i64 (s7.1.length : Int)), (15, .int .i64 (IntKind.i64.wrap (s7.2.2 + (IntKind.i64.wrap (Int.tmod (IntKind.u64.wrap a3) 60))))), (16, .pointer (some ⟨b24, 0, none⟩)), (18, v37), (22, .int .i64 y72), (24, v108), (157, .bool x111)] ∧ St M w0 w [bx b24 89 [v25, v26, .int .i64 c16.2.2.1, v68, .int .i64 y70], osl K_api_HeatDomain v25 c16.1, osl K_api_HeatLink v26 c16.2.1, osl K_int64 v68 y69, osl K_api_Actor v37 x81, osl K_uint64 v108 s107.1]) (fun Q111 hJ111 hR111 hX111 => ?_) (fun a w hJ => ?_)
                        · replace H := H111
                          refine itt H (fun hc112 H => ?_) (fun hc112 H => ?_)
                          · -- s107.2 = 0
                            refine region_k (fun K113 hK113 => ?_)
                            refine stq hf rfl rfl rfl (ex_move hf rfl) (fun a hf => ?_)
                            refine stq hf rfl rfl rfl (ex_neq hf rfl rfl) (fun a hf => ?_)
                            refine stq hf rfl rfl rfl (ex_move hf rfl) (fun a hf => ?_)
                            replace hf := hf.castB (t := 151) rfl (ndec_f hc112)
                            replace hf := hf.castB (t := 152) rfl (ndec_f hc112)
                            refine stq hf rfl rfl rfl (ex_move hf rfl) (fun a hf => ?_)
                            refine stq hf rfl rfl rfl (ex_lenS Try.underlying62 (rsl_isSl (osl_rsl _ (hs.get (i := 0) rfl))) hf rfl) (fun a hf => ?_)
                            refine stq hf rfl rfl rfl (ex_move hf rfl) (fun a hf => ?_)
                            refine stq hf rfl rfl rfl (ex_neq hf rfl rfl) (fun a hf => ?_)
                            refine stq hf rfl rfl rfl (ex_pickF hf rfl rfl) (fun a hf => ?_)
                            refine hK113 _ _ ?_
                            replace hs := hs.pick (.k (.k (.k (.k (.k (.c .nil))))))
                            replace hs := hs.pick (.k (.k (.k (.k (.k (.c .nil))))))
                            replace hs := hs.pick (.k (.k (.k (.k (.k (.c .nil))))))
                            replace hs := hs.pick (.k (.k (.k (.k (.k (.c .nil))))))
                            replace hs := hs.pick (.k (.k (.k (.k (.k (.c .nil))))))
                            have e111 := some_eq H; subst e111
                            exact hJ111 _ _ ⟨hf.sub ⟨rfl, rfl, rfl, rfl, rfl, rfl, rfl, rfl, rfl, trivial⟩, hs⟩
                          · -- not s107.2 = 0
                            refine region_k (fun K114 hK114 => ?_)
                            refine stq hf rfl rfl rfl (ex_move hf rfl) (fun a hf => ?_)
                            refine stq hf rfl rfl rfl (ex_neq hf rfl rfl) (fun a hf => ?_)
                            refine stq hf rfl rfl rfl (ex_move hf rfl) (fun a hf => ?_)
                            replace hf := hf.castB (t := 151) rfl (ndec_t hc112)
                            replace hf := hf.castB (t := 152) rfl (ndec_t hc112)
                            refine stepN hf rfl rfl rfl (fun a hf => ?_)
                            refine stepN hf rfl rfl rfl (fun a hf => ?_)
                            refine stepN hf rfl rfl rfl (fun a hf => ?_)
                            refine stepN hf rfl rfl rfl (fun a hf => ?_)
                            refine stq hf rfl rfl rfl (ex_pickT hf rfl rfl) (fun a hf => ?_)
                            refine hK114 _ _ ?_
                            replace hs := hs.pick (.k (.k (.k (.k (.k (.c .nil))))))
                            replace hs := hs.pick (.k (.k (.k (.k (.k (.c .nil))))))
                            replace hs := hs.pick (.k (.k (.k (.k (.k (.c .nil))))))
                            replace hs := hs.pick (.k (.k (.k (.k (.k (.c .nil))))))
                            replace hs := hs.pick (.k (.k (.k (.k (.k (.c .nil))))))
                            have e111 := some_eq H; subst e111
                            exact hJ111 _ _ ⟨hf.sub ⟨rfl, rfl, rfl, rfl, rfl, rfl, rfl, rfl, rfl, trivial⟩, hs⟩
                        · obtain ⟨hf, hs⟩ := hJ
                          replace H := HO111
                          clear HO111
                          refine itt H (fun hc115 H => ?_) (fun hc115 H => ?_)
                          · -- x111 = true
                            replace hf := hf.castB (t := 157) rfl hc115
                            refine cond_T hf rfl ?_
                            refine seq_reg (fun K116 hK116 => ?_)
                            refine stq hf rfl rfl rfl (ex_assign hf rfl) (fun a hf => ?_)
                            refine hK116 _ _ ?_
                            refine wp_ret ?_
                            refine hR110 _ _ ?_
                            refine hR80 _ _ ?_
                            have e78 := some_eq H; subst e78; replace H := el_rt HO78
                            refine hR78 _ _ ?_
                            refine hR74 _ _ ?_
                            refine hR67 _ _ ?_
                            have e65 := some_eq H; subst e65; replace H := el_rt HO65
                            refine hR65 _ _ ?_
                            have eR := some_eq H; subst eR
                            replace hs := hs.keep (.d (.d (.d (.d (.d (.d .nil))))))
                            exact ret1 Try.results7 hf rfl ⟨_, rfl, ⟨rfl, hs⟩⟩
                          · -- not x111 = true
                            replace hf := hf.castB (t := 157) rfl (bool_f hc115)
                            refine cond_F hf rfl ?_
                            refine wp_skip ?_
                            refine hN110 _ _ ?_
                            refine seq_reg (fun K118 hK118 => ?_)
                            refine stq hf rfl rfl rfl (ex_move hf rfl) (fun a hf => ?_)
                            refine stepV hf rfl rfl rfl (er_makeSlice (K := K_int64) hs Try.underlying34 ep_2 hc36.1 hc36.2 rfl hf rfl rfl) (fun v117 w hs a hf => ?_)
                            refine stq hf rfl rfl rfl (ex_assign hf rfl) (fun a hf => ?_)
                            refine hK118 _ _ ?_
                            refine seq_reg (fun K119 hK119 => ?_)
                            refine stq hf rfl rfl rfl (ex_assign hf rfl) (fun a hf => ?_)
                            refine hK119 _ _ ?_
                            refine bnd H (fun x120 H120 HO120 => ?_)
                            clear H
                            refine seq_cut (fun a w => ∃ (x120s : (List Int) × Int), x120 = .go x120s ∧ Fr a 224 [(4, v4), (5, v5), (14, .int .i64 (s7.1.length : Int)), (15, .int .i64 (IntKind.i64.wrap (s7.2.2 + (IntKind.i64.wrap (Int.tmod (IntKind.u64.wrap a3) 60))))), (16, .pointer (some ⟨b24, 0, none⟩)), (18, v37), (22, .int .i64 y72), (26, v117), (27, .int .u64 x120s.2)] ∧ St M w0 w [bx b24 89 [v25, v26, .int .i64 c16.2.2.1, v68, .int .i64 y70], osl K_api_HeatDomain v25 c16.1, osl K_api_HeatLink v26 c16.2.1, osl K_int64 v68 y69, osl K_api_Actor v37 x81, osl K_int64 v117 x120s.1]) (fun Q120 hJ120 hR120 hX120 => ?_) (fun a w hJ => ?_)
                            · replace H := H120
                              refine seq_reg (fun K121 hK121 => ?_)
                              refine stq hf rfl rfl rfl (ex_assign hf rfl) (fun a hf => ?_)
                              refine hK121 _ _ ?_
                              refine block_k (fun Q122 hN122 hR122 hX122 hY122 => ?_)
                              refine loop_k (fun n a w => ∃ (y123 : (List Int)) (y124 : Int) (y125 : Int), Fr a 224 [(4, v4), (5, v5), (14, .int .i64 (s7.1.length : Int)), (15, .int .i64 (IntKind.i64.wrap (s7.2.2 + (IntKind.i64.wrap (Int.tmod (IntKind.u64.wrap a3) 60))))), (16, .pointer (some ⟨b24, 0, none⟩)), (18, v37), (22, .int .i64 y72), (24, v108), (26, v117), (27, .int .u64 y124), (28, .int .i64 y125)] ∧ St M w0 w [bx b24 89 [v25, v26, .int .i64 c16.2.2.1, v68, .int .i64 y70], osl K_api_HeatDomain v25 c16.1, osl K_api_HeatLink v26 c16.2.1, osl K_int64 v68 y69, osl K_api_Actor v37 x81, osl K_uint64 v108 s107.1, osl K_int64 v117 y123] ∧ law39_ThermalDomainsKeepLimit.l4 n s7 s107 x81 y123 y124 y125 = some x120) k74 ?_ (fun n127 a w hI Q127 hL127 hR127 hX127 => ?_)
                              · -- at the start
                                replace hs := hs.pick (.k (.k (.k (.k (.k (.k (.c .nil)))))))
                                replace hs := hs.pick (.k (.k (.k (.k (.k (.k (.c .nil)))))))
                                replace hs := hs.pick (.k (.k (.k (.k (.k (.k (.c .nil)))))))
                                replace hs := hs.pick (.k (.k (.k (.k (.k (.k (.c .nil)))))))
                                replace hs := hs.pick (.k (.k (.k (.k (.k (.k (.c .nil)))))))
                                replace hs := hs.pick (.k (.k (.k (.k (.k (.k (.c .nil)))))))
                                exact ⟨(List.replicate (s7.1.length : Int).toNat 0), 0, 0, hf.sub ⟨rfl, rfl, rfl, rfl, rfl, rfl, rfl, rfl, rfl, rfl, rfl, trivial⟩, hs, H⟩
                              · obtain ⟨y123, y124, y125, hf, hs, H⟩ := hI
                                cases n127 with
                                | zero => exact absurd H (by rw [law39_ThermalDomainsKeepLimit.l4.eq_1]; intro h; cases h)
                                | succ k127 =>
                                  replace H := (law39_ThermalDomainsKeepLimit.l4.eq_2 ..).symm.trans H
                                  refine seq_n (fun Q128 hN128 hR128 hX128 => ?_)
                                  refine seq_reg (fun K129 hK129 => ?_)
                                  refine stq hf rfl rfl rfl (ex_move hf rfl) (fun a hf => ?_)
                                  refine stq hf rfl rfl rfl (ex_move hf rfl) (fun a hf => ?_)
                                  refine stq hf rfl rfl rfl (ex_lss hf rfl rfl) (fun a hf => ?_)
                                  refine hK129 _ _ ?_
                                  refine itt H (fun hc130 H => ?_) (fun hc130 H => ?_)
                                  · -- y125 < (s7.1.length : Int)
                                    replace hf := hf.castB (t := 162) rfl (dec_t hc130)
                                    refine cond_T hf rfl ?_
                                    refine wp_skip ?_
                                    refine hN128 _ _ ?_
                                    refine seq_n (fun Q131 hN131 hR131 hX131 => ?_)
                                    refine block_k (fun Q132 hN132 hR132 hX132 hY132 => ?_)
                                    refine seq_n (fun Q133 hN133 hR133 hX133 => ?_)
                                    refine seq_n (fun Q134 hN134 hR134 hX134 => ?_)
                                    refine ck_some H (fun hc135 H => ?_)
                                    refine ck_some H (fun hc136 H => ?_)
                                    refine region_d fol 10 [(4, v4), (5, v5), (14, .int .i64 (s7.1.length : Int)), (15, .int .i64 (IntKind.i64.wrap (s7.2.2 + (IntKind.i64.wrap (Int.tmod (IntKind.u64.wrap a3) 60))))), (16, .pointer (some ⟨b24, 0, none⟩)), (18, v37), (22, .int .i64 y72), (24, v108), (26, v117), (27, .int .u64 y124), (28, .int .i64 y125)] [(0, v108), (1, .int .i64 y125), (2, .pointer (some (sla v108 (y125.toNat * 1)))), (3, .int .u64 (gd 0 s107.1 y125)), (4, v37), (5, .int .i64 y125), (6, .pointer (some (sla v37 (y125.toNat * 3)))), (7, .pointer (some (sla v37 (y125.toNat * 3 + 2)))), (8, .int .u64 ((gd Actor.zero x81 y125).Max)), (9, .bool (decide (((gd Actor.zero x81 y125).Max) < (gd 0 s107.1 y125))))] [] (fun w => (osl K_uint64 v108 s107.1).ok w ∧ (osl K_api_Actor v37 x81).ok w ∧ True) (fun w => St M w0 w [bx b24 89 [v25, v26, .int .i64 c16.2.2.1, v68, .int .i64 y70], osl K_api_HeatDomain v25 c16.1, osl K_api_HeatLink v26 c16.2.1, osl K_int64 v68 y69, osl K_api_Actor v37 x81, osl K_uint64 v108 s107.1, osl K_int64 v117 y123]) hf ⟨rfl, rfl, rfl, rfl, rfl, rfl, rfl, rfl, rfl, rfl, rfl, trivial⟩ (by kernel_rfl) (by kernel_rfl) rfl (by decide) ⟨hs.drew.get (i := 5) rfl, hs.drew.get (i := 4) rfl, trivial⟩ hs.drew (.cons (⟨_, _, rfl, rfl, rfl, rfl, fun a w hR hf => .inl ⟨wanted_yes hf rfl, ex_move hf rfl⟩⟩) (.cons (⟨_, _, rfl, rfl, rfl, rfl, fun a w hR hf => .inl ⟨wanted_yes hf rfl, ex_move hf rfl⟩⟩) (.cons (⟨_, _, rfl, rfl, rfl, rfl, fun a w hR hf => .inl ⟨wanted_yes hf rfl, ex_indexAddr sa_62 (rsl_isSl (osl_rsl _ hR.1)) hc135.1 hc135.2 hf rfl rfl⟩⟩) (.cons (⟨_, _, rfl, rfl, rfl, rfl, fun a w hR hf => .inl ⟨wanted_yes hf rfl, ex_load sc_23 hf rfl (el_cell (K := K_uint64) (f := 0) (rsl_rd (osl_rsl _ hR.1)) hc135.1 hc135.2 rfl)⟩⟩) (.cons (⟨_, _, rfl, rfl, rfl, rfl, fun a w hR hf => .inl ⟨wanted_yes hf rfl, ex_move hf rfl⟩⟩) (.cons (⟨_, _, rfl, rfl, rfl, rfl, fun a w hR hf => .inl ⟨wanted_yes hf rfl, ex_move hf rfl⟩⟩) (.cons (⟨_, _, rfl, rfl, rfl, rfl, fun a w hR hf => .inl ⟨wanted_yes hf rfl, ex_indexAddr sa_60 (rsl_isSl (osl_rsl _ hR.2.1)) hc136.1 hc136.2 hf rfl rfl⟩⟩) (.cons (⟨_, _, rfl, rfl, rfl, rfl, fun a w hR hf => .inl ⟨wanted_yes hf rfl, ex_fieldAddrS fa_69_2 rfl hf rfl⟩⟩) (.cons (⟨_, _, rfl, rfl, rfl, rfl, fun a w hR hf => .inl ⟨wanted_yes hf rfl, ex_load sc_23 hf rfl (el_cell (K := K_api_Actor) (f := 2) (rsl_rd (osl_rsl _ hR.2.1)) hc136.1 hc136.2 rfl)⟩⟩) (.cons (⟨_, _, rfl, rfl, rfl, rfl, fun a w hR hf => .inl ⟨wanted_yes hf rfl, ex_gtr hf rfl rfl⟩⟩) (.nil))))))))))) (fun K137 hK137 => ?_)
                                    refine RW.zero (by kernel_rfl) (by kernel_rfl) [(4, v4), (5, v5), (14, .int .i64 (s7.1.length : Int)), (15, .int .i64 (IntKind.i64.wrap (s7.2.2 + (IntKind.i64.wrap (Int.tmod (IntKind.u64.wrap a3) 60))))), (16, .pointer (some ⟨b24, 0, none⟩)), (18, v37), (22, .int .i64 y72), (24, v108), (26, v117), (27, .int .u64 y124), (28, .int .i64 y125), (174, .bool (decide (((gd Actor.zero x81 y125).Max) < (gd 0 s107.1 y125))))] ⟨rfl, rfl, rfl, rfl, rfl, rfl, rfl, rfl, rfl, rfl, rfl, rfl, trivial⟩ (fun a w hR hs hf => ?_)
                                    refine hK137 _ _ ?_
                                    refine hN134 _ _ ?_
                                    refine itt H (fun hc138 H => ?_) (fun hc138 H => ?_)
                                    · -- ((gd Actor.zero x81 y125).Max) < (gd 0 s107.1 y125)
                                      replace hf := hf.castB (t := 174) rfl (dec_t hc138)
                                      refine cond_T hf rfl ?_
                                      refine seq_reg (fun K139 hK139 => ?_)
                                      refine stq hf rfl rfl rfl (ex_assign hf rfl) (fun a hf => ?_)
                                      refine hK139 _ _ ?_
                                      refine wp_ret ?_
                                      refine hR133 _ _ ?_
                                      refine hR132 _ _ ?_
                                      refine hR131 _ _ ?_
                                      refine hR127 _ _ ?_
                                      refine hR122 _ _ ?_
                                      have e120 := some_eq H; subst e120; replace H := el_rt HO120
                                      refine hR120 _ _ ?_
                                      refine hR80 _ _ ?_
                                      have e78 := some_eq H; subst e78; replace H := el_rt HO78
                                      refine hR78 _ _ ?_
                                      refine hR74 _ _ ?_
                                      refine hR67 _ _ ?_
                                      have e65 := some_eq H; subst e65; replace H := el_rt HO65
                                      refine hR65 _ _ ?_
                                      have eR := some_eq H; subst eR
                                      replace hs := hs.keep (.d (.d (.d (.d (.d (.d (.d .nil)))))))
                                      exact ret1 Try.results7 hf rfl ⟨_, rfl, ⟨rfl, hs⟩⟩
                                    · -- not ((gd Actor.zero x81 y125).Max) < (gd 0 s107.1 y125)
                                      replace hf := hf.castB (t := 174) rfl (dec_f hc138)
                                      refine cond_F hf rfl ?_
                                      refine wp_skip ?_
                                      refine hN133 _ _ ?_
                                      refine ck_some H (fun hc140 H => ?_)
                                      refine seq_reg (fun K141 hK141 => ?_)
                                      refine stq hf rfl rfl rfl (ex_move hf rfl) (fun a hf => ?_)
                                      refine stq hf rfl rfl rfl (ex_move hf rfl) (fun a hf => ?_)
                                      refine stq hf rfl rfl rfl (ex_move hf rfl) (fun a hf => ?_)
                                      refine stq hf rfl rfl rfl (ex_move hf rfl) (fun a hf => ?_)
                                      refine stq hf rfl rfl rfl (ex_indexAddr sa_62 (rsl_isSl (osl_rsl _ (hs.get (i := 5) rfl))) hc135.1 hc135.2 hf rfl rfl) (fun a hf => ?_)
                                      refine stq hf rfl rfl rfl (ex_load sc_23 hf rfl (el_cell (K := K_uint64) (f := 0) (rsl_rd (osl_rsl _ (hs.get (i := 5) rfl))) hc135.1 hc135.2 rfl)) (fun a hf => ?_)
                                      refine stq hf rfl rfl rfl (ex_conv Try.underlying23 Try.underlying2 hf rfl) (fun a hf => ?_)
                                      refine stq hf rfl rfl rfl (ex_indexAddr sa_34 (rsl_isSl (osl_rsl _ (hs.get (i := 6) rfl))) hc140.1 hc140.2 hf rfl rfl) (fun a hf => ?_)
                                      refine stepS hf rfl rfl (er_storeE (K := K_int64) (f := 0) (x' := (IntKind.i64.wrap (gd 0 s107.1 y125))) hs (.k (.k (.k (.k (.k (.k (.c .nil))))))) hc140.1 hc140.2 hf rfl rfl rfl sz_2 rfl rfl) (fun w hs => ?_)
                                      refine hK141 _ _ ?_
                                      refine region_k (fun K142 hK142 => ?_)
                                      refine stq hf rfl rfl rfl (ex_move hf rfl) (fun a hf => ?_)
                                      refine stq hf rfl rfl rfl (ex_move hf rfl) (fun a hf => ?_)
                                      refine stq hf rfl rfl rfl (ex_move hf rfl) (fun a hf => ?_)
                                      refine stq hf rfl rfl rfl (ex_indexAddr sa_62 (rsl_isSl (osl_rsl _ (hs.get (i := 6) rfl))) hc135.1 hc135.2 hf rfl rfl) (fun a hf => ?_)
                                      refine stq hf rfl rfl rfl (ex_load sc_23 hf rfl (el_cell (K := K_uint64) (f := 0) (rsl_rd (osl_rsl _ (hs.get (i := 6) rfl))) hc135.1 hc135.2 rfl)) (fun a hf => ?_)
                                      refine stq hf rfl rfl rfl (ex_add hf rfl rfl) (fun a hf => ?_)
                                      refine stq hf rfl rfl rfl (ex_assign hf rfl) (fun a hf => ?_)
                                      refine hK142 _ _ ?_
                                      refine hN132 _ _ ?_
                                      refine hN131 _ _ ?_
                                      refine region_k (fun K143 hK143 => ?_)
                                      refine stq hf rfl rfl rfl (ex_move hf rfl) (fun a hf => ?_)
                                      refine stq hf rfl rfl rfl (ex_add hf rfl rfl) (fun a hf => ?_)
                                      refine stq hf rfl rfl rfl (ex_assign hf rfl) (fun a hf => ?_)
                                      refine hK143 _ _ ?_
                                      replace hs := hs.pick (.k (.k (.k (.k (.k (.k (.c .nil)))))))
                                      replace hs := hs.pick (.k (.k (.k (.k (.k (.k (.c .nil)))))))
                                      replace hs := hs.pick (.k (.k (.k (.k (.k (.k (.c .nil)))))))
                                      replace hs := hs.pick (.k (.k (.k (.k (.k (.k (.c .nil)))))))
                                      replace hs := hs.pick (.k (.k (.k (.k (.k (.k (.c .nil)))))))
                                      replace hs := hs.pick (.k (.k (.k (.k (.k (.k (.c .nil)))))))
                                      exact hL127 k127 _ _ (Nat.lt_succ_self _) ⟨(y123.set y125.toNat (IntKind.i64.wrap (gd 0 s107.1 y125))), (IntKind.u64.wrap (y124 + (gd 0 s107.1 y125))), (IntKind.i64.wrap (y125 + 1)), hf.sub ⟨rfl, rfl, rfl, rfl, rfl, rfl, rfl, rfl, rfl, rfl, rfl, trivial⟩, hs, H⟩
                                  · -- not y125 < (s7.1.length : Int)
                                    replace hf := hf.castB (t := 162) rfl (dec_f hc130)
                                    refine cond_F hf rfl ?_
                                    refine wp_exit ?_
                                    refine hX128 6 _ _ ?_
                                    refine hX127 6 _ _ ?_
                                    refine hX122 _ _ ?_
                                    replace hs := hs.keep (.k (.k (.k (.k (.k (.d (.k .nil)))))))
                                    have e120 := some_eq H; subst e120
                                    exact hJ120 _ _ ⟨_, rfl, hf.sub ⟨rfl, rfl, rfl, rfl, rfl, rfl, rfl, rfl, rfl, trivial⟩, hs⟩
                            · obtain ⟨x120s, rfl, hf, hs⟩ := hJ
                              replace H := el_go HO120
                              clear HO120
                              refine bnd H (fun s144 hs144 H => ?_)
                              refine seq_reg (fun K147 hK147 => ?_)
                              refine stq hf rfl rfl rfl (ex_move hf rfl) (fun a hf => ?_)
                              refine stq hf rfl rfl rfl (ex_move hf rfl) (fun a hf => ?_)
                              refine stepF hf rfl rfl rfl (ex_call cf_17 hf rfl) (heat_Model_Step.calls k74 c16.1 c16.2.1 c16.2.2.1 y69 y70 x120s.1 b24 v25 v26 v68 v117 (hs.enter (.c (.k (.k (.c (.k (.k .nil))))))) (Sr.own hs (.c (.k (.k (.c (.k (.k .nil)))))) (i := 0) rfl osl_rsl (fun _ h => h.1) (Sr.own hs (.c (.k (.k (.c (.k (.k .nil)))))) (i := 1) rfl osl_rsl (fun _ h => h.1) (Sr.own hs (.c (.k (.k (.c (.k (.k .nil)))))) (i := 3) rfl osl_rsl (fun _ h => h.1) (Sr.nil _ _)))) hs144) (fun v w hR a hf => ?_)
                              obtain ⟨v145, v146, rfl, hs'⟩ := hR
                              replace hs := hs.step (.c (.k (.k (.c (.k (.k .nil)))))) hs'
                              clear hs'
                              refine stq hf rfl rfl rfl (ex_move hf rfl) (fun a hf => ?_)
                              refine stq hf rfl rfl rfl (ex_extract hf rfl rfl) (fun a hf => ?_)
                              refine stq hf rfl rfl rfl (ex_extract hf rfl rfl) (fun a hf => ?_)
                              refine stq hf rfl rfl rfl (ex_assign hf rfl) (fun a hf => ?_)
                              refine stq hf rfl rfl rfl (ex_assign hf rfl) (fun a hf => ?_)
                              refine hK147 _ _ ?_
                              refine seq_n (fun Q148 hN148 hR148 hX148 => ?_)
                              refine bnd H (fun x149 H149 HO149 => ?_)
                              clear H
                              refine seq_cut (fun a w => Fr a 224 [(4, v4), (5, v5), (14, .int .i64 (s7.1.length : Int)), (15, .int .i64 (IntKind.i64.wrap (s7.2.2 + (IntKind.i64.wrap (Int.tmod (IntKind.u64.wrap a3) 60))))), (16, .pointer (some ⟨b24, 0, none⟩)), (18, v37), (22, .int .i64 y72), (29, v146), (211, .bool x149)] ∧ St M w0 w [bx b24 89 [v25, v26, .int .i64 c16.2.2.1, v145, .int .i64 s144.1], osl K_api_HeatDomain v25 c16.1, osl K_api_HeatLink v26 c16.2.1, osl K_int64 v145 s144.2.1, osl K_api_Actor v37 x81, osl K_int64 v146 s144.2.2.1]) (fun Q149 hJ149 hR149 hX149 => ?_) (fun a w hJ => ?_)
                              · replace H := H149
                                refine itt H (fun hc150 H => ?_) (fun hc150 H => ?_)
                                · -- s144.2.2.2 = 0
                                  refine itt H (fun hc151 H => ?_) (fun hc151 H => ?_)
                                  · -- (s144.2.2.1.length : Int) = (s7.1.length : Int)
                                    refine region_k (fun K152 hK152 => ?_)
                                    refine stq hf rfl rfl rfl (ex_move hf rfl) (fun a hf => ?_)
                                    refine stq hf rfl rfl rfl (ex_neq hf rfl rfl) (fun a hf => ?_)
                                    refine stq hf rfl rfl rfl (ex_move hf rfl) (fun a hf => ?_)
                                    replace hf := hf.castB (t := 196) rfl (ndec_f hc150)
                                    replace hf := hf.castB (t := 197) rfl (ndec_f hc150)
                                    refine stq hf rfl rfl rfl (ex_move hf rfl) (fun a hf => ?_)
                                    refine stq hf rfl rfl rfl (ex_lenS Try.underlying34 (rsl_isSl (osl_rsl _ (hs.get (i := 2) rfl))) hf rfl) (fun a hf => ?_)
                                    refine stq hf rfl rfl rfl (ex_move hf rfl) (fun a hf => ?_)
                                    refine stq hf rfl rfl rfl (ex_neq hf rfl rfl) (fun a hf => ?_)
                                    refine stq hf rfl rfl rfl (ex_pickF hf rfl rfl) (fun a hf => ?_)
                                    refine stq hf rfl rfl rfl (ex_move hf rfl) (fun a hf => ?_)
                                    replace hf := hf.castB (t := 201) rfl (ndec_f hc151)
                                    replace hf := hf.castB (t := 202) rfl (ndec_f hc151)
                                    replace hf := hf.castB (t := 203) rfl (ndec_f hc151)
                                    refine stq hf rfl rfl rfl (ex_move hf rfl) (fun a hf => ?_)
                                    refine stq hf rfl rfl rfl (ex_move hf rfl) (fun a hf => ?_)
                                    refine stq hf rfl rfl rfl (ex_move hf rfl) (fun a hf => ?_)
                                    refine stq hf rfl rfl rfl (ex_indexAddr sa_62 (rsl_isSl (hr.now hs (i := 2) rfl)) hc106.1 hc106.2 hf rfl rfl) (fun a hf => ?_)
                                    refine stq hf rfl rfl rfl (ex_load sc_23 hf rfl (el_cell (K := K_uint64) (f := 0) (rsl_rd (hr.now hs (i := 2) rfl)) hc106.1 hc106.2 rfl)) (fun a hf => ?_)
                                    refine stq hf rfl rfl rfl (ex_rem hf rfl rfl (by decide)) (fun a hf => ?_)
                                    refine stq hf rfl rfl rfl (ex_gtr hf rfl rfl) (fun a hf => ?_)
                                    refine stq hf rfl rfl rfl (ex_pickF hf rfl rfl) (fun a hf => ?_)
                                    refine hK152 _ _ ?_
                                    replace hs := hs.keep (.k (.k (.k (.k (.k (.k (.d .nil)))))))
                                    replace hs := hs.pick (.k (.k (.c (.k (.k (.k .nil))))))
                                    replace hs := hs.pick (.k (.k (.k (.k (.k (.c .nil))))))
                                    replace hs := hs.pick (.k (.k (.k (.c (.k (.k .nil))))))
                                    replace hs := hs.pick (.k (.k (.k (.k (.k (.c .nil))))))
                                    replace hs := hs.pick (.k (.k (.k (.k (.k (.c .nil))))))
                                    replace hs := hs.pick (.k (.k (.k (.k (.k (.c .nil))))))
                                    have e149 := some_eq H; subst e149
                                    exact hJ149 _ _ ⟨hf.sub ⟨rfl, rfl, rfl, rfl, rfl, rfl, rfl, rfl, rfl, trivial⟩, hs⟩
                                  · -- not (s144.2.2.1.length : Int) = (s7.1.length : Int)
                                    refine region_k (fun K153 hK153 => ?_)
                                    refine stq hf rfl rfl rfl (ex_move hf rfl) (fun a hf => ?_)
                                    refine stq hf rfl rfl rfl (ex_neq hf rfl rfl) (fun a hf => ?_)
                                    refine stq hf rfl rfl rfl (ex_move hf rfl) (fun a hf => ?_)
                                    replace hf := hf.castB (t := 196) rfl (ndec_f hc150)
                                    replace hf := hf.castB (t := 197) rfl (ndec_f hc150)
                                    refine stq hf rfl rfl rfl (ex_move hf rfl) (fun a hf => ?_)
                                    refine stq hf rfl rfl rfl (ex_lenS Try.underlying34 (rsl_isSl (osl_rsl _ (hs.get (i := 2) rfl))) hf rfl) (fun a hf => ?_)
                                    refine stq hf rfl rfl rfl (ex_move hf rfl) (fun a hf => ?_)
                                    refine stq hf rfl rfl rfl (ex_neq hf rfl rfl) (fun a hf => ?_)
                                    refine stq hf rfl rfl rfl (ex_pickF hf rfl rfl) (fun a hf => ?_)
                                    refine stq hf rfl rfl rfl (ex_move hf rfl) (fun a hf => ?_)
                                    replace hf := hf.castB (t := 201) rfl (ndec_t hc151)
                                    replace hf := hf.castB (t := 202) rfl (ndec_t hc151)
                                    replace hf := hf.castB (t := 203) rfl (ndec_t hc151)
                                    refine stepN hf rfl rfl rfl (fun a hf => ?_)
                                    refine stepN hf rfl rfl rfl (fun a hf => ?_)
                                    refine stepN hf rfl rfl rfl (fun a hf => ?_)
                                    refine stepN hf rfl rfl rfl (fun a hf => ?_)
                                    refine stepN hf rfl rfl rfl (fun a hf => ?_)
                                    refine stepN hf rfl rfl rfl (fun a hf => ?_)
                                    refine stepN hf rfl rfl rfl (fun a hf => ?_)
                                    refine stq hf rfl rfl rfl (ex_pickT hf rfl rfl) (fun a hf => ?_)
                                    refine hK153 _ _ ?_
                                    replace hs := hs.keep (.k (.k (.k (.k (.k (.k (.d .nil)))))))
                                    replace hs := hs.pick (.k (.k (.c (.k (.k (.k .nil))))))
                                    replace hs := hs.pick (.k (.k (.k (.k (.k (.c .nil))))))
                                    replace hs := hs.pick (.k (.k (.k (.c (.k (.k .nil))))))
                                    replace hs := hs.pick (.k (.k (.k (.k (.k (.c .nil))))))
                                    replace hs := hs.pick (.k (.k (.k (.k (.k (.c .nil))))))
                                    replace hs := hs.pick (.k (.k (.k (.k (.k (.c .nil))))))
                                    have e149 := some_eq H; subst e149
                                    exact hJ149 _ _ ⟨hf.sub ⟨rfl, rfl, rfl, rfl, rfl, rfl, rfl, rfl, rfl, trivial⟩, hs⟩
                                · -- not s144.2.2.2 = 0
                                  refine region_k (fun K154 hK154 => ?_)
                                  refine stq hf rfl rfl rfl (ex_move hf rfl) (fun a hf => ?_)
                                  refine stq hf rfl rfl rfl (ex_neq hf rfl rfl) (fun a hf => ?_)
                                  refine stq hf rfl rfl rfl (ex_move hf rfl) (fun a hf => ?_)
                                  replace hf := hf.castB (t := 196) rfl (ndec_t hc150)
                                  replace hf := hf.castB (t := 197) rfl (ndec_t hc150)
                                  refine stepN hf rfl rfl rfl (fun a hf => ?_)
                                  refine stepN hf rfl rfl rfl (fun a hf => ?_)
                                  refine stepN hf rfl rfl rfl (fun a hf => ?_)
                                  refine stepN hf rfl rfl rfl (fun a hf => ?_)
                                  refine stq hf rfl rfl rfl (ex_pickT hf rfl rfl) (fun a hf => ?_)
                                  refine stq hf rfl rfl rfl (ex_move hf rfl) (fun a hf => ?_)
                                  refine stepN hf rfl rfl rfl (fun a hf => ?_)
                                  refine stepN hf rfl rfl rfl (fun a hf => ?_)
                                  refine stepN hf rfl rfl rfl (fun a hf => ?_)
                                  refine stepN hf rfl rfl rfl (fun a hf => ?_)
                                  refine stepN hf rfl rfl rfl (fun a hf => ?_)
                                  refine stepN hf rfl rfl rfl (fun a hf => ?_)
                                  refine stepN hf rfl rfl rfl (fun a hf => ?_)
                                  refine stq hf rfl rfl rfl (ex_pickT hf rfl rfl) (fun a hf => ?_)
                                  refine hK154 _ _ ?_
                                  replace hs := hs.keep (.k (.k (.k (.k (.k (.k (.d .nil)))))))
                                  replace hs := hs.pick (.k (.k (.c (.k (.k (.k .nil))))))
                                  replace hs := hs.pick (.k (.k (.k (.k (.k (.c .nil))))))
                                  replace hs := hs.pick (.k (.k (.k (.c (.k (.k .nil))))))
                                  replace hs := hs.pick (.k (.k (.k (.k (.k (.c .nil))))))
                                  replace hs := hs.pick (.k (.k (.k (.k (.k (.c .nil))))))
                                  replace hs := hs.pick (.k (.k (.k (.k (.k (.c .nil))))))
                                  have e149 := some_eq H; subst e149
                                  exact hJ149 _ _ ⟨hf.sub ⟨rfl, rfl, rfl, rfl, rfl, rfl, rfl, rfl, rfl, trivial⟩, hs⟩
                              · obtain ⟨hf, hs⟩ := hJ
                                replace H := HO149
                                clear HO149
                                refine itt H (fun hc155 H => ?_) (fun hc155 H => ?_)
                                · -- x149 = true
                                  replace hf := hf.castB (t := 211) rfl hc155
                                  refine cond_T hf rfl ?_
                                  refine seq_reg (fun K156 hK156 => ?_)
                                  refine stq hf rfl rfl rfl (ex_assign hf rfl) (fun a hf => ?_)
                                  refine hK156 _ _ ?_
                                  refine wp_ret ?_
                                  refine hR148 _ _ ?_
                                  refine hR80 _ _ ?_
                                  have e78 := some_eq H; subst e78; replace H := el_rt HO78
                                  refine hR78 _ _ ?_
                                  refine hR74 _ _ ?_
                                  refine hR67 _ _ ?_
                                  have e65 := some_eq H; subst e65; replace H := el_rt HO65
                                  refine hR65 _ _ ?_
                                  have eR := some_eq H; subst eR
                                  replace hs := hs.keep (.d (.d (.d (.d (.d (.d .nil))))))
                                  exact ret1 Try.results7 hf rfl ⟨_, rfl, ⟨rfl, hs⟩⟩
                                · -- not x149 = true
                                  replace hf := hf.castB (t := 211) rfl (bool_f hc155)
                                  refine cond_F hf rfl ?_
                                  refine wp_skip ?_
                                  refine hN148 _ _ ?_
                                  refine seq_reg (fun K157 hK157 => ?_)
                                  refine stq hf rfl rfl rfl (ex_assign hf rfl) (fun a hf => ?_)
                                  refine hK157 _ _ ?_
                                  refine block_k (fun Q158 hN158 hR158 hX158 hY158 => ?_)
                                  refine loop_k (fun n a w => ∃ (y159 : Int), Fr a 224 [(4, v4), (5, v5), (14, .int .i64 (s7.1.length : Int)), (15, .int .i64 (IntKind.i64.wrap (s7.2.2 + (IntKind.i64.wrap (Int.tmod (IntKind.u64.wrap a3) 60))))), (16, .pointer (some ⟨b24, 0, none⟩)), (18, v37), (22, .int .i64 y72), (29, v146), (31, .int .i64 y159)] ∧ St M w0 w [bx b24 89 [v25, v26, .int .i64 c16.2.2.1, v145, .int .i64 s144.1], osl K_api_HeatDomain v25 c16.1, osl K_api_HeatLink v26 c16.2.1, osl K_int64 v145 s144.2.1, osl K_api_Actor v37 x81, osl K_int64 v146 s144.2.2.1] ∧ law39_ThermalDomainsKeepLimit.l5 n s7 s144 a3 x81 y159 = some x78) k74 ?_ (fun n161 a w hI Q161 hL161 hR161 hX161 => ?_)
                                  · -- at the start
                                    exact ⟨0, hf.sub ⟨rfl, rfl, rfl, rfl, rfl, rfl, rfl, rfl, rfl, trivial⟩, hs, H⟩
                                  · obtain ⟨y159, hf, hs, H⟩ := hI
                                    cases n161 with
                                    | zero => exact absurd H (by rw [law39_ThermalDomainsKeepLimit.l5.eq_1]; intro h; cases h)
                                    | succ k161 =>
                                      replace H := (law39_ThermalDomainsKeepLimit.l5.eq_2 ..).symm.trans H
                                      refine seq_n (fun Q162 hN162 hR162 hX162 => ?_)
                                      refine seq_reg (fun K163 hK163 => ?_)
                                      refine stq hf rfl rfl rfl (ex_move hf rfl) (fun a hf => ?_)
                                      refine stq hf rfl rfl rfl (ex_move hf rfl) (fun a hf => ?_)
                                      refine stq hf rfl rfl rfl (ex_lss hf rfl rfl) (fun a hf => ?_)
                                      refine hK163 _ _ ?_
                                      refine itt H (fun hc164 H => ?_) (fun hc164 H => ?_)
                                      · -- y159 < (s7.1.length : Int)
                                        replace hf := hf.castB (t := 214) rfl (dec_t hc164)
                                        refine cond_T hf rfl ?_
                                        refine wp_skip ?_
                                        refine hN162 _ _ ?_
                                        refine seq_n (fun Q165 hN165 hR165 hX165 => ?_)
                                        refine block_k (fun Q166 hN166 hR166 hX166 hY166 => ?_)
                                        refine ck_some H (fun hc167 H => ?_)
                                        refine seq_reg (fun K168 hK168 => ?_)
                                        refine stq hf rfl rfl rfl (ex_move hf rfl) (fun a hf => ?_)
                                        refine stq hf rfl rfl rfl (ex_move hf rfl) (fun a hf => ?_)
                                        refine stq hf rfl rfl rfl (ex_indexAddr sa_34 (rsl_isSl (osl_rsl _ (hs.get (i := 5) rfl))) hc167.1 hc167.2 hf rfl rfl) (fun a hf => ?_)
                                        refine stq hf rfl rfl rfl (ex_load sc_2 hf rfl (el_cell (K := K_int64) (f := 0) (rsl_rd (osl_rsl _ (hs.get (i := 5) rfl))) hc167.1 hc167.2 rfl)) (fun a hf => ?_)
                                        refine stq hf rfl rfl rfl (ex_move hf rfl) (fun a hf => ?_)
                                        refine stq hf rfl rfl rfl (ex_gtr hf rfl rfl) (fun a hf => ?_)
                                        refine hK168 _ _ ?_
                                        refine itt H (fun hc169 H => ?_) (fun hc169 H => ?_)
                                        · -- (IntKind.i64.wrap (s7.2.2 + (IntKind.i64.wrap (Int.tmod (Int
                                          replace hf := hf.castB (t := 222) rfl (dec_t hc169)
                                          refine cond_T hf rfl ?_
                                          refine seq_reg (fun K170 hK170 => ?_)
                                          refine stq hf rfl rfl rfl (ex_assign hf rfl) (fun a hf => ?_)
                                          refine hK170 _ _ ?_
                                          refine wp_ret ?_
                                          refine hR166 _ _ ?_
                                          refine hR165 _ _ ?_
                                          refine hR161 _ _ ?_
                                          refine hR158 _ _ ?_
                                          refine hR80 _ _ ?_
                                          have e78 := some_eq H; subst e78; replace H := el_rt HO78
                                          refine hR78 _ _ ?_
                                          refine hR74 _ _ ?_
                                          refine hR67 _ _ ?_
                                          have e65 := some_eq H; subst e65; replace H := el_rt HO65
                                          refine hR65 _ _ ?_
                                          have eR := some_eq H; subst eR
                                          replace hs := hs.keep (.d (.d (.d (.d (.d (.d .nil))))))
                                          exact ret1 Try.results7 hf rfl ⟨_, rfl, ⟨rfl, hs⟩⟩
                                        · -- not (IntKind.i64.wrap (s7.2.2 + (IntKind.i64.wrap (Int.tmod (Int
                                          replace hf := hf.castB (t := 222) rfl (dec_f hc169)
                                          refine cond_F hf rfl ?_
                                          refine wp_skip ?_
                                          refine hN166 _ _ ?_
                                          refine hN165 _ _ ?_
                                          refine region_k (fun K171 hK171 => ?_)
                                          refine stq hf rfl rfl rfl (ex_move hf rfl) (fun a hf => ?_)
                                          refine stq hf rfl rfl rfl (ex_add hf rfl rfl) (fun a hf => ?_)
                                          refine stq hf rfl rfl rfl (ex_assign hf rfl) (fun a hf => ?_)
                                          refine hK171 _ _ ?_
                                          exact hL161 k161 _ _ (Nat.lt_succ_self _) ⟨(IntKind.i64.wrap (y159 + 1)), hf.sub ⟨rfl, rfl, rfl, rfl, rfl, rfl, rfl, rfl, rfl, trivial⟩, hs, H⟩
                                      · -- not y159 < (s7.1.length : Int)
                                        replace hf := hf.castB (t := 214) rfl (dec_f hc164)
                                        refine cond_F hf rfl ?_
                                        refine wp_exit ?_
                                        refine hX162 8 _ _ ?_
                                        refine hX161 8 _ _ ?_
                                        refine hX158 _ _ ?_
                                        refine hN80 _ _ ?_
                                        replace hs := hs.keep (.k (.k (.k (.k (.k (.d .nil))))))
                                        have e78 := some_eq H; subst e78
                                        exact hJ78 _ _ ⟨_, v145, rfl, hf.sub ⟨rfl, rfl, rfl, rfl, rfl, rfl, rfl, trivial⟩, hs⟩
                    · obtain ⟨x78s, v79, rfl, hf, hs⟩ := hJ
                      replace H := el_go HO78
                      clear HO78
                      refine region_k (fun K172 hK172 => ?_)
                      refine stq hf rfl rfl rfl (ex_move hf rfl) (fun a hf => ?_)
                      refine stq hf rfl rfl rfl (ex_add hf rfl rfl) (fun a hf => ?_)
                      refine stq hf rfl rfl rfl (ex_assign hf rfl) (fun a hf => ?_)
                      refine hK172 _ _ ?_
                      exact hL74 k74 _ _ (Nat.lt_succ_self _) ⟨x78s.1, x78s.2.1, x78s.2.2, (IntKind.i64.wrap (y72 + 1)), v79, hf.sub ⟨rfl, rfl, rfl, rfl, rfl, rfl, rfl, trivial⟩, hs, H⟩
                  · -- not y72 < (a4.length : Int)
                    replace hf := hf.castB (t := 100) rfl (dec_f hc77)
                    refine cond_F hf rfl ?_
                    refine wp_exit ?_
                    refine hX75 2 _ _ ?_
                    refine hX74 2 _ _ ?_
                    refine hX67 _ _ ?_
                    replace hs := hs.keep (.d (.d (.d (.d (.d .nil)))))
                    have e65 := some_eq H; subst e65
                    exact hJ65 _ _ ⟨_, rfl, hf.sub trivial, hs⟩
            · obtain ⟨x65s, rfl, hf, hs⟩ := hJ
              replace H := el_go HO65
              clear HO65
              refine bnd H (fun s173 hs173 H => ?_)
              refine seq_reg (fun K174 hK174 => ?_)
              refine stepF hf rfl rfl rfl (ex_call cf_9 hf rfl) (law39_awake.calls k (hs.enter .nil) (Sr.nil _ _) hs173) (fun v w hR a hf => ?_)
              obtain ⟨rfl, hs'⟩ := hR
              replace hs := hs.step .nil hs'
              clear hs'
              refine stq hf rfl rfl rfl (ex_assign hf rfl) (fun a hf => ?_)
              refine hK174 _ _ ?_
              refine wp_ret ?_
              have eR := some_eq H; subst eR
              exact ret1 Try.results7 hf rfl ⟨_, rfl, ⟨rfl, hs⟩⟩

end Go.Proofs.Ytannodkbindlbaa.X
