/- Each function of the machine comes to what its pure function says. -/
import Derived.Test.YtkcmohmnmapnbaaFc1
import Derived.Test.YtkcmohmnmapnbaaFc2
import Derived.Test.YtkcmohmnmapnbaaFc3
import Derived.Test.YtkcmohmnmapnbaaFb
namespace Go.Proofs.Ytkcmohmnmapnbaa.X
open Go Go.RowKit Go.Sx
set_option linter.unusedVariables false

set_option maxHeartbeats 4000000 in
set_option maxRecDepth 100000 in
theorem law39_ThermalZoneAgrees.calls {M : Nat → Prop} {w0 : World} (k : Nat) (a0 : (List Trip)) (a1 : Int) (a2 : (List Int)) (v0 : Value) (v2 : Value) {r : Bool} (hs : St M w0 w0 []) (hr : Sr M w0 [rsl K_api_Trip v0 a0, rsl K_int64 v2 a2])
    (h : law39_ThermalZoneAgrees.f k a0 a1 a2 = some r) : Calls Try.prog 6 #[v0, .int .i64 a1, v2] w0 fun e w => ∃ v, e = .returned v ∧ (.bool r = v ∧ St M w0 w []) := by
  have H := (law39_ThermalZoneAgrees.f.eq_1 ..).symm.trans h
  clear h
  refine enter Try.func6 rfl Try.ntmps6 rfl (fun a hf => ?_)
  refine seq_reg (fun K1 hK1 => ?_)
  refine stq hf rfl rfl rfl (ex_assign hf rfl) (fun a hf => ?_)
  refine hK1 _ _ ?_
  refine seq_n (fun Q2 hN2 hR2 hX2 => ?_)
  refine bnd H (fun x3 H3 HO3 => ?_)
  clear H
  refine seq_cut (fun a w => Fr a 111 [(0, v0), (1, .int .i64 a1), (2, v2), (28, .bool x3)] ∧ St M w0 w []) (fun Q3 hJ3 hR3 hX3 => ?_) (fun a w hJ => ?_)
  · replace H := H3
    refine itt H (fun hc4 H => ?_) (fun hc4 H => ?_)
    · -- 20 < (a0.length : Int)
      refine region_k (fun K5 hK5 => ?_)
      refine stq hf rfl rfl rfl (ex_move hf rfl) (fun a hf => ?_)
      refine stq hf rfl rfl rfl (ex_lenS Try.underlying22 (rsl_isSl (hr.now hs (i := 0) rfl)) hf rfl) (fun a hf => ?_)
      refine stq hf rfl rfl rfl (ex_gtr hf rfl rfl) (fun a hf => ?_)
      refine stq hf rfl rfl rfl (ex_move hf rfl) (fun a hf => ?_)
      replace hf := hf.castB (t := 23) rfl (dec_t hc4)
      replace hf := hf.castB (t := 24) rfl (dec_t hc4)
      refine stepN hf rfl rfl rfl (fun a hf => ?_)
      refine stepN hf rfl rfl rfl (fun a hf => ?_)
      refine stepN hf rfl rfl rfl (fun a hf => ?_)
      refine stq hf rfl rfl rfl (ex_pickT hf rfl rfl) (fun a hf => ?_)
      refine hK5 _ _ ?_
      have e3 := some_eq H; subst e3
      exact hJ3 _ _ ⟨hf.sub ⟨rfl, rfl, rfl, rfl, trivial⟩, hs⟩
    · -- not 20 < (a0.length : Int)
      refine region_k (fun K6 hK6 => ?_)
      refine stq hf rfl rfl rfl (ex_move hf rfl) (fun a hf => ?_)
      refine stq hf rfl rfl rfl (ex_lenS Try.underlying22 (rsl_isSl (hr.now hs (i := 0) rfl)) hf rfl) (fun a hf => ?_)
      refine stq hf rfl rfl rfl (ex_gtr hf rfl rfl) (fun a hf => ?_)
      refine stq hf rfl rfl rfl (ex_move hf rfl) (fun a hf => ?_)
      replace hf := hf.castB (t := 23) rfl (dec_f hc4)
      replace hf := hf.castB (t := 24) rfl (dec_f hc4)
      refine stq hf rfl rfl rfl (ex_move hf rfl) (fun a hf => ?_)
      refine stq hf rfl rfl rfl (ex_lenS Try.underlying46 (rsl_isSl (hr.now hs (i := 1) rfl)) hf rfl) (fun a hf => ?_)
      refine stq hf rfl rfl rfl (ex_gtr hf rfl rfl) (fun a hf => ?_)
      refine stq hf rfl rfl rfl (ex_pickF hf rfl rfl) (fun a hf => ?_)
      refine hK6 _ _ ?_
      have e3 := some_eq H; subst e3
      exact hJ3 _ _ ⟨hf.sub ⟨rfl, rfl, rfl, rfl, trivial⟩, hs⟩
  · obtain ⟨hf, hs⟩ := hJ
    replace H := HO3
    clear HO3
    refine itt H (fun hc7 H => ?_) (fun hc7 H => ?_)
    · -- x3 = true
      replace hf := hf.castB (t := 28) rfl hc7
      refine cond_T hf rfl ?_
      refine bnd H (fun s8 hs8 H => ?_)
      refine seq_reg (fun K9 hK9 => ?_)
      refine stepF hf rfl rfl rfl (ex_call cf_10 hf rfl) (law39_awake.calls k (hs.enter .nil) (Sr.nil _ _) hs8) (fun v w hR a hf => ?_)
      obtain ⟨rfl, hs'⟩ := hR
      replace hs := hs.step .nil hs'
      clear hs'
      refine stq hf rfl rfl rfl (ex_assign hf rfl) (fun a hf => ?_)
      refine hK9 _ _ ?_
      refine wp_ret ?_
      refine hR2 _ _ ?_
      have eR := some_eq H; subst eR
      exact ret1 Try.results6 hf rfl ⟨_, rfl, ⟨rfl, hs⟩⟩
    · -- not x3 = true
      replace hf := hf.castB (t := 28) rfl (bool_f hc7)
      refine cond_F hf rfl ?_
      refine wp_skip ?_
      refine hN2 _ _ ?_
      refine bnd H (fun s10 hs10 H => ?_)
      refine bnd H (fun s12 hs12 H => ?_)
      refine seq_reg (fun K13 hK13 => ?_)
      refine stq hf rfl rfl rfl (ex_move hf rfl) (fun a hf => ?_)
      refine stepF hf rfl rfl rfl (ex_call cf_11 hf rfl) (law39_Trips.calls k a0 v0 (hs.enter .nil) (Sr.old hr hs .nil (i := 0) rfl (fun _ h => h) (fun _ h => h) (Sr.nil _ _)) hs10) (fun v w hR a hf => ?_)
      obtain ⟨v11, rfl, hs'⟩ := hR
      replace hs := hs.step .nil hs'
      clear hs'
      refine stq hf rfl rfl rfl (ex_move hf rfl) (fun a hf => ?_)
      refine stepF hf rfl rfl rfl (ex_call cf_12 hf rfl) (help_Mod.calls k a1 8 (hs.enter (.k .nil)) (Sr.nil _ _) hs12) (fun v w hR a hf => ?_)
      obtain ⟨rfl, hs'⟩ := hR
      replace hs := hs.step (.k .nil) hs'
      clear hs'
      refine stq hf rfl rfl rfl (ex_assign hf rfl) (fun a hf => ?_)
      refine stq hf rfl rfl rfl (ex_assign hf rfl) (fun a hf => ?_)
      refine hK13 _ _ ?_
      refine seq_n (fun Q14 hN14 hR14 hX14 => ?_)
      refine bnd H (fun s15 hs15 H => ?_)
      cases hps15 : s15.1 with
      | none =>
        replace H := elim_n hps15 H
        refine region_k (fun K17 hK17 => ?_)
        refine stq hf rfl rfl rfl (ex_move hf rfl) (fun a hf => ?_)
        refine stq hf rfl rfl rfl (ex_move hf rfl) (fun a hf => ?_)
        refine stepF hf rfl rfl rfl (ex_call cf_13 hf rfl) (thermal_NewZone.calls k s10 s12 v11 (hs.enter (.k .nil)) (Sr.own hs (.k .nil) (i := 0) rfl osl_rsl (fun _ h => h.1) (Sr.nil _ _)) hs15) (fun v w hR a hf => ?_)
        obtain ⟨_, rfl, hs'⟩ | ⟨_, hc', _⟩ := hR
        case inr => rw [hps15] at hc'; cases hc'
        replace hs := hs.step (.k .nil) hs'
        clear hs'
        refine stq hf rfl rfl rfl (ex_move hf rfl) (fun a hf => ?_)
        refine stq hf rfl rfl rfl (ex_extract hf rfl rfl) (fun a hf => ?_)
        refine stq hf rfl rfl rfl (ex_extract hf rfl rfl) (fun a hf => ?_)
        refine stq hf rfl rfl rfl (ex_assign hf rfl) (fun a hf => ?_)
        refine stq hf rfl rfl rfl (ex_assign hf rfl) (fun a hf => ?_)
        refine hK17 _ _ ?_
        refine hN14 _ _ ?_
        refine seq_n (fun Q18 hN18 hR18 hX18 => ?_)
        refine bnd H (fun s19 hs19 H => ?_)
        cases hps19 : s19.1 with
        | none =>
          replace H := elim_n hps19 H
          refine region_k (fun K21 hK21 => ?_)
          refine stq hf rfl rfl rfl (ex_move hf rfl) (fun a hf => ?_)
          refine stq hf rfl rfl rfl (ex_move hf rfl) (fun a hf => ?_)
          refine stepF hf rfl rfl rfl (ex_call cf_14 hf rfl) (ref39_NewZone.calls k s10 s12 v11 (hs.enter (.k .nil)) (Sr.own hs (.k .nil) (i := 0) rfl osl_rsl (fun _ h => h.1) (Sr.nil _ _)) hs19) (fun v w hR a hf => ?_)
          obtain ⟨_, rfl, hs'⟩ | ⟨_, hc', _⟩ := hR
          case inr => rw [hps19] at hc'; cases hc'
          replace hs := hs.step (.k .nil) hs'
          clear hs'
          refine stq hf rfl rfl rfl (ex_move hf rfl) (fun a hf => ?_)
          refine stq hf rfl rfl rfl (ex_extract hf rfl rfl) (fun a hf => ?_)
          refine stq hf rfl rfl rfl (ex_extract hf rfl rfl) (fun a hf => ?_)
          refine stq hf rfl rfl rfl (ex_assign hf rfl) (fun a hf => ?_)
          refine stq hf rfl rfl rfl (ex_assign hf rfl) (fun a hf => ?_)
          refine hK21 _ _ ?_
          refine hN18 _ _ ?_
          refine seq_n (fun Q22 hN22 hR22 hX22 => ?_)
          refine bnd H (fun x23 H23 HO23 => ?_)
          clear H
          refine seq_cut (fun a w => Fr a 111 [(2, v2), (9, .pointer none), (11, .pointer none), (55, .bool true)] ∧ St M w0 w []) (fun Q23 hJ23 hR23 hX23 => ?_) (fun a w hJ => ?_)
          · replace H := H23
            refine itt H (fun hc24 H => ?_) (fun hc24 H => ?_)
            · -- s15.2 = 0
              refine itt H (fun hc25 H => ?_) (fun hc25 H => ?_)
              · -- s19.2 = 0
                refine region_k (fun K26 hK26 => ?_)
                refine stq hf rfl rfl rfl (ex_move hf rfl) (fun a hf => ?_)
                refine stq hf rfl rfl rfl (ex_neq hf rfl rfl) (fun a hf => ?_)
                refine stq hf rfl rfl rfl (ex_move hf rfl) (fun a hf => ?_)
                replace hf := hf.castB (t := 47) rfl (ndec_f hc24)
                replace hf := hf.castB (t := 48) rfl (ndec_f hc24)
                refine stq hf rfl rfl rfl (ex_move hf rfl) (fun a hf => ?_)
                refine stq hf rfl rfl rfl (ex_neq hf rfl rfl) (fun a hf => ?_)
                refine stq hf rfl rfl rfl (ex_pickF hf rfl rfl) (fun a hf => ?_)
                refine stq hf rfl rfl rfl (ex_move hf rfl) (fun a hf => ?_)
                replace hf := hf.castB (t := 50) rfl (ndec_f hc25)
                replace hf := hf.castB (t := 51) rfl (ndec_f hc25)
                replace hf := hf.castB (t := 52) rfl (ndec_f hc25)
                refine stq hf rfl rfl rfl (ex_move hf rfl) (fun a hf => ?_)
                refine stq hf rfl rfl rfl (ex_eqp Try.underlying28 hf rfl rfl) (fun a hf => ?_)
                refine stq hf rfl rfl rfl (ex_pickF hf rfl rfl) (fun a hf => ?_)
                refine hK26 _ _ ?_
                replace hs := hs.keep (.d .nil)
                have e23 := some_eq H; subst e23
                exact hJ23 _ _ ⟨hf.sub ⟨rfl, rfl, rfl, rfl, trivial⟩, hs⟩
              · -- not s19.2 = 0
                refine region_k (fun K27 hK27 => ?_)
                refine stq hf rfl rfl rfl (ex_move hf rfl) (fun a hf => ?_)
                refine stq hf rfl rfl rfl (ex_neq hf rfl rfl) (fun a hf => ?_)
                refine stq hf rfl rfl rfl (ex_move hf rfl) (fun a hf => ?_)
                replace hf := hf.castB (t := 47) rfl (ndec_f hc24)
                replace hf := hf.castB (t := 48) rfl (ndec_f hc24)
                refine stq hf rfl rfl rfl (ex_move hf rfl) (fun a hf => ?_)
                refine stq hf rfl rfl rfl (ex_neq hf rfl rfl) (fun a hf => ?_)
                refine stq hf rfl rfl rfl (ex_pickF hf rfl rfl) (fun a hf => ?_)
                refine stq hf rfl rfl rfl (ex_move hf rfl) (fun a hf => ?_)
                replace hf := hf.castB (t := 50) rfl (ndec_t hc25)
                replace hf := hf.castB (t := 51) rfl (ndec_t hc25)
                replace hf := hf.castB (t := 52) rfl (ndec_t hc25)
                refine stepN hf rfl rfl rfl (fun a hf => ?_)
                refine stepN hf rfl rfl rfl (fun a hf => ?_)
                refine stq hf rfl rfl rfl (ex_pickT hf rfl rfl) (fun a hf => ?_)
                refine hK27 _ _ ?_
                replace hs := hs.keep (.d .nil)
                have e23 := some_eq H; subst e23
                exact hJ23 _ _ ⟨hf.sub ⟨rfl, rfl, rfl, rfl, trivial⟩, hs⟩
            · -- not s15.2 = 0
              refine region_k (fun K28 hK28 => ?_)
              refine stq hf rfl rfl rfl (ex_move hf rfl) (fun a hf => ?_)
              refine stq hf rfl rfl rfl (ex_neq hf rfl rfl) (fun a hf => ?_)
              refine stq hf rfl rfl rfl (ex_move hf rfl) (fun a hf => ?_)
              replace hf := hf.castB (t := 47) rfl (ndec_t hc24)
              replace hf := hf.castB (t := 48) rfl (ndec_t hc24)
              refine stepN hf rfl rfl rfl (fun a hf => ?_)
              refine stepN hf rfl rfl rfl (fun a hf => ?_)
              refine stq hf rfl rfl rfl (ex_pickT hf rfl rfl) (fun a hf => ?_)
              refine stq hf rfl rfl rfl (ex_move hf rfl) (fun a hf => ?_)
              refine stepN hf rfl rfl rfl (fun a hf => ?_)
              refine stepN hf rfl rfl rfl (fun a hf => ?_)
              refine stq hf rfl rfl rfl (ex_pickT hf rfl rfl) (fun a hf => ?_)
              refine hK28 _ _ ?_
              replace hs := hs.keep (.d .nil)
              have e23 := some_eq H; subst e23
              exact hJ23 _ _ ⟨hf.sub ⟨rfl, rfl, rfl, rfl, trivial⟩, hs⟩
          · obtain ⟨hf, hs⟩ := hJ
            replace H := HO23
            clear HO23
            refine cond_T hf rfl ?_
            refine seq_reg (fun K29 hK29 => ?_)
            refine stq hf rfl rfl rfl (ex_assign hf rfl) (fun a hf => ?_)
            refine hK29 _ _ ?_
            refine wp_ret ?_
            refine hR22 _ _ ?_
            have eR := some_eq H; subst eR
            exact ret1 Try.results6 hf rfl ⟨_, rfl, ⟨rfl, hs⟩⟩
        | some c20 =>
          replace H := elim_s hps19 H
          refine region_k (fun K32 hK32 => ?_)
          refine stq hf rfl rfl rfl (ex_move hf rfl) (fun a hf => ?_)
          refine stq hf rfl rfl rfl (ex_move hf rfl) (fun a hf => ?_)
          refine stepF hf rfl rfl rfl (ex_call cf_14 hf rfl) (ref39_NewZone.calls k s10 s12 v11 (hs.enter (.k .nil)) (Sr.own hs (.k .nil) (i := 0) rfl osl_rsl (fun _ h => h.1) (Sr.nil _ _)) hs19) (fun v w hR a hf => ?_)
          obtain ⟨hc', _⟩ | ⟨cc, hc', b30, v31, rfl, hs'⟩ := hR
          case inl => rw [hps19] at hc'; cases hc'
          obtain rfl : c20 = cc := by rw [hps19] at hc'; exact Option.some.inj hc'
          replace hs := hs.step (.k .nil) hs'
          clear hs'
          refine stq hf rfl rfl rfl (ex_move hf rfl) (fun a hf => ?_)
          refine stq hf rfl rfl rfl (ex_extract hf rfl rfl) (fun a hf => ?_)
          refine stq hf rfl rfl rfl (ex_extract hf rfl rfl) (fun a hf => ?_)
          refine stq hf rfl rfl rfl (ex_assign hf rfl) (fun a hf => ?_)
          refine stq hf rfl rfl rfl (ex_assign hf rfl) (fun a hf => ?_)
          refine hK32 _ _ ?_
          refine hN18 _ _ ?_
          refine seq_n (fun Q33 hN33 hR33 hX33 => ?_)
          refine bnd H (fun x34 H34 HO34 => ?_)
          clear H
          refine seq_cut (fun a w => Fr a 111 [(2, v2), (9, .pointer none), (11, .pointer (some ⟨b30, 0, none⟩)), (55, .bool true)] ∧ St M w0 w [bx b30 64 [v11, v31, .int .i64 c20.2.1, .int .i64 c20.2.2], osl K_api_Trip v11 s10, osl K_bool v31 c20.1]) (fun Q34 hJ34 hR34 hX34 => ?_) (fun a w hJ => ?_)
          · replace H := H34
            refine itt H (fun hc35 H => ?_) (fun hc35 H => ?_)
            · -- s15.2 = 0
              refine itt H (fun hc36 H => ?_) (fun hc36 H => ?_)
              · -- s19.2 = 0
                refine region_k (fun K37 hK37 => ?_)
                refine stq hf rfl rfl rfl (ex_move hf rfl) (fun a hf => ?_)
                refine stq hf rfl rfl rfl (ex_neq hf rfl rfl) (fun a hf => ?_)
                refine stq hf rfl rfl rfl (ex_move hf rfl) (fun a hf => ?_)
                replace hf := hf.castB (t := 47) rfl (ndec_f hc35)
                replace hf := hf.castB (t := 48) rfl (ndec_f hc35)
                refine stq hf rfl rfl rfl (ex_move hf rfl) (fun a hf => ?_)
                refine stq hf rfl rfl rfl (ex_neq hf rfl rfl) (fun a hf => ?_)
                refine stq hf rfl rfl rfl (ex_pickF hf rfl rfl) (fun a hf => ?_)
                refine stq hf rfl rfl rfl (ex_move hf rfl) (fun a hf => ?_)
                replace hf := hf.castB (t := 50) rfl (ndec_f hc36)
                replace hf := hf.castB (t := 51) rfl (ndec_f hc36)
                replace hf := hf.castB (t := 52) rfl (ndec_f hc36)
                refine stq hf rfl rfl rfl (ex_move hf rfl) (fun a hf => ?_)
                refine stq hf rfl rfl rfl (ex_eqp Try.underlying28 hf rfl rfl) (fun a hf => ?_)
                refine stq hf rfl rfl rfl (ex_pickF hf rfl rfl) (fun a hf => ?_)
                refine hK37 _ _ ?_
                replace hs := hs.pick (.k (.c (.k .nil)))
                replace hs := hs.pick (.k (.k (.c .nil)))
                replace hs := hs.pick (.k (.k (.c .nil)))
                have e34 := some_eq H; subst e34
                exact hJ34 _ _ ⟨hf.sub ⟨rfl, rfl, rfl, rfl, trivial⟩, hs⟩
              · -- not s19.2 = 0
                refine region_k (fun K38 hK38 => ?_)
                refine stq hf rfl rfl rfl (ex_move hf rfl) (fun a hf => ?_)
                refine stq hf rfl rfl rfl (ex_neq hf rfl rfl) (fun a hf => ?_)
                refine stq hf rfl rfl rfl (ex_move hf rfl) (fun a hf => ?_)
                replace hf := hf.castB (t := 47) rfl (ndec_f hc35)
                replace hf := hf.castB (t := 48) rfl (ndec_f hc35)
                refine stq hf rfl rfl rfl (ex_move hf rfl) (fun a hf => ?_)
                refine stq hf rfl rfl rfl (ex_neq hf rfl rfl) (fun a hf => ?_)
                refine stq hf rfl rfl rfl (ex_pickF hf rfl rfl) (fun a hf => ?_)
                refine stq hf rfl rfl rfl (ex_move hf rfl) (fun a hf => ?_)
                replace hf := hf.castB (t := 50) rfl (ndec_t hc36)
                replace hf := hf.castB (t := 51) rfl (ndec_t hc36)
                replace hf := hf.castB (t := 52) rfl (ndec_t hc36)
                refine stepN hf rfl rfl rfl (fun a hf => ?_)
                refine stepN hf rfl rfl rfl (fun a hf => ?_)
                refine stq hf rfl rfl rfl (ex_pickT hf rfl rfl) (fun a hf => ?_)
                refine hK38 _ _ ?_
                replace hs := hs.pick (.k (.c (.k .nil)))
                replace hs := hs.pick (.k (.k (.c .nil)))
                replace hs := hs.pick (.k (.k (.c .nil)))
                have e34 := some_eq H; subst e34
                exact hJ34 _ _ ⟨hf.sub ⟨rfl, rfl, rfl, rfl, trivial⟩, hs⟩
            · -- not s15.2 = 0
              refine region_k (fun K39 hK39 => ?_)
              refine stq hf rfl rfl rfl (ex_move hf rfl) (fun a hf => ?_)
              refine stq hf rfl rfl rfl (ex_neq hf rfl rfl) (fun a hf => ?_)
              refine stq hf rfl rfl rfl (ex_move hf rfl) (fun a hf => ?_)
              replace hf := hf.castB (t := 47) rfl (ndec_t hc35)
              replace hf := hf.castB (t := 48) rfl (ndec_t hc35)
              refine stepN hf rfl rfl rfl (fun a hf => ?_)
              refine stepN hf rfl rfl rfl (fun a hf => ?_)
              refine stq hf rfl rfl rfl (ex_pickT hf rfl rfl) (fun a hf => ?_)
              refine stq hf rfl rfl rfl (ex_move hf rfl) (fun a hf => ?_)
              refine stepN hf rfl rfl rfl (fun a hf => ?_)
              refine stepN hf rfl rfl rfl (fun a hf => ?_)
              refine stq hf rfl rfl rfl (ex_pickT hf rfl rfl) (fun a hf => ?_)
              refine hK39 _ _ ?_
              replace hs := hs.pick (.k (.c (.k .nil)))
              replace hs := hs.pick (.k (.k (.c .nil)))
              replace hs := hs.pick (.k (.k (.c .nil)))
              have e34 := some_eq H; subst e34
              exact hJ34 _ _ ⟨hf.sub ⟨rfl, rfl, rfl, rfl, trivial⟩, hs⟩
          · obtain ⟨hf, hs⟩ := hJ
            replace H := HO34
            clear HO34
            refine cond_T hf rfl ?_
            refine seq_reg (fun K40 hK40 => ?_)
            refine stq hf rfl rfl rfl (ex_assign hf rfl) (fun a hf => ?_)
            refine hK40 _ _ ?_
            refine wp_ret ?_
            refine hR33 _ _ ?_
            have eR := some_eq H; subst eR
            replace hs := hs.keep (.d (.d (.d .nil)))
            exact ret1 Try.results6 hf rfl ⟨_, rfl, ⟨rfl, hs⟩⟩
      | some c16 =>
        replace H := elim_s hps15 H
        refine region_k (fun K44 hK44 => ?_)
        refine stq hf rfl rfl rfl (ex_move hf rfl) (fun a hf => ?_)
        refine stq hf rfl rfl rfl (ex_move hf rfl) (fun a hf => ?_)
        refine stepF hf rfl rfl rfl (ex_call cf_13 hf rfl) (thermal_NewZone.calls k s10 s12 v11 (hs.enter (.k .nil)) (Sr.own hs (.k .nil) (i := 0) rfl osl_rsl (fun _ h => h.1) (Sr.nil _ _)) hs15) (fun v w hR a hf => ?_)
        obtain ⟨hc', _⟩ | ⟨cc, hc', b41, v42, v43, rfl, hs'⟩ := hR
        case inl => rw [hps15] at hc'; cases hc'
        obtain rfl : c16 = cc := by rw [hps15] at hc'; exact Option.some.inj hc'
        replace hs := hs.step (.k .nil) hs'
        clear hs'
        refine stq hf rfl rfl rfl (ex_move hf rfl) (fun a hf => ?_)
        refine stq hf rfl rfl rfl (ex_extract hf rfl rfl) (fun a hf => ?_)
        refine stq hf rfl rfl rfl (ex_extract hf rfl rfl) (fun a hf => ?_)
        refine stq hf rfl rfl rfl (ex_assign hf rfl) (fun a hf => ?_)
        refine stq hf rfl rfl rfl (ex_assign hf rfl) (fun a hf => ?_)
        refine hK44 _ _ ?_
        refine hN14 _ _ ?_
        refine seq_n (fun Q45 hN45 hR45 hX45 => ?_)
        refine bnd H (fun s46 hs46 H => ?_)
        cases hps46 : s46.1 with
        | none =>
          replace H := elim_n hps46 H
          refine region_k (fun K48 hK48 => ?_)
          refine stq hf rfl rfl rfl (ex_move hf rfl) (fun a hf => ?_)
          refine stq hf rfl rfl rfl (ex_move hf rfl) (fun a hf => ?_)
          refine stepF hf rfl rfl rfl (ex_call cf_14 hf rfl) (ref39_NewZone.calls k s10 s12 v11 (hs.enter (.k (.k (.k (.k .nil))))) (Sr.own hs (.k (.k (.k (.k .nil)))) (i := 3) rfl osl_rsl (fun _ h => h.1) (Sr.nil _ _)) hs46) (fun v w hR a hf => ?_)
          obtain ⟨_, rfl, hs'⟩ | ⟨_, hc', _⟩ := hR
          case inr => rw [hps46] at hc'; cases hc'
          replace hs := hs.step (.k (.k (.k (.k .nil)))) hs'
          clear hs'
          refine stq hf rfl rfl rfl (ex_move hf rfl) (fun a hf => ?_)
          refine stq hf rfl rfl rfl (ex_extract hf rfl rfl) (fun a hf => ?_)
          refine stq hf rfl rfl rfl (ex_extract hf rfl rfl) (fun a hf => ?_)
          refine stq hf rfl rfl rfl (ex_assign hf rfl) (fun a hf => ?_)
          refine stq hf rfl rfl rfl (ex_assign hf rfl) (fun a hf => ?_)
          refine hK48 _ _ ?_
          refine hN45 _ _ ?_
          refine seq_n (fun Q49 hN49 hR49 hX49 => ?_)
          refine bnd H (fun x50 H50 HO50 => ?_)
          clear H
          refine seq_cut (fun a w => Fr a 111 [(2, v2), (9, .pointer (some ⟨b41, 0, none⟩)), (11, .pointer none), (55, .bool x50)] ∧ St M w0 w [bx b41 62 [v42, v43, .int .i64 c16.2.2.1, .int .i64 c16.2.2.2], osl K_api_Trip v42 c16.1, osl K_bool v43 c16.2.1]) (fun Q50 hJ50 hR50 hX50 => ?_) (fun a w hJ => ?_)
          · replace H := H50
            refine itt H (fun hc51 H => ?_) (fun hc51 H => ?_)
            · -- s15.2 = 0
              refine itt H (fun hc52 H => ?_) (fun hc52 H => ?_)
              · -- s46.2 = 0
                refine region_k (fun K53 hK53 => ?_)
                refine stq hf rfl rfl rfl (ex_move hf rfl) (fun a hf => ?_)
                refine stq hf rfl rfl rfl (ex_neq hf rfl rfl) (fun a hf => ?_)
                refine stq hf rfl rfl rfl (ex_move hf rfl) (fun a hf => ?_)
                replace hf := hf.castB (t := 47) rfl (ndec_f hc51)
                replace hf := hf.castB (t := 48) rfl (ndec_f hc51)
                refine stq hf rfl rfl rfl (ex_move hf rfl) (fun a hf => ?_)
                refine stq hf rfl rfl rfl (ex_neq hf rfl rfl) (fun a hf => ?_)
                refine stq hf rfl rfl rfl (ex_pickF hf rfl rfl) (fun a hf => ?_)
                refine stq hf rfl rfl rfl (ex_move hf rfl) (fun a hf => ?_)
                replace hf := hf.castB (t := 50) rfl (ndec_f hc52)
                replace hf := hf.castB (t := 51) rfl (ndec_f hc52)
                replace hf := hf.castB (t := 52) rfl (ndec_f hc52)
                refine stq hf rfl rfl rfl (ex_move hf rfl) (fun a hf => ?_)
                refine stq hf rfl rfl rfl (ex_eqp Try.underlying28 hf rfl rfl) (fun a hf => ?_)
                refine stq hf rfl rfl rfl (ex_pickF hf rfl rfl) (fun a hf => ?_)
                refine hK53 _ _ ?_
                replace hs := hs.keep (.k (.k (.k (.d .nil))))
                have e50 := some_eq H; subst e50
                exact hJ50 _ _ ⟨hf.sub ⟨rfl, rfl, rfl, rfl, trivial⟩, hs⟩
              · -- not s46.2 = 0
                refine region_k (fun K54 hK54 => ?_)
                refine stq hf rfl rfl rfl (ex_move hf rfl) (fun a hf => ?_)
                refine stq hf rfl rfl rfl (ex_neq hf rfl rfl) (fun a hf => ?_)
                refine stq hf rfl rfl rfl (ex_move hf rfl) (fun a hf => ?_)
                replace hf := hf.castB (t := 47) rfl (ndec_f hc51)
                replace hf := hf.castB (t := 48) rfl (ndec_f hc51)
                refine stq hf rfl rfl rfl (ex_move hf rfl) (fun a hf => ?_)
                refine stq hf rfl rfl rfl (ex_neq hf rfl rfl) (fun a hf => ?_)
                refine stq hf rfl rfl rfl (ex_pickF hf rfl rfl) (fun a hf => ?_)
                refine stq hf rfl rfl rfl (ex_move hf rfl) (fun a hf => ?_)
                replace hf := hf.castB (t := 50) rfl (ndec_t hc52)
                replace hf := hf.castB (t := 51) rfl (ndec_t hc52)
                replace hf := hf.castB (t := 52) rfl (ndec_t hc52)
                refine stepN hf rfl rfl rfl (fun a hf => ?_)
                refine stepN hf rfl rfl rfl (fun a hf => ?_)
                refine stq hf rfl rfl rfl (ex_pickT hf rfl rfl) (fun a hf => ?_)
                refine hK54 _ _ ?_
                replace hs := hs.keep (.k (.k (.k (.d .nil))))
                have e50 := some_eq H; subst e50
                exact hJ50 _ _ ⟨hf.sub ⟨rfl, rfl, rfl, rfl, trivial⟩, hs⟩
            · -- not s15.2 = 0
              refine region_k (fun K55 hK55 => ?_)
              refine stq hf rfl rfl rfl (ex_move hf rfl) (fun a hf => ?_)
              refine stq hf rfl rfl rfl (ex_neq hf rfl rfl) (fun a hf => ?_)
              refine stq hf rfl rfl rfl (ex_move hf rfl) (fun a hf => ?_)
              replace hf := hf.castB (t := 47) rfl (ndec_t hc51)
              replace hf := hf.castB (t := 48) rfl (ndec_t hc51)
              refine stepN hf rfl rfl rfl (fun a hf => ?_)
              refine stepN hf rfl rfl rfl (fun a hf => ?_)
              refine stq hf rfl rfl rfl (ex_pickT hf rfl rfl) (fun a hf => ?_)
              refine stq hf rfl rfl rfl (ex_move hf rfl) (fun a hf => ?_)
              refine stepN hf rfl rfl rfl (fun a hf => ?_)
              refine stepN hf rfl rfl rfl (fun a hf => ?_)
              refine stq hf rfl rfl rfl (ex_pickT hf rfl rfl) (fun a hf => ?_)
              refine hK55 _ _ ?_
              replace hs := hs.keep (.k (.k (.k (.d .nil))))
              have e50 := some_eq H; subst e50
              exact hJ50 _ _ ⟨hf.sub ⟨rfl, rfl, rfl, rfl, trivial⟩, hs⟩
          · obtain ⟨hf, hs⟩ := hJ
            replace H := HO50
            clear HO50
            refine itt H (fun hc56 H => ?_) (fun hc56 H => ?_)
            · -- x50 = true
              replace hf := hf.castB (t := 55) rfl hc56
              refine cond_T hf rfl ?_
              refine seq_reg (fun K57 hK57 => ?_)
              refine stq hf rfl rfl rfl (ex_assign hf rfl) (fun a hf => ?_)
              refine hK57 _ _ ?_
              refine wp_ret ?_
              refine hR49 _ _ ?_
              have eR := some_eq H; subst eR
              replace hs := hs.keep (.d (.d (.d .nil)))
              exact ret1 Try.results6 hf rfl ⟨_, rfl, ⟨rfl, hs⟩⟩
            · -- not x50 = true
              replace hf := hf.castB (t := 55) rfl (bool_f hc56)
              refine cond_F hf rfl ?_
              refine wp_skip ?_
              refine hN49 _ _ ?_
              refine bnd H (fun x58 H58 HO58 => ?_)
              clear H
              refine seq_cut (fun a w => Fr a 111 [] ∧ St M w0 w []) (fun Q58 hJ58 hR58 hX58 => ?_) (fun a w hJ => ?_)
              · replace H := H58
                refine seq_reg (fun K59 hK59 => ?_)
                refine stq hf rfl rfl rfl (ex_assign hf rfl) (fun a hf => ?_)
                refine hK59 _ _ ?_
                refine block_k (fun Q60 hN60 hR60 hX60 hY60 => ?_)
                refine loop_k (fun n a w => ∃ (_ : Unit), Fr a 111 [(2, v2), (9, .pointer (some ⟨b41, 0, none⟩)), (11, .pointer none), (13, .int .i64 0)] ∧ St M w0 w [bx b41 62 [v42, v43, .int .i64 c16.2.2.1, .int .i64 c16.2.2.2], osl K_api_Trip v42 c16.1, osl K_bool v43 c16.2.1] ∧ law39_ThermalZoneAgrees.l1 n a2 c16 = some x58) k ?_ (fun n62 a w hI Q62 hL62 hR62 hX62 => ?_)
                · -- at the start
                  exact ⟨(), hf.sub ⟨rfl, rfl, rfl, rfl, trivial⟩, hs, H⟩
                · obtain ⟨_, hf, hs, H⟩ := hI
                  cases n62 with
                  | zero => exact absurd H (by rw [law39_ThermalZoneAgrees.l1.eq_1]; intro h; cases h)
                  | succ k62 =>
                    replace H := (law39_ThermalZoneAgrees.l1.eq_2 ..).symm.trans H
                    refine seq_n (fun Q63 hN63 hR63 hX63 => ?_)
                    refine seq_reg (fun K64 hK64 => ?_)
                    refine stq hf rfl rfl rfl (ex_move hf rfl) (fun a hf => ?_)
                    refine stq hf rfl rfl rfl (ex_move hf rfl) (fun a hf => ?_)
                    refine stq hf rfl rfl rfl (ex_lenS Try.underlying46 (rsl_isSl (hr.now hs (i := 1) rfl)) hf rfl) (fun a hf => ?_)
                    refine stq hf rfl rfl rfl (ex_lss hf rfl rfl) (fun a hf => ?_)
                    refine hK64 _ _ ?_
                    refine itt H (fun hc65 H => ?_) (fun hc65 H => ?_)
                    · -- 0 < (a2.length : Int)
                      replace hf := hf.castB (t := 59) rfl (dec_t hc65)
                      refine cond_T hf rfl ?_
                      refine wp_skip ?_
                      refine hN63 _ _ ?_
                      refine seq_n (fun Q66 hN66 hR66 hX66 => ?_)
                      refine block_k (fun Q67 hN67 hR67 hX67 hY67 => ?_)
                      refine ck_some H (fun hc68 H => ?_)
                      refine bnd H (fun s69 hs69 H => ?_)
                      refine seq_reg (fun K70 hK70 => ?_)
                      refine stq hf rfl rfl rfl (ex_move hf rfl) (fun a hf => ?_)
                      refine stq hf rfl rfl rfl (ex_move hf rfl) (fun a hf => ?_)
                      refine stq hf rfl rfl rfl (ex_indexAddr sa_46 (rsl_isSl (hr.now hs (i := 1) rfl)) hc68.1 hc68.2 hf rfl rfl) (fun a hf => ?_)
                      refine stq hf rfl rfl rfl (ex_load sc_2 hf rfl (el_cell (K := K_int64) (f := 0) (rsl_rd (hr.now hs (i := 1) rfl)) hc68.1 hc68.2 rfl)) (fun a hf => ?_)
                      refine stq hf rfl rfl rfl (ex_move hf rfl) (fun a hf => ?_)
                      refine stepF hf rfl rfl rfl (ex_call cf_21 hf rfl) (law39_degree.calls k62 (gd 0 a2 0) 0 (hs.enter (.k (.k (.k .nil)))) (Sr.nil _ _) hs69) (fun v w hR a hf => ?_)
                      obtain ⟨rfl, hs'⟩ := hR
                      replace hs := hs.step (.k (.k (.k .nil))) hs'
                      clear hs'
                      refine stq hf rfl rfl rfl (ex_assign hf rfl) (fun a hf => ?_)
                      refine hK70 _ _ ?_
                      refine bnd H (fun s71 hs71 H => ?_)
                      refine seq_reg (fun K73 hK73 => ?_)
                      refine stq hf rfl rfl rfl (ex_move hf rfl) (fun a hf => ?_)
                      refine stq hf rfl rfl rfl (ex_move hf rfl) (fun a hf => ?_)
                      refine stepF hf rfl rfl rfl (ex_call cf_22 hf rfl) (thermal_Zone_Update.calls k62 c16.1 c16.2.1 c16.2.2.1 c16.2.2.2 s69 b41 v42 v43 (hs.enter (.c (.k (.c .nil)))) (Sr.own hs (.c (.k (.c .nil))) (i := 0) rfl osl_rsl (fun _ h => h.1) (Sr.nil _ _)) hs71) (fun v w hR a hf => ?_)
                      obtain ⟨v72, rfl, hs'⟩ := hR
                      replace hs := hs.step (.c (.k (.c .nil))) hs'
                      clear hs'
                      refine stq hf rfl rfl rfl (ex_move hf rfl) (fun a hf => ?_)
                      refine stq hf rfl rfl rfl (ex_extract hf rfl rfl) (fun a hf => ?_)
                      refine stq hf rfl rfl rfl (ex_extract hf rfl rfl) (fun a hf => ?_)
                      refine stq hf rfl rfl rfl (ex_extract hf rfl rfl) (fun a hf => ?_)
                      refine stq hf rfl rfl rfl (ex_assign hf rfl) (fun a hf => ?_)
                      refine stq hf rfl rfl rfl (ex_assign hf rfl) (fun a hf => ?_)
                      refine stq hf rfl rfl rfl (ex_assign hf rfl) (fun a hf => ?_)
                      refine hK73 _ _ ?_
                      cases H
                    · -- not 0 < (a2.length : Int)
                      replace hf := hf.castB (t := 59) rfl (dec_f hc65)
                      refine cond_F hf rfl ?_
                      refine wp_exit ?_
                      refine hX63 0 _ _ ?_
                      refine hX62 0 _ _ ?_
                      refine hX60 _ _ ?_
                      replace hs := hs.keep (.d (.d (.d .nil)))
                      have e58 := some_eq H; subst e58
                      exact hJ58 _ _ ⟨hf.sub trivial, hs⟩
              · obtain ⟨hf, hs⟩ := hJ
                replace H := HO58
                clear HO58
                refine bnd H (fun s74 hs74 H => ?_)
                refine seq_reg (fun K75 hK75 => ?_)
                refine stepF hf rfl rfl rfl (ex_call cf_10 hf rfl) (law39_awake.calls k (hs.enter .nil) (Sr.nil _ _) hs74) (fun v w hR a hf => ?_)
                obtain ⟨rfl, hs'⟩ := hR
                replace hs := hs.step .nil hs'
                clear hs'
                refine stq hf rfl rfl rfl (ex_assign hf rfl) (fun a hf => ?_)
                refine hK75 _ _ ?_
                refine wp_ret ?_
                have eR := some_eq H; subst eR
                exact ret1 Try.results6 hf rfl ⟨_, rfl, ⟨rfl, hs⟩⟩
        | some c47 =>
          replace H := elim_s hps46 H
          refine region_k (fun K78 hK78 => ?_)
          refine stq hf rfl rfl rfl (ex_move hf rfl) (fun a hf => ?_)
          refine stq hf rfl rfl rfl (ex_move hf rfl) (fun a hf => ?_)
          refine stepF hf rfl rfl rfl (ex_call cf_14 hf rfl) (ref39_NewZone.calls k s10 s12 v11 (hs.enter (.k (.k (.k (.k .nil))))) (Sr.own hs (.k (.k (.k (.k .nil)))) (i := 3) rfl osl_rsl (fun _ h => h.1) (Sr.nil _ _)) hs46) (fun v w hR a hf => ?_)
          obtain ⟨hc', _⟩ | ⟨cc, hc', b76, v77, rfl, hs'⟩ := hR
          case inl => rw [hps46] at hc'; cases hc'
          obtain rfl : c47 = cc := by rw [hps46] at hc'; exact Option.some.inj hc'
          replace hs := hs.step (.k (.k (.k (.k .nil)))) hs'
          clear hs'
          refine stq hf rfl rfl rfl (ex_move hf rfl) (fun a hf => ?_)
          refine stq hf rfl rfl rfl (ex_extract hf rfl rfl) (fun a hf => ?_)
          refine stq hf rfl rfl rfl (ex_extract hf rfl rfl) (fun a hf => ?_)
          refine stq hf rfl rfl rfl (ex_assign hf rfl) (fun a hf => ?_)
          refine stq hf rfl rfl rfl (ex_assign hf rfl) (fun a hf => ?_)
          refine hK78 _ _ ?_
          refine hN45 _ _ ?_
          refine seq_n (fun Q79 hN79 hR79 hX79 => ?_)
          refine bnd H (fun x80 H80 HO80 => ?_)
          clear H
          refine seq_cut (fun a w => Fr a 111 [(2, v2), (9, .pointer (some ⟨b41, 0, none⟩)), (11, .pointer (some ⟨b76, 0, none⟩)), (55, .bool x80)] ∧ St M w0 w [bx b41 62 [v42, v43, .int .i64 c16.2.2.1, .int .i64 c16.2.2.2], osl K_api_Trip v42 c16.1, osl K_bool v43 c16.2.1, bx b76 64 [v11, v77, .int .i64 c47.2.1, .int .i64 c47.2.2], osl K_api_Trip v11 s10, osl K_bool v77 c47.1]) (fun Q80 hJ80 hR80 hX80 => ?_) (fun a w hJ => ?_)
          · replace H := H80
            refine itt H (fun hc81 H => ?_) (fun hc81 H => ?_)
            · -- s15.2 = 0
              refine itt H (fun hc82 H => ?_) (fun hc82 H => ?_)
              · -- s46.2 = 0
                refine region_k (fun K83 hK83 => ?_)
                refine stq hf rfl rfl rfl (ex_move hf rfl) (fun a hf => ?_)
                refine stq hf rfl rfl rfl (ex_neq hf rfl rfl) (fun a hf => ?_)
                refine stq hf rfl rfl rfl (ex_move hf rfl) (fun a hf => ?_)
                replace hf := hf.castB (t := 47) rfl (ndec_f hc81)
                replace hf := hf.castB (t := 48) rfl (ndec_f hc81)
                refine stq hf rfl rfl rfl (ex_move hf rfl) (fun a hf => ?_)
                refine stq hf rfl rfl rfl (ex_neq hf rfl rfl) (fun a hf => ?_)
                refine stq hf rfl rfl rfl (ex_pickF hf rfl rfl) (fun a hf => ?_)
                refine stq hf rfl rfl rfl (ex_move hf rfl) (fun a hf => ?_)
                replace hf := hf.castB (t := 50) rfl (ndec_f hc82)
                replace hf := hf.castB (t := 51) rfl (ndec_f hc82)
                replace hf := hf.castB (t := 52) rfl (ndec_f hc82)
                refine stq hf rfl rfl rfl (ex_move hf rfl) (fun a hf => ?_)
                refine stq hf rfl rfl rfl (ex_eqp Try.underlying28 hf rfl rfl) (fun a hf => ?_)
                refine stq hf rfl rfl rfl (ex_pickF hf rfl rfl) (fun a hf => ?_)
                refine hK83 _ _ ?_
                replace hs := hs.pick (.k (.c (.k (.k (.k (.k .nil))))))
                replace hs := hs.pick (.k (.k (.k (.k (.k (.c .nil))))))
                replace hs := hs.pick (.k (.k (.c (.k (.k (.k .nil))))))
                replace hs := hs.pick (.k (.k (.k (.k (.k (.c .nil))))))
                replace hs := hs.pick (.k (.k (.k (.k (.k (.c .nil))))))
                replace hs := hs.pick (.k (.k (.k (.k (.k (.c .nil))))))
                have e80 := some_eq H; subst e80
                exact hJ80 _ _ ⟨hf.sub ⟨rfl, rfl, rfl, rfl, trivial⟩, hs⟩
              · -- not s46.2 = 0
                refine region_k (fun K84 hK84 => ?_)
                refine stq hf rfl rfl rfl (ex_move hf rfl) (fun a hf => ?_)
                refine stq hf rfl rfl rfl (ex_neq hf rfl rfl) (fun a hf => ?_)
                refine stq hf rfl rfl rfl (ex_move hf rfl) (fun a hf => ?_)
                replace hf := hf.castB (t := 47) rfl (ndec_f hc81)
                replace hf := hf.castB (t := 48) rfl (ndec_f hc81)
                refine stq hf rfl rfl rfl (ex_move hf rfl) (fun a hf => ?_)
                refine stq hf rfl rfl rfl (ex_neq hf rfl rfl) (fun a hf => ?_)
                refine stq hf rfl rfl rfl (ex_pickF hf rfl rfl) (fun a hf => ?_)
                refine stq hf rfl rfl rfl (ex_move hf rfl) (fun a hf => ?_)
                replace hf := hf.castB (t := 50) rfl (ndec_t hc82)
                replace hf := hf.castB (t := 51) rfl (ndec_t hc82)
                replace hf := hf.castB (t := 52) rfl (ndec_t hc82)
                refine stepN hf rfl rfl rfl (fun a hf => ?_)
                refine stepN hf rfl rfl rfl (fun a hf => ?_)
                refine stq hf rfl rfl rfl (ex_pickT hf rfl rfl) (fun a hf => ?_)
                refine hK84 _ _ ?_
                replace hs := hs.pick (.k (.c (.k (.k (.k (.k .nil))))))
                replace hs := hs.pick (.k (.k (.k (.k (.k (.c .nil))))))
                replace hs := hs.pick (.k (.k (.c (.k (.k (.k .nil))))))
                replace hs := hs.pick (.k (.k (.k (.k (.k (.c .nil))))))
                replace hs := hs.pick (.k (.k (.k (.k (.k (.c .nil))))))
                replace hs := hs.pick (.k (.k (.k (.k (.k (.c .nil))))))
                have e80 := some_eq H; subst e80
                exact hJ80 _ _ ⟨hf.sub ⟨rfl, rfl, rfl, rfl, trivial⟩, hs⟩
            · -- not s15.2 = 0
              refine region_k (fun K85 hK85 => ?_)
              refine stq hf rfl rfl rfl (ex_move hf rfl) (fun a hf => ?_)
              refine stq hf rfl rfl rfl (ex_neq hf rfl rfl) (fun a hf => ?_)
              refine stq hf rfl rfl rfl (ex_move hf rfl) (fun a hf => ?_)
              replace hf := hf.castB (t := 47) rfl (ndec_t hc81)
              replace hf := hf.castB (t := 48) rfl (ndec_t hc81)
              refine stepN hf rfl rfl rfl (fun a hf => ?_)
              refine stepN hf rfl rfl rfl (fun a hf => ?_)
              refine stq hf rfl rfl rfl (ex_pickT hf rfl rfl) (fun a hf => ?_)
              refine stq hf rfl rfl rfl (ex_move hf rfl) (fun a hf => ?_)
              refine stepN hf rfl rfl rfl (fun a hf => ?_)
              refine stepN hf rfl rfl rfl (fun a hf => ?_)
              refine stq hf rfl rfl rfl (ex_pickT hf rfl rfl) (fun a hf => ?_)
              refine hK85 _ _ ?_
              replace hs := hs.pick (.k (.c (.k (.k (.k (.k .nil))))))
              replace hs := hs.pick (.k (.k (.k (.k (.k (.c .nil))))))
              replace hs := hs.pick (.k (.k (.c (.k (.k (.k .nil))))))
              replace hs := hs.pick (.k (.k (.k (.k (.k (.c .nil))))))
              replace hs := hs.pick (.k (.k (.k (.k (.k (.c .nil))))))
              replace hs := hs.pick (.k (.k (.k (.k (.k (.c .nil))))))
              have e80 := some_eq H; subst e80
              exact hJ80 _ _ ⟨hf.sub ⟨rfl, rfl, rfl, rfl, trivial⟩, hs⟩
          · obtain ⟨hf, hs⟩ := hJ
            replace H := HO80
            clear HO80
            refine itt H (fun hc86 H => ?_) (fun hc86 H => ?_)
            · -- x80 = true
              replace hf := hf.castB (t := 55) rfl hc86
              refine cond_T hf rfl ?_
              refine seq_reg (fun K87 hK87 => ?_)
              refine stq hf rfl rfl rfl (ex_assign hf rfl) (fun a hf => ?_)
              refine hK87 _ _ ?_
              refine wp_ret ?_
              refine hR79 _ _ ?_
              have eR := some_eq H; subst eR
              replace hs := hs.keep (.d (.d (.d (.d (.d (.d .nil))))))
              exact ret1 Try.results6 hf rfl ⟨_, rfl, ⟨rfl, hs⟩⟩
            · -- not x80 = true
              replace hf := hf.castB (t := 55) rfl (bool_f hc86)
              refine cond_F hf rfl ?_
              refine wp_skip ?_
              refine hN79 _ _ ?_
              refine bnd H (fun x88 H88 HO88 => ?_)
              clear H
              refine seq_cut (fun a w => ∃ (x88s : Unit), x88 = .go x88s ∧ Fr a 111 [] ∧ St M w0 w []) (fun Q88 hJ88 hR88 hX88 => ?_) (fun a w hJ => ?_)
              · replace H := H88
                refine seq_reg (fun K89 hK89 => ?_)
                refine stq hf rfl rfl rfl (ex_assign hf rfl) (fun a hf => ?_)
                refine hK89 _ _ ?_
                refine block_k (fun Q90 hN90 hR90 hX90 hY90 => ?_)
                refine loop_k (fun n a w => ∃ (y93 : (List Bool)) (y94 : Int) (y95 : (List Bool)) (y96 : Int) (y97 : Int) (v91 : Value) (v92 : Value), Fr a 111 [(2, v2), (9, .pointer (some ⟨b41, 0, none⟩)), (11, .pointer (some ⟨b76, 0, none⟩)), (13, .int .i64 y97)] ∧ St M w0 w [bx b41 62 [v42, v91, .int .i64 c16.2.2.1, .int .i64 y94], osl K_api_Trip v42 c16.1, osl K_bool v91 y93, bx b76 64 [v11, v92, .int .i64 c47.2.1, .int .i64 y96], osl K_api_Trip v11 s10, osl K_bool v92 y95] ∧ law39_ThermalZoneAgrees.l2 n a2 c16 s10 c47 y93 y94 y95 y96 y97 = some x88) k ?_ (fun n99 a w hI Q99 hL99 hR99 hX99 => ?_)
                · -- at the start
                  exact ⟨c16.2.1, c16.2.2.2, c47.1, c47.2.2, 0, v43, v77, hf.sub ⟨rfl, rfl, rfl, rfl, trivial⟩, hs, H⟩
                · obtain ⟨y93, y94, y95, y96, y97, v91, v92, hf, hs, H⟩ := hI
                  cases n99 with
                  | zero => exact absurd H (by rw [law39_ThermalZoneAgrees.l2.eq_1]; intro h; cases h)
                  | succ k99 =>
                    replace H := (law39_ThermalZoneAgrees.l2.eq_2 ..).symm.trans H
                    refine seq_n (fun Q100 hN100 hR100 hX100 => ?_)
                    refine seq_reg (fun K101 hK101 => ?_)
                    refine stq hf rfl rfl rfl (ex_move hf rfl) (fun a hf => ?_)
                    refine stq hf rfl rfl rfl (ex_move hf rfl) (fun a hf => ?_)
                    refine stq hf rfl rfl rfl (ex_lenS Try.underlying46 (rsl_isSl (hr.now hs (i := 1) rfl)) hf rfl) (fun a hf => ?_)
                    refine stq hf rfl rfl rfl (ex_lss hf rfl rfl) (fun a hf => ?_)
                    refine hK101 _ _ ?_
                    refine itt H (fun hc102 H => ?_) (fun hc102 H => ?_)
                    · -- y97 < (a2.length : Int)
                      replace hf := hf.castB (t := 59) rfl (dec_t hc102)
                      refine cond_T hf rfl ?_
                      refine wp_skip ?_
                      refine hN100 _ _ ?_
                      refine seq_n (fun Q103 hN103 hR103 hX103 => ?_)
                      refine block_k (fun Q104 hN104 hR104 hX104 hY104 => ?_)
                      refine ck_some H (fun hc105 H => ?_)
                      refine bnd H (fun s106 hs106 H => ?_)
                      refine seq_reg (fun K107 hK107 => ?_)
                      refine stq hf rfl rfl rfl (ex_move hf rfl) (fun a hf => ?_)
                      refine stq hf rfl rfl rfl (ex_move hf rfl) (fun a hf => ?_)
                      refine stq hf rfl rfl rfl (ex_indexAddr sa_46 (rsl_isSl (hr.now hs (i := 1) rfl)) hc105.1 hc105.2 hf rfl rfl) (fun a hf => ?_)
                      refine stq hf rfl rfl rfl (ex_load sc_2 hf rfl (el_cell (K := K_int64) (f := 0) (rsl_rd (hr.now hs (i := 1) rfl)) hc105.1 hc105.2 rfl)) (fun a hf => ?_)
                      refine stq hf rfl rfl rfl (ex_move hf rfl) (fun a hf => ?_)
                      refine stepF hf rfl rfl rfl (ex_call cf_21 hf rfl) (law39_degree.calls k99 (gd 0 a2 y97) y97 (hs.enter (.k (.k (.k (.k (.k (.k .nil))))))) (Sr.nil _ _) hs106) (fun v w hR a hf => ?_)
                      obtain ⟨rfl, hs'⟩ := hR
                      replace hs := hs.step (.k (.k (.k (.k (.k (.k .nil)))))) hs'
                      clear hs'
                      refine stq hf rfl rfl rfl (ex_assign hf rfl) (fun a hf => ?_)
                      refine hK107 _ _ ?_
                      refine bnd H (fun s108 hs108 H => ?_)
                      refine seq_reg (fun K110 hK110 => ?_)
                      refine stq hf rfl rfl rfl (ex_move hf rfl) (fun a hf => ?_)
                      refine stq hf rfl rfl rfl (ex_move hf rfl) (fun a hf => ?_)
                      refine stepF hf rfl rfl rfl (ex_call cf_22 hf rfl) (thermal_Zone_Update.calls k99 c16.1 y93 c16.2.2.1 y94 s106 b41 v42 v91 (hs.enter (.c (.k (.c (.k (.k (.k .nil))))))) (Sr.own hs (.c (.k (.c (.k (.k (.k .nil)))))) (i := 0) rfl osl_rsl (fun _ h => h.1) (Sr.nil _ _)) hs108) (fun v w hR a hf => ?_)
                      obtain ⟨v109, rfl, hs'⟩ := hR
                      replace hs := hs.step (.c (.k (.c (.k (.k (.k .nil)))))) hs'
                      clear hs'
                      refine stq hf rfl rfl rfl (ex_move hf rfl) (fun a hf => ?_)
                      refine stq hf rfl rfl rfl (ex_extract hf rfl rfl) (fun a hf => ?_)
                      refine stq hf rfl rfl rfl (ex_extract hf rfl rfl) (fun a hf => ?_)
                      refine stq hf rfl rfl rfl (ex_extract hf rfl rfl) (fun a hf => ?_)
                      refine stq hf rfl rfl rfl (ex_assign hf rfl) (fun a hf => ?_)
                      refine stq hf rfl rfl rfl (ex_assign hf rfl) (fun a hf => ?_)
                      refine stq hf rfl rfl rfl (ex_assign hf rfl) (fun a hf => ?_)
                      refine hK110 _ _ ?_
                      refine bnd H (fun s111 hs111 H => ?_)
                      refine seq_reg (fun K113 hK113 => ?_)
                      refine stq hf rfl rfl rfl (ex_move hf rfl) (fun a hf => ?_)
                      refine stq hf rfl rfl rfl (ex_move hf rfl) (fun a hf => ?_)
                      refine stepF hf rfl rfl rfl (ex_call cf_23 hf rfl) (ref39_Zone_Update.calls k99 s10 y95 c47.2.1 y96 s106 b76 v11 v92 (hs.enter (.k (.k (.k (.c (.k (.c .nil))))))) (Sr.own hs (.k (.k (.k (.c (.k (.c .nil)))))) (i := 3) rfl osl_rsl (fun _ h => h.1) (Sr.nil _ _)) hs111) (fun v w hR a hf => ?_)
                      obtain ⟨v112, rfl, hs'⟩ := hR
                      replace hs := hs.step (.k (.k (.k (.c (.k (.c .nil)))))) hs'
                      clear hs'
                      refine stq hf rfl rfl rfl (ex_move hf rfl) (fun a hf => ?_)
                      refine stq hf rfl rfl rfl (ex_extract hf rfl rfl) (fun a hf => ?_)
                      refine stq hf rfl rfl rfl (ex_extract hf rfl rfl) (fun a hf => ?_)
                      refine stq hf rfl rfl rfl (ex_extract hf rfl rfl) (fun a hf => ?_)
                      refine stq hf rfl rfl rfl (ex_assign hf rfl) (fun a hf => ?_)
                      refine stq hf rfl rfl rfl (ex_assign hf rfl) (fun a hf => ?_)
                      refine stq hf rfl rfl rfl (ex_assign hf rfl) (fun a hf => ?_)
                      refine hK113 _ _ ?_
                      refine bnd H (fun x114 H114 HO114 => ?_)
                      clear H
                      refine seq_cut (fun a w => Fr a 111 [(2, v2), (9, .pointer (some ⟨b41, 0, none⟩)), (11, .pointer (some ⟨b76, 0, none⟩)), (13, .int .i64 y97), (109, .bool x114)] ∧ St M w0 w [bx b41 62 [v42, v109, .int .i64 c16.2.2.1, .int .i64 s108.1], osl K_api_Trip v42 c16.1, osl K_bool v109 s108.2.1, bx b76 64 [v11, v112, .int .i64 c47.2.1, .int .i64 s111.1], osl K_api_Trip v11 s10, osl K_bool v112 s111.2.1]) (fun Q114 hJ114 hR114 hX114 => ?_) (fun a w hJ => ?_)
                      · replace H := H114
                        refine itt H (fun hc115 H => ?_) (fun hc115 H => ?_)
                        · -- s108.2.2.1 = s111.2.2.1
                          refine itt H (fun hc116 H => ?_) (fun hc116 H => ?_)
                          · -- (s108.2.2.2.1 == s111.2.2.2.1) = true
                            refine itt H (fun hc117 H => ?_) (fun hc117 H => ?_)
                            · -- s108.2.2.2.2 = s111.2.2.2.2
                              refine bnd H (fun s118 hs118 H => ?_)
                              refine bnd H (fun s119 hs119 H => ?_)
                              refine itt H (fun hc120 H => ?_) (fun hc120 H => ?_)
                              · -- s118 = s119
                                refine bnd H (fun s121 hs121 H => ?_)
                                refine bnd H (fun s123 hs123 H => ?_)
                                refine bnd H (fun s125 hs125 H => ?_)
                                refine region_k (fun K126 hK126 => ?_)
                                refine stq hf rfl rfl rfl (ex_move hf rfl) (fun a hf => ?_)
                                refine stq hf rfl rfl rfl (ex_move hf rfl) (fun a hf => ?_)
                                refine stq hf rfl rfl rfl (ex_neq hf rfl rfl) (fun a hf => ?_)
                                refine stq hf rfl rfl rfl (ex_move hf rfl) (fun a hf => ?_)
                                replace hf := hf.castB (t := 84) rfl (ndec_f hc115)
                                replace hf := hf.castB (t := 85) rfl (ndec_f hc115)
                                refine stq hf rfl rfl rfl (ex_move hf rfl) (fun a hf => ?_)
                                refine stq hf rfl rfl rfl (ex_move hf rfl) (fun a hf => ?_)
                                refine stq hf rfl rfl rfl (ex_neb Try.underlying4 hf rfl rfl) (fun a hf => ?_)
                                refine stq hf rfl rfl rfl (ex_pickF hf rfl rfl) (fun a hf => ?_)
                                refine stq hf rfl rfl rfl (ex_move hf rfl) (fun a hf => ?_)
                                replace hf := hf.castB (t := 88) rfl (nbool_f hc116)
                                replace hf := hf.castB (t := 89) rfl (nbool_f hc116)
                                replace hf := hf.castB (t := 90) rfl (nbool_f hc116)
                                refine stq hf rfl rfl rfl (ex_move hf rfl) (fun a hf => ?_)
                                refine stq hf rfl rfl rfl (ex_move hf rfl) (fun a hf => ?_)
                                refine stq hf rfl rfl rfl (ex_neq hf rfl rfl) (fun a hf => ?_)
                                refine stq hf rfl rfl rfl (ex_pickF hf rfl rfl) (fun a hf => ?_)
                                refine stq hf rfl rfl rfl (ex_move hf rfl) (fun a hf => ?_)
                                replace hf := hf.castB (t := 93) rfl (ndec_f hc117)
                                replace hf := hf.castB (t := 94) rfl (ndec_f hc117)
                                replace hf := hf.castB (t := 95) rfl (ndec_f hc117)
                                refine stq hf rfl rfl rfl (ex_move hf rfl) (fun a hf => ?_)
                                refine stepF hf rfl rfl rfl (ex_call cf_24 hf rfl) (thermal_Zone_Level.calls k99 c16.1 s108.2.1 c16.2.2.1 s108.1 b41 v42 v109 (hs.enter (.k (.k (.k (.k (.k (.k .nil))))))) (Sr.own hs (.k (.k (.k (.k (.k (.k .nil)))))) (i := 2) rfl (fun _ h => h) (fun _ h => h) (Sr.own hs (.k (.k (.k (.k (.k (.k .nil)))))) (i := 4) rfl osl_rsl (fun _ h => h.1) (Sr.own hs (.k (.k (.k (.k (.k (.k .nil)))))) (i := 3) rfl osl_rsl (fun _ h => h.1) (Sr.nil _ _)))) hs118) (fun v w hR a hf => ?_)
                                obtain ⟨rfl, hs'⟩ := hR
                                replace hs := hs.step (.k (.k (.k (.k (.k (.k .nil)))))) hs'
                                clear hs'
                                refine stq hf rfl rfl rfl (ex_move hf rfl) (fun a hf => ?_)
                                refine stepF hf rfl rfl rfl (ex_call cf_25 hf rfl) (ref39_Zone_Level.calls k99 s10 s111.2.1 c47.2.1 s111.1 b76 v11 v112 (hs.enter (.k (.k (.k (.k (.k (.k .nil))))))) (Sr.own hs (.k (.k (.k (.k (.k (.k .nil)))))) (i := 0) rfl (fun _ h => h) (fun _ h => h) (Sr.own hs (.k (.k (.k (.k (.k (.k .nil)))))) (i := 5) rfl osl_rsl (fun _ h => h.1) (Sr.own hs (.k (.k (.k (.k (.k (.k .nil)))))) (i := 1) rfl osl_rsl (fun _ h => h.1) (Sr.nil _ _)))) hs119) (fun v w hR a hf => ?_)
                                obtain ⟨rfl, hs'⟩ := hR
                                replace hs := hs.step (.k (.k (.k (.k (.k (.k .nil)))))) hs'
                                clear hs'
                                refine stq hf rfl rfl rfl (ex_neq hf rfl rfl) (fun a hf => ?_)
                                refine stq hf rfl rfl rfl (ex_pickF hf rfl rfl) (fun a hf => ?_)
                                refine stq hf rfl rfl rfl (ex_move hf rfl) (fun a hf => ?_)
                                replace hf := hf.castB (t := 100) rfl (ndec_f hc120)
                                replace hf := hf.castB (t := 101) rfl (ndec_f hc120)
                                replace hf := hf.castB (t := 102) rfl (ndec_f hc120)
                                refine stq hf rfl rfl rfl (ex_move hf rfl) (fun a hf => ?_)
                                refine stepF hf rfl rfl rfl (ex_call cf_27 hf rfl) (thermal_Zone_Active.calls k99 c16.1 s108.2.1 c16.2.2.1 s108.1 b41 v42 v109 (hs.enter (.k (.k (.k (.k (.k (.k .nil))))))) (Sr.own hs (.k (.k (.k (.k (.k (.k .nil)))))) (i := 2) rfl (fun _ h => h) (fun _ h => h) (Sr.own hs (.k (.k (.k (.k (.k (.k .nil)))))) (i := 4) rfl osl_rsl (fun _ h => h.1) (Sr.own hs (.k (.k (.k (.k (.k (.k .nil)))))) (i := 3) rfl osl_rsl (fun _ h => h.1) (Sr.nil _ _)))) hs121) (fun v w hR a hf => ?_)
                                obtain ⟨v122, rfl, hs'⟩ := hR
                                replace hs := hs.step (.k (.k (.k (.k (.k (.k .nil)))))) hs'
                                clear hs'
                                refine stq hf rfl rfl rfl (ex_move hf rfl) (fun a hf => ?_)
                                refine stepF hf rfl rfl rfl (ex_call cf_28 hf rfl) (ref39_Zone_Active.calls k99 s10 s111.2.1 c47.2.1 s111.1 b76 v11 v112 (hs.enter (.k (.k (.k (.k (.k (.k (.k .nil)))))))) (Sr.own hs (.k (.k (.k (.k (.k (.k (.k .nil))))))) (i := 1) rfl (fun _ h => h) (fun _ h => h) (Sr.own hs (.k (.k (.k (.k (.k (.k (.k .nil))))))) (i := 6) rfl osl_rsl (fun _ h => h.1) (Sr.own hs (.k (.k (.k (.k (.k (.k (.k .nil))))))) (i := 2) rfl osl_rsl (fun _ h => h.1) (Sr.nil _ _)))) hs123) (fun v w hR a hf => ?_)
                                obtain ⟨v124, rfl, hs'⟩ := hR
                                replace hs := hs.step (.k (.k (.k (.k (.k (.k (.k .nil))))))) hs'
                                clear hs'
                                refine stepF hf rfl rfl rfl (ex_call cf_26 hf rfl) (help_Equal_bool.calls k99 s121 s123 v122 v124 (hs.enter (.k (.k (.k (.k (.k (.k (.k (.k .nil))))))))) (Sr.own hs (.k (.k (.k (.k (.k (.k (.k (.k .nil)))))))) (i := 1) rfl osl_rsl (fun _ h => h.1) (Sr.own hs (.k (.k (.k (.k (.k (.k (.k (.k .nil)))))))) (i := 0) rfl osl_rsl (fun _ h => h.1) (Sr.nil _ _))) hs125) (fun v w hR a hf => ?_)
                                obtain ⟨rfl, hs'⟩ := hR
                                replace hs := hs.step (.k (.k (.k (.k (.k (.k (.k (.k .nil)))))))) hs'
                                clear hs'
                                refine stq hf rfl rfl rfl (ex_not hf rfl) (fun a hf => ?_)
                                refine stq hf rfl rfl rfl (ex_pickF hf rfl rfl) (fun a hf => ?_)
                                refine hK126 _ _ ?_
                                replace hs := hs.keep (.d (.d (.k (.k (.k (.k (.k (.k .nil))))))))
                                replace hs := hs.pick (.k (.c (.k (.k (.k (.k .nil))))))
                                replace hs := hs.pick (.k (.k (.k (.k (.k (.c .nil))))))
                                replace hs := hs.pick (.k (.k (.c (.k (.k (.k .nil))))))
                                replace hs := hs.pick (.k (.k (.k (.k (.c (.k .nil))))))
                                replace hs := hs.pick (.k (.k (.k (.k (.k (.c .nil))))))
                                replace hs := hs.pick (.k (.k (.k (.k (.k (.c .nil))))))
                                have e114 := some_eq H; subst e114
                                exact hJ114 _ _ ⟨hf.sub ⟨rfl, rfl, rfl, rfl, rfl, trivial⟩, hs⟩
                              · -- not s118 = s119
                                refine region_k (fun K127 hK127 => ?_)
                                refine stq hf rfl rfl rfl (ex_move hf rfl) (fun a hf => ?_)
                                refine stq hf rfl rfl rfl (ex_move hf rfl) (fun a hf => ?_)
                                refine stq hf rfl rfl rfl (ex_neq hf rfl rfl) (fun a hf => ?_)
                                refine stq hf rfl rfl rfl (ex_move hf rfl) (fun a hf => ?_)
                                replace hf := hf.castB (t := 84) rfl (ndec_f hc115)
                                replace hf := hf.castB (t := 85) rfl (ndec_f hc115)
                                refine stq hf rfl rfl rfl (ex_move hf rfl) (fun a hf => ?_)
                                refine stq hf rfl rfl rfl (ex_move hf rfl) (fun a hf => ?_)
                                refine stq hf rfl rfl rfl (ex_neb Try.underlying4 hf rfl rfl) (fun a hf => ?_)
                                refine stq hf rfl rfl rfl (ex_pickF hf rfl rfl) (fun a hf => ?_)
                                refine stq hf rfl rfl rfl (ex_move hf rfl) (fun a hf => ?_)
                                replace hf := hf.castB (t := 88) rfl (nbool_f hc116)
                                replace hf := hf.castB (t := 89) rfl (nbool_f hc116)
                                replace hf := hf.castB (t := 90) rfl (nbool_f hc116)
                                refine stq hf rfl rfl rfl (ex_move hf rfl) (fun a hf => ?_)
                                refine stq hf rfl rfl rfl (ex_move hf rfl) (fun a hf => ?_)
                                refine stq hf rfl rfl rfl (ex_neq hf rfl rfl) (fun a hf => ?_)
                                refine stq hf rfl rfl rfl (ex_pickF hf rfl rfl) (fun a hf => ?_)
                                refine stq hf rfl rfl rfl (ex_move hf rfl) (fun a hf => ?_)
                                replace hf := hf.castB (t := 93) rfl (ndec_f hc117)
                                replace hf := hf.castB (t := 94) rfl (ndec_f hc117)
                                replace hf := hf.castB (t := 95) rfl (ndec_f hc117)
                                refine stq hf rfl rfl rfl (ex_move hf rfl) (fun a hf => ?_)
                                refine stepF hf rfl rfl rfl (ex_call cf_24 hf rfl) (thermal_Zone_Level.calls k99 c16.1 s108.2.1 c16.2.2.1 s108.1 b41 v42 v109 (hs.enter (.k (.k (.k (.k (.k (.k .nil))))))) (Sr.own hs (.k (.k (.k (.k (.k (.k .nil)))))) (i := 2) rfl (fun _ h => h) (fun _ h => h) (Sr.own hs (.k (.k (.k (.k (.k (.k .nil)))))) (i := 4) rfl osl_rsl (fun _ h => h.1) (Sr.own hs (.k (.k (.k (.k (.k (.k .nil)))))) (i := 3) rfl osl_rsl (fun _ h => h.1) (Sr.nil _ _)))) hs118) (fun v w hR a hf => ?_)
                                obtain ⟨rfl, hs'⟩ := hR
                                replace hs := hs.step (.k (.k (.k (.k (.k (.k .nil)))))) hs'
                                clear hs'
                                refine stq hf rfl rfl rfl (ex_move hf rfl) (fun a hf => ?_)
                                refine stepF hf rfl rfl rfl (ex_call cf_25 hf rfl) (ref39_Zone_Level.calls k99 s10 s111.2.1 c47.2.1 s111.1 b76 v11 v112 (hs.enter (.k (.k (.k (.k (.k (.k .nil))))))) (Sr.own hs (.k (.k (.k (.k (.k (.k .nil)))))) (i := 0) rfl (fun _ h => h) (fun _ h => h) (Sr.own hs (.k (.k (.k (.k (.k (.k .nil)))))) (i := 5) rfl osl_rsl (fun _ h => h.1) (Sr.own hs (.k (.k (.k (.k (.k (.k .nil)))))) (i := 1) rfl osl_rsl (fun _ h => h.1) (Sr.nil _ _)))) hs119) (fun v w hR a hf => ?_)
                                obtain ⟨rfl, hs'⟩ := hR
                                replace hs := hs.step (.k (.k (.k (.k (.k (.k .nil)))))) hs'
                                clear hs'
                                refine stq hf rfl rfl rfl (ex_neq hf rfl rfl) (fun a hf => ?_)
                                refine stq hf rfl rfl rfl (ex_pickF hf rfl rfl) (fun a hf => ?_)
                                refine stq hf rfl rfl rfl (ex_move hf rfl) (fun a hf => ?_)
                                replace hf := hf.castB (t := 100) rfl (ndec_t hc120)
                                replace hf := hf.castB (t := 101) rfl (ndec_t hc120)
                                replace hf := hf.castB (t := 102) rfl (ndec_t hc120)
                                refine stepN hf rfl rfl rfl (fun a hf => ?_)
                                refine stepN hf rfl rfl rfl (fun a hf => ?_)
                                refine stepN hf rfl rfl rfl (fun a hf => ?_)
                                refine stepN hf rfl rfl rfl (fun a hf => ?_)
                                refine stepN hf rfl rfl rfl (fun a hf => ?_)
                                refine stepN hf rfl rfl rfl (fun a hf => ?_)
                                refine stq hf rfl rfl rfl (ex_pickT hf rfl rfl) (fun a hf => ?_)
                                refine hK127 _ _ ?_
                                replace hs := hs.pick (.k (.c (.k (.k (.k (.k .nil))))))
                                replace hs := hs.pick (.k (.k (.k (.k (.k (.c .nil))))))
                                replace hs := hs.pick (.k (.k (.c (.k (.k (.k .nil))))))
                                replace hs := hs.pick (.k (.k (.k (.k (.c (.k .nil))))))
                                replace hs := hs.pick (.k (.k (.k (.k (.k (.c .nil))))))
                                replace hs := hs.pick (.k (.k (.k (.k (.k (.c .nil))))))
                                have e114 := some_eq H; subst e114
                                exact hJ114 _ _ ⟨hf.sub ⟨rfl, rfl, rfl, rfl, rfl, trivial⟩, hs⟩
                            · -- not s108.2.2.2.2 = s111.2.2.2.2
                              refine region_k (fun K128 hK128 => ?_)
                              refine stq hf rfl rfl rfl (ex_move hf rfl) (fun a hf => ?_)
                              refine stq hf rfl rfl rfl (ex_move hf rfl) (fun a hf => ?_)
                              refine stq hf rfl rfl rfl (ex_neq hf rfl rfl) (fun a hf => ?_)
                              refine stq hf rfl rfl rfl (ex_move hf rfl) (fun a hf => ?_)
                              replace hf := hf.castB (t := 84) rfl (ndec_f hc115)
                              replace hf := hf.castB (t := 85) rfl (ndec_f hc115)
                              refine stq hf rfl rfl rfl (ex_move hf rfl) (fun a hf => ?_)
                              refine stq hf rfl rfl rfl (ex_move hf rfl) (fun a hf => ?_)
                              refine stq hf rfl rfl rfl (ex_neb Try.underlying4 hf rfl rfl) (fun a hf => ?_)
                              refine stq hf rfl rfl rfl (ex_pickF hf rfl rfl) (fun a hf => ?_)
                              refine stq hf rfl rfl rfl (ex_move hf rfl) (fun a hf => ?_)
                              replace hf := hf.castB (t := 88) rfl (nbool_f hc116)
                              replace hf := hf.castB (t := 89) rfl (nbool_f hc116)
                              replace hf := hf.castB (t := 90) rfl (nbool_f hc116)
                              refine stq hf rfl rfl rfl (ex_move hf rfl) (fun a hf => ?_)
                              refine stq hf rfl rfl rfl (ex_move hf rfl) (fun a hf => ?_)
                              refine stq hf rfl rfl rfl (ex_neq hf rfl rfl) (fun a hf => ?_)
                              refine stq hf rfl rfl rfl (ex_pickF hf rfl rfl) (fun a hf => ?_)
                              refine stq hf rfl rfl rfl (ex_move hf rfl) (fun a hf => ?_)
                              replace hf := hf.castB (t := 93) rfl (ndec_t hc117)
                              replace hf := hf.castB (t := 94) rfl (ndec_t hc117)
                              replace hf := hf.castB (t := 95) rfl (ndec_t hc117)
                              refine stepN hf rfl rfl rfl (fun a hf => ?_)
                              refine stepN hf rfl rfl rfl (fun a hf => ?_)
                              refine stepN hf rfl rfl rfl (fun a hf => ?_)
                              refine stepN hf rfl rfl rfl (fun a hf => ?_)
                              refine stepN hf rfl rfl rfl (fun a hf => ?_)
                              refine stq hf rfl rfl rfl (ex_pickT hf rfl rfl) (fun a hf => ?_)
                              refine stq hf rfl rfl rfl (ex_move hf rfl) (fun a hf => ?_)
                              refine stepN hf rfl rfl rfl (fun a hf => ?_)
                              refine stepN hf rfl rfl rfl (fun a hf => ?_)
                              refine stepN hf rfl rfl rfl (fun a hf => ?_)
                              refine stepN hf rfl rfl rfl (fun a hf => ?_)
                              refine stepN hf rfl rfl rfl (fun a hf => ?_)
                              refine stepN hf rfl rfl rfl (fun a hf => ?_)
                              refine stq hf rfl rfl rfl (ex_pickT hf rfl rfl) (fun a hf => ?_)
                              refine hK128 _ _ ?_
                              replace hs := hs.pick (.k (.c (.k (.k (.k (.k .nil))))))
                              replace hs := hs.pick (.k (.k (.k (.k (.k (.c .nil))))))
                              replace hs := hs.pick (.k (.k (.c (.k (.k (.k .nil))))))
                              replace hs := hs.pick (.k (.k (.k (.k (.c (.k .nil))))))
                              replace hs := hs.pick (.k (.k (.k (.k (.k (.c .nil))))))
                              replace hs := hs.pick (.k (.k (.k (.k (.k (.c .nil))))))
                              have e114 := some_eq H; subst e114
                              exact hJ114 _ _ ⟨hf.sub ⟨rfl, rfl, rfl, rfl, rfl, trivial⟩, hs⟩
                          · -- not (s108.2.2.2.1 == s111.2.2.2.1) = true
                            refine region_k (fun K129 hK129 => ?_)
                            refine stq hf rfl rfl rfl (ex_move hf rfl) (fun a hf => ?_)
                            refine stq hf rfl rfl rfl (ex_move hf rfl) (fun a hf => ?_)
                            refine stq hf rfl rfl rfl (ex_neq hf rfl rfl) (fun a hf => ?_)
                            refine stq hf rfl rfl rfl (ex_move hf rfl) (fun a hf => ?_)
                            replace hf := hf.castB (t := 84) rfl (ndec_f hc115)
                            replace hf := hf.castB (t := 85) rfl (ndec_f hc115)
                            refine stq hf rfl rfl rfl (ex_move hf rfl) (fun a hf => ?_)
                            refine stq hf rfl rfl rfl (ex_move hf rfl) (fun a hf => ?_)
                            refine stq hf rfl rfl rfl (ex_neb Try.underlying4 hf rfl rfl) (fun a hf => ?_)
                            refine stq hf rfl rfl rfl (ex_pickF hf rfl rfl) (fun a hf => ?_)
                            refine stq hf rfl rfl rfl (ex_move hf rfl) (fun a hf => ?_)
                            replace hf := hf.castB (t := 88) rfl (nbool_t hc116)
                            replace hf := hf.castB (t := 89) rfl (nbool_t hc116)
                            replace hf := hf.castB (t := 90) rfl (nbool_t hc116)
                            refine stepN hf rfl rfl rfl (fun a hf => ?_)
                            refine stepN hf rfl rfl rfl (fun a hf => ?_)
                            refine stepN hf rfl rfl rfl (fun a hf => ?_)
                            refine stq hf rfl rfl rfl (ex_pickT hf rfl rfl) (fun a hf => ?_)
                            refine stq hf rfl rfl rfl (ex_move hf rfl) (fun a hf => ?_)
                            refine stepN hf rfl rfl rfl (fun a hf => ?_)
                            refine stepN hf rfl rfl rfl (fun a hf => ?_)
                            refine stepN hf rfl rfl rfl (fun a hf => ?_)
                            refine stepN hf rfl rfl rfl (fun a hf => ?_)
                            refine stepN hf rfl rfl rfl (fun a hf => ?_)
                            refine stq hf rfl rfl rfl (ex_pickT hf rfl rfl) (fun a hf => ?_)
                            refine stq hf rfl rfl rfl (ex_move hf rfl) (fun a hf => ?_)
                            refine stepN hf rfl rfl rfl (fun a hf => ?_)
                            refine stepN hf rfl rfl rfl (fun a hf => ?_)
                            refine stepN hf rfl rfl rfl (fun a hf => ?_)
                            refine stepN hf rfl rfl rfl (fun a hf => ?_)
                            refine stepN hf rfl rfl rfl (fun a hf => ?_)
                            refine stepN hf rfl rfl rfl (fun a hf => ?_)
                            refine stq hf rfl rfl rfl (ex_pickT hf rfl rfl) (fun a hf => ?_)
                            refine hK129 _ _ ?_
                            replace hs := hs.pick (.k (.c (.k (.k (.k (.k .nil))))))
                            replace hs := hs.pick (.k (.k (.k (.k (.k (.c .nil))))))
                            replace hs := hs.pick (.k (.k (.c (.k (.k (.k .nil))))))
                            replace hs := hs.pick (.k (.k (.k (.k (.c (.k .nil))))))
                            replace hs := hs.pick (.k (.k (.k (.k (.k (.c .nil))))))
                            replace hs := hs.pick (.k (.k (.k (.k (.k (.c .nil))))))
                            have e114 := some_eq H; subst e114
                            exact hJ114 _ _ ⟨hf.sub ⟨rfl, rfl, rfl, rfl, rfl, trivial⟩, hs⟩
                        · -- not s108.2.2.1 = s111.2.2.1
                          refine region_k (fun K130 hK130 => ?_)
                          refine stq hf rfl rfl rfl (ex_move hf rfl) (fun a hf => ?_)
                          refine stq hf rfl rfl rfl (ex_move hf rfl) (fun a hf => ?_)
                          refine stq hf rfl rfl rfl (ex_neq hf rfl rfl) (fun a hf => ?_)
                          refine stq hf rfl rfl rfl (ex_move hf rfl) (fun a hf => ?_)
                          replace hf := hf.castB (t := 84) rfl (ndec_t hc115)
                          replace hf := hf.castB (t := 85) rfl (ndec_t hc115)
                          refine stepN hf rfl rfl rfl (fun a hf => ?_)
                          refine stepN hf rfl rfl rfl (fun a hf => ?_)
                          refine stepN hf rfl rfl rfl (fun a hf => ?_)
                          refine stq hf rfl rfl rfl (ex_pickT hf rfl rfl) (fun a hf => ?_)
                          refine stq hf rfl rfl rfl (ex_move hf rfl) (fun a hf => ?_)
                          refine stepN hf rfl rfl rfl (fun a hf => ?_)
                          refine stepN hf rfl rfl rfl (fun a hf => ?_)
                          refine stepN hf rfl rfl rfl (fun a hf => ?_)
                          refine stq hf rfl rfl rfl (ex_pickT hf rfl rfl) (fun a hf => ?_)
                          refine stq hf rfl rfl rfl (ex_move hf rfl) (fun a hf => ?_)
                          refine stepN hf rfl rfl rfl (fun a hf => ?_)
                          refine stepN hf rfl rfl rfl (fun a hf => ?_)
                          refine stepN hf rfl rfl rfl (fun a hf => ?_)
                          refine stepN hf rfl rfl rfl (fun a hf => ?_)
                          refine stepN hf rfl rfl rfl (fun a hf => ?_)
                          refine stq hf rfl rfl rfl (ex_pickT hf rfl rfl) (fun a hf => ?_)
                          refine stq hf rfl rfl rfl (ex_move hf rfl) (fun a hf => ?_)
                          refine stepN hf rfl rfl rfl (fun a hf => ?_)
                          refine stepN hf rfl rfl rfl (fun a hf => ?_)
                          refine stepN hf rfl rfl rfl (fun a hf => ?_)
                          refine stepN hf rfl rfl rfl (fun a hf => ?_)
                          refine stepN hf rfl rfl rfl (fun a hf => ?_)
                          refine stepN hf rfl rfl rfl (fun a hf => ?_)
                          refine stq hf rfl rfl rfl (ex_pickT hf rfl rfl) (fun a hf => ?_)
                          refine hK130 _ _ ?_
                          replace hs := hs.pick (.k (.c (.k (.k (.k (.k .nil))))))
                          replace hs := hs.pick (.k (.k (.k (.k (.k (.c .nil))))))
                          replace hs := hs.pick (.k (.k (.c (.k (.k (.k .nil))))))
                          replace hs := hs.pick (.k (.k (.k (.k (.c (.k .nil))))))
                          replace hs := hs.pick (.k (.k (.k (.k (.k (.c .nil))))))
                          replace hs := hs.pick (.k (.k (.k (.k (.k (.c .nil))))))
                          have e114 := some_eq H; subst e114
                          exact hJ114 _ _ ⟨hf.sub ⟨rfl, rfl, rfl, rfl, rfl, trivial⟩, hs⟩
                      · obtain ⟨hf, hs⟩ := hJ
                        replace H := HO114
                        clear HO114
                        refine itt H (fun hc131 H => ?_) (fun hc131 H => ?_)
                        · -- x114 = true
                          replace hf := hf.castB (t := 109) rfl hc131
                          refine cond_T hf rfl ?_
                          refine seq_reg (fun K132 hK132 => ?_)
                          refine stq hf rfl rfl rfl (ex_assign hf rfl) (fun a hf => ?_)
                          refine hK132 _ _ ?_
                          refine wp_ret ?_
                          refine hR104 _ _ ?_
                          refine hR103 _ _ ?_
                          refine hR99 _ _ ?_
                          refine hR90 _ _ ?_
                          have e88 := some_eq H; subst e88; replace H := el_rt HO88
                          refine hR88 _ _ ?_
                          have eR := some_eq H; subst eR
                          replace hs := hs.keep (.d (.d (.d (.d (.d (.d .nil))))))
                          exact ret1 Try.results6 hf rfl ⟨_, rfl, ⟨rfl, hs⟩⟩
                        · -- not x114 = true
                          replace hf := hf.castB (t := 109) rfl (bool_f hc131)
                          refine cond_F hf rfl ?_
                          refine wp_skip ?_
                          refine hN104 _ _ ?_
                          refine hN103 _ _ ?_
                          refine region_k (fun K133 hK133 => ?_)
                          refine stq hf rfl rfl rfl (ex_move hf rfl) (fun a hf => ?_)
                          refine stq hf rfl rfl rfl (ex_add hf rfl rfl) (fun a hf => ?_)
                          refine stq hf rfl rfl rfl (ex_assign hf rfl) (fun a hf => ?_)
                          refine hK133 _ _ ?_
                          exact hL99 k99 _ _ (Nat.lt_succ_self _) ⟨s108.2.1, s108.1, s111.2.1, s111.1, (IntKind.i64.wrap (y97 + 1)), v109, v112, hf.sub ⟨rfl, rfl, rfl, rfl, trivial⟩, hs, H⟩
                    · -- not y97 < (a2.length : Int)
                      replace hf := hf.castB (t := 59) rfl (dec_f hc102)
                      refine cond_F hf rfl ?_
                      refine wp_exit ?_
                      refine hX100 0 _ _ ?_
                      refine hX99 0 _ _ ?_
                      refine hX90 _ _ ?_
                      replace hs := hs.keep (.d (.d (.d (.d (.d (.d .nil))))))
                      have e88 := some_eq H; subst e88
                      exact hJ88 _ _ ⟨_, rfl, hf.sub trivial, hs⟩
              · obtain ⟨x88s, rfl, hf, hs⟩ := hJ
                replace H := el_go HO88
                clear HO88
                refine bnd H (fun s134 hs134 H => ?_)
                refine seq_reg (fun K135 hK135 => ?_)
                refine stepF hf rfl rfl rfl (ex_call cf_10 hf rfl) (law39_awake.calls k (hs.enter .nil) (Sr.nil _ _) hs134) (fun v w hR a hf => ?_)
                obtain ⟨rfl, hs'⟩ := hR
                replace hs := hs.step .nil hs'
                clear hs'
                refine stq hf rfl rfl rfl (ex_assign hf rfl) (fun a hf => ?_)
                refine hK135 _ _ ?_
                refine wp_ret ?_
                have eR := some_eq H; subst eR
                exact ret1 Try.results6 hf rfl ⟨_, rfl, ⟨rfl, hs⟩⟩

end Go.Proofs.Ytkcmohmnmapnbaa.X
