/- Each function of the machine comes to what its pure function says. -/
import Derived.Test.YtkcmohmnmapnbaaFc1
import Derived.Test.YtkcmohmnmapnbaaFc2
import Derived.Test.YtkcmohmnmapnbaaFb
namespace Go.Proofs.Ytkcmohmnmapnbaa.X
open Go Go.RowKit Go.Sx
set_option linter.unusedVariables false

set_option maxHeartbeats 4000000 in
set_option maxRecDepth 100000 in
theorem law39_ThermalTripsAgree.calls {M : Nat → Prop} {w0 : World} (k : Nat) (a0 : (List Trip)) (a1 : Int) (a2 : Int) (a3 : Trip) (v0 : Value) {r : Bool} (hs : St M w0 w0 []) (hr : Sr M w0 [rsl K_api_Trip v0 a0])
    (h : law39_ThermalTripsAgree.f k a0 a1 a2 a3 = some r) : Calls Try.prog 3 #[v0, .int .i64 a1, .int .i64 a2, .agg #[.int .i64 a3.Kind, .int .i64 a3.Temperature, .int .i64 a3.Hysteresis]] w0 fun e w => ∃ v, e = .returned v ∧ (.bool r = v ∧ St M w0 w []) := by
  have H := (law39_ThermalTripsAgree.f.eq_1 ..).symm.trans h
  clear h
  refine enter Try.func3 rfl Try.ntmps3 rfl (fun a hf => ?_)
  refine seq_reg (fun K2 hK2 => ?_)
  refine stepV hf rfl rfl rfl (er_box (cs := [.int .i64 a3.Kind, .int .i64 a3.Temperature, .int .i64 a3.Hysteresis]) hs hf rfl rfl) (fun v w hR a hf => ?_)
  obtain ⟨b1, rfl, hs⟩ := hR
  refine stq hf rfl rfl rfl (ex_assign hf rfl) (fun a hf => ?_)
  refine hK2 _ _ ?_
  refine seq_n (fun Q3 hN3 hR3 hX3 => ?_)
  refine seq_reg (fun K4 hK4 => ?_)
  refine stq hf rfl rfl rfl (ex_move hf rfl) (fun a hf => ?_)
  refine stq hf rfl rfl rfl (ex_lenS Try.underlying22 (rsl_isSl (hr.now hs (i := 0) rfl)) hf rfl) (fun a hf => ?_)
  refine stq hf rfl rfl rfl (ex_gtr hf rfl rfl) (fun a hf => ?_)
  refine hK4 _ _ ?_
  refine itt H (fun hc5 H => ?_) (fun hc5 H => ?_)
  · -- 20 < (a0.length : Int)
    replace hf := hf.castB (t := 20) rfl (dec_t hc5)
    refine cond_T hf rfl ?_
    refine bnd H (fun s6 hs6 H => ?_)
    refine seq_reg (fun K7 hK7 => ?_)
    refine stepF hf rfl rfl rfl (ex_call cf_10 hf rfl) (law39_awake.calls k (hs.enter (.k .nil)) (Sr.nil _ _) hs6) (fun v w hR a hf => ?_)
    obtain ⟨rfl, hs'⟩ := hR
    replace hs := hs.step (.k .nil) hs'
    clear hs'
    refine stq hf rfl rfl rfl (ex_assign hf rfl) (fun a hf => ?_)
    refine hK7 _ _ ?_
    refine wp_ret ?_
    refine hR3 _ _ ?_
    have eR := some_eq H; subst eR
    replace hs := hs.keep (.d .nil)
    exact ret1 Try.results3 hf rfl ⟨_, rfl, ⟨rfl, hs⟩⟩
  · -- not 20 < (a0.length : Int)
    replace hf := hf.castB (t := 20) rfl (dec_f hc5)
    refine cond_F hf rfl ?_
    refine wp_skip ?_
    refine hN3 _ _ ?_
    refine bnd H (fun s8 hs8 H => ?_)
    refine seq_reg (fun K10 hK10 => ?_)
    refine stq hf rfl rfl rfl (ex_move hf rfl) (fun a hf => ?_)
    refine stepF hf rfl rfl rfl (ex_call cf_11 hf rfl) (law39_Trips.calls k a0 v0 (hs.enter (.k .nil)) (Sr.old hr hs (.k .nil) (i := 0) rfl (fun _ h => h) (fun _ h => h) (Sr.nil _ _)) hs8) (fun v w hR a hf => ?_)
    obtain ⟨v9, rfl, hs'⟩ := hR
    replace hs := hs.step (.k .nil) hs'
    clear hs'
    refine stq hf rfl rfl rfl (ex_assign hf rfl) (fun a hf => ?_)
    refine hK10 _ _ ?_
    refine bnd H (fun x11 H11 HO11 => ?_)
    clear H
    refine seq_cut (fun a w => Fr a 105 [(0, v0), (1, .int .i64 a1), (9, v9)] ∧ St M w0 w [osl K_api_Trip v9 x11]) (fun Q11 hJ11 hR11 hX11 => ?_) (fun a w hJ => ?_)
    · replace H := H11
      refine seq_reg (fun K12 hK12 => ?_)
      refine stq hf rfl rfl rfl (ex_move hf rfl) (fun a hf => ?_)
      refine stq hf rfl rfl rfl (ex_lenS Try.underlying22 (rsl_isSl (osl_rsl _ (hs.get (i := 0) rfl))) hf rfl) (fun a hf => ?_)
      refine stq hf rfl rfl rfl (ex_gtr hf rfl rfl) (fun a hf => ?_)
      refine hK12 _ _ ?_
      refine itt H (fun hc13 H => ?_) (fun hc13 H => ?_)
      · -- 0 < (s8.length : Int)
        replace hf := hf.castB (t := 26) rfl (dec_t hc13)
        refine cond_T hf rfl ?_
        refine bnd H (fun s14 hs14 H => ?_)
        refine seq_reg (fun K15 hK15 => ?_)
        refine stq hf rfl rfl rfl (ex_fieldAddrB fa_24_0 rfl hf rfl) (fun a hf => ?_)
        refine stq hf rfl rfl rfl (ex_load sc_3 hf rfl (bx_cell (hs.get (i := 1) rfl) _ rfl)) (fun a hf => ?_)
        refine stepF hf rfl rfl rfl (ex_call cf_12 hf rfl) (help_Mod.calls k a3.Kind 5 (hs.enter (.k (.k .nil))) (Sr.nil _ _) hs14) (fun v w hR a hf => ?_)
        obtain ⟨rfl, hs'⟩ := hR
        replace hs := hs.step (.k (.k .nil)) hs'
        clear hs'
        refine stq hf rfl rfl rfl (ex_fieldAddrB fa_24_0 rfl hf rfl) (fun a hf => ?_)
        refine stepS hf rfl rfl (er_storeB hs (.k (.c .nil)) hf rfl rfl rfl sz_3 rfl) (fun w hs => ?_)
        refine hK15 _ _ ?_
        refine bnd H (fun s16 hs16 H => ?_)
        refine ck_some H (fun hc17 H => ?_)
        refine region_d fol 6 [(0, v0), (1, .int .i64 a1), (2, .int .i64 a2), (7, .pointer (some ⟨b1, 0, none⟩)), (9, v9)] [(0, v9), (1, .int .i64 a2), (2, v9), (3, .int .i64 (s8.length : Int)), (5, .agg #[.int .i64 s14, .int .i64 a3.Temperature, .int .i64 a3.Hysteresis])] [4] (fun w => (osl K_api_Trip v9 s8).ok w ∧ (bx b1 24 [.int .i64 s14, .int .i64 a3.Temperature, .int .i64 a3.Hysteresis]).ok w ∧ True) (fun w => St M w0 w [bx b1 24 [.int .i64 s14, .int .i64 a3.Temperature, .int .i64 a3.Hysteresis], osl K_api_Trip v9 s8]) hf ⟨rfl, rfl, rfl, rfl, rfl, trivial⟩ (by kernel_rfl) (by kernel_rfl) rfl (by decide) ⟨hs.drew.get (i := 1) rfl, hs.drew.get (i := 0) rfl, trivial⟩ hs.drew (.cons (⟨_, _, rfl, rfl, rfl, rfl, fun a w hR hf => .inl ⟨wanted_yes hf rfl, ex_move hf rfl⟩⟩) (.cons (⟨_, _, rfl, rfl, rfl, rfl, fun a w hR hf => .inl ⟨wanted_yes hf rfl, ex_move hf rfl⟩⟩) (.cons (⟨_, _, rfl, rfl, rfl, rfl, fun a w hR hf => .inl ⟨wanted_yes hf rfl, ex_move hf rfl⟩⟩) (.cons (⟨_, _, rfl, rfl, rfl, rfl, fun a w hR hf => .inl ⟨wanted_yes hf rfl, ex_lenS Try.underlying22 (rsl_isSl (osl_rsl _ hR.1)) hf rfl⟩⟩) (.cons (⟨_, _, rfl, rfl, rfl, rfl, fun a w hR hf => .inl ⟨wanted_yes hf rfl, ex_loadA (cs := [.int .i64 s14, .int .i64 a3.Temperature, .int .i64 a3.Hysteresis]) ag_24 hf rfl (bx_cells (hR.2.1) rfl)⟩⟩) (.nil)))))) (fun K18 hK18 => ?_)
        refine RW.one 4 (by kernel_rfl) (by kernel_rfl) rfl (fun d hd => by cases hd; rfl) [(32, .int .i64 a2), (34, .int .i64 (s8.length : Int))] ⟨rfl, rfl, trivial⟩ (fun a w hR hs hf => ⟨wanted_yes hf rfl, ?_⟩)
        refine estep_f (ex_call cf_12 hf rfl) (help_Mod.calls k a2 (s8.length : Int) (hs.enter (.k (.k .nil))) (Sr.nil _ _) hs16) (fun v w hR => ?_)
        obtain ⟨rfl, hs'⟩ := hR
        replace hs := hs.step (.k (.k .nil)) hs'
        clear hs'
        refine ⟨[], [(4, .int .i64 s16), (0, v9), (1, .int .i64 a2), (2, v9), (3, .int .i64 (s8.length : Int)), (5, .agg #[.int .i64 s14, .int .i64 a3.Temperature, .int .i64 a3.Hysteresis])], [], (fun _ => True), (fun w => St M w0 w [bx b1 24 [.int .i64 s14, .int .i64 a3.Temperature, .int .i64 a3.Hysteresis], osl K_api_Trip v9 s8]), rfl, rfl, ⟨hs.get (i := 1) rfl, hs.get (i := 0) rfl, trivial⟩, trivial, hs, (by kernel_rfl), .nil, ?_⟩
        refine RW.zero (by kernel_rfl) (by kernel_rfl) [(0, v0), (1, .int .i64 a1), (9, v9), (31, v9), (35, .int .i64 s16), (36, .agg #[.int .i64 s14, .int .i64 a3.Temperature, .int .i64 a3.Hysteresis])] ⟨rfl, rfl, rfl, rfl, rfl, rfl, trivial⟩ (fun a w hR hs hf => ?_)
        refine stq hf rfl rfl rfl (ex_indexAddr sa_22 (rsl_isSl (osl_rsl _ (hs.get (i := 1) rfl))) hc17.1 hc17.2 hf rfl rfl) (fun a hf => ?_)
        refine stepS hf rfl rfl (er_storeX (K := K_api_Trip) (x' := (⟨s14, a3.Temperature, a3.Hysteresis⟩ : Trip)) (vs := [.int .i64 s14, .int .i64 a3.Temperature, .int .i64 a3.Hysteresis]) hs (.k (.c .nil)) hc17.1 hc17.2 hf rfl rfl sz_24 rfl) (fun w hs => ?_)
        refine hK18 _ _ ?_
        replace hs := hs.keep (.k (.d .nil))
        have e11 := some_eq H; subst e11
        exact hJ11 _ _ ⟨hf.sub ⟨rfl, rfl, rfl, trivial⟩, hs⟩
      · -- not 0 < (s8.length : Int)
        replace hf := hf.castB (t := 26) rfl (dec_f hc13)
        refine cond_F hf rfl ?_
        refine wp_skip ?_
        replace hs := hs.keep (.k (.d .nil))
        have e11 := some_eq H; subst e11
        exact hJ11 _ _ ⟨hf.sub ⟨rfl, rfl, rfl, trivial⟩, hs⟩
    · obtain ⟨hf, hs⟩ := hJ
      replace H := HO11
      clear HO11
      refine seq_n (fun Q19 hN19 hR19 hX19 => ?_)
      refine bnd H (fun s20 hs20 H => ?_)
      cases hps20 : s20.1 with
      | none =>
        replace H := elim_n hps20 H
        refine region_k (fun K22 hK22 => ?_)
        refine stq hf rfl rfl rfl (ex_move hf rfl) (fun a hf => ?_)
        refine stq hf rfl rfl rfl (ex_move hf rfl) (fun a hf => ?_)
        refine stepF hf rfl rfl rfl (ex_call cf_13 hf rfl) (thermal_NewZone.calls k a0 a1 v0 (hs.enter (.k .nil)) (Sr.old hr hs (.k .nil) (i := 0) rfl (fun _ h => h) (fun _ h => h) (Sr.nil _ _)) hs20) (fun v w hR a hf => ?_)
        obtain ⟨_, rfl, hs'⟩ | ⟨_, hc', _⟩ := hR
        case inr => rw [hps20] at hc'; cases hc'
        replace hs := hs.step (.k .nil) hs'
        clear hs'
        refine stq hf rfl rfl rfl (ex_move hf rfl) (fun a hf => ?_)
        refine stq hf rfl rfl rfl (ex_extract hf rfl rfl) (fun a hf => ?_)
        refine stq hf rfl rfl rfl (ex_extract hf rfl rfl) (fun a hf => ?_)
        refine stq hf rfl rfl rfl (ex_assign hf rfl) (fun a hf => ?_)
        refine stq hf rfl rfl rfl (ex_assign hf rfl) (fun a hf => ?_)
        refine hK22 _ _ ?_
        refine hN19 _ _ ?_
        refine bnd H (fun x23 H23 HO23 => ?_)
        clear H
        refine seq_cut (fun a w => Fr a 105 [(0, v0), (1, .int .i64 a1), (9, v9), (10, .pointer none), (11, .int .i64 s20.2), (13, .int .i64 x23)] ∧ St M w0 w [osl K_api_Trip v9 x11]) (fun Q23 hJ23 hR23 hX23 => ?_) (fun a w hJ => ?_)
        · replace H := H23
          refine bnd H (fun s24 hs24 H => ?_)
          cases hps24 : s24.1 with
          | none =>
            replace H := elim_n hps24 H
            refine region_k (fun K26 hK26 => ?_)
            refine stq hf rfl rfl rfl (ex_move hf rfl) (fun a hf => ?_)
            refine stq hf rfl rfl rfl (ex_move hf rfl) (fun a hf => ?_)
            refine stepF hf rfl rfl rfl (ex_call cf_14 hf rfl) (ref39_NewZone.calls k a0 a1 v0 (hs.enter (.k .nil)) (Sr.old hr hs (.k .nil) (i := 0) rfl (fun _ h => h) (fun _ h => h) (Sr.nil _ _)) hs24) (fun v w hR a hf => ?_)
            obtain ⟨_, rfl, hs'⟩ | ⟨_, hc', _⟩ := hR
            case inr => rw [hps24] at hc'; cases hc'
            replace hs := hs.step (.k .nil) hs'
            clear hs'
            refine stq hf rfl rfl rfl (ex_move hf rfl) (fun a hf => ?_)
            refine stq hf rfl rfl rfl (ex_extract hf rfl rfl) (fun a hf => ?_)
            refine stq hf rfl rfl rfl (ex_extract hf rfl rfl) (fun a hf => ?_)
            refine stq hf rfl rfl rfl (ex_assign hf rfl) (fun a hf => ?_)
            refine stq hf rfl rfl rfl (ex_assign hf rfl) (fun a hf => ?_)
            refine hK26 _ _ ?_
            have e23 := some_eq H; subst e23
            exact hJ23 _ _ ⟨hf.sub ⟨rfl, rfl, rfl, rfl, rfl, rfl, trivial⟩, hs⟩
          | some c25 =>
            replace H := elim_s hps24 H
            refine region_k (fun K29 hK29 => ?_)
            refine stq hf rfl rfl rfl (ex_move hf rfl) (fun a hf => ?_)
            refine stq hf rfl rfl rfl (ex_move hf rfl) (fun a hf => ?_)
            refine stepF hf rfl rfl rfl (ex_call cf_14 hf rfl) (ref39_NewZone.calls k a0 a1 v0 (hs.enter (.k .nil)) (Sr.old hr hs (.k .nil) (i := 0) rfl (fun _ h => h) (fun _ h => h) (Sr.nil _ _)) hs24) (fun v w hR a hf => ?_)
            obtain ⟨hc', _⟩ | ⟨cc, hc', b27, v28, rfl, hs'⟩ := hR
            case inl => rw [hps24] at hc'; cases hc'
            obtain rfl : c25 = cc := by rw [hps24] at hc'; exact Option.some.inj hc'
            replace hs := hs.step (.k .nil) hs'
            clear hs'
            refine stq hf rfl rfl rfl (ex_move hf rfl) (fun a hf => ?_)
            refine stq hf rfl rfl rfl (ex_extract hf rfl rfl) (fun a hf => ?_)
            refine stq hf rfl rfl rfl (ex_extract hf rfl rfl) (fun a hf => ?_)
            refine stq hf rfl rfl rfl (ex_assign hf rfl) (fun a hf => ?_)
            refine stq hf rfl rfl rfl (ex_assign hf rfl) (fun a hf => ?_)
            refine hK29 _ _ ?_
            replace hs := hs.keep (.d (.d (.k .nil)))
            have e23 := some_eq H; subst e23
            exact hJ23 _ _ ⟨hf.sub ⟨rfl, rfl, rfl, rfl, rfl, rfl, trivial⟩, hs⟩
        · obtain ⟨hf, hs⟩ := hJ
          replace H := HO23
          clear HO23
          refine seq_n (fun Q30 hN30 hR30 hX30 => ?_)
          refine bnd H (fun s31 hs31 H => ?_)
          refine bnd H (fun s32 hs32 H => ?_)
          cases hps32 : s32.1 with
          | none =>
            replace H := elim_n hps32 H
            refine region_k (fun K34 hK34 => ?_)
            refine stq hf rfl rfl rfl (ex_move hf rfl) (fun a hf => ?_)
            refine stq hf rfl rfl rfl (ex_move hf rfl) (fun a hf => ?_)
            refine stepF hf rfl rfl rfl (ex_call cf_12 hf rfl) (help_Mod.calls k a1 70 (hs.enter (.k .nil)) (Sr.nil _ _) hs31) (fun v w hR a hf => ?_)
            obtain ⟨rfl, hs'⟩ := hR
            replace hs := hs.step (.k .nil) hs'
            clear hs'
            refine stq hf rfl rfl rfl (ex_sub hf rfl rfl) (fun a hf => ?_)
            refine stepF hf rfl rfl rfl (ex_call cf_13 hf rfl) (thermal_NewZone.calls k x11 (IntKind.i64.wrap (s31 - 2)) v9 (hs.enter (.k .nil)) (Sr.own hs (.k .nil) (i := 0) rfl osl_rsl (fun _ h => h.1) (Sr.nil _ _)) hs32) (fun v w hR a hf => ?_)
            obtain ⟨_, rfl, hs'⟩ | ⟨_, hc', _⟩ := hR
            case inr => rw [hps32] at hc'; cases hc'
            replace hs := hs.step (.k .nil) hs'
            clear hs'
            refine stq hf rfl rfl rfl (ex_move hf rfl) (fun a hf => ?_)
            refine stq hf rfl rfl rfl (ex_extract hf rfl rfl) (fun a hf => ?_)
            refine stq hf rfl rfl rfl (ex_extract hf rfl rfl) (fun a hf => ?_)
            refine stq hf rfl rfl rfl (ex_assign hf rfl) (fun a hf => ?_)
            refine stq hf rfl rfl rfl (ex_assign hf rfl) (fun a hf => ?_)
            refine hK34 _ _ ?_
            refine hN30 _ _ ?_
            refine bnd H (fun x35 H35 HO35 => ?_)
            clear H
            refine seq_cut (fun a w => Fr a 105 [(0, v0), (9, v9), (10, .pointer none), (11, .int .i64 s20.2), (13, .int .i64 x23), (14, .pointer none), (15, .int .i64 s32.2), (17, .int .i64 x35)] ∧ St M w0 w [osl K_api_Trip v9 x11]) (fun Q35 hJ35 hR35 hX35 => ?_) (fun a w hJ => ?_)
            · replace H := H35
              refine bnd H (fun s36 hs36 H => ?_)
              refine bnd H (fun s37 hs37 H => ?_)
              cases hps37 : s37.1 with
              | none =>
                replace H := elim_n hps37 H
                refine region_k (fun K39 hK39 => ?_)
                refine stq hf rfl rfl rfl (ex_move hf rfl) (fun a hf => ?_)
                refine stq hf rfl rfl rfl (ex_move hf rfl) (fun a hf => ?_)
                refine stepF hf rfl rfl rfl (ex_call cf_12 hf rfl) (help_Mod.calls k a1 70 (hs.enter (.k .nil)) (Sr.nil _ _) hs36) (fun v w hR a hf => ?_)
                obtain ⟨rfl, hs'⟩ := hR
                replace hs := hs.step (.k .nil) hs'
                clear hs'
                refine stq hf rfl rfl rfl (ex_sub hf rfl rfl) (fun a hf => ?_)
                refine stepF hf rfl rfl rfl (ex_call cf_14 hf rfl) (ref39_NewZone.calls k x11 (IntKind.i64.wrap (s36 - 2)) v9 (hs.enter (.k .nil)) (Sr.own hs (.k .nil) (i := 0) rfl osl_rsl (fun _ h => h.1) (Sr.nil _ _)) hs37) (fun v w hR a hf => ?_)
                obtain ⟨_, rfl, hs'⟩ | ⟨_, hc', _⟩ := hR
                case inr => rw [hps37] at hc'; cases hc'
                replace hs := hs.step (.k .nil) hs'
                clear hs'
                refine stq hf rfl rfl rfl (ex_move hf rfl) (fun a hf => ?_)
                refine stq hf rfl rfl rfl (ex_extract hf rfl rfl) (fun a hf => ?_)
                refine stq hf rfl rfl rfl (ex_extract hf rfl rfl) (fun a hf => ?_)
                refine stq hf rfl rfl rfl (ex_assign hf rfl) (fun a hf => ?_)
                refine stq hf rfl rfl rfl (ex_assign hf rfl) (fun a hf => ?_)
                refine hK39 _ _ ?_
                have e35 := some_eq H; subst e35
                exact hJ35 _ _ ⟨hf.sub ⟨rfl, rfl, rfl, rfl, rfl, rfl, rfl, rfl, trivial⟩, hs⟩
              | some c38 =>
                replace H := elim_s hps37 H
                refine region_k (fun K42 hK42 => ?_)
                refine stq hf rfl rfl rfl (ex_move hf rfl) (fun a hf => ?_)
                refine stq hf rfl rfl rfl (ex_move hf rfl) (fun a hf => ?_)
                refine stepF hf rfl rfl rfl (ex_call cf_12 hf rfl) (help_Mod.calls k a1 70 (hs.enter (.k .nil)) (Sr.nil _ _) hs36) (fun v w hR a hf => ?_)
                obtain ⟨rfl, hs'⟩ := hR
                replace hs := hs.step (.k .nil) hs'
                clear hs'
                refine stq hf rfl rfl rfl (ex_sub hf rfl rfl) (fun a hf => ?_)
                refine stepF hf rfl rfl rfl (ex_call cf_14 hf rfl) (ref39_NewZone.calls k x11 (IntKind.i64.wrap (s36 - 2)) v9 (hs.enter (.k .nil)) (Sr.own hs (.k .nil) (i := 0) rfl osl_rsl (fun _ h => h.1) (Sr.nil _ _)) hs37) (fun v w hR a hf => ?_)
                obtain ⟨hc', _⟩ | ⟨cc, hc', b40, v41, rfl, hs'⟩ := hR
                case inl => rw [hps37] at hc'; cases hc'
                obtain rfl : c38 = cc := by rw [hps37] at hc'; exact Option.some.inj hc'
                replace hs := hs.step (.k .nil) hs'
                clear hs'
                refine stq hf rfl rfl rfl (ex_move hf rfl) (fun a hf => ?_)
                refine stq hf rfl rfl rfl (ex_extract hf rfl rfl) (fun a hf => ?_)
                refine stq hf rfl rfl rfl (ex_extract hf rfl rfl) (fun a hf => ?_)
                refine stq hf rfl rfl rfl (ex_assign hf rfl) (fun a hf => ?_)
                refine stq hf rfl rfl rfl (ex_assign hf rfl) (fun a hf => ?_)
                refine hK42 _ _ ?_
                replace hs := hs.keep (.d (.d (.k .nil)))
                have e35 := some_eq H; subst e35
                exact hJ35 _ _ ⟨hf.sub ⟨rfl, rfl, rfl, rfl, rfl, rfl, rfl, rfl, trivial⟩, hs⟩
            · obtain ⟨hf, hs⟩ := hJ
              replace H := HO35
              clear HO35
              refine bnd H (fun s43 hs43 H => ?_)
              refine bnd H (fun s44 hs44 H => ?_)
              refine itt H (fun hc45 H => ?_) (fun hc45 H => ?_)
              · -- s43 = s44
                refine bnd H (fun s46 hs46 H => ?_)
                refine bnd H (fun s47 hs47 H => ?_)
                refine itt H (fun hc48 H => ?_) (fun hc48 H => ?_)
                · -- s46 = s47
                  refine itt H (fun hc49 H => ?_) (fun hc49 H => ?_)
                  · -- s20.2 = x23
                    refine itt H (fun hc50 H => ?_) (fun hc50 H => ?_)
                    · -- s32.2 = x35
                      refine itt H (fun hc51 H => ?_) (fun hc51 H => ?_)
                      · -- (true == (!decide (s20.2 = 0))) = true
                        refine itt H (fun hc52 H => ?_) (fun hc52 H => ?_)
                        · -- (true == (!decide (s32.2 = 0))) = true
                          refine bnd H (fun s53 hs53 H => ?_)
                          refine seq_reg (fun K54 hK54 => ?_)
                          refine stq hf rfl rfl rfl (ex_move hf rfl) (fun a hf => ?_)
                          refine stepF hf rfl rfl rfl (ex_call cf_15 hf rfl) (thermal_CheckTrips.calls k a0 v0 (hs.enter (.k .nil)) (Sr.old hr hs (.k .nil) (i := 0) rfl (fun _ h => h) (fun _ h => h) (Sr.nil _ _)) hs43) (fun v w hR a hf => ?_)
                          obtain ⟨rfl, hs'⟩ := hR
                          replace hs := hs.step (.k .nil) hs'
                          clear hs'
                          refine stq hf rfl rfl rfl (ex_move hf rfl) (fun a hf => ?_)
                          refine stepF hf rfl rfl rfl (ex_call cf_16 hf rfl) (ref39_CheckTrips.calls k a0 v0 (hs.enter (.k .nil)) (Sr.old hr hs (.k .nil) (i := 0) rfl (fun _ h => h) (fun _ h => h) (Sr.nil _ _)) hs44) (fun v w hR a hf => ?_)
                          obtain ⟨rfl, hs'⟩ := hR
                          replace hs := hs.step (.k .nil) hs'
                          clear hs'
                          refine stq hf rfl rfl rfl (ex_eql hf rfl rfl) (fun a hf => ?_)
                          refine stq hf rfl rfl rfl (ex_move hf rfl) (fun a hf => ?_)
                          replace hf := hf.castB (t := 70) rfl (dec_t hc45)
                          replace hf := hf.castB (t := 71) rfl (dec_t hc45)
                          refine stq hf rfl rfl rfl (ex_move hf rfl) (fun a hf => ?_)
                          refine stepF hf rfl rfl rfl (ex_call cf_15 hf rfl) (thermal_CheckTrips.calls k x11 v9 (hs.enter (.k .nil)) (Sr.own hs (.k .nil) (i := 0) rfl osl_rsl (fun _ h => h.1) (Sr.nil _ _)) hs46) (fun v w hR a hf => ?_)
                          obtain ⟨rfl, hs'⟩ := hR
                          replace hs := hs.step (.k .nil) hs'
                          clear hs'
                          refine stq hf rfl rfl rfl (ex_move hf rfl) (fun a hf => ?_)
                          refine stepF hf rfl rfl rfl (ex_call cf_16 hf rfl) (ref39_CheckTrips.calls k x11 v9 (hs.enter (.k .nil)) (Sr.own hs (.k .nil) (i := 0) rfl osl_rsl (fun _ h => h.1) (Sr.nil _ _)) hs47) (fun v w hR a hf => ?_)
                          obtain ⟨rfl, hs'⟩ := hR
                          replace hs := hs.step (.k .nil) hs'
                          clear hs'
                          refine stq hf rfl rfl rfl (ex_eql hf rfl rfl) (fun a hf => ?_)
                          refine stq hf rfl rfl rfl (ex_pickT hf rfl rfl) (fun a hf => ?_)
                          refine stq hf rfl rfl rfl (ex_move hf rfl) (fun a hf => ?_)
                          replace hf := hf.castB (t := 76) rfl (dec_t hc48)
                          replace hf := hf.castB (t := 77) rfl (dec_t hc48)
                          replace hf := hf.castB (t := 78) rfl (dec_t hc48)
                          refine stq hf rfl rfl rfl (ex_move hf rfl) (fun a hf => ?_)
                          refine stq hf rfl rfl rfl (ex_move hf rfl) (fun a hf => ?_)
                          refine stq hf rfl rfl rfl (ex_eql hf rfl rfl) (fun a hf => ?_)
                          refine stq hf rfl rfl rfl (ex_pickT hf rfl rfl) (fun a hf => ?_)
                          refine stq hf rfl rfl rfl (ex_move hf rfl) (fun a hf => ?_)
                          replace hf := hf.castB (t := 81) rfl (dec_t hc49)
                          replace hf := hf.castB (t := 82) rfl (dec_t hc49)
                          replace hf := hf.castB (t := 83) rfl (dec_t hc49)
                          refine stq hf rfl rfl rfl (ex_move hf rfl) (fun a hf => ?_)
                          refine stq hf rfl rfl rfl (ex_move hf rfl) (fun a hf => ?_)
                          refine stq hf rfl rfl rfl (ex_eql hf rfl rfl) (fun a hf => ?_)
                          refine stq hf rfl rfl rfl (ex_pickT hf rfl rfl) (fun a hf => ?_)
                          refine stq hf rfl rfl rfl (ex_move hf rfl) (fun a hf => ?_)
                          replace hf := hf.castB (t := 86) rfl (dec_t hc50)
                          replace hf := hf.castB (t := 87) rfl (dec_t hc50)
                          replace hf := hf.castB (t := 88) rfl (dec_t hc50)
                          refine stq hf rfl rfl rfl (ex_move hf rfl) (fun a hf => ?_)
                          refine stq hf rfl rfl rfl (ex_eqp Try.underlying28 hf rfl rfl) (fun a hf => ?_)
                          refine stq hf rfl rfl rfl (ex_move hf rfl) (fun a hf => ?_)
                          refine stq hf rfl rfl rfl (ex_neq hf rfl rfl) (fun a hf => ?_)
                          refine stq hf rfl rfl rfl (ex_eqb Try.underlying4 hf rfl rfl) (fun a hf => ?_)
                          refine stq hf rfl rfl rfl (ex_pickT hf rfl rfl) (fun a hf => ?_)
                          refine stq hf rfl rfl rfl (ex_move hf rfl) (fun a hf => ?_)
                          replace hf := hf.castB (t := 93) rfl hc51
                          replace hf := hf.castB (t := 94) rfl hc51
                          replace hf := hf.castB (t := 95) rfl hc51
                          refine stq hf rfl rfl rfl (ex_move hf rfl) (fun a hf => ?_)
                          refine stq hf rfl rfl rfl (ex_eqp Try.underlying28 hf rfl rfl) (fun a hf => ?_)
                          refine stq hf rfl rfl rfl (ex_move hf rfl) (fun a hf => ?_)
                          refine stq hf rfl rfl rfl (ex_neq hf rfl rfl) (fun a hf => ?_)
                          refine stq hf rfl rfl rfl (ex_eqb Try.underlying4 hf rfl rfl) (fun a hf => ?_)
                          refine stq hf rfl rfl rfl (ex_pickT hf rfl rfl) (fun a hf => ?_)
                          refine stq hf rfl rfl rfl (ex_move hf rfl) (fun a hf => ?_)
                          replace hf := hf.castB (t := 100) rfl hc52
                          replace hf := hf.castB (t := 101) rfl hc52
                          replace hf := hf.castB (t := 102) rfl hc52
                          refine stepF hf rfl rfl rfl (ex_call cf_10 hf rfl) (law39_awake.calls k (hs.enter (.k .nil)) (Sr.nil _ _) hs53) (fun v w hR a hf => ?_)
                          obtain ⟨rfl, hs'⟩ := hR
                          replace hs := hs.step (.k .nil) hs'
                          clear hs'
                          refine stq hf rfl rfl rfl (ex_pickT hf rfl rfl) (fun a hf => ?_)
                          refine stq hf rfl rfl rfl (ex_assign hf rfl) (fun a hf => ?_)
                          refine hK54 _ _ ?_
                          refine wp_ret ?_
                          have eR := some_eq H; subst eR
                          replace hs := hs.keep (.d .nil)
                          exact ret1 Try.results3 hf rfl ⟨_, rfl, ⟨rfl, hs⟩⟩
                        · -- not (true == (!decide (s32.2 = 0))) = true
                          refine seq_reg (fun K55 hK55 => ?_)
                          refine stq hf rfl rfl rfl (ex_move hf rfl) (fun a hf => ?_)
                          refine stepF hf rfl rfl rfl (ex_call cf_15 hf rfl) (thermal_CheckTrips.calls k a0 v0 (hs.enter (.k .nil)) (Sr.old hr hs (.k .nil) (i := 0) rfl (fun _ h => h) (fun _ h => h) (Sr.nil _ _)) hs43) (fun v w hR a hf => ?_)
                          obtain ⟨rfl, hs'⟩ := hR
                          replace hs := hs.step (.k .nil) hs'
                          clear hs'
                          refine stq hf rfl rfl rfl (ex_move hf rfl) (fun a hf => ?_)
                          refine stepF hf rfl rfl rfl (ex_call cf_16 hf rfl) (ref39_CheckTrips.calls k a0 v0 (hs.enter (.k .nil)) (Sr.old hr hs (.k .nil) (i := 0) rfl (fun _ h => h) (fun _ h => h) (Sr.nil _ _)) hs44) (fun v w hR a hf => ?_)
                          obtain ⟨rfl, hs'⟩ := hR
                          replace hs := hs.step (.k .nil) hs'
                          clear hs'
                          refine stq hf rfl rfl rfl (ex_eql hf rfl rfl) (fun a hf => ?_)
                          refine stq hf rfl rfl rfl (ex_move hf rfl) (fun a hf => ?_)
                          replace hf := hf.castB (t := 70) rfl (dec_t hc45)
                          replace hf := hf.castB (t := 71) rfl (dec_t hc45)
                          refine stq hf rfl rfl rfl (ex_move hf rfl) (fun a hf => ?_)
                          refine stepF hf rfl rfl rfl (ex_call cf_15 hf rfl) (thermal_CheckTrips.calls k x11 v9 (hs.enter (.k .nil)) (Sr.own hs (.k .nil) (i := 0) rfl osl_rsl (fun _ h => h.1) (Sr.nil _ _)) hs46) (fun v w hR a hf => ?_)
                          obtain ⟨rfl, hs'⟩ := hR
                          replace hs := hs.step (.k .nil) hs'
                          clear hs'
                          refine stq hf rfl rfl rfl (ex_move hf rfl) (fun a hf => ?_)
                          refine stepF hf rfl rfl rfl (ex_call cf_16 hf rfl) (ref39_CheckTrips.calls k x11 v9 (hs.enter (.k .nil)) (Sr.own hs (.k .nil) (i := 0) rfl osl_rsl (fun _ h => h.1) (Sr.nil _ _)) hs47) (fun v w hR a hf => ?_)
                          obtain ⟨rfl, hs'⟩ := hR
                          replace hs := hs.step (.k .nil) hs'
                          clear hs'
                          refine stq hf rfl rfl rfl (ex_eql hf rfl rfl) (fun a hf => ?_)
                          refine stq hf rfl rfl rfl (ex_pickT hf rfl rfl) (fun a hf => ?_)
                          refine stq hf rfl rfl rfl (ex_move hf rfl) (fun a hf => ?_)
                          replace hf := hf.castB (t := 76) rfl (dec_t hc48)
                          replace hf := hf.castB (t := 77) rfl (dec_t hc48)
                          replace hf := hf.castB (t := 78) rfl (dec_t hc48)
                          refine stq hf rfl rfl rfl (ex_move hf rfl) (fun a hf => ?_)
                          refine stq hf rfl rfl rfl (ex_move hf rfl) (fun a hf => ?_)
                          refine stq hf rfl rfl rfl (ex_eql hf rfl rfl) (fun a hf => ?_)
                          refine stq hf rfl rfl rfl (ex_pickT hf rfl rfl) (fun a hf => ?_)
                          refine stq hf rfl rfl rfl (ex_move hf rfl) (fun a hf => ?_)
                          replace hf := hf.castB (t := 81) rfl (dec_t hc49)
                          replace hf := hf.castB (t := 82) rfl (dec_t hc49)
                          replace hf := hf.castB (t := 83) rfl (dec_t hc49)
                          refine stq hf rfl rfl rfl (ex_move hf rfl) (fun a hf => ?_)
                          refine stq hf rfl rfl rfl (ex_move hf rfl) (fun a hf => ?_)
                          refine stq hf rfl rfl rfl (ex_eql hf rfl rfl) (fun a hf => ?_)
                          refine stq hf rfl rfl rfl (ex_pickT hf rfl rfl) (fun a hf => ?_)
                          refine stq hf rfl rfl rfl (ex_move hf rfl) (fun a hf => ?_)
                          replace hf := hf.castB (t := 86) rfl (dec_t hc50)
                          replace hf := hf.castB (t := 87) rfl (dec_t hc50)
                          replace hf := hf.castB (t := 88) rfl (dec_t hc50)
                          refine stq hf rfl rfl rfl (ex_move hf rfl) (fun a hf => ?_)
                          refine stq hf rfl rfl rfl (ex_eqp Try.underlying28 hf rfl rfl) (fun a hf => ?_)
                          refine stq hf rfl rfl rfl (ex_move hf rfl) (fun a hf => ?_)
                          refine stq hf rfl rfl rfl (ex_neq hf rfl rfl) (fun a hf => ?_)
                          refine stq hf rfl rfl rfl (ex_eqb Try.underlying4 hf rfl rfl) (fun a hf => ?_)
                          refine stq hf rfl rfl rfl (ex_pickT hf rfl rfl) (fun a hf => ?_)
                          refine stq hf rfl rfl rfl (ex_move hf rfl) (fun a hf => ?_)
                          replace hf := hf.castB (t := 93) rfl hc51
                          replace hf := hf.castB (t := 94) rfl hc51
                          replace hf := hf.castB (t := 95) rfl hc51
                          refine stq hf rfl rfl rfl (ex_move hf rfl) (fun a hf => ?_)
                          refine stq hf rfl rfl rfl (ex_eqp Try.underlying28 hf rfl rfl) (fun a hf => ?_)
                          refine stq hf rfl rfl rfl (ex_move hf rfl) (fun a hf => ?_)
                          refine stq hf rfl rfl rfl (ex_neq hf rfl rfl) (fun a hf => ?_)
                          refine stq hf rfl rfl rfl (ex_eqb Try.underlying4 hf rfl rfl) (fun a hf => ?_)
                          refine stq hf rfl rfl rfl (ex_pickT hf rfl rfl) (fun a hf => ?_)
                          refine stq hf rfl rfl rfl (ex_move hf rfl) (fun a hf => ?_)
                          replace hf := hf.castB (t := 100) rfl (bool_f hc52)
                          replace hf := hf.castB (t := 101) rfl (bool_f hc52)
                          replace hf := hf.castB (t := 102) rfl (bool_f hc52)
                          refine stepN hf rfl rfl rfl (fun a hf => ?_)
                          refine stq hf rfl rfl rfl (ex_pickF hf rfl rfl) (fun a hf => ?_)
                          refine stq hf rfl rfl rfl (ex_assign hf rfl) (fun a hf => ?_)
                          refine hK55 _ _ ?_
                          refine wp_ret ?_
                          have eR := some_eq H; subst eR
                          replace hs := hs.keep (.d .nil)
                          exact ret1 Try.results3 hf rfl ⟨_, rfl, ⟨rfl, hs⟩⟩
                      · -- not (true == (!decide (s20.2 = 0))) = true
                        refine seq_reg (fun K56 hK56 => ?_)
                        refine stq hf rfl rfl rfl (ex_move hf rfl) (fun a hf => ?_)
                        refine stepF hf rfl rfl rfl (ex_call cf_15 hf rfl) (thermal_CheckTrips.calls k a0 v0 (hs.enter (.k .nil)) (Sr.old hr hs (.k .nil) (i := 0) rfl (fun _ h => h) (fun _ h => h) (Sr.nil _ _)) hs43) (fun v w hR a hf => ?_)
                        obtain ⟨rfl, hs'⟩ := hR
                        replace hs := hs.step (.k .nil) hs'
                        clear hs'
                        refine stq hf rfl rfl rfl (ex_move hf rfl) (fun a hf => ?_)
                        refine stepF hf rfl rfl rfl (ex_call cf_16 hf rfl) (ref39_CheckTrips.calls k a0 v0 (hs.enter (.k .nil)) (Sr.old hr hs (.k .nil) (i := 0) rfl (fun _ h => h) (fun _ h => h) (Sr.nil _ _)) hs44) (fun v w hR a hf => ?_)
                        obtain ⟨rfl, hs'⟩ := hR
                        replace hs := hs.step (.k .nil) hs'
                        clear hs'
                        refine stq hf rfl rfl rfl (ex_eql hf rfl rfl) (fun a hf => ?_)
                        refine stq hf rfl rfl rfl (ex_move hf rfl) (fun a hf => ?_)
                        replace hf := hf.castB (t := 70) rfl (dec_t hc45)
                        replace hf := hf.castB (t := 71) rfl (dec_t hc45)
                        refine stq hf rfl rfl rfl (ex_move hf rfl) (fun a hf => ?_)
                        refine stepF hf rfl rfl rfl (ex_call cf_15 hf rfl) (thermal_CheckTrips.calls k x11 v9 (hs.enter (.k .nil)) (Sr.own hs (.k .nil) (i := 0) rfl osl_rsl (fun _ h => h.1) (Sr.nil _ _)) hs46) (fun v w hR a hf => ?_)
                        obtain ⟨rfl, hs'⟩ := hR
                        replace hs := hs.step (.k .nil) hs'
                        clear hs'
                        refine stq hf rfl rfl rfl (ex_move hf rfl) (fun a hf => ?_)
                        refine stepF hf rfl rfl rfl (ex_call cf_16 hf rfl) (ref39_CheckTrips.calls k x11 v9 (hs.enter (.k .nil)) (Sr.own hs (.k .nil) (i := 0) rfl osl_rsl (fun _ h => h.1) (Sr.nil _ _)) hs47) (fun v w hR a hf => ?_)
                        obtain ⟨rfl, hs'⟩ := hR
                        replace hs := hs.step (.k .nil) hs'
                        clear hs'
                        refine stq hf rfl rfl rfl (ex_eql hf rfl rfl) (fun a hf => ?_)
                        refine stq hf rfl rfl rfl (ex_pickT hf rfl rfl) (fun a hf => ?_)
                        refine stq hf rfl rfl rfl (ex_move hf rfl) (fun a hf => ?_)
                        replace hf := hf.castB (t := 76) rfl (dec_t hc48)
                        replace hf := hf.castB (t := 77) rfl (dec_t hc48)
                        replace hf := hf.castB (t := 78) rfl (dec_t hc48)
                        refine stq hf rfl rfl rfl (ex_move hf rfl) (fun a hf => ?_)
                        refine stq hf rfl rfl rfl (ex_move hf rfl) (fun a hf => ?_)
                        refine stq hf rfl rfl rfl (ex_eql hf rfl rfl) (fun a hf => ?_)
                        refine stq hf rfl rfl rfl (ex_pickT hf rfl rfl) (fun a hf => ?_)
                        refine stq hf rfl rfl rfl (ex_move hf rfl) (fun a hf => ?_)
                        replace hf := hf.castB (t := 81) rfl (dec_t hc49)
                        replace hf := hf.castB (t := 82) rfl (dec_t hc49)
                        replace hf := hf.castB (t := 83) rfl (dec_t hc49)
                        refine stq hf rfl rfl rfl (ex_move hf rfl) (fun a hf => ?_)
                        refine stq hf rfl rfl rfl (ex_move hf rfl) (fun a hf => ?_)
                        refine stq hf rfl rfl rfl (ex_eql hf rfl rfl) (fun a hf => ?_)
                        refine stq hf rfl rfl rfl (ex_pickT hf rfl rfl) (fun a hf => ?_)
                        refine stq hf rfl rfl rfl (ex_move hf rfl) (fun a hf => ?_)
                        replace hf := hf.castB (t := 86) rfl (dec_t hc50)
                        replace hf := hf.castB (t := 87) rfl (dec_t hc50)
                        replace hf := hf.castB (t := 88) rfl (dec_t hc50)
                        refine stq hf rfl rfl rfl (ex_move hf rfl) (fun a hf => ?_)
                        refine stq hf rfl rfl rfl (ex_eqp Try.underlying28 hf rfl rfl) (fun a hf => ?_)
                        refine stq hf rfl rfl rfl (ex_move hf rfl) (fun a hf => ?_)
                        refine stq hf rfl rfl rfl (ex_neq hf rfl rfl) (fun a hf => ?_)
                        refine stq hf rfl rfl rfl (ex_eqb Try.underlying4 hf rfl rfl) (fun a hf => ?_)
                        refine stq hf rfl rfl rfl (ex_pickT hf rfl rfl) (fun a hf => ?_)
                        refine stq hf rfl rfl rfl (ex_move hf rfl) (fun a hf => ?_)
                        replace hf := hf.castB (t := 93) rfl (bool_f hc51)
                        replace hf := hf.castB (t := 94) rfl (bool_f hc51)
                        replace hf := hf.castB (t := 95) rfl (bool_f hc51)
                        refine stepN hf rfl rfl rfl (fun a hf => ?_)
                        refine stepN hf rfl rfl rfl (fun a hf => ?_)
                        refine stepN hf rfl rfl rfl (fun a hf => ?_)
                        refine stepN hf rfl rfl rfl (fun a hf => ?_)
                        refine stepN hf rfl rfl rfl (fun a hf => ?_)
                        refine stq hf rfl rfl rfl (ex_pickF hf rfl rfl) (fun a hf => ?_)
                        refine stq hf rfl rfl rfl (ex_move hf rfl) (fun a hf => ?_)
                        refine stepN hf rfl rfl rfl (fun a hf => ?_)
                        refine stq hf rfl rfl rfl (ex_pickF hf rfl rfl) (fun a hf => ?_)
                        refine stq hf rfl rfl rfl (ex_assign hf rfl) (fun a hf => ?_)
                        refine hK56 _ _ ?_
                        refine wp_ret ?_
                        have eR := some_eq H; subst eR
                        replace hs := hs.keep (.d .nil)
                        exact ret1 Try.results3 hf rfl ⟨_, rfl, ⟨rfl, hs⟩⟩
                    · -- not s32.2 = x35
                      refine seq_reg (fun K57 hK57 => ?_)
                      refine stq hf rfl rfl rfl (ex_move hf rfl) (fun a hf => ?_)
                      refine stepF hf rfl rfl rfl (ex_call cf_15 hf rfl) (thermal_CheckTrips.calls k a0 v0 (hs.enter (.k .nil)) (Sr.old hr hs (.k .nil) (i := 0) rfl (fun _ h => h) (fun _ h => h) (Sr.nil _ _)) hs43) (fun v w hR a hf => ?_)
                      obtain ⟨rfl, hs'⟩ := hR
                      replace hs := hs.step (.k .nil) hs'
                      clear hs'
                      refine stq hf rfl rfl rfl (ex_move hf rfl) (fun a hf => ?_)
                      refine stepF hf rfl rfl rfl (ex_call cf_16 hf rfl) (ref39_CheckTrips.calls k a0 v0 (hs.enter (.k .nil)) (Sr.old hr hs (.k .nil) (i := 0) rfl (fun _ h => h) (fun _ h => h) (Sr.nil _ _)) hs44) (fun v w hR a hf => ?_)
                      obtain ⟨rfl, hs'⟩ := hR
                      replace hs := hs.step (.k .nil) hs'
                      clear hs'
                      refine stq hf rfl rfl rfl (ex_eql hf rfl rfl) (fun a hf => ?_)
                      refine stq hf rfl rfl rfl (ex_move hf rfl) (fun a hf => ?_)
                      replace hf := hf.castB (t := 70) rfl (dec_t hc45)
                      replace hf := hf.castB (t := 71) rfl (dec_t hc45)
                      refine stq hf rfl rfl rfl (ex_move hf rfl) (fun a hf => ?_)
                      refine stepF hf rfl rfl rfl (ex_call cf_15 hf rfl) (thermal_CheckTrips.calls k x11 v9 (hs.enter (.k .nil)) (Sr.own hs (.k .nil) (i := 0) rfl osl_rsl (fun _ h => h.1) (Sr.nil _ _)) hs46) (fun v w hR a hf => ?_)
                      obtain ⟨rfl, hs'⟩ := hR
                      replace hs := hs.step (.k .nil) hs'
                      clear hs'
                      refine stq hf rfl rfl rfl (ex_move hf rfl) (fun a hf => ?_)
                      refine stepF hf rfl rfl rfl (ex_call cf_16 hf rfl) (ref39_CheckTrips.calls k x11 v9 (hs.enter (.k .nil)) (Sr.own hs (.k .nil) (i := 0) rfl osl_rsl (fun _ h => h.1) (Sr.nil _ _)) hs47) (fun v w hR a hf => ?_)
                      obtain ⟨rfl, hs'⟩ := hR
                      replace hs := hs.step (.k .nil) hs'
                      clear hs'
                      refine stq hf rfl rfl rfl (ex_eql hf rfl rfl) (fun a hf => ?_)
                      refine stq hf rfl rfl rfl (ex_pickT hf rfl rfl) (fun a hf => ?_)
                      refine stq hf rfl rfl rfl (ex_move hf rfl) (fun a hf => ?_)
                      replace hf := hf.castB (t := 76) rfl (dec_t hc48)
                      replace hf := hf.castB (t := 77) rfl (dec_t hc48)
                      replace hf := hf.castB (t := 78) rfl (dec_t hc48)
                      refine stq hf rfl rfl rfl (ex_move hf rfl) (fun a hf => ?_)
                      refine stq hf rfl rfl rfl (ex_move hf rfl) (fun a hf => ?_)
                      refine stq hf rfl rfl rfl (ex_eql hf rfl rfl) (fun a hf => ?_)
                      refine stq hf rfl rfl rfl (ex_pickT hf rfl rfl) (fun a hf => ?_)
                      refine stq hf rfl rfl rfl (ex_move hf rfl) (fun a hf => ?_)
                      replace hf := hf.castB (t := 81) rfl (dec_t hc49)
                      replace hf := hf.castB (t := 82) rfl (dec_t hc49)
                      replace hf := hf.castB (t := 83) rfl (dec_t hc49)
                      refine stq hf rfl rfl rfl (ex_move hf rfl) (fun a hf => ?_)
                      refine stq hf rfl rfl rfl (ex_move hf rfl) (fun a hf => ?_)
                      refine stq hf rfl rfl rfl (ex_eql hf rfl rfl) (fun a hf => ?_)
                      refine stq hf rfl rfl rfl (ex_pickT hf rfl rfl) (fun a hf => ?_)
                      refine stq hf rfl rfl rfl (ex_move hf rfl) (fun a hf => ?_)
                      replace hf := hf.castB (t := 86) rfl (dec_f hc50)
                      replace hf := hf.castB (t := 87) rfl (dec_f hc50)
                      replace hf := hf.castB (t := 88) rfl (dec_f hc50)
                      refine stepN hf rfl rfl rfl (fun a hf => ?_)
                      refine stepN hf rfl rfl rfl (fun a hf => ?_)
                      refine stepN hf rfl rfl rfl (fun a hf => ?_)
                      refine stepN hf rfl rfl rfl (fun a hf => ?_)
                      refine stepN hf rfl rfl rfl (fun a hf => ?_)
                      refine stq hf rfl rfl rfl (ex_pickF hf rfl rfl) (fun a hf => ?_)
                      refine stq hf rfl rfl rfl (ex_move hf rfl) (fun a hf => ?_)
                      refine stepN hf rfl rfl rfl (fun a hf => ?_)
                      refine stepN hf rfl rfl rfl (fun a hf => ?_)
                      refine stepN hf rfl rfl rfl (fun a hf => ?_)
                      refine stepN hf rfl rfl rfl (fun a hf => ?_)
                      refine stepN hf rfl rfl rfl (fun a hf => ?_)
                      refine stq hf rfl rfl rfl (ex_pickF hf rfl rfl) (fun a hf => ?_)
                      refine stq hf rfl rfl rfl (ex_move hf rfl) (fun a hf => ?_)
                      refine stepN hf rfl rfl rfl (fun a hf => ?_)
                      refine stq hf rfl rfl rfl (ex_pickF hf rfl rfl) (fun a hf => ?_)
                      refine stq hf rfl rfl rfl (ex_assign hf rfl) (fun a hf => ?_)
                      refine hK57 _ _ ?_
                      refine wp_ret ?_
                      have eR := some_eq H; subst eR
                      replace hs := hs.keep (.d .nil)
                      exact ret1 Try.results3 hf rfl ⟨_, rfl, ⟨rfl, hs⟩⟩
                  · -- not s20.2 = x23
                    refine seq_reg (fun K58 hK58 => ?_)
                    refine stq hf rfl rfl rfl (ex_move hf rfl) (fun a hf => ?_)
                    refine stepF hf rfl rfl rfl (ex_call cf_15 hf rfl) (thermal_CheckTrips.calls k a0 v0 (hs.enter (.k .nil)) (Sr.old hr hs (.k .nil) (i := 0) rfl (fun _ h => h) (fun _ h => h) (Sr.nil _ _)) hs43) (fun v w hR a hf => ?_)
                    obtain ⟨rfl, hs'⟩ := hR
                    replace hs := hs.step (.k .nil) hs'
                    clear hs'
                    refine stq hf rfl rfl rfl (ex_move hf rfl) (fun a hf => ?_)
                    refine stepF hf rfl rfl rfl (ex_call cf_16 hf rfl) (ref39_CheckTrips.calls k a0 v0 (hs.enter (.k .nil)) (Sr.old hr hs (.k .nil) (i := 0) rfl (fun _ h => h) (fun _ h => h) (Sr.nil _ _)) hs44) (fun v w hR a hf => ?_)
                    obtain ⟨rfl, hs'⟩ := hR
                    replace hs := hs.step (.k .nil) hs'
                    clear hs'
                    refine stq hf rfl rfl rfl (ex_eql hf rfl rfl) (fun a hf => ?_)
                    refine stq hf rfl rfl rfl (ex_move hf rfl) (fun a hf => ?_)
                    replace hf := hf.castB (t := 70) rfl (dec_t hc45)
                    replace hf := hf.castB (t := 71) rfl (dec_t hc45)
                    refine stq hf rfl rfl rfl (ex_move hf rfl) (fun a hf => ?_)
                    refine stepF hf rfl rfl rfl (ex_call cf_15 hf rfl) (thermal_CheckTrips.calls k x11 v9 (hs.enter (.k .nil)) (Sr.own hs (.k .nil) (i := 0) rfl osl_rsl (fun _ h => h.1) (Sr.nil _ _)) hs46) (fun v w hR a hf => ?_)
                    obtain ⟨rfl, hs'⟩ := hR
                    replace hs := hs.step (.k .nil) hs'
                    clear hs'
                    refine stq hf rfl rfl rfl (ex_move hf rfl) (fun a hf => ?_)
                    refine stepF hf rfl rfl rfl (ex_call cf_16 hf rfl) (ref39_CheckTrips.calls k x11 v9 (hs.enter (.k .nil)) (Sr.own hs (.k .nil) (i := 0) rfl osl_rsl (fun _ h => h.1) (Sr.nil _ _)) hs47) (fun v w hR a hf => ?_)
                    obtain ⟨rfl, hs'⟩ := hR
                    replace hs := hs.step (.k .nil) hs'
                    clear hs'
                    refine stq hf rfl rfl rfl (ex_eql hf rfl rfl) (fun a hf => ?_)
                    refine stq hf rfl rfl rfl (ex_pickT hf rfl rfl) (fun a hf => ?_)
                    refine stq hf rfl rfl rfl (ex_move hf rfl) (fun a hf => ?_)
                    replace hf := hf.castB (t := 76) rfl (dec_t hc48)
                    replace hf := hf.castB (t := 77) rfl (dec_t hc48)
                    replace hf := hf.castB (t := 78) rfl (dec_t hc48)
                    refine stq hf rfl rfl rfl (ex_move hf rfl) (fun a hf => ?_)
                    refine stq hf rfl rfl rfl (ex_move hf rfl) (fun a hf => ?_)
                    refine stq hf rfl rfl rfl (ex_eql hf rfl rfl) (fun a hf => ?_)
                    refine stq hf rfl rfl rfl (ex_pickT hf rfl rfl) (fun a hf => ?_)
                    refine stq hf rfl rfl rfl (ex_move hf rfl) (fun a hf => ?_)
                    replace hf := hf.castB (t := 81) rfl (dec_f hc49)
                    replace hf := hf.castB (t := 82) rfl (dec_f hc49)
                    replace hf := hf.castB (t := 83) rfl (dec_f hc49)
                    refine stepN hf rfl rfl rfl (fun a hf => ?_)
                    refine stepN hf rfl rfl rfl (fun a hf => ?_)
                    refine stepN hf rfl rfl rfl (fun a hf => ?_)
                    refine stq hf rfl rfl rfl (ex_pickF hf rfl rfl) (fun a hf => ?_)
                    refine stq hf rfl rfl rfl (ex_move hf rfl) (fun a hf => ?_)
                    refine stepN hf rfl rfl rfl (fun a hf => ?_)
                    refine stepN hf rfl rfl rfl (fun a hf => ?_)
                    refine stepN hf rfl rfl rfl (fun a hf => ?_)
                    refine stepN hf rfl rfl rfl (fun a hf => ?_)
                    refine stepN hf rfl rfl rfl (fun a hf => ?_)
                    refine stq hf rfl rfl rfl (ex_pickF hf rfl rfl) (fun a hf => ?_)
                    refine stq hf rfl rfl rfl (ex_move hf rfl) (fun a hf => ?_)
                    refine stepN hf rfl rfl rfl (fun a hf => ?_)
                    refine stepN hf rfl rfl rfl (fun a hf => ?_)
                    refine stepN hf rfl rfl rfl (fun a hf => ?_)
                    refine stepN hf rfl rfl rfl (fun a hf => ?_)
                    refine stepN hf rfl rfl rfl (fun a hf => ?_)
                    refine stq hf rfl rfl rfl (ex_pickF hf rfl rfl) (fun a hf => ?_)
                    refine stq hf rfl rfl rfl (ex_move hf rfl) (fun a hf => ?_)
                    refine stepN hf rfl rfl rfl (fun a hf => ?_)
                    refine stq hf rfl rfl rfl (ex_pickF hf rfl rfl) (fun a hf => ?_)
                    refine stq hf rfl rfl rfl (ex_assign hf rfl) (fun a hf => ?_)
                    refine hK58 _ _ ?_
                    refine wp_ret ?_
                    have eR := some_eq H; subst eR
                    replace hs := hs.keep (.d .nil)
                    exact ret1 Try.results3 hf rfl ⟨_, rfl, ⟨rfl, hs⟩⟩
                · -- not s46 = s47
                  refine seq_reg (fun K59 hK59 => ?_)
                  refine stq hf rfl rfl rfl (ex_move hf rfl) (fun a hf => ?_)
                  refine stepF hf rfl rfl rfl (ex_call cf_15 hf rfl) (thermal_CheckTrips.calls k a0 v0 (hs.enter (.k .nil)) (Sr.old hr hs (.k .nil) (i := 0) rfl (fun _ h => h) (fun _ h => h) (Sr.nil _ _)) hs43) (fun v w hR a hf => ?_)
                  obtain ⟨rfl, hs'⟩ := hR
                  replace hs := hs.step (.k .nil) hs'
                  clear hs'
                  refine stq hf rfl rfl rfl (ex_move hf rfl) (fun a hf => ?_)
                  refine stepF hf rfl rfl rfl (ex_call cf_16 hf rfl) (ref39_CheckTrips.calls k a0 v0 (hs.enter (.k .nil)) (Sr.old hr hs (.k .nil) (i := 0) rfl (fun _ h => h) (fun _ h => h) (Sr.nil _ _)) hs44) (fun v w hR a hf => ?_)
                  obtain ⟨rfl, hs'⟩ := hR
                  replace hs := hs.step (.k .nil) hs'
                  clear hs'
                  refine stq hf rfl rfl rfl (ex_eql hf rfl rfl) (fun a hf => ?_)
                  refine stq hf rfl rfl rfl (ex_move hf rfl) (fun a hf => ?_)
                  replace hf := hf.castB (t := 70) rfl (dec_t hc45)
                  replace hf := hf.castB (t := 71) rfl (dec_t hc45)
                  refine stq hf rfl rfl rfl (ex_move hf rfl) (fun a hf => ?_)
                  refine stepF hf rfl rfl rfl (ex_call cf_15 hf rfl) (thermal_CheckTrips.calls k x11 v9 (hs.enter (.k .nil)) (Sr.own hs (.k .nil) (i := 0) rfl osl_rsl (fun _ h => h.1) (Sr.nil _ _)) hs46) (fun v w hR a hf => ?_)
                  obtain ⟨rfl, hs'⟩ := hR
                  replace hs := hs.step (.k .nil) hs'
                  clear hs'
                  refine stq hf rfl rfl rfl (ex_move hf rfl) (fun a hf => ?_)
                  refine stepF hf rfl rfl rfl (ex_call cf_16 hf rfl) (ref39_CheckTrips.calls k x11 v9 (hs.enter (.k .nil)) (Sr.own hs (.k .nil) (i := 0) rfl osl_rsl (fun _ h => h.1) (Sr.nil _ _)) hs47) (fun v w hR a hf => ?_)
                  obtain ⟨rfl, hs'⟩ := hR
                  replace hs := hs.step (.k .nil) hs'
                  clear hs'
                  refine stq hf rfl rfl rfl (ex_eql hf rfl rfl) (fun a hf => ?_)
                  refine stq hf rfl rfl rfl (ex_pickT hf rfl rfl) (fun a hf => ?_)
                  refine stq hf rfl rfl rfl (ex_move hf rfl) (fun a hf => ?_)
                  replace hf := hf.castB (t := 76) rfl (dec_f hc48)
                  replace hf := hf.castB (t := 77) rfl (dec_f hc48)
                  replace hf := hf.castB (t := 78) rfl (dec_f hc48)
                  refine stepN hf rfl rfl rfl (fun a hf => ?_)
                  refine stepN hf rfl rfl rfl (fun a hf => ?_)
                  refine stepN hf rfl rfl rfl (fun a hf => ?_)
                  refine stq hf rfl rfl rfl (ex_pickF hf rfl rfl) (fun a hf => ?_)
                  refine stq hf rfl rfl rfl (ex_move hf rfl) (fun a hf => ?_)
                  refine stepN hf rfl rfl rfl (fun a hf => ?_)
                  refine stepN hf rfl rfl rfl (fun a hf => ?_)
                  refine stepN hf rfl rfl rfl (fun a hf => ?_)
                  refine stq hf rfl rfl rfl (ex_pickF hf rfl rfl) (fun a hf => ?_)
                  refine stq hf rfl rfl rfl (ex_move hf rfl) (fun a hf => ?_)
                  refine stepN hf rfl rfl rfl (fun a hf => ?_)
                  refine stepN hf rfl rfl rfl (fun a hf => ?_)
                  refine stepN hf rfl rfl rfl (fun a hf => ?_)
                  refine stepN hf rfl rfl rfl (fun a hf => ?_)
                  refine stepN hf rfl rfl rfl (fun a hf => ?_)
                  refine stq hf rfl rfl rfl (ex_pickF hf rfl rfl) (fun a hf => ?_)
                  refine stq hf rfl rfl rfl (ex_move hf rfl) (fun a hf => ?_)
                  refine stepN hf rfl rfl rfl (fun a hf => ?_)
                  refine stepN hf rfl rfl rfl (fun a hf => ?_)
                  refine stepN hf rfl rfl rfl (fun a hf => ?_)
                  refine stepN hf rfl rfl rfl (fun a hf => ?_)
                  refine stepN hf rfl rfl rfl (fun a hf => ?_)
                  refine stq hf rfl rfl rfl (ex_pickF hf rfl rfl) (fun a hf => ?_)
                  refine stq hf rfl rfl rfl (ex_move hf rfl) (fun a hf => ?_)
                  refine stepN hf rfl rfl rfl (fun a hf => ?_)
                  refine stq hf rfl rfl rfl (ex_pickF hf rfl rfl) (fun a hf => ?_)
                  refine stq hf rfl rfl rfl (ex_assign hf rfl) (fun a hf => ?_)
                  refine hK59 _ _ ?_
                  refine wp_ret ?_
                  have eR := some_eq H; subst eR
                  replace hs := hs.keep (.d .nil)
                  exact ret1 Try.results3 hf rfl ⟨_, rfl, ⟨rfl, hs⟩⟩
              · -- not s43 = s44
                refine seq_reg (fun K60 hK60 => ?_)
                refine stq hf rfl rfl rfl (ex_move hf rfl) (fun a hf => ?_)
                refine stepF hf rfl rfl rfl (ex_call cf_15 hf rfl) (thermal_CheckTrips.calls k a0 v0 (hs.enter (.k .nil)) (Sr.old hr hs (.k .nil) (i := 0) rfl (fun _ h => h) (fun _ h => h) (Sr.nil _ _)) hs43) (fun v w hR a hf => ?_)
                obtain ⟨rfl, hs'⟩ := hR
                replace hs := hs.step (.k .nil) hs'
                clear hs'
                refine stq hf rfl rfl rfl (ex_move hf rfl) (fun a hf => ?_)
                refine stepF hf rfl rfl rfl (ex_call cf_16 hf rfl) (ref39_CheckTrips.calls k a0 v0 (hs.enter (.k .nil)) (Sr.old hr hs (.k .nil) (i := 0) rfl (fun _ h => h) (fun _ h => h) (Sr.nil _ _)) hs44) (fun v w hR a hf => ?_)
                obtain ⟨rfl, hs'⟩ := hR
                replace hs := hs.step (.k .nil) hs'
                clear hs'
                refine stq hf rfl rfl rfl (ex_eql hf rfl rfl) (fun a hf => ?_)
                refine stq hf rfl rfl rfl (ex_move hf rfl) (fun a hf => ?_)
                replace hf := hf.castB (t := 70) rfl (dec_f hc45)
                replace hf := hf.castB (t := 71) rfl (dec_f hc45)
                refine stepN hf rfl rfl rfl (fun a hf => ?_)
                refine stepN hf rfl rfl rfl (fun a hf => ?_)
                refine stepN hf rfl rfl rfl (fun a hf => ?_)
                refine stepN hf rfl rfl rfl (fun a hf => ?_)
                refine stepN hf rfl rfl rfl (fun a hf => ?_)
                refine stq hf rfl rfl rfl (ex_pickF hf rfl rfl) (fun a hf => ?_)
                refine stq hf rfl rfl rfl (ex_move hf rfl) (fun a hf => ?_)
                refine stepN hf rfl rfl rfl (fun a hf => ?_)
                refine stepN hf rfl rfl rfl (fun a hf => ?_)
                refine stepN hf rfl rfl rfl (fun a hf => ?_)
                refine stq hf rfl rfl rfl (ex_pickF hf rfl rfl) (fun a hf => ?_)
                refine stq hf rfl rfl rfl (ex_move hf rfl) (fun a hf => ?_)
                refine stepN hf rfl rfl rfl (fun a hf => ?_)
                refine stepN hf rfl rfl rfl (fun a hf => ?_)
                refine stepN hf rfl rfl rfl (fun a hf => ?_)
                refine stq hf rfl rfl rfl (ex_pickF hf rfl rfl) (fun a hf => ?_)
                refine stq hf rfl rfl rfl (ex_move hf rfl) (fun a hf => ?_)
                refine stepN hf rfl rfl rfl (fun a hf => ?_)
                refine stepN hf rfl rfl rfl (fun a hf => ?_)
                refine stepN hf rfl rfl rfl (fun a hf => ?_)
                refine stepN hf rfl rfl rfl (fun a hf => ?_)
                refine stepN hf rfl rfl rfl (fun a hf => ?_)
                refine stq hf rfl rfl rfl (ex_pickF hf rfl rfl) (fun a hf => ?_)
                refine stq hf rfl rfl rfl (ex_move hf rfl) (fun a hf => ?_)
                refine stepN hf rfl rfl rfl (fun a hf => ?_)
                refine stepN hf rfl rfl rfl (fun a hf => ?_)
                refine stepN hf rfl rfl rfl (fun a hf => ?_)
                refine stepN hf rfl rfl rfl (fun a hf => ?_)
                refine stepN hf rfl rfl rfl (fun a hf => ?_)
                refine stq hf rfl rfl rfl (ex_pickF hf rfl rfl) (fun a hf => ?_)
                refine stq hf rfl rfl rfl (ex_move hf rfl) (fun a hf => ?_)
                refine stepN hf rfl rfl rfl (fun a hf => ?_)
                refine stq hf rfl rfl rfl (ex_pickF hf rfl rfl) (fun a hf => ?_)
                refine stq hf rfl rfl rfl (ex_assign hf rfl) (fun a hf => ?_)
                refine hK60 _ _ ?_
                refine wp_ret ?_
                have eR := some_eq H; subst eR
                replace hs := hs.keep (.d .nil)
                exact ret1 Try.results3 hf rfl ⟨_, rfl, ⟨rfl, hs⟩⟩
          | some c33 =>
            replace H := elim_s hps32 H
            refine region_k (fun K64 hK64 => ?_)
            refine stq hf rfl rfl rfl (ex_move hf rfl) (fun a hf => ?_)
            refine stq hf rfl rfl rfl (ex_move hf rfl) (fun a hf => ?_)
            refine stepF hf rfl rfl rfl (ex_call cf_12 hf rfl) (help_Mod.calls k a1 70 (hs.enter (.k .nil)) (Sr.nil _ _) hs31) (fun v w hR a hf => ?_)
            obtain ⟨rfl, hs'⟩ := hR
            replace hs := hs.step (.k .nil) hs'
            clear hs'
            refine stq hf rfl rfl rfl (ex_sub hf rfl rfl) (fun a hf => ?_)
            refine stepF hf rfl rfl rfl (ex_call cf_13 hf rfl) (thermal_NewZone.calls k x11 (IntKind.i64.wrap (s31 - 2)) v9 (hs.enter (.k .nil)) (Sr.own hs (.k .nil) (i := 0) rfl osl_rsl (fun _ h => h.1) (Sr.nil _ _)) hs32) (fun v w hR a hf => ?_)
            obtain ⟨hc', _⟩ | ⟨cc, hc', b61, v62, v63, rfl, hs'⟩ := hR
            case inl => rw [hps32] at hc'; cases hc'
            obtain rfl : c33 = cc := by rw [hps32] at hc'; exact Option.some.inj hc'
            replace hs := hs.step (.k .nil) hs'
            clear hs'
            refine stq hf rfl rfl rfl (ex_move hf rfl) (fun a hf => ?_)
            refine stq hf rfl rfl rfl (ex_extract hf rfl rfl) (fun a hf => ?_)
            refine stq hf rfl rfl rfl (ex_extract hf rfl rfl) (fun a hf => ?_)
            refine stq hf rfl rfl rfl (ex_assign hf rfl) (fun a hf => ?_)
            refine stq hf rfl rfl rfl (ex_assign hf rfl) (fun a hf => ?_)
            refine hK64 _ _ ?_
            refine hN30 _ _ ?_
            refine bnd H (fun x65 H65 HO65 => ?_)
            clear H
            refine seq_cut (fun a w => Fr a 105 [(0, v0), (9, v9), (10, .pointer none), (11, .int .i64 s20.2), (13, .int .i64 x23), (14, .pointer (some ⟨b61, 0, none⟩)), (15, .int .i64 s32.2), (17, .int .i64 x65)] ∧ St M w0 w [osl K_api_Trip v9 x11, bx b61 62 [v62, v63, .int .i64 c33.2.2.1, .int .i64 c33.2.2.2], osl K_api_Trip v62 c33.1, osl K_bool v63 c33.2.1]) (fun Q65 hJ65 hR65 hX65 => ?_) (fun a w hJ => ?_)
            · replace H := H65
              refine bnd H (fun s66 hs66 H => ?_)
              refine bnd H (fun s67 hs67 H => ?_)
              cases hps67 : s67.1 with
              | none =>
                replace H := elim_n hps67 H
                refine region_k (fun K69 hK69 => ?_)
                refine stq hf rfl rfl rfl (ex_move hf rfl) (fun a hf => ?_)
                refine stq hf rfl rfl rfl (ex_move hf rfl) (fun a hf => ?_)
                refine stepF hf rfl rfl rfl (ex_call cf_12 hf rfl) (help_Mod.calls k a1 70 (hs.enter (.k (.k (.k (.k .nil))))) (Sr.nil _ _) hs66) (fun v w hR a hf => ?_)
                obtain ⟨rfl, hs'⟩ := hR
                replace hs := hs.step (.k (.k (.k (.k .nil)))) hs'
                clear hs'
                refine stq hf rfl rfl rfl (ex_sub hf rfl rfl) (fun a hf => ?_)
                refine stepF hf rfl rfl rfl (ex_call cf_14 hf rfl) (ref39_NewZone.calls k x11 (IntKind.i64.wrap (s66 - 2)) v9 (hs.enter (.k (.k (.k (.k .nil))))) (Sr.own hs (.k (.k (.k (.k .nil)))) (i := 3) rfl osl_rsl (fun _ h => h.1) (Sr.nil _ _)) hs67) (fun v w hR a hf => ?_)
                obtain ⟨_, rfl, hs'⟩ | ⟨_, hc', _⟩ := hR
                case inr => rw [hps67] at hc'; cases hc'
                replace hs := hs.step (.k (.k (.k (.k .nil)))) hs'
                clear hs'
                refine stq hf rfl rfl rfl (ex_move hf rfl) (fun a hf => ?_)
                refine stq hf rfl rfl rfl (ex_extract hf rfl rfl) (fun a hf => ?_)
                refine stq hf rfl rfl rfl (ex_extract hf rfl rfl) (fun a hf => ?_)
                refine stq hf rfl rfl rfl (ex_assign hf rfl) (fun a hf => ?_)
                refine stq hf rfl rfl rfl (ex_assign hf rfl) (fun a hf => ?_)
                refine hK69 _ _ ?_
                replace hs := hs.pick (.k (.k (.c (.k .nil))))
                replace hs := hs.pick (.k (.k (.c (.k .nil))))
                replace hs := hs.pick (.k (.k (.c (.k .nil))))
                replace hs := hs.pick (.k (.k (.k (.c .nil))))
                have e65 := some_eq H; subst e65
                exact hJ65 _ _ ⟨hf.sub ⟨rfl, rfl, rfl, rfl, rfl, rfl, rfl, rfl, trivial⟩, hs⟩
              | some c68 =>
                replace H := elim_s hps67 H
                refine region_k (fun K72 hK72 => ?_)
                refine stq hf rfl rfl rfl (ex_move hf rfl) (fun a hf => ?_)
                refine stq hf rfl rfl rfl (ex_move hf rfl) (fun a hf => ?_)
                refine stepF hf rfl rfl rfl (ex_call cf_12 hf rfl) (help_Mod.calls k a1 70 (hs.enter (.k (.k (.k (.k .nil))))) (Sr.nil _ _) hs66) (fun v w hR a hf => ?_)
                obtain ⟨rfl, hs'⟩ := hR
                replace hs := hs.step (.k (.k (.k (.k .nil)))) hs'
                clear hs'
                refine stq hf rfl rfl rfl (ex_sub hf rfl rfl) (fun a hf => ?_)
                refine stepF hf rfl rfl rfl (ex_call cf_14 hf rfl) (ref39_NewZone.calls k x11 (IntKind.i64.wrap (s66 - 2)) v9 (hs.enter (.k (.k (.k (.k .nil))))) (Sr.own hs (.k (.k (.k (.k .nil)))) (i := 3) rfl osl_rsl (fun _ h => h.1) (Sr.nil _ _)) hs67) (fun v w hR a hf => ?_)
                obtain ⟨hc', _⟩ | ⟨cc, hc', b70, v71, rfl, hs'⟩ := hR
                case inl => rw [hps67] at hc'; cases hc'
                obtain rfl : c68 = cc := by rw [hps67] at hc'; exact Option.some.inj hc'
                replace hs := hs.step (.k (.k (.k (.k .nil)))) hs'
                clear hs'
                refine stq hf rfl rfl rfl (ex_move hf rfl) (fun a hf => ?_)
                refine stq hf rfl rfl rfl (ex_extract hf rfl rfl) (fun a hf => ?_)
                refine stq hf rfl rfl rfl (ex_extract hf rfl rfl) (fun a hf => ?_)
                refine stq hf rfl rfl rfl (ex_assign hf rfl) (fun a hf => ?_)
                refine stq hf rfl rfl rfl (ex_assign hf rfl) (fun a hf => ?_)
                refine hK72 _ _ ?_
                replace hs := hs.keep (.d (.d (.k (.k (.k (.k .nil))))))
                replace hs := hs.pick (.k (.k (.c (.k .nil))))
                replace hs := hs.pick (.k (.k (.c (.k .nil))))
                replace hs := hs.pick (.k (.k (.c (.k .nil))))
                replace hs := hs.pick (.k (.k (.k (.c .nil))))
                have e65 := some_eq H; subst e65
                exact hJ65 _ _ ⟨hf.sub ⟨rfl, rfl, rfl, rfl, rfl, rfl, rfl, rfl, trivial⟩, hs⟩
            · obtain ⟨hf, hs⟩ := hJ
              replace H := HO65
              clear HO65
              refine bnd H (fun s73 hs73 H => ?_)
              refine bnd H (fun s74 hs74 H => ?_)
              refine itt H (fun hc75 H => ?_) (fun hc75 H => ?_)
              · -- s73 = s74
                refine bnd H (fun s76 hs76 H => ?_)
                refine bnd H (fun s77 hs77 H => ?_)
                refine itt H (fun hc78 H => ?_) (fun hc78 H => ?_)
                · -- s76 = s77
                  refine itt H (fun hc79 H => ?_) (fun hc79 H => ?_)
                  · -- s20.2 = x23
                    refine itt H (fun hc80 H => ?_) (fun hc80 H => ?_)
                    · -- s32.2 = x65
                      refine itt H (fun hc81 H => ?_) (fun hc81 H => ?_)
                      · -- (true == (!decide (s20.2 = 0))) = true
                        refine itt H (fun hc82 H => ?_) (fun hc82 H => ?_)
                        · -- (false == (!decide (s32.2 = 0))) = true
                          refine bnd H (fun s83 hs83 H => ?_)
                          refine seq_reg (fun K84 hK84 => ?_)
                          refine stq hf rfl rfl rfl (ex_move hf rfl) (fun a hf => ?_)
                          refine stepF hf rfl rfl rfl (ex_call cf_15 hf rfl) (thermal_CheckTrips.calls k a0 v0 (hs.enter (.k (.k (.k (.k .nil))))) (Sr.old hr hs (.k (.k (.k (.k .nil)))) (i := 0) rfl (fun _ h => h) (fun _ h => h) (Sr.nil _ _)) hs73) (fun v w hR a hf => ?_)
                          obtain ⟨rfl, hs'⟩ := hR
                          replace hs := hs.step (.k (.k (.k (.k .nil)))) hs'
                          clear hs'
                          refine stq hf rfl rfl rfl (ex_move hf rfl) (fun a hf => ?_)
                          refine stepF hf rfl rfl rfl (ex_call cf_16 hf rfl) (ref39_CheckTrips.calls k a0 v0 (hs.enter (.k (.k (.k (.k .nil))))) (Sr.old hr hs (.k (.k (.k (.k .nil)))) (i := 0) rfl (fun _ h => h) (fun _ h => h) (Sr.nil _ _)) hs74) (fun v w hR a hf => ?_)
                          obtain ⟨rfl, hs'⟩ := hR
                          replace hs := hs.step (.k (.k (.k (.k .nil)))) hs'
                          clear hs'
                          refine stq hf rfl rfl rfl (ex_eql hf rfl rfl) (fun a hf => ?_)
                          refine stq hf rfl rfl rfl (ex_move hf rfl) (fun a hf => ?_)
                          replace hf := hf.castB (t := 70) rfl (dec_t hc75)
                          replace hf := hf.castB (t := 71) rfl (dec_t hc75)
                          refine stq hf rfl rfl rfl (ex_move hf rfl) (fun a hf => ?_)
                          refine stepF hf rfl rfl rfl (ex_call cf_15 hf rfl) (thermal_CheckTrips.calls k x11 v9 (hs.enter (.k (.k (.k (.k .nil))))) (Sr.own hs (.k (.k (.k (.k .nil)))) (i := 0) rfl osl_rsl (fun _ h => h.1) (Sr.nil _ _)) hs76) (fun v w hR a hf => ?_)
                          obtain ⟨rfl, hs'⟩ := hR
                          replace hs := hs.step (.k (.k (.k (.k .nil)))) hs'
                          clear hs'
                          refine stq hf rfl rfl rfl (ex_move hf rfl) (fun a hf => ?_)
                          refine stepF hf rfl rfl rfl (ex_call cf_16 hf rfl) (ref39_CheckTrips.calls k x11 v9 (hs.enter (.k (.k (.k (.k .nil))))) (Sr.own hs (.k (.k (.k (.k .nil)))) (i := 0) rfl osl_rsl (fun _ h => h.1) (Sr.nil _ _)) hs77) (fun v w hR a hf => ?_)
                          obtain ⟨rfl, hs'⟩ := hR
                          replace hs := hs.step (.k (.k (.k (.k .nil)))) hs'
                          clear hs'
                          refine stq hf rfl rfl rfl (ex_eql hf rfl rfl) (fun a hf => ?_)
                          refine stq hf rfl rfl rfl (ex_pickT hf rfl rfl) (fun a hf => ?_)
                          refine stq hf rfl rfl rfl (ex_move hf rfl) (fun a hf => ?_)
                          replace hf := hf.castB (t := 76) rfl (dec_t hc78)
                          replace hf := hf.castB (t := 77) rfl (dec_t hc78)
                          replace hf := hf.castB (t := 78) rfl (dec_t hc78)
                          refine stq hf rfl rfl rfl (ex_move hf rfl) (fun a hf => ?_)
                          refine stq hf rfl rfl rfl (ex_move hf rfl) (fun a hf => ?_)
                          refine stq hf rfl rfl rfl (ex_eql hf rfl rfl) (fun a hf => ?_)
                          refine stq hf rfl rfl rfl (ex_pickT hf rfl rfl) (fun a hf => ?_)
                          refine stq hf rfl rfl rfl (ex_move hf rfl) (fun a hf => ?_)
                          replace hf := hf.castB (t := 81) rfl (dec_t hc79)
                          replace hf := hf.castB (t := 82) rfl (dec_t hc79)
                          replace hf := hf.castB (t := 83) rfl (dec_t hc79)
                          refine stq hf rfl rfl rfl (ex_move hf rfl) (fun a hf => ?_)
                          refine stq hf rfl rfl rfl (ex_move hf rfl) (fun a hf => ?_)
                          refine stq hf rfl rfl rfl (ex_eql hf rfl rfl) (fun a hf => ?_)
                          refine stq hf rfl rfl rfl (ex_pickT hf rfl rfl) (fun a hf => ?_)
                          refine stq hf rfl rfl rfl (ex_move hf rfl) (fun a hf => ?_)
                          replace hf := hf.castB (t := 86) rfl (dec_t hc80)
                          replace hf := hf.castB (t := 87) rfl (dec_t hc80)
                          replace hf := hf.castB (t := 88) rfl (dec_t hc80)
                          refine stq hf rfl rfl rfl (ex_move hf rfl) (fun a hf => ?_)
                          refine stq hf rfl rfl rfl (ex_eqp Try.underlying28 hf rfl rfl) (fun a hf => ?_)
                          refine stq hf rfl rfl rfl (ex_move hf rfl) (fun a hf => ?_)
                          refine stq hf rfl rfl rfl (ex_neq hf rfl rfl) (fun a hf => ?_)
                          refine stq hf rfl rfl rfl (ex_eqb Try.underlying4 hf rfl rfl) (fun a hf => ?_)
                          refine stq hf rfl rfl rfl (ex_pickT hf rfl rfl) (fun a hf => ?_)
                          refine stq hf rfl rfl rfl (ex_move hf rfl) (fun a hf => ?_)
                          replace hf := hf.castB (t := 93) rfl hc81
                          replace hf := hf.castB (t := 94) rfl hc81
                          replace hf := hf.castB (t := 95) rfl hc81
                          refine stq hf rfl rfl rfl (ex_move hf rfl) (fun a hf => ?_)
                          refine stq hf rfl rfl rfl (ex_eqp Try.underlying28 hf rfl rfl) (fun a hf => ?_)
                          refine stq hf rfl rfl rfl (ex_move hf rfl) (fun a hf => ?_)
                          refine stq hf rfl rfl rfl (ex_neq hf rfl rfl) (fun a hf => ?_)
                          refine stq hf rfl rfl rfl (ex_eqb Try.underlying4 hf rfl rfl) (fun a hf => ?_)
                          refine stq hf rfl rfl rfl (ex_pickT hf rfl rfl) (fun a hf => ?_)
                          refine stq hf rfl rfl rfl (ex_move hf rfl) (fun a hf => ?_)
                          replace hf := hf.castB (t := 100) rfl hc82
                          replace hf := hf.castB (t := 101) rfl hc82
                          replace hf := hf.castB (t := 102) rfl hc82
                          refine stepF hf rfl rfl rfl (ex_call cf_10 hf rfl) (law39_awake.calls k (hs.enter (.k (.k (.k (.k .nil))))) (Sr.nil _ _) hs83) (fun v w hR a hf => ?_)
                          obtain ⟨rfl, hs'⟩ := hR
                          replace hs := hs.step (.k (.k (.k (.k .nil)))) hs'
                          clear hs'
                          refine stq hf rfl rfl rfl (ex_pickT hf rfl rfl) (fun a hf => ?_)
                          refine stq hf rfl rfl rfl (ex_assign hf rfl) (fun a hf => ?_)
                          refine hK84 _ _ ?_
                          refine wp_ret ?_
                          have eR := some_eq H; subst eR
                          replace hs := hs.keep (.d (.d (.d (.d .nil))))
                          exact ret1 Try.results3 hf rfl ⟨_, rfl, ⟨rfl, hs⟩⟩
                        · -- not (false == (!decide (s32.2 = 0))) = true
                          refine seq_reg (fun K85 hK85 => ?_)
                          refine stq hf rfl rfl rfl (ex_move hf rfl) (fun a hf => ?_)
                          refine stepF hf rfl rfl rfl (ex_call cf_15 hf rfl) (thermal_CheckTrips.calls k a0 v0 (hs.enter (.k (.k (.k (.k .nil))))) (Sr.old hr hs (.k (.k (.k (.k .nil)))) (i := 0) rfl (fun _ h => h) (fun _ h => h) (Sr.nil _ _)) hs73) (fun v w hR a hf => ?_)
                          obtain ⟨rfl, hs'⟩ := hR
                          replace hs := hs.step (.k (.k (.k (.k .nil)))) hs'
                          clear hs'
                          refine stq hf rfl rfl rfl (ex_move hf rfl) (fun a hf => ?_)
                          refine stepF hf rfl rfl rfl (ex_call cf_16 hf rfl) (ref39_CheckTrips.calls k a0 v0 (hs.enter (.k (.k (.k (.k .nil))))) (Sr.old hr hs (.k (.k (.k (.k .nil)))) (i := 0) rfl (fun _ h => h) (fun _ h => h) (Sr.nil _ _)) hs74) (fun v w hR a hf => ?_)
                          obtain ⟨rfl, hs'⟩ := hR
                          replace hs := hs.step (.k (.k (.k (.k .nil)))) hs'
                          clear hs'
                          refine stq hf rfl rfl rfl (ex_eql hf rfl rfl) (fun a hf => ?_)
                          refine stq hf rfl rfl rfl (ex_move hf rfl) (fun a hf => ?_)
                          replace hf := hf.castB (t := 70) rfl (dec_t hc75)
                          replace hf := hf.castB (t := 71) rfl (dec_t hc75)
                          refine stq hf rfl rfl rfl (ex_move hf rfl) (fun a hf => ?_)
                          refine stepF hf rfl rfl rfl (ex_call cf_15 hf rfl) (thermal_CheckTrips.calls k x11 v9 (hs.enter (.k (.k (.k (.k .nil))))) (Sr.own hs (.k (.k (.k (.k .nil)))) (i := 0) rfl osl_rsl (fun _ h => h.1) (Sr.nil _ _)) hs76) (fun v w hR a hf => ?_)
                          obtain ⟨rfl, hs'⟩ := hR
                          replace hs := hs.step (.k (.k (.k (.k .nil)))) hs'
                          clear hs'
                          refine stq hf rfl rfl rfl (ex_move hf rfl) (fun a hf => ?_)
                          refine stepF hf rfl rfl rfl (ex_call cf_16 hf rfl) (ref39_CheckTrips.calls k x11 v9 (hs.enter (.k (.k (.k (.k .nil))))) (Sr.own hs (.k (.k (.k (.k .nil)))) (i := 0) rfl osl_rsl (fun _ h => h.1) (Sr.nil _ _)) hs77) (fun v w hR a hf => ?_)
                          obtain ⟨rfl, hs'⟩ := hR
                          replace hs := hs.step (.k (.k (.k (.k .nil)))) hs'
                          clear hs'
                          refine stq hf rfl rfl rfl (ex_eql hf rfl rfl) (fun a hf => ?_)
                          refine stq hf rfl rfl rfl (ex_pickT hf rfl rfl) (fun a hf => ?_)
                          refine stq hf rfl rfl rfl (ex_move hf rfl) (fun a hf => ?_)
                          replace hf := hf.castB (t := 76) rfl (dec_t hc78)
                          replace hf := hf.castB (t := 77) rfl (dec_t hc78)
                          replace hf := hf.castB (t := 78) rfl (dec_t hc78)
                          refine stq hf rfl rfl rfl (ex_move hf rfl) (fun a hf => ?_)
                          refine stq hf rfl rfl rfl (ex_move hf rfl) (fun a hf => ?_)
                          refine stq hf rfl rfl rfl (ex_eql hf rfl rfl) (fun a hf => ?_)
                          refine stq hf rfl rfl rfl (ex_pickT hf rfl rfl) (fun a hf => ?_)
                          refine stq hf rfl rfl rfl (ex_move hf rfl) (fun a hf => ?_)
                          replace hf := hf.castB (t := 81) rfl (dec_t hc79)
                          replace hf := hf.castB (t := 82) rfl (dec_t hc79)
                          replace hf := hf.castB (t := 83) rfl (dec_t hc79)
                          refine stq hf rfl rfl rfl (ex_move hf rfl) (fun a hf => ?_)
                          refine stq hf rfl rfl rfl (ex_move hf rfl) (fun a hf => ?_)
                          refine stq hf rfl rfl rfl (ex_eql hf rfl rfl) (fun a hf => ?_)
                          refine stq hf rfl rfl rfl (ex_pickT hf rfl rfl) (fun a hf => ?_)
                          refine stq hf rfl rfl rfl (ex_move hf rfl) (fun a hf => ?_)
                          replace hf := hf.castB (t := 86) rfl (dec_t hc80)
                          replace hf := hf.castB (t := 87) rfl (dec_t hc80)
                          replace hf := hf.castB (t := 88) rfl (dec_t hc80)
                          refine stq hf rfl rfl rfl (ex_move hf rfl) (fun a hf => ?_)
                          refine stq hf rfl rfl rfl (ex_eqp Try.underlying28 hf rfl rfl) (fun a hf => ?_)
                          refine stq hf rfl rfl rfl (ex_move hf rfl) (fun a hf => ?_)
                          refine stq hf rfl rfl rfl (ex_neq hf rfl rfl) (fun a hf => ?_)
                          refine stq hf rfl rfl rfl (ex_eqb Try.underlying4 hf rfl rfl) (fun a hf => ?_)
                          refine stq hf rfl rfl rfl (ex_pickT hf rfl rfl) (fun a hf => ?_)
                          refine stq hf rfl rfl rfl (ex_move hf rfl) (fun a hf => ?_)
                          replace hf := hf.castB (t := 93) rfl hc81
                          replace hf := hf.castB (t := 94) rfl hc81
                          replace hf := hf.castB (t := 95) rfl hc81
                          refine stq hf rfl rfl rfl (ex_move hf rfl) (fun a hf => ?_)
                          refine stq hf rfl rfl rfl (ex_eqp Try.underlying28 hf rfl rfl) (fun a hf => ?_)
                          refine stq hf rfl rfl rfl (ex_move hf rfl) (fun a hf => ?_)
                          refine stq hf rfl rfl rfl (ex_neq hf rfl rfl) (fun a hf => ?_)
                          refine stq hf rfl rfl rfl (ex_eqb Try.underlying4 hf rfl rfl) (fun a hf => ?_)
                          refine stq hf rfl rfl rfl (ex_pickT hf rfl rfl) (fun a hf => ?_)
                          refine stq hf rfl rfl rfl (ex_move hf rfl) (fun a hf => ?_)
                          replace hf := hf.castB (t := 100) rfl (bool_f hc82)
                          replace hf := hf.castB (t := 101) rfl (bool_f hc82)
                          replace hf := hf.castB (t := 102) rfl (bool_f hc82)
                          refine stepN hf rfl rfl rfl (fun a hf => ?_)
                          refine stq hf rfl rfl rfl (ex_pickF hf rfl rfl) (fun a hf => ?_)
                          refine stq hf rfl rfl rfl (ex_assign hf rfl) (fun a hf => ?_)
                          refine hK85 _ _ ?_
                          refine wp_ret ?_
                          have eR := some_eq H; subst eR
                          replace hs := hs.keep (.d (.d (.d (.d .nil))))
                          exact ret1 Try.results3 hf rfl ⟨_, rfl, ⟨rfl, hs⟩⟩
                      · -- not (true == (!decide (s20.2 = 0))) = true
                        refine seq_reg (fun K86 hK86 => ?_)
                        refine stq hf rfl rfl rfl (ex_move hf rfl) (fun a hf => ?_)
                        refine stepF hf rfl rfl rfl (ex_call cf_15 hf rfl) (thermal_CheckTrips.calls k a0 v0 (hs.enter (.k (.k (.k (.k .nil))))) (Sr.old hr hs (.k (.k (.k (.k .nil)))) (i := 0) rfl (fun _ h => h) (fun _ h => h) (Sr.nil _ _)) hs73) (fun v w hR a hf => ?_)
                        obtain ⟨rfl, hs'⟩ := hR
                        replace hs := hs.step (.k (.k (.k (.k .nil)))) hs'
                        clear hs'
                        refine stq hf rfl rfl rfl (ex_move hf rfl) (fun a hf => ?_)
                        refine stepF hf rfl rfl rfl (ex_call cf_16 hf rfl) (ref39_CheckTrips.calls k a0 v0 (hs.enter (.k (.k (.k (.k .nil))))) (Sr.old hr hs (.k (.k (.k (.k .nil)))) (i := 0) rfl (fun _ h => h) (fun _ h => h) (Sr.nil _ _)) hs74) (fun v w hR a hf => ?_)
                        obtain ⟨rfl, hs'⟩ := hR
                        replace hs := hs.step (.k (.k (.k (.k .nil)))) hs'
                        clear hs'
                        refine stq hf rfl rfl rfl (ex_eql hf rfl rfl) (fun a hf => ?_)
                        refine stq hf rfl rfl rfl (ex_move hf rfl) (fun a hf => ?_)
                        replace hf := hf.castB (t := 70) rfl (dec_t hc75)
                        replace hf := hf.castB (t := 71) rfl (dec_t hc75)
                        refine stq hf rfl rfl rfl (ex_move hf rfl) (fun a hf => ?_)
                        refine stepF hf rfl rfl rfl (ex_call cf_15 hf rfl) (thermal_CheckTrips.calls k x11 v9 (hs.enter (.k (.k (.k (.k .nil))))) (Sr.own hs (.k (.k (.k (.k .nil)))) (i := 0) rfl osl_rsl (fun _ h => h.1) (Sr.nil _ _)) hs76) (fun v w hR a hf => ?_)
                        obtain ⟨rfl, hs'⟩ := hR
                        replace hs := hs.step (.k (.k (.k (.k .nil)))) hs'
                        clear hs'
                        refine stq hf rfl rfl rfl (ex_move hf rfl) (fun a hf => ?_)
                        refine stepF hf rfl rfl rfl (ex_call cf_16 hf rfl) (ref39_CheckTrips.calls k x11 v9 (hs.enter (.k (.k (.k (.k .nil))))) (Sr.own hs (.k (.k (.k (.k .nil)))) (i := 0) rfl osl_rsl (fun _ h => h.1) (Sr.nil _ _)) hs77) (fun v w hR a hf => ?_)
                        obtain ⟨rfl, hs'⟩ := hR
                        replace hs := hs.step (.k (.k (.k (.k .nil)))) hs'
                        clear hs'
                        refine stq hf rfl rfl rfl (ex_eql hf rfl rfl) (fun a hf => ?_)
                        refine stq hf rfl rfl rfl (ex_pickT hf rfl rfl) (fun a hf => ?_)
                        refine stq hf rfl rfl rfl (ex_move hf rfl) (fun a hf => ?_)
                        replace hf := hf.castB (t := 76) rfl (dec_t hc78)
                        replace hf := hf.castB (t := 77) rfl (dec_t hc78)
                        replace hf := hf.castB (t := 78) rfl (dec_t hc78)
                        refine stq hf rfl rfl rfl (ex_move hf rfl) (fun a hf => ?_)
                        refine stq hf rfl rfl rfl (ex_move hf rfl) (fun a hf => ?_)
                        refine stq hf rfl rfl rfl (ex_eql hf rfl rfl) (fun a hf => ?_)
                        refine stq hf rfl rfl rfl (ex_pickT hf rfl rfl) (fun a hf => ?_)
                        refine stq hf rfl rfl rfl (ex_move hf rfl) (fun a hf => ?_)
                        replace hf := hf.castB (t := 81) rfl (dec_t hc79)
                        replace hf := hf.castB (t := 82) rfl (dec_t hc79)
                        replace hf := hf.castB (t := 83) rfl (dec_t hc79)
                        refine stq hf rfl rfl rfl (ex_move hf rfl) (fun a hf => ?_)
                        refine stq hf rfl rfl rfl (ex_move hf rfl) (fun a hf => ?_)
                        refine stq hf rfl rfl rfl (ex_eql hf rfl rfl) (fun a hf => ?_)
                        refine stq hf rfl rfl rfl (ex_pickT hf rfl rfl) (fun a hf => ?_)
                        refine stq hf rfl rfl rfl (ex_move hf rfl) (fun a hf => ?_)
                        replace hf := hf.castB (t := 86) rfl (dec_t hc80)
                        replace hf := hf.castB (t := 87) rfl (dec_t hc80)
                        replace hf := hf.castB (t := 88) rfl (dec_t hc80)
                        refine stq hf rfl rfl rfl (ex_move hf rfl) (fun a hf => ?_)
                        refine stq hf rfl rfl rfl (ex_eqp Try.underlying28 hf rfl rfl) (fun a hf => ?_)
                        refine stq hf rfl rfl rfl (ex_move hf rfl) (fun a hf => ?_)
                        refine stq hf rfl rfl rfl (ex_neq hf rfl rfl) (fun a hf => ?_)
                        refine stq hf rfl rfl rfl (ex_eqb Try.underlying4 hf rfl rfl) (fun a hf => ?_)
                        refine stq hf rfl rfl rfl (ex_pickT hf rfl rfl) (fun a hf => ?_)
                        refine stq hf rfl rfl rfl (ex_move hf rfl) (fun a hf => ?_)
                        replace hf := hf.castB (t := 93) rfl (bool_f hc81)
                        replace hf := hf.castB (t := 94) rfl (bool_f hc81)
                        replace hf := hf.castB (t := 95) rfl (bool_f hc81)
                        refine stepN hf rfl rfl rfl (fun a hf => ?_)
                        refine stepN hf rfl rfl rfl (fun a hf => ?_)
                        refine stepN hf rfl rfl rfl (fun a hf => ?_)
                        refine stepN hf rfl rfl rfl (fun a hf => ?_)
                        refine stepN hf rfl rfl rfl (fun a hf => ?_)
                        refine stq hf rfl rfl rfl (ex_pickF hf rfl rfl) (fun a hf => ?_)
                        refine stq hf rfl rfl rfl (ex_move hf rfl) (fun a hf => ?_)
                        refine stepN hf rfl rfl rfl (fun a hf => ?_)
                        refine stq hf rfl rfl rfl (ex_pickF hf rfl rfl) (fun a hf => ?_)
                        refine stq hf rfl rfl rfl (ex_assign hf rfl) (fun a hf => ?_)
                        refine hK86 _ _ ?_
                        refine wp_ret ?_
                        have eR := some_eq H; subst eR
                        replace hs := hs.keep (.d (.d (.d (.d .nil))))
                        exact ret1 Try.results3 hf rfl ⟨_, rfl, ⟨rfl, hs⟩⟩
                    · -- not s32.2 = x65
                      refine seq_reg (fun K87 hK87 => ?_)
                      refine stq hf rfl rfl rfl (ex_move hf rfl) (fun a hf => ?_)
                      refine stepF hf rfl rfl rfl (ex_call cf_15 hf rfl) (thermal_CheckTrips.calls k a0 v0 (hs.enter (.k (.k (.k (.k .nil))))) (Sr.old hr hs (.k (.k (.k (.k .nil)))) (i := 0) rfl (fun _ h => h) (fun _ h => h) (Sr.nil _ _)) hs73) (fun v w hR a hf => ?_)
                      obtain ⟨rfl, hs'⟩ := hR
                      replace hs := hs.step (.k (.k (.k (.k .nil)))) hs'
                      clear hs'
                      refine stq hf rfl rfl rfl (ex_move hf rfl) (fun a hf => ?_)
                      refine stepF hf rfl rfl rfl (ex_call cf_16 hf rfl) (ref39_CheckTrips.calls k a0 v0 (hs.enter (.k (.k (.k (.k .nil))))) (Sr.old hr hs (.k (.k (.k (.k .nil)))) (i := 0) rfl (fun _ h => h) (fun _ h => h) (Sr.nil _ _)) hs74) (fun v w hR a hf => ?_)
                      obtain ⟨rfl, hs'⟩ := hR
                      replace hs := hs.step (.k (.k (.k (.k .nil)))) hs'
                      clear hs'
                      refine stq hf rfl rfl rfl (ex_eql hf rfl rfl) (fun a hf => ?_)
                      refine stq hf rfl rfl rfl (ex_move hf rfl) (fun a hf => ?_)
                      replace hf := hf.castB (t := 70) rfl (dec_t hc75)
                      replace hf := hf.castB (t := 71) rfl (dec_t hc75)
                      refine stq hf rfl rfl rfl (ex_move hf rfl) (fun a hf => ?_)
                      refine stepF hf rfl rfl rfl (ex_call cf_15 hf rfl) (thermal_CheckTrips.calls k x11 v9 (hs.enter (.k (.k (.k (.k .nil))))) (Sr.own hs (.k (.k (.k (.k .nil)))) (i := 0) rfl osl_rsl (fun _ h => h.1) (Sr.nil _ _)) hs76) (fun v w hR a hf => ?_)
                      obtain ⟨rfl, hs'⟩ := hR
                      replace hs := hs.step (.k (.k (.k (.k .nil)))) hs'
                      clear hs'
                      refine stq hf rfl rfl rfl (ex_move hf rfl) (fun a hf => ?_)
                      refine stepF hf rfl rfl rfl (ex_call cf_16 hf rfl) (ref39_CheckTrips.calls k x11 v9 (hs.enter (.k (.k (.k (.k .nil))))) (Sr.own hs (.k (.k (.k (.k .nil)))) (i := 0) rfl osl_rsl (fun _ h => h.1) (Sr.nil _ _)) hs77) (fun v w hR a hf => ?_)
                      obtain ⟨rfl, hs'⟩ := hR
                      replace hs := hs.step (.k (.k (.k (.k .nil)))) hs'
                      clear hs'
                      refine stq hf rfl rfl rfl (ex_eql hf rfl rfl) (fun a hf => ?_)
                      refine stq hf rfl rfl rfl (ex_pickT hf rfl rfl) (fun a hf => ?_)
                      refine stq hf rfl rfl rfl (ex_move hf rfl) (fun a hf => ?_)
                      replace hf := hf.castB (t := 76) rfl (dec_t hc78)
                      replace hf := hf.castB (t := 77) rfl (dec_t hc78)
                      replace hf := hf.castB (t := 78) rfl (dec_t hc78)
                      refine stq hf rfl rfl rfl (ex_move hf rfl) (fun a hf => ?_)
                      refine stq hf rfl rfl rfl (ex_move hf rfl) (fun a hf => ?_)
                      refine stq hf rfl rfl rfl (ex_eql hf rfl rfl) (fun a hf => ?_)
                      refine stq hf rfl rfl rfl (ex_pickT hf rfl rfl) (fun a hf => ?_)
                      refine stq hf rfl rfl rfl (ex_move hf rfl) (fun a hf => ?_)
                      replace hf := hf.castB (t := 81) rfl (dec_t hc79)
                      replace hf := hf.castB (t := 82) rfl (dec_t hc79)
                      replace hf := hf.castB (t := 83) rfl (dec_t hc79)
                      refine stq hf rfl rfl rfl (ex_move hf rfl) (fun a hf => ?_)
                      refine stq hf rfl rfl rfl (ex_move hf rfl) (fun a hf => ?_)
                      refine stq hf rfl rfl rfl (ex_eql hf rfl rfl) (fun a hf => ?_)
                      refine stq hf rfl rfl rfl (ex_pickT hf rfl rfl) (fun a hf => ?_)
                      refine stq hf rfl rfl rfl (ex_move hf rfl) (fun a hf => ?_)
                      replace hf := hf.castB (t := 86) rfl (dec_f hc80)
                      replace hf := hf.castB (t := 87) rfl (dec_f hc80)
                      replace hf := hf.castB (t := 88) rfl (dec_f hc80)
                      refine stepN hf rfl rfl rfl (fun a hf => ?_)
                      refine stepN hf rfl rfl rfl (fun a hf => ?_)
                      refine stepN hf rfl rfl rfl (fun a hf => ?_)
                      refine stepN hf rfl rfl rfl (fun a hf => ?_)
                      refine stepN hf rfl rfl rfl (fun a hf => ?_)
                      refine stq hf rfl rfl rfl (ex_pickF hf rfl rfl) (fun a hf => ?_)
                      refine stq hf rfl rfl rfl (ex_move hf rfl) (fun a hf => ?_)
                      refine stepN hf rfl rfl rfl (fun a hf => ?_)
                      refine stepN hf rfl rfl rfl (fun a hf => ?_)
                      refine stepN hf rfl rfl rfl (fun a hf => ?_)
                      refine stepN hf rfl rfl rfl (fun a hf => ?_)
                      refine stepN hf rfl rfl rfl (fun a hf => ?_)
                      refine stq hf rfl rfl rfl (ex_pickF hf rfl rfl) (fun a hf => ?_)
                      refine stq hf rfl rfl rfl (ex_move hf rfl) (fun a hf => ?_)
                      refine stepN hf rfl rfl rfl (fun a hf => ?_)
                      refine stq hf rfl rfl rfl (ex_pickF hf rfl rfl) (fun a hf => ?_)
                      refine stq hf rfl rfl rfl (ex_assign hf rfl) (fun a hf => ?_)
                      refine hK87 _ _ ?_
                      refine wp_ret ?_
                      have eR := some_eq H; subst eR
                      replace hs := hs.keep (.d (.d (.d (.d .nil))))
                      exact ret1 Try.results3 hf rfl ⟨_, rfl, ⟨rfl, hs⟩⟩
                  · -- not s20.2 = x23
                    refine seq_reg (fun K88 hK88 => ?_)
                    refine stq hf rfl rfl rfl (ex_move hf rfl) (fun a hf => ?_)
                    refine stepF hf rfl rfl rfl (ex_call cf_15 hf rfl) (thermal_CheckTrips.calls k a0 v0 (hs.enter (.k (.k (.k (.k .nil))))) (Sr.old hr hs (.k (.k (.k (.k .nil)))) (i := 0) rfl (fun _ h => h) (fun _ h => h) (Sr.nil _ _)) hs73) (fun v w hR a hf => ?_)
                    obtain ⟨rfl, hs'⟩ := hR
                    replace hs := hs.step (.k (.k (.k (.k .nil)))) hs'
                    clear hs'
                    refine stq hf rfl rfl rfl (ex_move hf rfl) (fun a hf => ?_)
                    refine stepF hf rfl rfl rfl (ex_call cf_16 hf rfl) (ref39_CheckTrips.calls k a0 v0 (hs.enter (.k (.k (.k (.k .nil))))) (Sr.old hr hs (.k (.k (.k (.k .nil)))) (i := 0) rfl (fun _ h => h) (fun _ h => h) (Sr.nil _ _)) hs74) (fun v w hR a hf => ?_)
                    obtain ⟨rfl, hs'⟩ := hR
                    replace hs := hs.step (.k (.k (.k (.k .nil)))) hs'
                    clear hs'
                    refine stq hf rfl rfl rfl (ex_eql hf rfl rfl) (fun a hf => ?_)
                    refine stq hf rfl rfl rfl (ex_move hf rfl) (fun a hf => ?_)
                    replace hf := hf.castB (t := 70) rfl (dec_t hc75)
                    replace hf := hf.castB (t := 71) rfl (dec_t hc75)
                    refine stq hf rfl rfl rfl (ex_move hf rfl) (fun a hf => ?_)
                    refine stepF hf rfl rfl rfl (ex_call cf_15 hf rfl) (thermal_CheckTrips.calls k x11 v9 (hs.enter (.k (.k (.k (.k .nil))))) (Sr.own hs (.k (.k (.k (.k .nil)))) (i := 0) rfl osl_rsl (fun _ h => h.1) (Sr.nil _ _)) hs76) (fun v w hR a hf => ?_)
                    obtain ⟨rfl, hs'⟩ := hR
                    replace hs := hs.step (.k (.k (.k (.k .nil)))) hs'
                    clear hs'
                    refine stq hf rfl rfl rfl (ex_move hf rfl) (fun a hf => ?_)
                    refine stepF hf rfl rfl rfl (ex_call cf_16 hf rfl) (ref39_CheckTrips.calls k x11 v9 (hs.enter (.k (.k (.k (.k .nil))))) (Sr.own hs (.k (.k (.k (.k .nil)))) (i := 0) rfl osl_rsl (fun _ h => h.1) (Sr.nil _ _)) hs77) (fun v w hR a hf => ?_)
                    obtain ⟨rfl, hs'⟩ := hR
                    replace hs := hs.step (.k (.k (.k (.k .nil)))) hs'
                    clear hs'
                    refine stq hf rfl rfl rfl (ex_eql hf rfl rfl) (fun a hf => ?_)
                    refine stq hf rfl rfl rfl (ex_pickT hf rfl rfl) (fun a hf => ?_)
                    refine stq hf rfl rfl rfl (ex_move hf rfl) (fun a hf => ?_)
                    replace hf := hf.castB (t := 76) rfl (dec_t hc78)
                    replace hf := hf.castB (t := 77) rfl (dec_t hc78)
                    replace hf := hf.castB (t := 78) rfl (dec_t hc78)
                    refine stq hf rfl rfl rfl (ex_move hf rfl) (fun a hf => ?_)
                    refine stq hf rfl rfl rfl (ex_move hf rfl) (fun a hf => ?_)
                    refine stq hf rfl rfl rfl (ex_eql hf rfl rfl) (fun a hf => ?_)
                    refine stq hf rfl rfl rfl (ex_pickT hf rfl rfl) (fun a hf => ?_)
                    refine stq hf rfl rfl rfl (ex_move hf rfl) (fun a hf => ?_)
                    replace hf := hf.castB (t := 81) rfl (dec_f hc79)
                    replace hf := hf.castB (t := 82) rfl (dec_f hc79)
                    replace hf := hf.castB (t := 83) rfl (dec_f hc79)
                    refine stepN hf rfl rfl rfl (fun a hf => ?_)
                    refine stepN hf rfl rfl rfl (fun a hf => ?_)
                    refine stepN hf rfl rfl rfl (fun a hf => ?_)
                    refine stq hf rfl rfl rfl (ex_pickF hf rfl rfl) (fun a hf => ?_)
                    refine stq hf rfl rfl rfl (ex_move hf rfl) (fun a hf => ?_)
                    refine stepN hf rfl rfl rfl (fun a hf => ?_)
                    refine stepN hf rfl rfl rfl (fun a hf => ?_)
                    refine stepN hf rfl rfl rfl (fun a hf => ?_)
                    refine stepN hf rfl rfl rfl (fun a hf => ?_)
                    refine stepN hf rfl rfl rfl (fun a hf => ?_)
                    refine stq hf rfl rfl rfl (ex_pickF hf rfl rfl) (fun a hf => ?_)
                    refine stq hf rfl rfl rfl (ex_move hf rfl) (fun a hf => ?_)
                    refine stepN hf rfl rfl rfl (fun a hf => ?_)
                    refine stepN hf rfl rfl rfl (fun a hf => ?_)
                    refine stepN hf rfl rfl rfl (fun a hf => ?_)
                    refine stepN hf rfl rfl rfl (fun a hf => ?_)
                    refine stepN hf rfl rfl rfl (fun a hf => ?_)
                    refine stq hf rfl rfl rfl (ex_pickF hf rfl rfl) (fun a hf => ?_)
                    refine stq hf rfl rfl rfl (ex_move hf rfl) (fun a hf => ?_)
                    refine stepN hf rfl rfl rfl (fun a hf => ?_)
                    refine stq hf rfl rfl rfl (ex_pickF hf rfl rfl) (fun a hf => ?_)
                    refine stq hf rfl rfl rfl (ex_assign hf rfl) (fun a hf => ?_)
                    refine hK88 _ _ ?_
                    refine wp_ret ?_
                    have eR := some_eq H; subst eR
                    replace hs := hs.keep (.d (.d (.d (.d .nil))))
                    exact ret1 Try.results3 hf rfl ⟨_, rfl, ⟨rfl, hs⟩⟩
                · -- not s76 = s77
                  refine seq_reg (fun K89 hK89 => ?_)
                  refine stq hf rfl rfl rfl (ex_move hf rfl) (fun a hf => ?_)
                  refine stepF hf rfl rfl rfl (ex_call cf_15 hf rfl) (thermal_CheckTrips.calls k a0 v0 (hs.enter (.k (.k (.k (.k .nil))))) (Sr.old hr hs (.k (.k (.k (.k .nil)))) (i := 0) rfl (fun _ h => h) (fun _ h => h) (Sr.nil _ _)) hs73) (fun v w hR a hf => ?_)
                  obtain ⟨rfl, hs'⟩ := hR
                  replace hs := hs.step (.k (.k (.k (.k .nil)))) hs'
                  clear hs'
                  refine stq hf rfl rfl rfl (ex_move hf rfl) (fun a hf => ?_)
                  refine stepF hf rfl rfl rfl (ex_call cf_16 hf rfl) (ref39_CheckTrips.calls k a0 v0 (hs.enter (.k (.k (.k (.k .nil))))) (Sr.old hr hs (.k (.k (.k (.k .nil)))) (i := 0) rfl (fun _ h => h) (fun _ h => h) (Sr.nil _ _)) hs74) (fun v w hR a hf => ?_)
                  obtain ⟨rfl, hs'⟩ := hR
                  replace hs := hs.step (.k (.k (.k (.k .nil)))) hs'
                  clear hs'
                  refine stq hf rfl rfl rfl (ex_eql hf rfl rfl) (fun a hf => ?_)
                  refine stq hf rfl rfl rfl (ex_move hf rfl) (fun a hf => ?_)
                  replace hf := hf.castB (t := 70) rfl (dec_t hc75)
                  replace hf := hf.castB (t := 71) rfl (dec_t hc75)
                  refine stq hf rfl rfl rfl (ex_move hf rfl) (fun a hf => ?_)
                  refine stepF hf rfl rfl rfl (ex_call cf_15 hf rfl) (thermal_CheckTrips.calls k x11 v9 (hs.enter (.k (.k (.k (.k .nil))))) (Sr.own hs (.k (.k (.k (.k .nil)))) (i := 0) rfl osl_rsl (fun _ h => h.1) (Sr.nil _ _)) hs76) (fun v w hR a hf => ?_)
                  obtain ⟨rfl, hs'⟩ := hR
                  replace hs := hs.step (.k (.k (.k (.k .nil)))) hs'
                  clear hs'
                  refine stq hf rfl rfl rfl (ex_move hf rfl) (fun a hf => ?_)
                  refine stepF hf rfl rfl rfl (ex_call cf_16 hf rfl) (ref39_CheckTrips.calls k x11 v9 (hs.enter (.k (.k (.k (.k .nil))))) (Sr.own hs (.k (.k (.k (.k .nil)))) (i := 0) rfl osl_rsl (fun _ h => h.1) (Sr.nil _ _)) hs77) (fun v w hR a hf => ?_)
                  obtain ⟨rfl, hs'⟩ := hR
                  replace hs := hs.step (.k (.k (.k (.k .nil)))) hs'
                  clear hs'
                  refine stq hf rfl rfl rfl (ex_eql hf rfl rfl) (fun a hf => ?_)
                  refine stq hf rfl rfl rfl (ex_pickT hf rfl rfl) (fun a hf => ?_)
                  refine stq hf rfl rfl rfl (ex_move hf rfl) (fun a hf => ?_)
                  replace hf := hf.castB (t := 76) rfl (dec_f hc78)
                  replace hf := hf.castB (t := 77) rfl (dec_f hc78)
                  replace hf := hf.castB (t := 78) rfl (dec_f hc78)
                  refine stepN hf rfl rfl rfl (fun a hf => ?_)
                  refine stepN hf rfl rfl rfl (fun a hf => ?_)
                  refine stepN hf rfl rfl rfl (fun a hf => ?_)
                  refine stq hf rfl rfl rfl (ex_pickF hf rfl rfl) (fun a hf => ?_)
                  refine stq hf rfl rfl rfl (ex_move hf rfl) (fun a hf => ?_)
                  refine stepN hf rfl rfl rfl (fun a hf => ?_)
                  refine stepN hf rfl rfl rfl (fun a hf => ?_)
                  refine stepN hf rfl rfl rfl (fun a hf => ?_)
                  refine stq hf rfl rfl rfl (ex_pickF hf rfl rfl) (fun a hf => ?_)
                  refine stq hf rfl rfl rfl (ex_move hf rfl) (fun a hf => ?_)
                  refine stepN hf rfl rfl rfl (fun a hf => ?_)
                  refine stepN hf rfl rfl rfl (fun a hf => ?_)
                  refine stepN hf rfl rfl rfl (fun a hf => ?_)
                  refine stepN hf rfl rfl rfl (fun a hf => ?_)
                  refine stepN hf rfl rfl rfl (fun a hf => ?_)
                  refine stq hf rfl rfl rfl (ex_pickF hf rfl rfl) (fun a hf => ?_)
                  refine stq hf rfl rfl rfl (ex_move hf rfl) (fun a hf => ?_)
                  refine stepN hf rfl rfl rfl (fun a hf => ?_)
                  refine stepN hf rfl rfl rfl (fun a hf => ?_)
                  refine stepN hf rfl rfl rfl (fun a hf => ?_)
                  refine stepN hf rfl rfl rfl (fun a hf => ?_)
                  refine stepN hf rfl rfl rfl (fun a hf => ?_)
                  refine stq hf rfl rfl rfl (ex_pickF hf rfl rfl) (fun a hf => ?_)
                  refine stq hf rfl rfl rfl (ex_move hf rfl) (fun a hf => ?_)
                  refine stepN hf rfl rfl rfl (fun a hf => ?_)
                  refine stq hf rfl rfl rfl (ex_pickF hf rfl rfl) (fun a hf => ?_)
                  refine stq hf rfl rfl rfl (ex_assign hf rfl) (fun a hf => ?_)
                  refine hK89 _ _ ?_
                  refine wp_ret ?_
                  have eR := some_eq H; subst eR
                  replace hs := hs.keep (.d (.d (.d (.d .nil))))
                  exact ret1 Try.results3 hf rfl ⟨_, rfl, ⟨rfl, hs⟩⟩
              · -- not s73 = s74
                refine seq_reg (fun K90 hK90 => ?_)
                refine stq hf rfl rfl rfl (ex_move hf rfl) (fun a hf => ?_)
                refine stepF hf rfl rfl rfl (ex_call cf_15 hf rfl) (thermal_CheckTrips.calls k a0 v0 (hs.enter (.k (.k (.k (.k .nil))))) (Sr.old hr hs (.k (.k (.k (.k .nil)))) (i := 0) rfl (fun _ h => h) (fun _ h => h) (Sr.nil _ _)) hs73) (fun v w hR a hf => ?_)
                obtain ⟨rfl, hs'⟩ := hR
                replace hs := hs.step (.k (.k (.k (.k .nil)))) hs'
                clear hs'
                refine stq hf rfl rfl rfl (ex_move hf rfl) (fun a hf => ?_)
                refine stepF hf rfl rfl rfl (ex_call cf_16 hf rfl) (ref39_CheckTrips.calls k a0 v0 (hs.enter (.k (.k (.k (.k .nil))))) (Sr.old hr hs (.k (.k (.k (.k .nil)))) (i := 0) rfl (fun _ h => h) (fun _ h => h) (Sr.nil _ _)) hs74) (fun v w hR a hf => ?_)
                obtain ⟨rfl, hs'⟩ := hR
                replace hs := hs.step (.k (.k (.k (.k .nil)))) hs'
                clear hs'
                refine stq hf rfl rfl rfl (ex_eql hf rfl rfl) (fun a hf => ?_)
                refine stq hf rfl rfl rfl (ex_move hf rfl) (fun a hf => ?_)
                replace hf := hf.castB (t := 70) rfl (dec_f hc75)
                replace hf := hf.castB (t := 71) rfl (dec_f hc75)
                refine stepN hf rfl rfl rfl (fun a hf => ?_)
                refine stepN hf rfl rfl rfl (fun a hf => ?_)
                refine stepN hf rfl rfl rfl (fun a hf => ?_)
                refine stepN hf rfl rfl rfl (fun a hf => ?_)
                refine stepN hf rfl rfl rfl (fun a hf => ?_)
                refine stq hf rfl rfl rfl (ex_pickF hf rfl rfl) (fun a hf => ?_)
                refine stq hf rfl rfl rfl (ex_move hf rfl) (fun a hf => ?_)
                refine stepN hf rfl rfl rfl (fun a hf => ?_)
                refine stepN hf rfl rfl rfl (fun a hf => ?_)
                refine stepN hf rfl rfl rfl (fun a hf => ?_)
                refine stq hf rfl rfl rfl (ex_pickF hf rfl rfl) (fun a hf => ?_)
                refine stq hf rfl rfl rfl (ex_move hf rfl) (fun a hf => ?_)
                refine stepN hf rfl rfl rfl (fun a hf => ?_)
                refine stepN hf rfl rfl rfl (fun a hf => ?_)
                refine stepN hf rfl rfl rfl (fun a hf => ?_)
                refine stq hf rfl rfl rfl (ex_pickF hf rfl rfl) (fun a hf => ?_)
                refine stq hf rfl rfl rfl (ex_move hf rfl) (fun a hf => ?_)
                refine stepN hf rfl rfl rfl (fun a hf => ?_)
                refine stepN hf rfl rfl rfl (fun a hf => ?_)
                refine stepN hf rfl rfl rfl (fun a hf => ?_)
                refine stepN hf rfl rfl rfl (fun a hf => ?_)
                refine stepN hf rfl rfl rfl (fun a hf => ?_)
                refine stq hf rfl rfl rfl (ex_pickF hf rfl rfl) (fun a hf => ?_)
                refine stq hf rfl rfl rfl (ex_move hf rfl) (fun a hf => ?_)
                refine stepN hf rfl rfl rfl (fun a hf => ?_)
                refine stepN hf rfl rfl rfl (fun a hf => ?_)
                refine stepN hf rfl rfl rfl (fun a hf => ?_)
                refine stepN hf rfl rfl rfl (fun a hf => ?_)
                refine stepN hf rfl rfl rfl (fun a hf => ?_)
                refine stq hf rfl rfl rfl (ex_pickF hf rfl rfl) (fun a hf => ?_)
                refine stq hf rfl rfl rfl (ex_move hf rfl) (fun a hf => ?_)
                refine stepN hf rfl rfl rfl (fun a hf => ?_)
                refine stq hf rfl rfl rfl (ex_pickF hf rfl rfl) (fun a hf => ?_)
                refine stq hf rfl rfl rfl (ex_assign hf rfl) (fun a hf => ?_)
                refine hK90 _ _ ?_
                refine wp_ret ?_
                have eR := some_eq H; subst eR
                replace hs := hs.keep (.d (.d (.d (.d .nil))))
                exact ret1 Try.results3 hf rfl ⟨_, rfl, ⟨rfl, hs⟩⟩
      | some c21 =>
        replace H := elim_s hps20 H
        refine region_k (fun K94 hK94 => ?_)
        refine stq hf rfl rfl rfl (ex_move hf rfl) (fun a hf => ?_)
        refine stq hf rfl rfl rfl (ex_move hf rfl) (fun a hf => ?_)
        refine stepF hf rfl rfl rfl (ex_call cf_13 hf rfl) (thermal_NewZone.calls k a0 a1 v0 (hs.enter (.k .nil)) (Sr.old hr hs (.k .nil) (i := 0) rfl (fun _ h => h) (fun _ h => h) (Sr.nil _ _)) hs20) (fun v w hR a hf => ?_)
        obtain ⟨hc', _⟩ | ⟨cc, hc', b91, v92, v93, rfl, hs'⟩ := hR
        case inl => rw [hps20] at hc'; cases hc'
        obtain rfl : c21 = cc := by rw [hps20] at hc'; exact Option.some.inj hc'
        replace hs := hs.step (.k .nil) hs'
        clear hs'
        refine stq hf rfl rfl rfl (ex_move hf rfl) (fun a hf => ?_)
        refine stq hf rfl rfl rfl (ex_extract hf rfl rfl) (fun a hf => ?_)
        refine stq hf rfl rfl rfl (ex_extract hf rfl rfl) (fun a hf => ?_)
        refine stq hf rfl rfl rfl (ex_assign hf rfl) (fun a hf => ?_)
        refine stq hf rfl rfl rfl (ex_assign hf rfl) (fun a hf => ?_)
        refine hK94 _ _ ?_
        refine hN19 _ _ ?_
        refine bnd H (fun x95 H95 HO95 => ?_)
        clear H
        refine seq_cut (fun a w => Fr a 105 [(0, v0), (1, .int .i64 a1), (9, v9), (10, .pointer (some ⟨b91, 0, none⟩)), (11, .int .i64 s20.2), (13, .int .i64 x95)] ∧ St M w0 w [osl K_api_Trip v9 x11, bx b91 62 [v92, v93, .int .i64 c21.2.2.1, .int .i64 c21.2.2.2], osl K_api_Trip v92 c21.1, osl K_bool v93 c21.2.1]) (fun Q95 hJ95 hR95 hX95 => ?_) (fun a w hJ => ?_)
        · replace H := H95
          refine bnd H (fun s96 hs96 H => ?_)
          cases hps96 : s96.1 with
          | none =>
            replace H := elim_n hps96 H
            refine region_k (fun K98 hK98 => ?_)
            refine stq hf rfl rfl rfl (ex_move hf rfl) (fun a hf => ?_)
            refine stq hf rfl rfl rfl (ex_move hf rfl) (fun a hf => ?_)
            refine stepF hf rfl rfl rfl (ex_call cf_14 hf rfl) (ref39_NewZone.calls k a0 a1 v0 (hs.enter (.k (.k (.k (.k .nil))))) (Sr.old hr hs (.k (.k (.k (.k .nil)))) (i := 0) rfl (fun _ h => h) (fun _ h => h) (Sr.nil _ _)) hs96) (fun v w hR a hf => ?_)
            obtain ⟨_, rfl, hs'⟩ | ⟨_, hc', _⟩ := hR
            case inr => rw [hps96] at hc'; cases hc'
            replace hs := hs.step (.k (.k (.k (.k .nil)))) hs'
            clear hs'
            refine stq hf rfl rfl rfl (ex_move hf rfl) (fun a hf => ?_)
            refine stq hf rfl rfl rfl (ex_extract hf rfl rfl) (fun a hf => ?_)
            refine stq hf rfl rfl rfl (ex_extract hf rfl rfl) (fun a hf => ?_)
            refine stq hf rfl rfl rfl (ex_assign hf rfl) (fun a hf => ?_)
            refine stq hf rfl rfl rfl (ex_assign hf rfl) (fun a hf => ?_)
            refine hK98 _ _ ?_
            replace hs := hs.pick (.k (.k (.c (.k .nil))))
            replace hs := hs.pick (.k (.k (.c (.k .nil))))
            replace hs := hs.pick (.k (.k (.c (.k .nil))))
            replace hs := hs.pick (.k (.k (.k (.c .nil))))
            have e95 := some_eq H; subst e95
            exact hJ95 _ _ ⟨hf.sub ⟨rfl, rfl, rfl, rfl, rfl, rfl, trivial⟩, hs⟩
          | some c97 =>
            replace H := elim_s hps96 H
            refine region_k (fun K101 hK101 => ?_)
            refine stq hf rfl rfl rfl (ex_move hf rfl) (fun a hf => ?_)
            refine stq hf rfl rfl rfl (ex_move hf rfl) (fun a hf => ?_)
            refine stepF hf rfl rfl rfl (ex_call cf_14 hf rfl) (ref39_NewZone.calls k a0 a1 v0 (hs.enter (.k (.k (.k (.k .nil))))) (Sr.old hr hs (.k (.k (.k (.k .nil)))) (i := 0) rfl (fun _ h => h) (fun _ h => h) (Sr.nil _ _)) hs96) (fun v w hR a hf => ?_)
            obtain ⟨hc', _⟩ | ⟨cc, hc', b99, v100, rfl, hs'⟩ := hR
            case inl => rw [hps96] at hc'; cases hc'
            obtain rfl : c97 = cc := by rw [hps96] at hc'; exact Option.some.inj hc'
            replace hs := hs.step (.k (.k (.k (.k .nil)))) hs'
            clear hs'
            refine stq hf rfl rfl rfl (ex_move hf rfl) (fun a hf => ?_)
            refine stq hf rfl rfl rfl (ex_extract hf rfl rfl) (fun a hf => ?_)
            refine stq hf rfl rfl rfl (ex_extract hf rfl rfl) (fun a hf => ?_)
            refine stq hf rfl rfl rfl (ex_assign hf rfl) (fun a hf => ?_)
            refine stq hf rfl rfl rfl (ex_assign hf rfl) (fun a hf => ?_)
            refine hK101 _ _ ?_
            replace hs := hs.keep (.d (.d (.k (.k (.k (.k .nil))))))
            replace hs := hs.pick (.k (.k (.c (.k .nil))))
            replace hs := hs.pick (.k (.k (.c (.k .nil))))
            replace hs := hs.pick (.k (.k (.c (.k .nil))))
            replace hs := hs.pick (.k (.k (.k (.c .nil))))
            have e95 := some_eq H; subst e95
            exact hJ95 _ _ ⟨hf.sub ⟨rfl, rfl, rfl, rfl, rfl, rfl, trivial⟩, hs⟩
        · obtain ⟨hf, hs⟩ := hJ
          replace H := HO95
          clear HO95
          refine seq_n (fun Q102 hN102 hR102 hX102 => ?_)
          refine bnd H (fun s103 hs103 H => ?_)
          refine bnd H (fun s104 hs104 H => ?_)
          cases hps104 : s104.1 with
          | none =>
            replace H := elim_n hps104 H
            refine region_k (fun K106 hK106 => ?_)
            refine stq hf rfl rfl rfl (ex_move hf rfl) (fun a hf => ?_)
            refine stq hf rfl rfl rfl (ex_move hf rfl) (fun a hf => ?_)
            refine stepF hf rfl rfl rfl (ex_call cf_12 hf rfl) (help_Mod.calls k a1 70 (hs.enter (.k (.k (.k (.k .nil))))) (Sr.nil _ _) hs103) (fun v w hR a hf => ?_)
            obtain ⟨rfl, hs'⟩ := hR
            replace hs := hs.step (.k (.k (.k (.k .nil)))) hs'
            clear hs'
            refine stq hf rfl rfl rfl (ex_sub hf rfl rfl) (fun a hf => ?_)
            refine stepF hf rfl rfl rfl (ex_call cf_13 hf rfl) (thermal_NewZone.calls k x11 (IntKind.i64.wrap (s103 - 2)) v9 (hs.enter (.k (.k (.k (.k .nil))))) (Sr.own hs (.k (.k (.k (.k .nil)))) (i := 0) rfl osl_rsl (fun _ h => h.1) (Sr.nil _ _)) hs104) (fun v w hR a hf => ?_)
            obtain ⟨_, rfl, hs'⟩ | ⟨_, hc', _⟩ := hR
            case inr => rw [hps104] at hc'; cases hc'
            replace hs := hs.step (.k (.k (.k (.k .nil)))) hs'
            clear hs'
            refine stq hf rfl rfl rfl (ex_move hf rfl) (fun a hf => ?_)
            refine stq hf rfl rfl rfl (ex_extract hf rfl rfl) (fun a hf => ?_)
            refine stq hf rfl rfl rfl (ex_extract hf rfl rfl) (fun a hf => ?_)
            refine stq hf rfl rfl rfl (ex_assign hf rfl) (fun a hf => ?_)
            refine stq hf rfl rfl rfl (ex_assign hf rfl) (fun a hf => ?_)
            refine hK106 _ _ ?_
            refine hN102 _ _ ?_
            refine bnd H (fun x107 H107 HO107 => ?_)
            clear H
            refine seq_cut (fun a w => Fr a 105 [(0, v0), (9, v9), (10, .pointer (some ⟨b91, 0, none⟩)), (11, .int .i64 s20.2), (13, .int .i64 x95), (14, .pointer none), (15, .int .i64 s104.2), (17, .int .i64 x107)] ∧ St M w0 w [osl K_api_Trip v9 x11, bx b91 62 [v92, v93, .int .i64 c21.2.2.1, .int .i64 c21.2.2.2], osl K_api_Trip v92 c21.1, osl K_bool v93 c21.2.1]) (fun Q107 hJ107 hR107 hX107 => ?_) (fun a w hJ => ?_)
            · replace H := H107
              refine bnd H (fun s108 hs108 H => ?_)
              refine bnd H (fun s109 hs109 H => ?_)
              cases hps109 : s109.1 with
              | none =>
                replace H := elim_n hps109 H
                refine region_k (fun K111 hK111 => ?_)
                refine stq hf rfl rfl rfl (ex_move hf rfl) (fun a hf => ?_)
                refine stq hf rfl rfl rfl (ex_move hf rfl) (fun a hf => ?_)
                refine stepF hf rfl rfl rfl (ex_call cf_12 hf rfl) (help_Mod.calls k a1 70 (hs.enter (.k (.k (.k (.k .nil))))) (Sr.nil _ _) hs108) (fun v w hR a hf => ?_)
                obtain ⟨rfl, hs'⟩ := hR
                replace hs := hs.step (.k (.k (.k (.k .nil)))) hs'
                clear hs'
                refine stq hf rfl rfl rfl (ex_sub hf rfl rfl) (fun a hf => ?_)
                refine stepF hf rfl rfl rfl (ex_call cf_14 hf rfl) (ref39_NewZone.calls k x11 (IntKind.i64.wrap (s108 - 2)) v9 (hs.enter (.k (.k (.k (.k .nil))))) (Sr.own hs (.k (.k (.k (.k .nil)))) (i := 0) rfl osl_rsl (fun _ h => h.1) (Sr.nil _ _)) hs109) (fun v w hR a hf => ?_)
                obtain ⟨_, rfl, hs'⟩ | ⟨_, hc', _⟩ := hR
                case inr => rw [hps109] at hc'; cases hc'
                replace hs := hs.step (.k (.k (.k (.k .nil)))) hs'
                clear hs'
                refine stq hf rfl rfl rfl (ex_move hf rfl) (fun a hf => ?_)
                refine stq hf rfl rfl rfl (ex_extract hf rfl rfl) (fun a hf => ?_)
                refine stq hf rfl rfl rfl (ex_extract hf rfl rfl) (fun a hf => ?_)
                refine stq hf rfl rfl rfl (ex_assign hf rfl) (fun a hf => ?_)
                refine stq hf rfl rfl rfl (ex_assign hf rfl) (fun a hf => ?_)
                refine hK111 _ _ ?_
                have e107 := some_eq H; subst e107
                exact hJ107 _ _ ⟨hf.sub ⟨rfl, rfl, rfl, rfl, rfl, rfl, rfl, rfl, trivial⟩, hs⟩
              | some c110 =>
                replace H := elim_s hps109 H
                refine region_k (fun K114 hK114 => ?_)
                refine stq hf rfl rfl rfl (ex_move hf rfl) (fun a hf => ?_)
                refine stq hf rfl rfl rfl (ex_move hf rfl) (fun a hf => ?_)
                refine stepF hf rfl rfl rfl (ex_call cf_12 hf rfl) (help_Mod.calls k a1 70 (hs.enter (.k (.k (.k (.k .nil))))) (Sr.nil _ _) hs108) (fun v w hR a hf => ?_)
                obtain ⟨rfl, hs'⟩ := hR
                replace hs := hs.step (.k (.k (.k (.k .nil)))) hs'
                clear hs'
                refine stq hf rfl rfl rfl (ex_sub hf rfl rfl) (fun a hf => ?_)
                refine stepF hf rfl rfl rfl (ex_call cf_14 hf rfl) (ref39_NewZone.calls k x11 (IntKind.i64.wrap (s108 - 2)) v9 (hs.enter (.k (.k (.k (.k .nil))))) (Sr.own hs (.k (.k (.k (.k .nil)))) (i := 0) rfl osl_rsl (fun _ h => h.1) (Sr.nil _ _)) hs109) (fun v w hR a hf => ?_)
                obtain ⟨hc', _⟩ | ⟨cc, hc', b112, v113, rfl, hs'⟩ := hR
                case inl => rw [hps109] at hc'; cases hc'
                obtain rfl : c110 = cc := by rw [hps109] at hc'; exact Option.some.inj hc'
                replace hs := hs.step (.k (.k (.k (.k .nil)))) hs'
                clear hs'
                refine stq hf rfl rfl rfl (ex_move hf rfl) (fun a hf => ?_)
                refine stq hf rfl rfl rfl (ex_extract hf rfl rfl) (fun a hf => ?_)
                refine stq hf rfl rfl rfl (ex_extract hf rfl rfl) (fun a hf => ?_)
                refine stq hf rfl rfl rfl (ex_assign hf rfl) (fun a hf => ?_)
                refine stq hf rfl rfl rfl (ex_assign hf rfl) (fun a hf => ?_)
                refine hK114 _ _ ?_
                replace hs := hs.keep (.d (.d (.k (.k (.k (.k .nil))))))
                have e107 := some_eq H; subst e107
                exact hJ107 _ _ ⟨hf.sub ⟨rfl, rfl, rfl, rfl, rfl, rfl, rfl, rfl, trivial⟩, hs⟩
            · obtain ⟨hf, hs⟩ := hJ
              replace H := HO107
              clear HO107
              refine bnd H (fun s115 hs115 H => ?_)
              refine bnd H (fun s116 hs116 H => ?_)
              refine itt H (fun hc117 H => ?_) (fun hc117 H => ?_)
              · -- s115 = s116
                refine bnd H (fun s118 hs118 H => ?_)
                refine bnd H (fun s119 hs119 H => ?_)
                refine itt H (fun hc120 H => ?_) (fun hc120 H => ?_)
                · -- s118 = s119
                  refine itt H (fun hc121 H => ?_) (fun hc121 H => ?_)
                  · -- s20.2 = x95
                    refine itt H (fun hc122 H => ?_) (fun hc122 H => ?_)
                    · -- s104.2 = x107
                      refine itt H (fun hc123 H => ?_) (fun hc123 H => ?_)
                      · -- (false == (!decide (s20.2 = 0))) = true
                        refine itt H (fun hc124 H => ?_) (fun hc124 H => ?_)
                        · -- (true == (!decide (s104.2 = 0))) = true
                          refine bnd H (fun s125 hs125 H => ?_)
                          refine seq_reg (fun K126 hK126 => ?_)
                          refine stq hf rfl rfl rfl (ex_move hf rfl) (fun a hf => ?_)
                          refine stepF hf rfl rfl rfl (ex_call cf_15 hf rfl) (thermal_CheckTrips.calls k a0 v0 (hs.enter (.k (.k (.k (.k .nil))))) (Sr.old hr hs (.k (.k (.k (.k .nil)))) (i := 0) rfl (fun _ h => h) (fun _ h => h) (Sr.nil _ _)) hs115) (fun v w hR a hf => ?_)
                          obtain ⟨rfl, hs'⟩ := hR
                          replace hs := hs.step (.k (.k (.k (.k .nil)))) hs'
                          clear hs'
                          refine stq hf rfl rfl rfl (ex_move hf rfl) (fun a hf => ?_)
                          refine stepF hf rfl rfl rfl (ex_call cf_16 hf rfl) (ref39_CheckTrips.calls k a0 v0 (hs.enter (.k (.k (.k (.k .nil))))) (Sr.old hr hs (.k (.k (.k (.k .nil)))) (i := 0) rfl (fun _ h => h) (fun _ h => h) (Sr.nil _ _)) hs116) (fun v w hR a hf => ?_)
                          obtain ⟨rfl, hs'⟩ := hR
                          replace hs := hs.step (.k (.k (.k (.k .nil)))) hs'
                          clear hs'
                          refine stq hf rfl rfl rfl (ex_eql hf rfl rfl) (fun a hf => ?_)
                          refine stq hf rfl rfl rfl (ex_move hf rfl) (fun a hf => ?_)
                          replace hf := hf.castB (t := 70) rfl (dec_t hc117)
                          replace hf := hf.castB (t := 71) rfl (dec_t hc117)
                          refine stq hf rfl rfl rfl (ex_move hf rfl) (fun a hf => ?_)
                          refine stepF hf rfl rfl rfl (ex_call cf_15 hf rfl) (thermal_CheckTrips.calls k x11 v9 (hs.enter (.k (.k (.k (.k .nil))))) (Sr.own hs (.k (.k (.k (.k .nil)))) (i := 0) rfl osl_rsl (fun _ h => h.1) (Sr.nil _ _)) hs118) (fun v w hR a hf => ?_)
                          obtain ⟨rfl, hs'⟩ := hR
                          replace hs := hs.step (.k (.k (.k (.k .nil)))) hs'
                          clear hs'
                          refine stq hf rfl rfl rfl (ex_move hf rfl) (fun a hf => ?_)
                          refine stepF hf rfl rfl rfl (ex_call cf_16 hf rfl) (ref39_CheckTrips.calls k x11 v9 (hs.enter (.k (.k (.k (.k .nil))))) (Sr.own hs (.k (.k (.k (.k .nil)))) (i := 0) rfl osl_rsl (fun _ h => h.1) (Sr.nil _ _)) hs119) (fun v w hR a hf => ?_)
                          obtain ⟨rfl, hs'⟩ := hR
                          replace hs := hs.step (.k (.k (.k (.k .nil)))) hs'
                          clear hs'
                          refine stq hf rfl rfl rfl (ex_eql hf rfl rfl) (fun a hf => ?_)
                          refine stq hf rfl rfl rfl (ex_pickT hf rfl rfl) (fun a hf => ?_)
                          refine stq hf rfl rfl rfl (ex_move hf rfl) (fun a hf => ?_)
                          replace hf := hf.castB (t := 76) rfl (dec_t hc120)
                          replace hf := hf.castB (t := 77) rfl (dec_t hc120)
                          replace hf := hf.castB (t := 78) rfl (dec_t hc120)
                          refine stq hf rfl rfl rfl (ex_move hf rfl) (fun a hf => ?_)
                          refine stq hf rfl rfl rfl (ex_move hf rfl) (fun a hf => ?_)
                          refine stq hf rfl rfl rfl (ex_eql hf rfl rfl) (fun a hf => ?_)
                          refine stq hf rfl rfl rfl (ex_pickT hf rfl rfl) (fun a hf => ?_)
                          refine stq hf rfl rfl rfl (ex_move hf rfl) (fun a hf => ?_)
                          replace hf := hf.castB (t := 81) rfl (dec_t hc121)
                          replace hf := hf.castB (t := 82) rfl (dec_t hc121)
                          replace hf := hf.castB (t := 83) rfl (dec_t hc121)
                          refine stq hf rfl rfl rfl (ex_move hf rfl) (fun a hf => ?_)
                          refine stq hf rfl rfl rfl (ex_move hf rfl) (fun a hf => ?_)
                          refine stq hf rfl rfl rfl (ex_eql hf rfl rfl) (fun a hf => ?_)
                          refine stq hf rfl rfl rfl (ex_pickT hf rfl rfl) (fun a hf => ?_)
                          refine stq hf rfl rfl rfl (ex_move hf rfl) (fun a hf => ?_)
                          replace hf := hf.castB (t := 86) rfl (dec_t hc122)
                          replace hf := hf.castB (t := 87) rfl (dec_t hc122)
                          replace hf := hf.castB (t := 88) rfl (dec_t hc122)
                          refine stq hf rfl rfl rfl (ex_move hf rfl) (fun a hf => ?_)
                          refine stq hf rfl rfl rfl (ex_eqp Try.underlying28 hf rfl rfl) (fun a hf => ?_)
                          refine stq hf rfl rfl rfl (ex_move hf rfl) (fun a hf => ?_)
                          refine stq hf rfl rfl rfl (ex_neq hf rfl rfl) (fun a hf => ?_)
                          refine stq hf rfl rfl rfl (ex_eqb Try.underlying4 hf rfl rfl) (fun a hf => ?_)
                          refine stq hf rfl rfl rfl (ex_pickT hf rfl rfl) (fun a hf => ?_)
                          refine stq hf rfl rfl rfl (ex_move hf rfl) (fun a hf => ?_)
                          replace hf := hf.castB (t := 93) rfl hc123
                          replace hf := hf.castB (t := 94) rfl hc123
                          replace hf := hf.castB (t := 95) rfl hc123
                          refine stq hf rfl rfl rfl (ex_move hf rfl) (fun a hf => ?_)
                          refine stq hf rfl rfl rfl (ex_eqp Try.underlying28 hf rfl rfl) (fun a hf => ?_)
                          refine stq hf rfl rfl rfl (ex_move hf rfl) (fun a hf => ?_)
                          refine stq hf rfl rfl rfl (ex_neq hf rfl rfl) (fun a hf => ?_)
                          refine stq hf rfl rfl rfl (ex_eqb Try.underlying4 hf rfl rfl) (fun a hf => ?_)
                          refine stq hf rfl rfl rfl (ex_pickT hf rfl rfl) (fun a hf => ?_)
                          refine stq hf rfl rfl rfl (ex_move hf rfl) (fun a hf => ?_)
                          replace hf := hf.castB (t := 100) rfl hc124
                          replace hf := hf.castB (t := 101) rfl hc124
                          replace hf := hf.castB (t := 102) rfl hc124
                          refine stepF hf rfl rfl rfl (ex_call cf_10 hf rfl) (law39_awake.calls k (hs.enter (.k (.k (.k (.k .nil))))) (Sr.nil _ _) hs125) (fun v w hR a hf => ?_)
                          obtain ⟨rfl, hs'⟩ := hR
                          replace hs := hs.step (.k (.k (.k (.k .nil)))) hs'
                          clear hs'
                          refine stq hf rfl rfl rfl (ex_pickT hf rfl rfl) (fun a hf => ?_)
                          refine stq hf rfl rfl rfl (ex_assign hf rfl) (fun a hf => ?_)
                          refine hK126 _ _ ?_
                          refine wp_ret ?_
                          have eR := some_eq H; subst eR
                          replace hs := hs.keep (.d (.d (.d (.d .nil))))
                          exact ret1 Try.results3 hf rfl ⟨_, rfl, ⟨rfl, hs⟩⟩
                        · -- not (true == (!decide (s104.2 = 0))) = true
                          refine seq_reg (fun K127 hK127 => ?_)
                          refine stq hf rfl rfl rfl (ex_move hf rfl) (fun a hf => ?_)
                          refine stepF hf rfl rfl rfl (ex_call cf_15 hf rfl) (thermal_CheckTrips.calls k a0 v0 (hs.enter (.k (.k (.k (.k .nil))))) (Sr.old hr hs (.k (.k (.k (.k .nil)))) (i := 0) rfl (fun _ h => h) (fun _ h => h) (Sr.nil _ _)) hs115) (fun v w hR a hf => ?_)
                          obtain ⟨rfl, hs'⟩ := hR
                          replace hs := hs.step (.k (.k (.k (.k .nil)))) hs'
                          clear hs'
                          refine stq hf rfl rfl rfl (ex_move hf rfl) (fun a hf => ?_)
                          refine stepF hf rfl rfl rfl (ex_call cf_16 hf rfl) (ref39_CheckTrips.calls k a0 v0 (hs.enter (.k (.k (.k (.k .nil))))) (Sr.old hr hs (.k (.k (.k (.k .nil)))) (i := 0) rfl (fun _ h => h) (fun _ h => h) (Sr.nil _ _)) hs116) (fun v w hR a hf => ?_)
                          obtain ⟨rfl, hs'⟩ := hR
                          replace hs := hs.step (.k (.k (.k (.k .nil)))) hs'
                          clear hs'
                          refine stq hf rfl rfl rfl (ex_eql hf rfl rfl) (fun a hf => ?_)
                          refine stq hf rfl rfl rfl (ex_move hf rfl) (fun a hf => ?_)
                          replace hf := hf.castB (t := 70) rfl (dec_t hc117)
                          replace hf := hf.castB (t := 71) rfl (dec_t hc117)
                          refine stq hf rfl rfl rfl (ex_move hf rfl) (fun a hf => ?_)
                          refine stepF hf rfl rfl rfl (ex_call cf_15 hf rfl) (thermal_CheckTrips.calls k x11 v9 (hs.enter (.k (.k (.k (.k .nil))))) (Sr.own hs (.k (.k (.k (.k .nil)))) (i := 0) rfl osl_rsl (fun _ h => h.1) (Sr.nil _ _)) hs118) (fun v w hR a hf => ?_)
                          obtain ⟨rfl, hs'⟩ := hR
                          replace hs := hs.step (.k (.k (.k (.k .nil)))) hs'
                          clear hs'
                          refine stq hf rfl rfl rfl (ex_move hf rfl) (fun a hf => ?_)
                          refine stepF hf rfl rfl rfl (ex_call cf_16 hf rfl) (ref39_CheckTrips.calls k x11 v9 (hs.enter (.k (.k (.k (.k .nil))))) (Sr.own hs (.k (.k (.k (.k .nil)))) (i := 0) rfl osl_rsl (fun _ h => h.1) (Sr.nil _ _)) hs119) (fun v w hR a hf => ?_)
                          obtain ⟨rfl, hs'⟩ := hR
                          replace hs := hs.step (.k (.k (.k (.k .nil)))) hs'
                          clear hs'
                          refine stq hf rfl rfl rfl (ex_eql hf rfl rfl) (fun a hf => ?_)
                          refine stq hf rfl rfl rfl (ex_pickT hf rfl rfl) (fun a hf => ?_)
                          refine stq hf rfl rfl rfl (ex_move hf rfl) (fun a hf => ?_)
                          replace hf := hf.castB (t := 76) rfl (dec_t hc120)
                          replace hf := hf.castB (t := 77) rfl (dec_t hc120)
                          replace hf := hf.castB (t := 78) rfl (dec_t hc120)
                          refine stq hf rfl rfl rfl (ex_move hf rfl) (fun a hf => ?_)
                          refine stq hf rfl rfl rfl (ex_move hf rfl) (fun a hf => ?_)
                          refine stq hf rfl rfl rfl (ex_eql hf rfl rfl) (fun a hf => ?_)
                          refine stq hf rfl rfl rfl (ex_pickT hf rfl rfl) (fun a hf => ?_)
                          refine stq hf rfl rfl rfl (ex_move hf rfl) (fun a hf => ?_)
                          replace hf := hf.castB (t := 81) rfl (dec_t hc121)
                          replace hf := hf.castB (t := 82) rfl (dec_t hc121)
                          replace hf := hf.castB (t := 83) rfl (dec_t hc121)
                          refine stq hf rfl rfl rfl (ex_move hf rfl) (fun a hf => ?_)
                          refine stq hf rfl rfl rfl (ex_move hf rfl) (fun a hf => ?_)
                          refine stq hf rfl rfl rfl (ex_eql hf rfl rfl) (fun a hf => ?_)
                          refine stq hf rfl rfl rfl (ex_pickT hf rfl rfl) (fun a hf => ?_)
                          refine stq hf rfl rfl rfl (ex_move hf rfl) (fun a hf => ?_)
                          replace hf := hf.castB (t := 86) rfl (dec_t hc122)
                          replace hf := hf.castB (t := 87) rfl (dec_t hc122)
                          replace hf := hf.castB (t := 88) rfl (dec_t hc122)
                          refine stq hf rfl rfl rfl (ex_move hf rfl) (fun a hf => ?_)
                          refine stq hf rfl rfl rfl (ex_eqp Try.underlying28 hf rfl rfl) (fun a hf => ?_)
                          refine stq hf rfl rfl rfl (ex_move hf rfl) (fun a hf => ?_)
                          refine stq hf rfl rfl rfl (ex_neq hf rfl rfl) (fun a hf => ?_)
                          refine stq hf rfl rfl rfl (ex_eqb Try.underlying4 hf rfl rfl) (fun a hf => ?_)
                          refine stq hf rfl rfl rfl (ex_pickT hf rfl rfl) (fun a hf => ?_)
                          refine stq hf rfl rfl rfl (ex_move hf rfl) (fun a hf => ?_)
                          replace hf := hf.castB (t := 93) rfl hc123
                          replace hf := hf.castB (t := 94) rfl hc123
                          replace hf := hf.castB (t := 95) rfl hc123
                          refine stq hf rfl rfl rfl (ex_move hf rfl) (fun a hf => ?_)
                          refine stq hf rfl rfl rfl (ex_eqp Try.underlying28 hf rfl rfl) (fun a hf => ?_)
                          refine stq hf rfl rfl rfl (ex_move hf rfl) (fun a hf => ?_)
                          refine stq hf rfl rfl rfl (ex_neq hf rfl rfl) (fun a hf => ?_)
                          refine stq hf rfl rfl rfl (ex_eqb Try.underlying4 hf rfl rfl) (fun a hf => ?_)
                          refine stq hf rfl rfl rfl (ex_pickT hf rfl rfl) (fun a hf => ?_)
                          refine stq hf rfl rfl rfl (ex_move hf rfl) (fun a hf => ?_)
                          replace hf := hf.castB (t := 100) rfl (bool_f hc124)
                          replace hf := hf.castB (t := 101) rfl (bool_f hc124)
                          replace hf := hf.castB (t := 102) rfl (bool_f hc124)
                          refine stepN hf rfl rfl rfl (fun a hf => ?_)
                          refine stq hf rfl rfl rfl (ex_pickF hf rfl rfl) (fun a hf => ?_)
                          refine stq hf rfl rfl rfl (ex_assign hf rfl) (fun a hf => ?_)
                          refine hK127 _ _ ?_
                          refine wp_ret ?_
                          have eR := some_eq H; subst eR
                          replace hs := hs.keep (.d (.d (.d (.d .nil))))
                          exact ret1 Try.results3 hf rfl ⟨_, rfl, ⟨rfl, hs⟩⟩
                      · -- not (false == (!decide (s20.2 = 0))) = true
                        refine seq_reg (fun K128 hK128 => ?_)
                        refine stq hf rfl rfl rfl (ex_move hf rfl) (fun a hf => ?_)
                        refine stepF hf rfl rfl rfl (ex_call cf_15 hf rfl) (thermal_CheckTrips.calls k a0 v0 (hs.enter (.k (.k (.k (.k .nil))))) (Sr.old hr hs (.k (.k (.k (.k .nil)))) (i := 0) rfl (fun _ h => h) (fun _ h => h) (Sr.nil _ _)) hs115) (fun v w hR a hf => ?_)
                        obtain ⟨rfl, hs'⟩ := hR
                        replace hs := hs.step (.k (.k (.k (.k .nil)))) hs'
                        clear hs'
                        refine stq hf rfl rfl rfl (ex_move hf rfl) (fun a hf => ?_)
                        refine stepF hf rfl rfl rfl (ex_call cf_16 hf rfl) (ref39_CheckTrips.calls k a0 v0 (hs.enter (.k (.k (.k (.k .nil))))) (Sr.old hr hs (.k (.k (.k (.k .nil)))) (i := 0) rfl (fun _ h => h) (fun _ h => h) (Sr.nil _ _)) hs116) (fun v w hR a hf => ?_)
                        obtain ⟨rfl, hs'⟩ := hR
                        replace hs := hs.step (.k (.k (.k (.k .nil)))) hs'
                        clear hs'
                        refine stq hf rfl rfl rfl (ex_eql hf rfl rfl) (fun a hf => ?_)
                        refine stq hf rfl rfl rfl (ex_move hf rfl) (fun a hf => ?_)
                        replace hf := hf.castB (t := 70) rfl (dec_t hc117)
                        replace hf := hf.castB (t := 71) rfl (dec_t hc117)
                        refine stq hf rfl rfl rfl (ex_move hf rfl) (fun a hf => ?_)
                        refine stepF hf rfl rfl rfl (ex_call cf_15 hf rfl) (thermal_CheckTrips.calls k x11 v9 (hs.enter (.k (.k (.k (.k .nil))))) (Sr.own hs (.k (.k (.k (.k .nil)))) (i := 0) rfl osl_rsl (fun _ h => h.1) (Sr.nil _ _)) hs118) (fun v w hR a hf => ?_)
                        obtain ⟨rfl, hs'⟩ := hR
                        replace hs := hs.step (.k (.k (.k (.k .nil)))) hs'
                        clear hs'
                        refine stq hf rfl rfl rfl (ex_move hf rfl) (fun a hf => ?_)
                        refine stepF hf rfl rfl rfl (ex_call cf_16 hf rfl) (ref39_CheckTrips.calls k x11 v9 (hs.enter (.k (.k (.k (.k .nil))))) (Sr.own hs (.k (.k (.k (.k .nil)))) (i := 0) rfl osl_rsl (fun _ h => h.1) (Sr.nil _ _)) hs119) (fun v w hR a hf => ?_)
                        obtain ⟨rfl, hs'⟩ := hR
                        replace hs := hs.step (.k (.k (.k (.k .nil)))) hs'
                        clear hs'
                        refine stq hf rfl rfl rfl (ex_eql hf rfl rfl) (fun a hf => ?_)
                        refine stq hf rfl rfl rfl (ex_pickT hf rfl rfl) (fun a hf => ?_)
                        refine stq hf rfl rfl rfl (ex_move hf rfl) (fun a hf => ?_)
                        replace hf := hf.castB (t := 76) rfl (dec_t hc120)
                        replace hf := hf.castB (t := 77) rfl (dec_t hc120)
                        replace hf := hf.castB (t := 78) rfl (dec_t hc120)
                        refine stq hf rfl rfl rfl (ex_move hf rfl) (fun a hf => ?_)
                        refine stq hf rfl rfl rfl (ex_move hf rfl) (fun a hf => ?_)
                        refine stq hf rfl rfl rfl (ex_eql hf rfl rfl) (fun a hf => ?_)
                        refine stq hf rfl rfl rfl (ex_pickT hf rfl rfl) (fun a hf => ?_)
                        refine stq hf rfl rfl rfl (ex_move hf rfl) (fun a hf => ?_)
                        replace hf := hf.castB (t := 81) rfl (dec_t hc121)
                        replace hf := hf.castB (t := 82) rfl (dec_t hc121)
                        replace hf := hf.castB (t := 83) rfl (dec_t hc121)
                        refine stq hf rfl rfl rfl (ex_move hf rfl) (fun a hf => ?_)
                        refine stq hf rfl rfl rfl (ex_move hf rfl) (fun a hf => ?_)
                        refine stq hf rfl rfl rfl (ex_eql hf rfl rfl) (fun a hf => ?_)
                        refine stq hf rfl rfl rfl (ex_pickT hf rfl rfl) (fun a hf => ?_)
                        refine stq hf rfl rfl rfl (ex_move hf rfl) (fun a hf => ?_)
                        replace hf := hf.castB (t := 86) rfl (dec_t hc122)
                        replace hf := hf.castB (t := 87) rfl (dec_t hc122)
                        replace hf := hf.castB (t := 88) rfl (dec_t hc122)
                        refine stq hf rfl rfl rfl (ex_move hf rfl) (fun a hf => ?_)
                        refine stq hf rfl rfl rfl (ex_eqp Try.underlying28 hf rfl rfl) (fun a hf => ?_)
                        refine stq hf rfl rfl rfl (ex_move hf rfl) (fun a hf => ?_)
                        refine stq hf rfl rfl rfl (ex_neq hf rfl rfl) (fun a hf => ?_)
                        refine stq hf rfl rfl rfl (ex_eqb Try.underlying4 hf rfl rfl) (fun a hf => ?_)
                        refine stq hf rfl rfl rfl (ex_pickT hf rfl rfl) (fun a hf => ?_)
                        refine stq hf rfl rfl rfl (ex_move hf rfl) (fun a hf => ?_)
                        replace hf := hf.castB (t := 93) rfl (bool_f hc123)
                        replace hf := hf.castB (t := 94) rfl (bool_f hc123)
                        replace hf := hf.castB (t := 95) rfl (bool_f hc123)
                        refine stepN hf rfl rfl rfl (fun a hf => ?_)
                        refine stepN hf rfl rfl rfl (fun a hf => ?_)
                        refine stepN hf rfl rfl rfl (fun a hf => ?_)
                        refine stepN hf rfl rfl rfl (fun a hf => ?_)
                        refine stepN hf rfl rfl rfl (fun a hf => ?_)
                        refine stq hf rfl rfl rfl (ex_pickF hf rfl rfl) (fun a hf => ?_)
                        refine stq hf rfl rfl rfl (ex_move hf rfl) (fun a hf => ?_)
                        refine stepN hf rfl rfl rfl (fun a hf => ?_)
                        refine stq hf rfl rfl rfl (ex_pickF hf rfl rfl) (fun a hf => ?_)
                        refine stq hf rfl rfl rfl (ex_assign hf rfl) (fun a hf => ?_)
                        refine hK128 _ _ ?_
                        refine wp_ret ?_
                        have eR := some_eq H; subst eR
                        replace hs := hs.keep (.d (.d (.d (.d .nil))))
                        exact ret1 Try.results3 hf rfl ⟨_, rfl, ⟨rfl, hs⟩⟩
                    · -- not s104.2 = x107
                      refine seq_reg (fun K129 hK129 => ?_)
                      refine stq hf rfl rfl rfl (ex_move hf rfl) (fun a hf => ?_)
                      refine stepF hf rfl rfl rfl (ex_call cf_15 hf rfl) (thermal_CheckTrips.calls k a0 v0 (hs.enter (.k (.k (.k (.k .nil))))) (Sr.old hr hs (.k (.k (.k (.k .nil)))) (i := 0) rfl (fun _ h => h) (fun _ h => h) (Sr.nil _ _)) hs115) (fun v w hR a hf => ?_)
                      obtain ⟨rfl, hs'⟩ := hR
                      replace hs := hs.step (.k (.k (.k (.k .nil)))) hs'
                      clear hs'
                      refine stq hf rfl rfl rfl (ex_move hf rfl) (fun a hf => ?_)
                      refine stepF hf rfl rfl rfl (ex_call cf_16 hf rfl) (ref39_CheckTrips.calls k a0 v0 (hs.enter (.k (.k (.k (.k .nil))))) (Sr.old hr hs (.k (.k (.k (.k .nil)))) (i := 0) rfl (fun _ h => h) (fun _ h => h) (Sr.nil _ _)) hs116) (fun v w hR a hf => ?_)
                      obtain ⟨rfl, hs'⟩ := hR
                      replace hs := hs.step (.k (.k (.k (.k .nil)))) hs'
                      clear hs'
                      refine stq hf rfl rfl rfl (ex_eql hf rfl rfl) (fun a hf => ?_)
                      refine stq hf rfl rfl rfl (ex_move hf rfl) (fun a hf => ?_)
                      replace hf := hf.castB (t := 70) rfl (dec_t hc117)
                      replace hf := hf.castB (t := 71) rfl (dec_t hc117)
                      refine stq hf rfl rfl rfl (ex_move hf rfl) (fun a hf => ?_)
                      refine stepF hf rfl rfl rfl (ex_call cf_15 hf rfl) (thermal_CheckTrips.calls k x11 v9 (hs.enter (.k (.k (.k (.k .nil))))) (Sr.own hs (.k (.k (.k (.k .nil)))) (i := 0) rfl osl_rsl (fun _ h => h.1) (Sr.nil _ _)) hs118) (fun v w hR a hf => ?_)
                      obtain ⟨rfl, hs'⟩ := hR
                      replace hs := hs.step (.k (.k (.k (.k .nil)))) hs'
                      clear hs'
                      refine stq hf rfl rfl rfl (ex_move hf rfl) (fun a hf => ?_)
                      refine stepF hf rfl rfl rfl (ex_call cf_16 hf rfl) (ref39_CheckTrips.calls k x11 v9 (hs.enter (.k (.k (.k (.k .nil))))) (Sr.own hs (.k (.k (.k (.k .nil)))) (i := 0) rfl osl_rsl (fun _ h => h.1) (Sr.nil _ _)) hs119) (fun v w hR a hf => ?_)
                      obtain ⟨rfl, hs'⟩ := hR
                      replace hs := hs.step (.k (.k (.k (.k .nil)))) hs'
                      clear hs'
                      refine stq hf rfl rfl rfl (ex_eql hf rfl rfl) (fun a hf => ?_)
                      refine stq hf rfl rfl rfl (ex_pickT hf rfl rfl) (fun a hf => ?_)
                      refine stq hf rfl rfl rfl (ex_move hf rfl) (fun a hf => ?_)
                      replace hf := hf.castB (t := 76) rfl (dec_t hc120)
                      replace hf := hf.castB (t := 77) rfl (dec_t hc120)
                      replace hf := hf.castB (t := 78) rfl (dec_t hc120)
                      refine stq hf rfl rfl rfl (ex_move hf rfl) (fun a hf => ?_)
                      refine stq hf rfl rfl rfl (ex_move hf rfl) (fun a hf => ?_)
                      refine stq hf rfl rfl rfl (ex_eql hf rfl rfl) (fun a hf => ?_)
                      refine stq hf rfl rfl rfl (ex_pickT hf rfl rfl) (fun a hf => ?_)
                      refine stq hf rfl rfl rfl (ex_move hf rfl) (fun a hf => ?_)
                      replace hf := hf.castB (t := 81) rfl (dec_t hc121)
                      replace hf := hf.castB (t := 82) rfl (dec_t hc121)
                      replace hf := hf.castB (t := 83) rfl (dec_t hc121)
                      refine stq hf rfl rfl rfl (ex_move hf rfl) (fun a hf => ?_)
                      refine stq hf rfl rfl rfl (ex_move hf rfl) (fun a hf => ?_)
                      refine stq hf rfl rfl rfl (ex_eql hf rfl rfl) (fun a hf => ?_)
                      refine stq hf rfl rfl rfl (ex_pickT hf rfl rfl) (fun a hf => ?_)
                      refine stq hf rfl rfl rfl (ex_move hf rfl) (fun a hf => ?_)
                      replace hf := hf.castB (t := 86) rfl (dec_f hc122)
                      replace hf := hf.castB (t := 87) rfl (dec_f hc122)
                      replace hf := hf.castB (t := 88) rfl (dec_f hc122)
                      refine stepN hf rfl rfl rfl (fun a hf => ?_)
                      refine stepN hf rfl rfl rfl (fun a hf => ?_)
                      refine stepN hf rfl rfl rfl (fun a hf => ?_)
                      refine stepN hf rfl rfl rfl (fun a hf => ?_)
                      refine stepN hf rfl rfl rfl (fun a hf => ?_)
                      refine stq hf rfl rfl rfl (ex_pickF hf rfl rfl) (fun a hf => ?_)
                      refine stq hf rfl rfl rfl (ex_move hf rfl) (fun a hf => ?_)
                      refine stepN hf rfl rfl rfl (fun a hf => ?_)
                      refine stepN hf rfl rfl rfl (fun a hf => ?_)
                      refine stepN hf rfl rfl rfl (fun a hf => ?_)
                      refine stepN hf rfl rfl rfl (fun a hf => ?_)
                      refine stepN hf rfl rfl rfl (fun a hf => ?_)
                      refine stq hf rfl rfl rfl (ex_pickF hf rfl rfl) (fun a hf => ?_)
                      refine stq hf rfl rfl rfl (ex_move hf rfl) (fun a hf => ?_)
                      refine stepN hf rfl rfl rfl (fun a hf => ?_)
                      refine stq hf rfl rfl rfl (ex_pickF hf rfl rfl) (fun a hf => ?_)
                      refine stq hf rfl rfl rfl (ex_assign hf rfl) (fun a hf => ?_)
                      refine hK129 _ _ ?_
                      refine wp_ret ?_
                      have eR := some_eq H; subst eR
                      replace hs := hs.keep (.d (.d (.d (.d .nil))))
                      exact ret1 Try.results3 hf rfl ⟨_, rfl, ⟨rfl, hs⟩⟩
                  · -- not s20.2 = x95
                    refine seq_reg (fun K130 hK130 => ?_)
                    refine stq hf rfl rfl rfl (ex_move hf rfl) (fun a hf => ?_)
                    refine stepF hf rfl rfl rfl (ex_call cf_15 hf rfl) (thermal_CheckTrips.calls k a0 v0 (hs.enter (.k (.k (.k (.k .nil))))) (Sr.old hr hs (.k (.k (.k (.k .nil)))) (i := 0) rfl (fun _ h => h) (fun _ h => h) (Sr.nil _ _)) hs115) (fun v w hR a hf => ?_)
                    obtain ⟨rfl, hs'⟩ := hR
                    replace hs := hs.step (.k (.k (.k (.k .nil)))) hs'
                    clear hs'
                    refine stq hf rfl rfl rfl (ex_move hf rfl) (fun a hf => ?_)
                    refine stepF hf rfl rfl rfl (ex_call cf_16 hf rfl) (ref39_CheckTrips.calls k a0 v0 (hs.enter (.k (.k (.k (.k .nil))))) (Sr.old hr hs (.k (.k (.k (.k .nil)))) (i := 0) rfl (fun _ h => h) (fun _ h => h) (Sr.nil _ _)) hs116) (fun v w hR a hf => ?_)
                    obtain ⟨rfl, hs'⟩ := hR
                    replace hs := hs.step (.k (.k (.k (.k .nil)))) hs'
                    clear hs'
                    refine stq hf rfl rfl rfl (ex_eql hf rfl rfl) (fun a hf => ?_)
                    refine stq hf rfl rfl rfl (ex_move hf rfl) (fun a hf => ?_)
                    replace hf := hf.castB (t := 70) rfl (dec_t hc117)
                    replace hf := hf.castB (t := 71) rfl (dec_t hc117)
                    refine stq hf rfl rfl rfl (ex_move hf rfl) (fun a hf => ?_)
                    refine stepF hf rfl rfl rfl (ex_call cf_15 hf rfl) (thermal_CheckTrips.calls k x11 v9 (hs.enter (.k (.k (.k (.k .nil))))) (Sr.own hs (.k (.k (.k (.k .nil)))) (i := 0) rfl osl_rsl (fun _ h => h.1) (Sr.nil _ _)) hs118) (fun v w hR a hf => ?_)
                    obtain ⟨rfl, hs'⟩ := hR
                    replace hs := hs.step (.k (.k (.k (.k .nil)))) hs'
                    clear hs'
                    refine stq hf rfl rfl rfl (ex_move hf rfl) (fun a hf => ?_)
                    refine stepF hf rfl rfl rfl (ex_call cf_16 hf rfl) (ref39_CheckTrips.calls k x11 v9 (hs.enter (.k (.k (.k (.k .nil))))) (Sr.own hs (.k (.k (.k (.k .nil)))) (i := 0) rfl osl_rsl (fun _ h => h.1) (Sr.nil _ _)) hs119) (fun v w hR a hf => ?_)
                    obtain ⟨rfl, hs'⟩ := hR
                    replace hs := hs.step (.k (.k (.k (.k .nil)))) hs'
                    clear hs'
                    refine stq hf rfl rfl rfl (ex_eql hf rfl rfl) (fun a hf => ?_)
                    refine stq hf rfl rfl rfl (ex_pickT hf rfl rfl) (fun a hf => ?_)
                    refine stq hf rfl rfl rfl (ex_move hf rfl) (fun a hf => ?_)
                    replace hf := hf.castB (t := 76) rfl (dec_t hc120)
                    replace hf := hf.castB (t := 77) rfl (dec_t hc120)
                    replace hf := hf.castB (t := 78) rfl (dec_t hc120)
                    refine stq hf rfl rfl rfl (ex_move hf rfl) (fun a hf => ?_)
                    refine stq hf rfl rfl rfl (ex_move hf rfl) (fun a hf => ?_)
                    refine stq hf rfl rfl rfl (ex_eql hf rfl rfl) (fun a hf => ?_)
                    refine stq hf rfl rfl rfl (ex_pickT hf rfl rfl) (fun a hf => ?_)
                    refine stq hf rfl rfl rfl (ex_move hf rfl) (fun a hf => ?_)
                    replace hf := hf.castB (t := 81) rfl (dec_f hc121)
                    replace hf := hf.castB (t := 82) rfl (dec_f hc121)
                    replace hf := hf.castB (t := 83) rfl (dec_f hc121)
                    refine stepN hf rfl rfl rfl (fun a hf => ?_)
                    refine stepN hf rfl rfl rfl (fun a hf => ?_)
                    refine stepN hf rfl rfl rfl (fun a hf => ?_)
                    refine stq hf rfl rfl rfl (ex_pickF hf rfl rfl) (fun a hf => ?_)
                    refine stq hf rfl rfl rfl (ex_move hf rfl) (fun a hf => ?_)
                    refine stepN hf rfl rfl rfl (fun a hf => ?_)
                    refine stepN hf rfl rfl rfl (fun a hf => ?_)
                    refine stepN hf rfl rfl rfl (fun a hf => ?_)
                    refine stepN hf rfl rfl rfl (fun a hf => ?_)
                    refine stepN hf rfl rfl rfl (fun a hf => ?_)
                    refine stq hf rfl rfl rfl (ex_pickF hf rfl rfl) (fun a hf => ?_)
                    refine stq hf rfl rfl rfl (ex_move hf rfl) (fun a hf => ?_)
                    refine stepN hf rfl rfl rfl (fun a hf => ?_)
                    refine stepN hf rfl rfl rfl (fun a hf => ?_)
                    refine stepN hf rfl rfl rfl (fun a hf => ?_)
                    refine stepN hf rfl rfl rfl (fun a hf => ?_)
                    refine stepN hf rfl rfl rfl (fun a hf => ?_)
                    refine stq hf rfl rfl rfl (ex_pickF hf rfl rfl) (fun a hf => ?_)
                    refine stq hf rfl rfl rfl (ex_move hf rfl) (fun a hf => ?_)
                    refine stepN hf rfl rfl rfl (fun a hf => ?_)
                    refine stq hf rfl rfl rfl (ex_pickF hf rfl rfl) (fun a hf => ?_)
                    refine stq hf rfl rfl rfl (ex_assign hf rfl) (fun a hf => ?_)
                    refine hK130 _ _ ?_
                    refine wp_ret ?_
                    have eR := some_eq H; subst eR
                    replace hs := hs.keep (.d (.d (.d (.d .nil))))
                    exact ret1 Try.results3 hf rfl ⟨_, rfl, ⟨rfl, hs⟩⟩
                · -- not s118 = s119
                  refine seq_reg (fun K131 hK131 => ?_)
                  refine stq hf rfl rfl rfl (ex_move hf rfl) (fun a hf => ?_)
                  refine stepF hf rfl rfl rfl (ex_call cf_15 hf rfl) (thermal_CheckTrips.calls k a0 v0 (hs.enter (.k (.k (.k (.k .nil))))) (Sr.old hr hs (.k (.k (.k (.k .nil)))) (i := 0) rfl (fun _ h => h) (fun _ h => h) (Sr.nil _ _)) hs115) (fun v w hR a hf => ?_)
                  obtain ⟨rfl, hs'⟩ := hR
                  replace hs := hs.step (.k (.k (.k (.k .nil)))) hs'
                  clear hs'
                  refine stq hf rfl rfl rfl (ex_move hf rfl) (fun a hf => ?_)
                  refine stepF hf rfl rfl rfl (ex_call cf_16 hf rfl) (ref39_CheckTrips.calls k a0 v0 (hs.enter (.k (.k (.k (.k .nil))))) (Sr.old hr hs (.k (.k (.k (.k .nil)))) (i := 0) rfl (fun _ h => h) (fun _ h => h) (Sr.nil _ _)) hs116) (fun v w hR a hf => ?_)
                  obtain ⟨rfl, hs'⟩ := hR
                  replace hs := hs.step (.k (.k (.k (.k .nil)))) hs'
                  clear hs'
                  refine stq hf rfl rfl rfl (ex_eql hf rfl rfl) (fun a hf => ?_)
                  refine stq hf rfl rfl rfl (ex_move hf rfl) (fun a hf => ?_)
                  replace hf := hf.castB (t := 70) rfl (dec_t hc117)
                  replace hf := hf.castB (t := 71) rfl (dec_t hc117)
                  refine stq hf rfl rfl rfl (ex_move hf rfl) (fun a hf => ?_)
                  refine stepF hf rfl rfl rfl (ex_call cf_15 hf rfl) (thermal_CheckTrips.calls k x11 v9 (hs.enter (.k (.k (.k (.k .nil))))) (Sr.own hs (.k (.k (.k (.k .nil)))) (i := 0) rfl osl_rsl (fun _ h => h.1) (Sr.nil _ _)) hs118) (fun v w hR a hf => ?_)
                  obtain ⟨rfl, hs'⟩ := hR
                  replace hs := hs.step (.k (.k (.k (.k .nil)))) hs'
                  clear hs'
                  refine stq hf rfl rfl rfl (ex_move hf rfl) (fun a hf => ?_)
                  refine stepF hf rfl rfl rfl (ex_call cf_16 hf rfl) (ref39_CheckTrips.calls k x11 v9 (hs.enter (.k (.k (.k (.k .nil))))) (Sr.own hs (.k (.k (.k (.k .nil)))) (i := 0) rfl osl_rsl (fun _ h => h.1) (Sr.nil _ _)) hs119) (fun v w hR a hf => ?_)
                  obtain ⟨rfl, hs'⟩ := hR
                  replace hs := hs.step (.k (.k (.k (.k .nil)))) hs'
                  clear hs'
                  refine stq hf rfl rfl rfl (ex_eql hf rfl rfl) (fun a hf => ?_)
                  refine stq hf rfl rfl rfl (ex_pickT hf rfl rfl) (fun a hf => ?_)
                  refine stq hf rfl rfl rfl (ex_move hf rfl) (fun a hf => ?_)
                  replace hf := hf.castB (t := 76) rfl (dec_f hc120)
                  replace hf := hf.castB (t := 77) rfl (dec_f hc120)
                  replace hf := hf.castB (t := 78) rfl (dec_f hc120)
                  refine stepN hf rfl rfl rfl (fun a hf => ?_)
                  refine stepN hf rfl rfl rfl (fun a hf => ?_)
                  refine stepN hf rfl rfl rfl (fun a hf => ?_)
                  refine stq hf rfl rfl rfl (ex_pickF hf rfl rfl) (fun a hf => ?_)
                  refine stq hf rfl rfl rfl (ex_move hf rfl) (fun a hf => ?_)
                  refine stepN hf rfl rfl rfl (fun a hf => ?_)
                  refine stepN hf rfl rfl rfl (fun a hf => ?_)
                  refine stepN hf rfl rfl rfl (fun a hf => ?_)
                  refine stq hf rfl rfl rfl (ex_pickF hf rfl rfl) (fun a hf => ?_)
                  refine stq hf rfl rfl rfl (ex_move hf rfl) (fun a hf => ?_)
                  refine stepN hf rfl rfl rfl (fun a hf => ?_)
                  refine stepN hf rfl rfl rfl (fun a hf => ?_)
                  refine stepN hf rfl rfl rfl (fun a hf => ?_)
                  refine stepN hf rfl rfl rfl (fun a hf => ?_)
                  refine stepN hf rfl rfl rfl (fun a hf => ?_)
                  refine stq hf rfl rfl rfl (ex_pickF hf rfl rfl) (fun a hf => ?_)
                  refine stq hf rfl rfl rfl (ex_move hf rfl) (fun a hf => ?_)
                  refine stepN hf rfl rfl rfl (fun a hf => ?_)
                  refine stepN hf rfl rfl rfl (fun a hf => ?_)
                  refine stepN hf rfl rfl rfl (fun a hf => ?_)
                  refine stepN hf rfl rfl rfl (fun a hf => ?_)
                  refine stepN hf rfl rfl rfl (fun a hf => ?_)
                  refine stq hf rfl rfl rfl (ex_pickF hf rfl rfl) (fun a hf => ?_)
                  refine stq hf rfl rfl rfl (ex_move hf rfl) (fun a hf => ?_)
                  refine stepN hf rfl rfl rfl (fun a hf => ?_)
                  refine stq hf rfl rfl rfl (ex_pickF hf rfl rfl) (fun a hf => ?_)
                  refine stq hf rfl rfl rfl (ex_assign hf rfl) (fun a hf => ?_)
                  refine hK131 _ _ ?_
                  refine wp_ret ?_
                  have eR := some_eq H; subst eR
                  replace hs := hs.keep (.d (.d (.d (.d .nil))))
                  exact ret1 Try.results3 hf rfl ⟨_, rfl, ⟨rfl, hs⟩⟩
              · -- not s115 = s116
                refine seq_reg (fun K132 hK132 => ?_)
                refine stq hf rfl rfl rfl (ex_move hf rfl) (fun a hf => ?_)
                refine stepF hf rfl rfl rfl (ex_call cf_15 hf rfl) (thermal_CheckTrips.calls k a0 v0 (hs.enter (.k (.k (.k (.k .nil))))) (Sr.old hr hs (.k (.k (.k (.k .nil)))) (i := 0) rfl (fun _ h => h) (fun _ h => h) (Sr.nil _ _)) hs115) (fun v w hR a hf => ?_)
                obtain ⟨rfl, hs'⟩ := hR
                replace hs := hs.step (.k (.k (.k (.k .nil)))) hs'
                clear hs'
                refine stq hf rfl rfl rfl (ex_move hf rfl) (fun a hf => ?_)
                refine stepF hf rfl rfl rfl (ex_call cf_16 hf rfl) (ref39_CheckTrips.calls k a0 v0 (hs.enter (.k (.k (.k (.k .nil))))) (Sr.old hr hs (.k (.k (.k (.k .nil)))) (i := 0) rfl (fun _ h => h) (fun _ h => h) (Sr.nil _ _)) hs116) (fun v w hR a hf => ?_)
                obtain ⟨rfl, hs'⟩ := hR
                replace hs := hs.step (.k (.k (.k (.k .nil)))) hs'
                clear hs'
                refine stq hf rfl rfl rfl (ex_eql hf rfl rfl) (fun a hf => ?_)
                refine stq hf rfl rfl rfl (ex_move hf rfl) (fun a hf => ?_)
                replace hf := hf.castB (t := 70) rfl (dec_f hc117)
                replace hf := hf.castB (t := 71) rfl (dec_f hc117)
                refine stepN hf rfl rfl rfl (fun a hf => ?_)
                refine stepN hf rfl rfl rfl (fun a hf => ?_)
                refine stepN hf rfl rfl rfl (fun a hf => ?_)
                refine stepN hf rfl rfl rfl (fun a hf => ?_)
                refine stepN hf rfl rfl rfl (fun a hf => ?_)
                refine stq hf rfl rfl rfl (ex_pickF hf rfl rfl) (fun a hf => ?_)
                refine stq hf rfl rfl rfl (ex_move hf rfl) (fun a hf => ?_)
                refine stepN hf rfl rfl rfl (fun a hf => ?_)
                refine stepN hf rfl rfl rfl (fun a hf => ?_)
                refine stepN hf rfl rfl rfl (fun a hf => ?_)
                refine stq hf rfl rfl rfl (ex_pickF hf rfl rfl) (fun a hf => ?_)
                refine stq hf rfl rfl rfl (ex_move hf rfl) (fun a hf => ?_)
                refine stepN hf rfl rfl rfl (fun a hf => ?_)
                refine stepN hf rfl rfl rfl (fun a hf => ?_)
                refine stepN hf rfl rfl rfl (fun a hf => ?_)
                refine stq hf rfl rfl rfl (ex_pickF hf rfl rfl) (fun a hf => ?_)
                refine stq hf rfl rfl rfl (ex_move hf rfl) (fun a hf => ?_)
                refine stepN hf rfl rfl rfl (fun a hf => ?_)
                refine stepN hf rfl rfl rfl (fun a hf => ?_)
                refine stepN hf rfl rfl rfl (fun a hf => ?_)
                refine stepN hf rfl rfl rfl (fun a hf => ?_)
                refine stepN hf rfl rfl rfl (fun a hf => ?_)
                refine stq hf rfl rfl rfl (ex_pickF hf rfl rfl) (fun a hf => ?_)
                refine stq hf rfl rfl rfl (ex_move hf rfl) (fun a hf => ?_)
                refine stepN hf rfl rfl rfl (fun a hf => ?_)
                refine stepN hf rfl rfl rfl (fun a hf => ?_)
                refine stepN hf rfl rfl rfl (fun a hf => ?_)
                refine stepN hf rfl rfl rfl (fun a hf => ?_)
                refine stepN hf rfl rfl rfl (fun a hf => ?_)
                refine stq hf rfl rfl rfl (ex_pickF hf rfl rfl) (fun a hf => ?_)
                refine stq hf rfl rfl rfl (ex_move hf rfl) (fun a hf => ?_)
                refine stepN hf rfl rfl rfl (fun a hf => ?_)
                refine stq hf rfl rfl rfl (ex_pickF hf rfl rfl) (fun a hf => ?_)
                refine stq hf rfl rfl rfl (ex_assign hf rfl) (fun a hf => ?_)
                refine hK132 _ _ ?_
                refine wp_ret ?_
                have eR := some_eq H; subst eR
                replace hs := hs.keep (.d (.d (.d (.d .nil))))
                exact ret1 Try.results3 hf rfl ⟨_, rfl, ⟨rfl, hs⟩⟩
          | some c105 =>
            replace H := elim_s hps104 H
            refine region_k (fun K136 hK136 => ?_)
            refine stq hf rfl rfl rfl (ex_move hf rfl) (fun a hf => ?_)
            refine stq hf rfl rfl rfl (ex_move hf rfl) (fun a hf => ?_)
            refine stepF hf rfl rfl rfl (ex_call cf_12 hf rfl) (help_Mod.calls k a1 70 (hs.enter (.k (.k (.k (.k .nil))))) (Sr.nil _ _) hs103) (fun v w hR a hf => ?_)
            obtain ⟨rfl, hs'⟩ := hR
            replace hs := hs.step (.k (.k (.k (.k .nil)))) hs'
            clear hs'
            refine stq hf rfl rfl rfl (ex_sub hf rfl rfl) (fun a hf => ?_)
            refine stepF hf rfl rfl rfl (ex_call cf_13 hf rfl) (thermal_NewZone.calls k x11 (IntKind.i64.wrap (s103 - 2)) v9 (hs.enter (.k (.k (.k (.k .nil))))) (Sr.own hs (.k (.k (.k (.k .nil)))) (i := 0) rfl osl_rsl (fun _ h => h.1) (Sr.nil _ _)) hs104) (fun v w hR a hf => ?_)
            obtain ⟨hc', _⟩ | ⟨cc, hc', b133, v134, v135, rfl, hs'⟩ := hR
            case inl => rw [hps104] at hc'; cases hc'
            obtain rfl : c105 = cc := by rw [hps104] at hc'; exact Option.some.inj hc'
            replace hs := hs.step (.k (.k (.k (.k .nil)))) hs'
            clear hs'
            refine stq hf rfl rfl rfl (ex_move hf rfl) (fun a hf => ?_)
            refine stq hf rfl rfl rfl (ex_extract hf rfl rfl) (fun a hf => ?_)
            refine stq hf rfl rfl rfl (ex_extract hf rfl rfl) (fun a hf => ?_)
            refine stq hf rfl rfl rfl (ex_assign hf rfl) (fun a hf => ?_)
            refine stq hf rfl rfl rfl (ex_assign hf rfl) (fun a hf => ?_)
            refine hK136 _ _ ?_
            refine hN102 _ _ ?_
            refine bnd H (fun x137 H137 HO137 => ?_)
            clear H
            refine seq_cut (fun a w => Fr a 105 [(0, v0), (9, v9), (10, .pointer (some ⟨b91, 0, none⟩)), (11, .int .i64 s20.2), (13, .int .i64 x95), (14, .pointer (some ⟨b133, 0, none⟩)), (15, .int .i64 s104.2), (17, .int .i64 x137)] ∧ St M w0 w [osl K_api_Trip v9 x11, bx b91 62 [v92, v93, .int .i64 c21.2.2.1, .int .i64 c21.2.2.2], osl K_api_Trip v92 c21.1, osl K_bool v93 c21.2.1, bx b133 62 [v134, v135, .int .i64 c105.2.2.1, .int .i64 c105.2.2.2], osl K_api_Trip v134 c105.1, osl K_bool v135 c105.2.1]) (fun Q137 hJ137 hR137 hX137 => ?_) (fun a w hJ => ?_)
            · replace H := H137
              refine bnd H (fun s138 hs138 H => ?_)
              refine bnd H (fun s139 hs139 H => ?_)
              cases hps139 : s139.1 with
              | none =>
                replace H := elim_n hps139 H
                refine region_k (fun K141 hK141 => ?_)
                refine stq hf rfl rfl rfl (ex_move hf rfl) (fun a hf => ?_)
                refine stq hf rfl rfl rfl (ex_move hf rfl) (fun a hf => ?_)
                refine stepF hf rfl rfl rfl (ex_call cf_12 hf rfl) (help_Mod.calls k a1 70 (hs.enter (.k (.k (.k (.k (.k (.k (.k .nil)))))))) (Sr.nil _ _) hs138) (fun v w hR a hf => ?_)
                obtain ⟨rfl, hs'⟩ := hR
                replace hs := hs.step (.k (.k (.k (.k (.k (.k (.k .nil))))))) hs'
                clear hs'
                refine stq hf rfl rfl rfl (ex_sub hf rfl rfl) (fun a hf => ?_)
                refine stepF hf rfl rfl rfl (ex_call cf_14 hf rfl) (ref39_NewZone.calls k x11 (IntKind.i64.wrap (s138 - 2)) v9 (hs.enter (.k (.k (.k (.k (.k (.k (.k .nil)))))))) (Sr.own hs (.k (.k (.k (.k (.k (.k (.k .nil))))))) (i := 3) rfl osl_rsl (fun _ h => h.1) (Sr.nil _ _)) hs139) (fun v w hR a hf => ?_)
                obtain ⟨_, rfl, hs'⟩ | ⟨_, hc', _⟩ := hR
                case inr => rw [hps139] at hc'; cases hc'
                replace hs := hs.step (.k (.k (.k (.k (.k (.k (.k .nil))))))) hs'
                clear hs'
                refine stq hf rfl rfl rfl (ex_move hf rfl) (fun a hf => ?_)
                refine stq hf rfl rfl rfl (ex_extract hf rfl rfl) (fun a hf => ?_)
                refine stq hf rfl rfl rfl (ex_extract hf rfl rfl) (fun a hf => ?_)
                refine stq hf rfl rfl rfl (ex_assign hf rfl) (fun a hf => ?_)
                refine stq hf rfl rfl rfl (ex_assign hf rfl) (fun a hf => ?_)
                refine hK141 _ _ ?_
                replace hs := hs.pick (.k (.k (.c (.k (.k (.k (.k .nil)))))))
                replace hs := hs.pick (.k (.k (.c (.k (.k (.k (.k .nil)))))))
                replace hs := hs.pick (.k (.k (.c (.k (.k (.k (.k .nil)))))))
                replace hs := hs.pick (.k (.k (.k (.k (.k (.k (.c .nil)))))))
                replace hs := hs.pick (.k (.k (.k (.k (.k (.k (.c .nil)))))))
                replace hs := hs.pick (.k (.k (.k (.k (.k (.k (.c .nil)))))))
                replace hs := hs.pick (.k (.k (.k (.k (.k (.k (.c .nil)))))))
                have e137 := some_eq H; subst e137
                exact hJ137 _ _ ⟨hf.sub ⟨rfl, rfl, rfl, rfl, rfl, rfl, rfl, rfl, trivial⟩, hs⟩
              | some c140 =>
                replace H := elim_s hps139 H
                refine region_k (fun K144 hK144 => ?_)
                refine stq hf rfl rfl rfl (ex_move hf rfl) (fun a hf => ?_)
                refine stq hf rfl rfl rfl (ex_move hf rfl) (fun a hf => ?_)
                refine stepF hf rfl rfl rfl (ex_call cf_12 hf rfl) (help_Mod.calls k a1 70 (hs.enter (.k (.k (.k (.k (.k (.k (.k .nil)))))))) (Sr.nil _ _) hs138) (fun v w hR a hf => ?_)
                obtain ⟨rfl, hs'⟩ := hR
                replace hs := hs.step (.k (.k (.k (.k (.k (.k (.k .nil))))))) hs'
                clear hs'
                refine stq hf rfl rfl rfl (ex_sub hf rfl rfl) (fun a hf => ?_)
                refine stepF hf rfl rfl rfl (ex_call cf_14 hf rfl) (ref39_NewZone.calls k x11 (IntKind.i64.wrap (s138 - 2)) v9 (hs.enter (.k (.k (.k (.k (.k (.k (.k .nil)))))))) (Sr.own hs (.k (.k (.k (.k (.k (.k (.k .nil))))))) (i := 3) rfl osl_rsl (fun _ h => h.1) (Sr.nil _ _)) hs139) (fun v w hR a hf => ?_)
                obtain ⟨hc', _⟩ | ⟨cc, hc', b142, v143, rfl, hs'⟩ := hR
                case inl => rw [hps139] at hc'; cases hc'
                obtain rfl : c140 = cc := by rw [hps139] at hc'; exact Option.some.inj hc'
                replace hs := hs.step (.k (.k (.k (.k (.k (.k (.k .nil))))))) hs'
                clear hs'
                refine stq hf rfl rfl rfl (ex_move hf rfl) (fun a hf => ?_)
                refine stq hf rfl rfl rfl (ex_extract hf rfl rfl) (fun a hf => ?_)
                refine stq hf rfl rfl rfl (ex_extract hf rfl rfl) (fun a hf => ?_)
                refine stq hf rfl rfl rfl (ex_assign hf rfl) (fun a hf => ?_)
                refine stq hf rfl rfl rfl (ex_assign hf rfl) (fun a hf => ?_)
                refine hK144 _ _ ?_
                replace hs := hs.keep (.d (.d (.k (.k (.k (.k (.k (.k (.k .nil)))))))))
                replace hs := hs.pick (.k (.k (.c (.k (.k (.k (.k .nil)))))))
                replace hs := hs.pick (.k (.k (.c (.k (.k (.k (.k .nil)))))))
                replace hs := hs.pick (.k (.k (.c (.k (.k (.k (.k .nil)))))))
                replace hs := hs.pick (.k (.k (.k (.k (.k (.k (.c .nil)))))))
                replace hs := hs.pick (.k (.k (.k (.k (.k (.k (.c .nil)))))))
                replace hs := hs.pick (.k (.k (.k (.k (.k (.k (.c .nil)))))))
                replace hs := hs.pick (.k (.k (.k (.k (.k (.k (.c .nil)))))))
                have e137 := some_eq H; subst e137
                exact hJ137 _ _ ⟨hf.sub ⟨rfl, rfl, rfl, rfl, rfl, rfl, rfl, rfl, trivial⟩, hs⟩
            · obtain ⟨hf, hs⟩ := hJ
              replace H := HO137
              clear HO137
              refine bnd H (fun s145 hs145 H => ?_)
              refine bnd H (fun s146 hs146 H => ?_)
              refine itt H (fun hc147 H => ?_) (fun hc147 H => ?_)
              · -- s145 = s146
                refine bnd H (fun s148 hs148 H => ?_)
                refine bnd H (fun s149 hs149 H => ?_)
                refine itt H (fun hc150 H => ?_) (fun hc150 H => ?_)
                · -- s148 = s149
                  refine itt H (fun hc151 H => ?_) (fun hc151 H => ?_)
                  · -- s20.2 = x95
                    refine itt H (fun hc152 H => ?_) (fun hc152 H => ?_)
                    · -- s104.2 = x137
                      refine itt H (fun hc153 H => ?_) (fun hc153 H => ?_)
                      · -- (false == (!decide (s20.2 = 0))) = true
                        refine itt H (fun hc154 H => ?_) (fun hc154 H => ?_)
                        · -- (false == (!decide (s104.2 = 0))) = true
                          refine bnd H (fun s155 hs155 H => ?_)
                          refine seq_reg (fun K156 hK156 => ?_)
                          refine stq hf rfl rfl rfl (ex_move hf rfl) (fun a hf => ?_)
                          refine stepF hf rfl rfl rfl (ex_call cf_15 hf rfl) (thermal_CheckTrips.calls k a0 v0 (hs.enter (.k (.k (.k (.k (.k (.k (.k .nil)))))))) (Sr.old hr hs (.k (.k (.k (.k (.k (.k (.k .nil))))))) (i := 0) rfl (fun _ h => h) (fun _ h => h) (Sr.nil _ _)) hs145) (fun v w hR a hf => ?_)
                          obtain ⟨rfl, hs'⟩ := hR
                          replace hs := hs.step (.k (.k (.k (.k (.k (.k (.k .nil))))))) hs'
                          clear hs'
                          refine stq hf rfl rfl rfl (ex_move hf rfl) (fun a hf => ?_)
                          refine stepF hf rfl rfl rfl (ex_call cf_16 hf rfl) (ref39_CheckTrips.calls k a0 v0 (hs.enter (.k (.k (.k (.k (.k (.k (.k .nil)))))))) (Sr.old hr hs (.k (.k (.k (.k (.k (.k (.k .nil))))))) (i := 0) rfl (fun _ h => h) (fun _ h => h) (Sr.nil _ _)) hs146) (fun v w hR a hf => ?_)
                          obtain ⟨rfl, hs'⟩ := hR
                          replace hs := hs.step (.k (.k (.k (.k (.k (.k (.k .nil))))))) hs'
                          clear hs'
                          refine stq hf rfl rfl rfl (ex_eql hf rfl rfl) (fun a hf => ?_)
                          refine stq hf rfl rfl rfl (ex_move hf rfl) (fun a hf => ?_)
                          replace hf := hf.castB (t := 70) rfl (dec_t hc147)
                          replace hf := hf.castB (t := 71) rfl (dec_t hc147)
                          refine stq hf rfl rfl rfl (ex_move hf rfl) (fun a hf => ?_)
                          refine stepF hf rfl rfl rfl (ex_call cf_15 hf rfl) (thermal_CheckTrips.calls k x11 v9 (hs.enter (.k (.k (.k (.k (.k (.k (.k .nil)))))))) (Sr.own hs (.k (.k (.k (.k (.k (.k (.k .nil))))))) (i := 0) rfl osl_rsl (fun _ h => h.1) (Sr.nil _ _)) hs148) (fun v w hR a hf => ?_)
                          obtain ⟨rfl, hs'⟩ := hR
                          replace hs := hs.step (.k (.k (.k (.k (.k (.k (.k .nil))))))) hs'
                          clear hs'
                          refine stq hf rfl rfl rfl (ex_move hf rfl) (fun a hf => ?_)
                          refine stepF hf rfl rfl rfl (ex_call cf_16 hf rfl) (ref39_CheckTrips.calls k x11 v9 (hs.enter (.k (.k (.k (.k (.k (.k (.k .nil)))))))) (Sr.own hs (.k (.k (.k (.k (.k (.k (.k .nil))))))) (i := 0) rfl osl_rsl (fun _ h => h.1) (Sr.nil _ _)) hs149) (fun v w hR a hf => ?_)
                          obtain ⟨rfl, hs'⟩ := hR
                          replace hs := hs.step (.k (.k (.k (.k (.k (.k (.k .nil))))))) hs'
                          clear hs'
                          refine stq hf rfl rfl rfl (ex_eql hf rfl rfl) (fun a hf => ?_)
                          refine stq hf rfl rfl rfl (ex_pickT hf rfl rfl) (fun a hf => ?_)
                          refine stq hf rfl rfl rfl (ex_move hf rfl) (fun a hf => ?_)
                          replace hf := hf.castB (t := 76) rfl (dec_t hc150)
                          replace hf := hf.castB (t := 77) rfl (dec_t hc150)
                          replace hf := hf.castB (t := 78) rfl (dec_t hc150)
                          refine stq hf rfl rfl rfl (ex_move hf rfl) (fun a hf => ?_)
                          refine stq hf rfl rfl rfl (ex_move hf rfl) (fun a hf => ?_)
                          refine stq hf rfl rfl rfl (ex_eql hf rfl rfl) (fun a hf => ?_)
                          refine stq hf rfl rfl rfl (ex_pickT hf rfl rfl) (fun a hf => ?_)
                          refine stq hf rfl rfl rfl (ex_move hf rfl) (fun a hf => ?_)
                          replace hf := hf.castB (t := 81) rfl (dec_t hc151)
                          replace hf := hf.castB (t := 82) rfl (dec_t hc151)
                          replace hf := hf.castB (t := 83) rfl (dec_t hc151)
                          refine stq hf rfl rfl rfl (ex_move hf rfl) (fun a hf => ?_)
                          refine stq hf rfl rfl rfl (ex_move hf rfl) (fun a hf => ?_)
                          refine stq hf rfl rfl rfl (ex_eql hf rfl rfl) (fun a hf => ?_)
                          refine stq hf rfl rfl rfl (ex_pickT hf rfl rfl) (fun a hf => ?_)
                          refine stq hf rfl rfl rfl (ex_move hf rfl) (fun a hf => ?_)
                          replace hf := hf.castB (t := 86) rfl (dec_t hc152)
                          replace hf := hf.castB (t := 87) rfl (dec_t hc152)
                          replace hf := hf.castB (t := 88) rfl (dec_t hc152)
                          refine stq hf rfl rfl rfl (ex_move hf rfl) (fun a hf => ?_)
                          refine stq hf rfl rfl rfl (ex_eqp Try.underlying28 hf rfl rfl) (fun a hf => ?_)
                          refine stq hf rfl rfl rfl (ex_move hf rfl) (fun a hf => ?_)
                          refine stq hf rfl rfl rfl (ex_neq hf rfl rfl) (fun a hf => ?_)
                          refine stq hf rfl rfl rfl (ex_eqb Try.underlying4 hf rfl rfl) (fun a hf => ?_)
                          refine stq hf rfl rfl rfl (ex_pickT hf rfl rfl) (fun a hf => ?_)
                          refine stq hf rfl rfl rfl (ex_move hf rfl) (fun a hf => ?_)
                          replace hf := hf.castB (t := 93) rfl hc153
                          replace hf := hf.castB (t := 94) rfl hc153
                          replace hf := hf.castB (t := 95) rfl hc153
                          refine stq hf rfl rfl rfl (ex_move hf rfl) (fun a hf => ?_)
                          refine stq hf rfl rfl rfl (ex_eqp Try.underlying28 hf rfl rfl) (fun a hf => ?_)
                          refine stq hf rfl rfl rfl (ex_move hf rfl) (fun a hf => ?_)
                          refine stq hf rfl rfl rfl (ex_neq hf rfl rfl) (fun a hf => ?_)
                          refine stq hf rfl rfl rfl (ex_eqb Try.underlying4 hf rfl rfl) (fun a hf => ?_)
                          refine stq hf rfl rfl rfl (ex_pickT hf rfl rfl) (fun a hf => ?_)
                          refine stq hf rfl rfl rfl (ex_move hf rfl) (fun a hf => ?_)
                          replace hf := hf.castB (t := 100) rfl hc154
                          replace hf := hf.castB (t := 101) rfl hc154
                          replace hf := hf.castB (t := 102) rfl hc154
                          refine stepF hf rfl rfl rfl (ex_call cf_10 hf rfl) (law39_awake.calls k (hs.enter (.k (.k (.k (.k (.k (.k (.k .nil)))))))) (Sr.nil _ _) hs155) (fun v w hR a hf => ?_)
                          obtain ⟨rfl, hs'⟩ := hR
                          replace hs := hs.step (.k (.k (.k (.k (.k (.k (.k .nil))))))) hs'
                          clear hs'
                          refine stq hf rfl rfl rfl (ex_pickT hf rfl rfl) (fun a hf => ?_)
                          refine stq hf rfl rfl rfl (ex_assign hf rfl) (fun a hf => ?_)
                          refine hK156 _ _ ?_
                          refine wp_ret ?_
                          have eR := some_eq H; subst eR
                          replace hs := hs.keep (.d (.d (.d (.d (.d (.d (.d .nil)))))))
                          exact ret1 Try.results3 hf rfl ⟨_, rfl, ⟨rfl, hs⟩⟩
                        · -- not (false == (!decide (s104.2 = 0))) = true
                          refine seq_reg (fun K157 hK157 => ?_)
                          refine stq hf rfl rfl rfl (ex_move hf rfl) (fun a hf => ?_)
                          refine stepF hf rfl rfl rfl (ex_call cf_15 hf rfl) (thermal_CheckTrips.calls k a0 v0 (hs.enter (.k (.k (.k (.k (.k (.k (.k .nil)))))))) (Sr.old hr hs (.k (.k (.k (.k (.k (.k (.k .nil))))))) (i := 0) rfl (fun _ h => h) (fun _ h => h) (Sr.nil _ _)) hs145) (fun v w hR a hf => ?_)
                          obtain ⟨rfl, hs'⟩ := hR
                          replace hs := hs.step (.k (.k (.k (.k (.k (.k (.k .nil))))))) hs'
                          clear hs'
                          refine stq hf rfl rfl rfl (ex_move hf rfl) (fun a hf => ?_)
                          refine stepF hf rfl rfl rfl (ex_call cf_16 hf rfl) (ref39_CheckTrips.calls k a0 v0 (hs.enter (.k (.k (.k (.k (.k (.k (.k .nil)))))))) (Sr.old hr hs (.k (.k (.k (.k (.k (.k (.k .nil))))))) (i := 0) rfl (fun _ h => h) (fun _ h => h) (Sr.nil _ _)) hs146) (fun v w hR a hf => ?_)
                          obtain ⟨rfl, hs'⟩ := hR
                          replace hs := hs.step (.k (.k (.k (.k (.k (.k (.k .nil))))))) hs'
                          clear hs'
                          refine stq hf rfl rfl rfl (ex_eql hf rfl rfl) (fun a hf => ?_)
                          refine stq hf rfl rfl rfl (ex_move hf rfl) (fun a hf => ?_)
                          replace hf := hf.castB (t := 70) rfl (dec_t hc147)
                          replace hf := hf.castB (t := 71) rfl (dec_t hc147)
                          refine stq hf rfl rfl rfl (ex_move hf rfl) (fun a hf => ?_)
                          refine stepF hf rfl rfl rfl (ex_call cf_15 hf rfl) (thermal_CheckTrips.calls k x11 v9 (hs.enter (.k (.k (.k (.k (.k (.k (.k .nil)))))))) (Sr.own hs (.k (.k (.k (.k (.k (.k (.k .nil))))))) (i := 0) rfl osl_rsl (fun _ h => h.1) (Sr.nil _ _)) hs148) (fun v w hR a hf => ?_)
                          obtain ⟨rfl, hs'⟩ := hR
                          replace hs := hs.step (.k (.k (.k (.k (.k (.k (.k .nil))))))) hs'
                          clear hs'
                          refine stq hf rfl rfl rfl (ex_move hf rfl) (fun a hf => ?_)
                          refine stepF hf rfl rfl rfl (ex_call cf_16 hf rfl) (ref39_CheckTrips.calls k x11 v9 (hs.enter (.k (.k (.k (.k (.k (.k (.k .nil)))))))) (Sr.own hs (.k (.k (.k (.k (.k (.k (.k .nil))))))) (i := 0) rfl osl_rsl (fun _ h => h.1) (Sr.nil _ _)) hs149) (fun v w hR a hf => ?_)
                          obtain ⟨rfl, hs'⟩ := hR
                          replace hs := hs.step (.k (.k (.k (.k (.k (.k (.k .nil))))))) hs'
                          clear hs'
                          refine stq hf rfl rfl rfl (ex_eql hf rfl rfl) (fun a hf => ?_)
                          refine stq hf rfl rfl rfl (ex_pickT hf rfl rfl) (fun a hf => ?_)
                          refine stq hf rfl rfl rfl (ex_move hf rfl) (fun a hf => ?_)
                          replace hf := hf.castB (t := 76) rfl (dec_t hc150)
                          replace hf := hf.castB (t := 77) rfl (dec_t hc150)
                          replace hf := hf.castB (t := 78) rfl (dec_t hc150)
                          refine stq hf rfl rfl rfl (ex_move hf rfl) (fun a hf => ?_)
                          refine stq hf rfl rfl rfl (ex_move hf rfl) (fun a hf => ?_)
                          refine stq hf rfl rfl rfl (ex_eql hf rfl rfl) (fun a hf => ?_)
                          refine stq hf rfl rfl rfl (ex_pickT hf rfl rfl) (fun a hf => ?_)
                          refine stq hf rfl rfl rfl (ex_move hf rfl) (fun a hf => ?_)
                          replace hf := hf.castB (t := 81) rfl (dec_t hc151)
                          replace hf := hf.castB (t := 82) rfl (dec_t hc151)
                          replace hf := hf.castB (t := 83) rfl (dec_t hc151)
                          refine stq hf rfl rfl rfl (ex_move hf rfl) (fun a hf => ?_)
                          refine stq hf rfl rfl rfl (ex_move hf rfl) (fun a hf => ?_)
                          refine stq hf rfl rfl rfl (ex_eql hf rfl rfl) (fun a hf => ?_)
                          refine stq hf rfl rfl rfl (ex_pickT hf rfl rfl) (fun a hf => ?_)
                          refine stq hf rfl rfl rfl (ex_move hf rfl) (fun a hf => ?_)
                          replace hf := hf.castB (t := 86) rfl (dec_t hc152)
                          replace hf := hf.castB (t := 87) rfl (dec_t hc152)
                          replace hf := hf.castB (t := 88) rfl (dec_t hc152)
                          refine stq hf rfl rfl rfl (ex_move hf rfl) (fun a hf => ?_)
                          refine stq hf rfl rfl rfl (ex_eqp Try.underlying28 hf rfl rfl) (fun a hf => ?_)
                          refine stq hf rfl rfl rfl (ex_move hf rfl) (fun a hf => ?_)
                          refine stq hf rfl rfl rfl (ex_neq hf rfl rfl) (fun a hf => ?_)
                          refine stq hf rfl rfl rfl (ex_eqb Try.underlying4 hf rfl rfl) (fun a hf => ?_)
                          refine stq hf rfl rfl rfl (ex_pickT hf rfl rfl) (fun a hf => ?_)
                          refine stq hf rfl rfl rfl (ex_move hf rfl) (fun a hf => ?_)
                          replace hf := hf.castB (t := 93) rfl hc153
                          replace hf := hf.castB (t := 94) rfl hc153
                          replace hf := hf.castB (t := 95) rfl hc153
                          refine stq hf rfl rfl rfl (ex_move hf rfl) (fun a hf => ?_)
                          refine stq hf rfl rfl rfl (ex_eqp Try.underlying28 hf rfl rfl) (fun a hf => ?_)
                          refine stq hf rfl rfl rfl (ex_move hf rfl) (fun a hf => ?_)
                          refine stq hf rfl rfl rfl (ex_neq hf rfl rfl) (fun a hf => ?_)
                          refine stq hf rfl rfl rfl (ex_eqb Try.underlying4 hf rfl rfl) (fun a hf => ?_)
                          refine stq hf rfl rfl rfl (ex_pickT hf rfl rfl) (fun a hf => ?_)
                          refine stq hf rfl rfl rfl (ex_move hf rfl) (fun a hf => ?_)
                          replace hf := hf.castB (t := 100) rfl (bool_f hc154)
                          replace hf := hf.castB (t := 101) rfl (bool_f hc154)
                          replace hf := hf.castB (t := 102) rfl (bool_f hc154)
                          refine stepN hf rfl rfl rfl (fun a hf => ?_)
                          refine stq hf rfl rfl rfl (ex_pickF hf rfl rfl) (fun a hf => ?_)
                          refine stq hf rfl rfl rfl (ex_assign hf rfl) (fun a hf => ?_)
                          refine hK157 _ _ ?_
                          refine wp_ret ?_
                          have eR := some_eq H; subst eR
                          replace hs := hs.keep (.d (.d (.d (.d (.d (.d (.d .nil)))))))
                          exact ret1 Try.results3 hf rfl ⟨_, rfl, ⟨rfl, hs⟩⟩
                      · -- not (false == (!decide (s20.2 = 0))) = true
                        refine seq_reg (fun K158 hK158 => ?_)
                        refine stq hf rfl rfl rfl (ex_move hf rfl) (fun a hf => ?_)
                        refine stepF hf rfl rfl rfl (ex_call cf_15 hf rfl) (thermal_CheckTrips.calls k a0 v0 (hs.enter (.k (.k (.k (.k (.k (.k (.k .nil)))))))) (Sr.old hr hs (.k (.k (.k (.k (.k (.k (.k .nil))))))) (i := 0) rfl (fun _ h => h) (fun _ h => h) (Sr.nil _ _)) hs145) (fun v w hR a hf => ?_)
                        obtain ⟨rfl, hs'⟩ := hR
                        replace hs := hs.step (.k (.k (.k (.k (.k (.k (.k .nil))))))) hs'
                        clear hs'
                        refine stq hf rfl rfl rfl (ex_move hf rfl) (fun a hf => ?_)
                        refine stepF hf rfl rfl rfl (ex_call cf_16 hf rfl) (ref39_CheckTrips.calls k a0 v0 (hs.enter (.k (.k (.k (.k (.k (.k (.k .nil)))))))) (Sr.old hr hs (.k (.k (.k (.k (.k (.k (.k .nil))))))) (i := 0) rfl (fun _ h => h) (fun _ h => h) (Sr.nil _ _)) hs146) (fun v w hR a hf => ?_)
                        obtain ⟨rfl, hs'⟩ := hR
                        replace hs := hs.step (.k (.k (.k (.k (.k (.k (.k .nil))))))) hs'
                        clear hs'
                        refine stq hf rfl rfl rfl (ex_eql hf rfl rfl) (fun a hf => ?_)
                        refine stq hf rfl rfl rfl (ex_move hf rfl) (fun a hf => ?_)
                        replace hf := hf.castB (t := 70) rfl (dec_t hc147)
                        replace hf := hf.castB (t := 71) rfl (dec_t hc147)
                        refine stq hf rfl rfl rfl (ex_move hf rfl) (fun a hf => ?_)
                        refine stepF hf rfl rfl rfl (ex_call cf_15 hf rfl) (thermal_CheckTrips.calls k x11 v9 (hs.enter (.k (.k (.k (.k (.k (.k (.k .nil)))))))) (Sr.own hs (.k (.k (.k (.k (.k (.k (.k .nil))))))) (i := 0) rfl osl_rsl (fun _ h => h.1) (Sr.nil _ _)) hs148) (fun v w hR a hf => ?_)
                        obtain ⟨rfl, hs'⟩ := hR
                        replace hs := hs.step (.k (.k (.k (.k (.k (.k (.k .nil))))))) hs'
                        clear hs'
                        refine stq hf rfl rfl rfl (ex_move hf rfl) (fun a hf => ?_)
                        refine stepF hf rfl rfl rfl (ex_call cf_16 hf rfl) (ref39_CheckTrips.calls k x11 v9 (hs.enter (.k (.k (.k (.k (.k (.k (.k .nil)))))))) (Sr.own hs (.k (.k (.k (.k (.k (.k (.k .nil))))))) (i := 0) rfl osl_rsl (fun _ h => h.1) (Sr.nil _ _)) hs149) (fun v w hR a hf => ?_)
                        obtain ⟨rfl, hs'⟩ := hR
                        replace hs := hs.step (.k (.k (.k (.k (.k (.k (.k .nil))))))) hs'
                        clear hs'
                        refine stq hf rfl rfl rfl (ex_eql hf rfl rfl) (fun a hf => ?_)
                        refine stq hf rfl rfl rfl (ex_pickT hf rfl rfl) (fun a hf => ?_)
                        refine stq hf rfl rfl rfl (ex_move hf rfl) (fun a hf => ?_)
                        replace hf := hf.castB (t := 76) rfl (dec_t hc150)
                        replace hf := hf.castB (t := 77) rfl (dec_t hc150)
                        replace hf := hf.castB (t := 78) rfl (dec_t hc150)
                        refine stq hf rfl rfl rfl (ex_move hf rfl) (fun a hf => ?_)
                        refine stq hf rfl rfl rfl (ex_move hf rfl) (fun a hf => ?_)
                        refine stq hf rfl rfl rfl (ex_eql hf rfl rfl) (fun a hf => ?_)
                        refine stq hf rfl rfl rfl (ex_pickT hf rfl rfl) (fun a hf => ?_)
                        refine stq hf rfl rfl rfl (ex_move hf rfl) (fun a hf => ?_)
                        replace hf := hf.castB (t := 81) rfl (dec_t hc151)
                        replace hf := hf.castB (t := 82) rfl (dec_t hc151)
                        replace hf := hf.castB (t := 83) rfl (dec_t hc151)
                        refine stq hf rfl rfl rfl (ex_move hf rfl) (fun a hf => ?_)
                        refine stq hf rfl rfl rfl (ex_move hf rfl) (fun a hf => ?_)
                        refine stq hf rfl rfl rfl (ex_eql hf rfl rfl) (fun a hf => ?_)
                        refine stq hf rfl rfl rfl (ex_pickT hf rfl rfl) (fun a hf => ?_)
                        refine stq hf rfl rfl rfl (ex_move hf rfl) (fun a hf => ?_)
                        replace hf := hf.castB (t := 86) rfl (dec_t hc152)
                        replace hf := hf.castB (t := 87) rfl (dec_t hc152)
                        replace hf := hf.castB (t := 88) rfl (dec_t hc152)
                        refine stq hf rfl rfl rfl (ex_move hf rfl) (fun a hf => ?_)
                        refine stq hf rfl rfl rfl (ex_eqp Try.underlying28 hf rfl rfl) (fun a hf => ?_)
                        refine stq hf rfl rfl rfl (ex_move hf rfl) (fun a hf => ?_)
                        refine stq hf rfl rfl rfl (ex_neq hf rfl rfl) (fun a hf => ?_)
                        refine stq hf rfl rfl rfl (ex_eqb Try.underlying4 hf rfl rfl) (fun a hf => ?_)
                        refine stq hf rfl rfl rfl (ex_pickT hf rfl rfl) (fun a hf => ?_)
                        refine stq hf rfl rfl rfl (ex_move hf rfl) (fun a hf => ?_)
                        replace hf := hf.castB (t := 93) rfl (bool_f hc153)
                        replace hf := hf.castB (t := 94) rfl (bool_f hc153)
                        replace hf := hf.castB (t := 95) rfl (bool_f hc153)
                        refine stepN hf rfl rfl rfl (fun a hf => ?_)
                        refine stepN hf rfl rfl rfl (fun a hf => ?_)
                        refine stepN hf rfl rfl rfl (fun a hf => ?_)
                        refine stepN hf rfl rfl rfl (fun a hf => ?_)
                        refine stepN hf rfl rfl rfl (fun a hf => ?_)
                        refine stq hf rfl rfl rfl (ex_pickF hf rfl rfl) (fun a hf => ?_)
                        refine stq hf rfl rfl rfl (ex_move hf rfl) (fun a hf => ?_)
                        refine stepN hf rfl rfl rfl (fun a hf => ?_)
                        refine stq hf rfl rfl rfl (ex_pickF hf rfl rfl) (fun a hf => ?_)
                        refine stq hf rfl rfl rfl (ex_assign hf rfl) (fun a hf => ?_)
                        refine hK158 _ _ ?_
                        refine wp_ret ?_
                        have eR := some_eq H; subst eR
                        replace hs := hs.keep (.d (.d (.d (.d (.d (.d (.d .nil)))))))
                        exact ret1 Try.results3 hf rfl ⟨_, rfl, ⟨rfl, hs⟩⟩
                    · -- not s104.2 = x137
                      refine seq_reg (fun K159 hK159 => ?_)
                      refine stq hf rfl rfl rfl (ex_move hf rfl) (fun a hf => ?_)
                      refine stepF hf rfl rfl rfl (ex_call cf_15 hf rfl) (thermal_CheckTrips.calls k a0 v0 (hs.enter (.k (.k (.k (.k (.k (.k (.k .nil)))))))) (Sr.old hr hs (.k (.k (.k (.k (.k (.k (.k .nil))))))) (i := 0) rfl (fun _ h => h) (fun _ h => h) (Sr.nil _ _)) hs145) (fun v w hR a hf => ?_)
                      obtain ⟨rfl, hs'⟩ := hR
                      replace hs := hs.step (.k (.k (.k (.k (.k (.k (.k .nil))))))) hs'
                      clear hs'
                      refine stq hf rfl rfl rfl (ex_move hf rfl) (fun a hf => ?_)
                      refine stepF hf rfl rfl rfl (ex_call cf_16 hf rfl) (ref39_CheckTrips.calls k a0 v0 (hs.enter (.k (.k (.k (.k (.k (.k (.k .nil)))))))) (Sr.old hr hs (.k (.k (.k (.k (.k (.k (.k .nil))))))) (i := 0) rfl (fun _ h => h) (fun _ h => h) (Sr.nil _ _)) hs146) (fun v w hR a hf => ?_)
                      obtain ⟨rfl, hs'⟩ := hR
                      replace hs := hs.step (.k (.k (.k (.k (.k (.k (.k .nil))))))) hs'
                      clear hs'
                      refine stq hf rfl rfl rfl (ex_eql hf rfl rfl) (fun a hf => ?_)
                      refine stq hf rfl rfl rfl (ex_move hf rfl) (fun a hf => ?_)
                      replace hf := hf.castB (t := 70) rfl (dec_t hc147)
                      replace hf := hf.castB (t := 71) rfl (dec_t hc147)
                      refine stq hf rfl rfl rfl (ex_move hf rfl) (fun a hf => ?_)
                      refine stepF hf rfl rfl rfl (ex_call cf_15 hf rfl) (thermal_CheckTrips.calls k x11 v9 (hs.enter (.k (.k (.k (.k (.k (.k (.k .nil)))))))) (Sr.own hs (.k (.k (.k (.k (.k (.k (.k .nil))))))) (i := 0) rfl osl_rsl (fun _ h => h.1) (Sr.nil _ _)) hs148) (fun v w hR a hf => ?_)
                      obtain ⟨rfl, hs'⟩ := hR
                      replace hs := hs.step (.k (.k (.k (.k (.k (.k (.k .nil))))))) hs'
                      clear hs'
                      refine stq hf rfl rfl rfl (ex_move hf rfl) (fun a hf => ?_)
                      refine stepF hf rfl rfl rfl (ex_call cf_16 hf rfl) (ref39_CheckTrips.calls k x11 v9 (hs.enter (.k (.k (.k (.k (.k (.k (.k .nil)))))))) (Sr.own hs (.k (.k (.k (.k (.k (.k (.k .nil))))))) (i := 0) rfl osl_rsl (fun _ h => h.1) (Sr.nil _ _)) hs149) (fun v w hR a hf => ?_)
                      obtain ⟨rfl, hs'⟩ := hR
                      replace hs := hs.step (.k (.k (.k (.k (.k (.k (.k .nil))))))) hs'
                      clear hs'
                      refine stq hf rfl rfl rfl (ex_eql hf rfl rfl) (fun a hf => ?_)
                      refine stq hf rfl rfl rfl (ex_pickT hf rfl rfl) (fun a hf => ?_)
                      refine stq hf rfl rfl rfl (ex_move hf rfl) (fun a hf => ?_)
                      replace hf := hf.castB (t := 76) rfl (dec_t hc150)
                      replace hf := hf.castB (t := 77) rfl (dec_t hc150)
                      replace hf := hf.castB (t := 78) rfl (dec_t hc150)
                      refine stq hf rfl rfl rfl (ex_move hf rfl) (fun a hf => ?_)
                      refine stq hf rfl rfl rfl (ex_move hf rfl) (fun a hf => ?_)
                      refine stq hf rfl rfl rfl (ex_eql hf rfl rfl) (fun a hf => ?_)
                      refine stq hf rfl rfl rfl (ex_pickT hf rfl rfl) (fun a hf => ?_)
                      refine stq hf rfl rfl rfl (ex_move hf rfl) (fun a hf => ?_)
                      replace hf := hf.castB (t := 81) rfl (dec_t hc151)
                      replace hf := hf.castB (t := 82) rfl (dec_t hc151)
                      replace hf := hf.castB (t := 83) rfl (dec_t hc151)
                      refine stq hf rfl rfl rfl (ex_move hf rfl) (fun a hf => ?_)
                      refine stq hf rfl rfl rfl (ex_move hf rfl) (fun a hf => ?_)
                      refine stq hf rfl rfl rfl (ex_eql hf rfl rfl) (fun a hf => ?_)
                      refine stq hf rfl rfl rfl (ex_pickT hf rfl rfl) (fun a hf => ?_)
                      refine stq hf rfl rfl rfl (ex_move hf rfl) (fun a hf => ?_)
                      replace hf := hf.castB (t := 86) rfl (dec_f hc152)
                      replace hf := hf.castB (t := 87) rfl (dec_f hc152)
                      replace hf := hf.castB (t := 88) rfl (dec_f hc152)
                      refine stepN hf rfl rfl rfl (fun a hf => ?_)
                      refine stepN hf rfl rfl rfl (fun a hf => ?_)
                      refine stepN hf rfl rfl rfl (fun a hf => ?_)
                      refine stepN hf rfl rfl rfl (fun a hf => ?_)
                      refine stepN hf rfl rfl rfl (fun a hf => ?_)
                      refine stq hf rfl rfl rfl (ex_pickF hf rfl rfl) (fun a hf => ?_)
                      refine stq hf rfl rfl rfl (ex_move hf rfl) (fun a hf => ?_)
                      refine stepN hf rfl rfl rfl (fun a hf => ?_)
                      refine stepN hf rfl rfl rfl (fun a hf => ?_)
                      refine stepN hf rfl rfl rfl (fun a hf => ?_)
                      refine stepN hf rfl rfl rfl (fun a hf => ?_)
                      refine stepN hf rfl rfl rfl (fun a hf => ?_)
                      refine stq hf rfl rfl rfl (ex_pickF hf rfl rfl) (fun a hf => ?_)
                      refine stq hf rfl rfl rfl (ex_move hf rfl) (fun a hf => ?_)
                      refine stepN hf rfl rfl rfl (fun a hf => ?_)
                      refine stq hf rfl rfl rfl (ex_pickF hf rfl rfl) (fun a hf => ?_)
                      refine stq hf rfl rfl rfl (ex_assign hf rfl) (fun a hf => ?_)
                      refine hK159 _ _ ?_
                      refine wp_ret ?_
                      have eR := some_eq H; subst eR
                      replace hs := hs.keep (.d (.d (.d (.d (.d (.d (.d .nil)))))))
                      exact ret1 Try.results3 hf rfl ⟨_, rfl, ⟨rfl, hs⟩⟩
                  · -- not s20.2 = x95
                    refine seq_reg (fun K160 hK160 => ?_)
                    refine stq hf rfl rfl rfl (ex_move hf rfl) (fun a hf => ?_)
                    refine stepF hf rfl rfl rfl (ex_call cf_15 hf rfl) (thermal_CheckTrips.calls k a0 v0 (hs.enter (.k (.k (.k (.k (.k (.k (.k .nil)))))))) (Sr.old hr hs (.k (.k (.k (.k (.k (.k (.k .nil))))))) (i := 0) rfl (fun _ h => h) (fun _ h => h) (Sr.nil _ _)) hs145) (fun v w hR a hf => ?_)
                    obtain ⟨rfl, hs'⟩ := hR
                    replace hs := hs.step (.k (.k (.k (.k (.k (.k (.k .nil))))))) hs'
                    clear hs'
                    refine stq hf rfl rfl rfl (ex_move hf rfl) (fun a hf => ?_)
                    refine stepF hf rfl rfl rfl (ex_call cf_16 hf rfl) (ref39_CheckTrips.calls k a0 v0 (hs.enter (.k (.k (.k (.k (.k (.k (.k .nil)))))))) (Sr.old hr hs (.k (.k (.k (.k (.k (.k (.k .nil))))))) (i := 0) rfl (fun _ h => h) (fun _ h => h) (Sr.nil _ _)) hs146) (fun v w hR a hf => ?_)
                    obtain ⟨rfl, hs'⟩ := hR
                    replace hs := hs.step (.k (.k (.k (.k (.k (.k (.k .nil))))))) hs'
                    clear hs'
                    refine stq hf rfl rfl rfl (ex_eql hf rfl rfl) (fun a hf => ?_)
                    refine stq hf rfl rfl rfl (ex_move hf rfl) (fun a hf => ?_)
                    replace hf := hf.castB (t := 70) rfl (dec_t hc147)
                    replace hf := hf.castB (t := 71) rfl (dec_t hc147)
                    refine stq hf rfl rfl rfl (ex_move hf rfl) (fun a hf => ?_)
                    refine stepF hf rfl rfl rfl (ex_call cf_15 hf rfl) (thermal_CheckTrips.calls k x11 v9 (hs.enter (.k (.k (.k (.k (.k (.k (.k .nil)))))))) (Sr.own hs (.k (.k (.k (.k (.k (.k (.k .nil))))))) (i := 0) rfl osl_rsl (fun _ h => h.1) (Sr.nil _ _)) hs148) (fun v w hR a hf => ?_)
                    obtain ⟨rfl, hs'⟩ := hR
                    replace hs := hs.step (.k (.k (.k (.k (.k (.k (.k .nil))))))) hs'
                    clear hs'
                    refine stq hf rfl rfl rfl (ex_move hf rfl) (fun a hf => ?_)
                    refine stepF hf rfl rfl rfl (ex_call cf_16 hf rfl) (ref39_CheckTrips.calls k x11 v9 (hs.enter (.k (.k (.k (.k (.k (.k (.k .nil)))))))) (Sr.own hs (.k (.k (.k (.k (.k (.k (.k .nil))))))) (i := 0) rfl osl_rsl (fun _ h => h.1) (Sr.nil _ _)) hs149) (fun v w hR a hf => ?_)
                    obtain ⟨rfl, hs'⟩ := hR
                    replace hs := hs.step (.k (.k (.k (.k (.k (.k (.k .nil))))))) hs'
                    clear hs'
                    refine stq hf rfl rfl rfl (ex_eql hf rfl rfl) (fun a hf => ?_)
                    refine stq hf rfl rfl rfl (ex_pickT hf rfl rfl) (fun a hf => ?_)
                    refine stq hf rfl rfl rfl (ex_move hf rfl) (fun a hf => ?_)
                    replace hf := hf.castB (t := 76) rfl (dec_t hc150)
                    replace hf := hf.castB (t := 77) rfl (dec_t hc150)
                    replace hf := hf.castB (t := 78) rfl (dec_t hc150)
                    refine stq hf rfl rfl rfl (ex_move hf rfl) (fun a hf => ?_)
                    refine stq hf rfl rfl rfl (ex_move hf rfl) (fun a hf => ?_)
                    refine stq hf rfl rfl rfl (ex_eql hf rfl rfl) (fun a hf => ?_)
                    refine stq hf rfl rfl rfl (ex_pickT hf rfl rfl) (fun a hf => ?_)
                    refine stq hf rfl rfl rfl (ex_move hf rfl) (fun a hf => ?_)
                    replace hf := hf.castB (t := 81) rfl (dec_f hc151)
                    replace hf := hf.castB (t := 82) rfl (dec_f hc151)
                    replace hf := hf.castB (t := 83) rfl (dec_f hc151)
                    refine stepN hf rfl rfl rfl (fun a hf => ?_)
                    refine stepN hf rfl rfl rfl (fun a hf => ?_)
                    refine stepN hf rfl rfl rfl (fun a hf => ?_)
                    refine stq hf rfl rfl rfl (ex_pickF hf rfl rfl) (fun a hf => ?_)
                    refine stq hf rfl rfl rfl (ex_move hf rfl) (fun a hf => ?_)
                    refine stepN hf rfl rfl rfl (fun a hf => ?_)
                    refine stepN hf rfl rfl rfl (fun a hf => ?_)
                    refine stepN hf rfl rfl rfl (fun a hf => ?_)
                    refine stepN hf rfl rfl rfl (fun a hf => ?_)
                    refine stepN hf rfl rfl rfl (fun a hf => ?_)
                    refine stq hf rfl rfl rfl (ex_pickF hf rfl rfl) (fun a hf => ?_)
                    refine stq hf rfl rfl rfl (ex_move hf rfl) (fun a hf => ?_)
                    refine stepN hf rfl rfl rfl (fun a hf => ?_)
                    refine stepN hf rfl rfl rfl (fun a hf => ?_)
                    refine stepN hf rfl rfl rfl (fun a hf => ?_)
                    refine stepN hf rfl rfl rfl (fun a hf => ?_)
                    refine stepN hf rfl rfl rfl (fun a hf => ?_)
                    refine stq hf rfl rfl rfl (ex_pickF hf rfl rfl) (fun a hf => ?_)
                    refine stq hf rfl rfl rfl (ex_move hf rfl) (fun a hf => ?_)
                    refine stepN hf rfl rfl rfl (fun a hf => ?_)
                    refine stq hf rfl rfl rfl (ex_pickF hf rfl rfl) (fun a hf => ?_)
                    refine stq hf rfl rfl rfl (ex_assign hf rfl) (fun a hf => ?_)
                    refine hK160 _ _ ?_
                    refine wp_ret ?_
                    have eR := some_eq H; subst eR
                    replace hs := hs.keep (.d (.d (.d (.d (.d (.d (.d .nil)))))))
                    exact ret1 Try.results3 hf rfl ⟨_, rfl, ⟨rfl, hs⟩⟩
                · -- not s148 = s149
                  refine seq_reg (fun K161 hK161 => ?_)
                  refine stq hf rfl rfl rfl (ex_move hf rfl) (fun a hf => ?_)
                  refine stepF hf rfl rfl rfl (ex_call cf_15 hf rfl) (thermal_CheckTrips.calls k a0 v0 (hs.enter (.k (.k (.k (.k (.k (.k (.k .nil)))))))) (Sr.old hr hs (.k (.k (.k (.k (.k (.k (.k .nil))))))) (i := 0) rfl (fun _ h => h) (fun _ h => h) (Sr.nil _ _)) hs145) (fun v w hR a hf => ?_)
                  obtain ⟨rfl, hs'⟩ := hR
                  replace hs := hs.step (.k (.k (.k (.k (.k (.k (.k .nil))))))) hs'
                  clear hs'
                  refine stq hf rfl rfl rfl (ex_move hf rfl) (fun a hf => ?_)
                  refine stepF hf rfl rfl rfl (ex_call cf_16 hf rfl) (ref39_CheckTrips.calls k a0 v0 (hs.enter (.k (.k (.k (.k (.k (.k (.k .nil)))))))) (Sr.old hr hs (.k (.k (.k (.k (.k (.k (.k .nil))))))) (i := 0) rfl (fun _ h => h) (fun _ h => h) (Sr.nil _ _)) hs146) (fun v w hR a hf => ?_)
                  obtain ⟨rfl, hs'⟩ := hR
                  replace hs := hs.step (.k (.k (.k (.k (.k (.k (.k .nil))))))) hs'
                  clear hs'
                  refine stq hf rfl rfl rfl (ex_eql hf rfl rfl) (fun a hf => ?_)
                  refine stq hf rfl rfl rfl (ex_move hf rfl) (fun a hf => ?_)
                  replace hf := hf.castB (t := 70) rfl (dec_t hc147)
                  replace hf := hf.castB (t := 71) rfl (dec_t hc147)
                  refine stq hf rfl rfl rfl (ex_move hf rfl) (fun a hf => ?_)
                  refine stepF hf rfl rfl rfl (ex_call cf_15 hf rfl) (thermal_CheckTrips.calls k x11 v9 (hs.enter (.k (.k (.k (.k (.k (.k (.k .nil)))))))) (Sr.own hs (.k (.k (.k (.k (.k (.k (.k .nil))))))) (i := 0) rfl osl_rsl (fun _ h => h.1) (Sr.nil _ _)) hs148) (fun v w hR a hf => ?_)
                  obtain ⟨rfl, hs'⟩ := hR
                  replace hs := hs.step (.k (.k (.k (.k (.k (.k (.k .nil))))))) hs'
                  clear hs'
                  refine stq hf rfl rfl rfl (ex_move hf rfl) (fun a hf => ?_)
                  refine stepF hf rfl rfl rfl (ex_call cf_16 hf rfl) (ref39_CheckTrips.calls k x11 v9 (hs.enter (.k (.k (.k (.k (.k (.k (.k .nil)))))))) (Sr.own hs (.k (.k (.k (.k (.k (.k (.k .nil))))))) (i := 0) rfl osl_rsl (fun _ h => h.1) (Sr.nil _ _)) hs149) (fun v w hR a hf => ?_)
                  obtain ⟨rfl, hs'⟩ := hR
                  replace hs := hs.step (.k (.k (.k (.k (.k (.k (.k .nil))))))) hs'
                  clear hs'
                  refine stq hf rfl rfl rfl (ex_eql hf rfl rfl) (fun a hf => ?_)
                  refine stq hf rfl rfl rfl (ex_pickT hf rfl rfl) (fun a hf => ?_)
                  refine stq hf rfl rfl rfl (ex_move hf rfl) (fun a hf => ?_)
                  replace hf := hf.castB (t := 76) rfl (dec_f hc150)
                  replace hf := hf.castB (t := 77) rfl (dec_f hc150)
                  replace hf := hf.castB (t := 78) rfl (dec_f hc150)
                  refine stepN hf rfl rfl rfl (fun a hf => ?_)
                  refine stepN hf rfl rfl rfl (fun a hf => ?_)
                  refine stepN hf rfl rfl rfl (fun a hf => ?_)
                  refine stq hf rfl rfl rfl (ex_pickF hf rfl rfl) (fun a hf => ?_)
                  refine stq hf rfl rfl rfl (ex_move hf rfl) (fun a hf => ?_)
                  refine stepN hf rfl rfl rfl (fun a hf => ?_)
                  refine stepN hf rfl rfl rfl (fun a hf => ?_)
                  refine stepN hf rfl rfl rfl (fun a hf => ?_)
                  refine stq hf rfl rfl rfl (ex_pickF hf rfl rfl) (fun a hf => ?_)
                  refine stq hf rfl rfl rfl (ex_move hf rfl) (fun a hf => ?_)
                  refine stepN hf rfl rfl rfl (fun a hf => ?_)
                  refine stepN hf rfl rfl rfl (fun a hf => ?_)
                  refine stepN hf rfl rfl rfl (fun a hf => ?_)
                  refine stepN hf rfl rfl rfl (fun a hf => ?_)
                  refine stepN hf rfl rfl rfl (fun a hf => ?_)
                  refine stq hf rfl rfl rfl (ex_pickF hf rfl rfl) (fun a hf => ?_)
                  refine stq hf rfl rfl rfl (ex_move hf rfl) (fun a hf => ?_)
                  refine stepN hf rfl rfl rfl (fun a hf => ?_)
                  refine stepN hf rfl rfl rfl (fun a hf => ?_)
                  refine stepN hf rfl rfl rfl (fun a hf => ?_)
                  refine stepN hf rfl rfl rfl (fun a hf => ?_)
                  refine stepN hf rfl rfl rfl (fun a hf => ?_)
                  refine stq hf rfl rfl rfl (ex_pickF hf rfl rfl) (fun a hf => ?_)
                  refine stq hf rfl rfl rfl (ex_move hf rfl) (fun a hf => ?_)
                  refine stepN hf rfl rfl rfl (fun a hf => ?_)
                  refine stq hf rfl rfl rfl (ex_pickF hf rfl rfl) (fun a hf => ?_)
                  refine stq hf rfl rfl rfl (ex_assign hf rfl) (fun a hf => ?_)
                  refine hK161 _ _ ?_
                  refine wp_ret ?_
                  have eR := some_eq H; subst eR
                  replace hs := hs.keep (.d (.d (.d (.d (.d (.d (.d .nil)))))))
                  exact ret1 Try.results3 hf rfl ⟨_, rfl, ⟨rfl, hs⟩⟩
              · -- not s145 = s146
                refine seq_reg (fun K162 hK162 => ?_)
                refine stq hf rfl rfl rfl (ex_move hf rfl) (fun a hf => ?_)
                refine stepF hf rfl rfl rfl (ex_call cf_15 hf rfl) (thermal_CheckTrips.calls k a0 v0 (hs.enter (.k (.k (.k (.k (.k (.k (.k .nil)))))))) (Sr.old hr hs (.k (.k (.k (.k (.k (.k (.k .nil))))))) (i := 0) rfl (fun _ h => h) (fun _ h => h) (Sr.nil _ _)) hs145) (fun v w hR a hf => ?_)
                obtain ⟨rfl, hs'⟩ := hR
                replace hs := hs.step (.k (.k (.k (.k (.k (.k (.k .nil))))))) hs'
                clear hs'
                refine stq hf rfl rfl rfl (ex_move hf rfl) (fun a hf => ?_)
                refine stepF hf rfl rfl rfl (ex_call cf_16 hf rfl) (ref39_CheckTrips.calls k a0 v0 (hs.enter (.k (.k (.k (.k (.k (.k (.k .nil)))))))) (Sr.old hr hs (.k (.k (.k (.k (.k (.k (.k .nil))))))) (i := 0) rfl (fun _ h => h) (fun _ h => h) (Sr.nil _ _)) hs146) (fun v w hR a hf => ?_)
                obtain ⟨rfl, hs'⟩ := hR
                replace hs := hs.step (.k (.k (.k (.k (.k (.k (.k .nil))))))) hs'
                clear hs'
                refine stq hf rfl rfl rfl (ex_eql hf rfl rfl) (fun a hf => ?_)
                refine stq hf rfl rfl rfl (ex_move hf rfl) (fun a hf => ?_)
                replace hf := hf.castB (t := 70) rfl (dec_f hc147)
                replace hf := hf.castB (t := 71) rfl (dec_f hc147)
                refine stepN hf rfl rfl rfl (fun a hf => ?_)
                refine stepN hf rfl rfl rfl (fun a hf => ?_)
                refine stepN hf rfl rfl rfl (fun a hf => ?_)
                refine stepN hf rfl rfl rfl (fun a hf => ?_)
                refine stepN hf rfl rfl rfl (fun a hf => ?_)
                refine stq hf rfl rfl rfl (ex_pickF hf rfl rfl) (fun a hf => ?_)
                refine stq hf rfl rfl rfl (ex_move hf rfl) (fun a hf => ?_)
                refine stepN hf rfl rfl rfl (fun a hf => ?_)
                refine stepN hf rfl rfl rfl (fun a hf => ?_)
                refine stepN hf rfl rfl rfl (fun a hf => ?_)
                refine stq hf rfl rfl rfl (ex_pickF hf rfl rfl) (fun a hf => ?_)
                refine stq hf rfl rfl rfl (ex_move hf rfl) (fun a hf => ?_)
                refine stepN hf rfl rfl rfl (fun a hf => ?_)
                refine stepN hf rfl rfl rfl (fun a hf => ?_)
                refine stepN hf rfl rfl rfl (fun a hf => ?_)
                refine stq hf rfl rfl rfl (ex_pickF hf rfl rfl) (fun a hf => ?_)
                refine stq hf rfl rfl rfl (ex_move hf rfl) (fun a hf => ?_)
                refine stepN hf rfl rfl rfl (fun a hf => ?_)
                refine stepN hf rfl rfl rfl (fun a hf => ?_)
                refine stepN hf rfl rfl rfl (fun a hf => ?_)
                refine stepN hf rfl rfl rfl (fun a hf => ?_)
                refine stepN hf rfl rfl rfl (fun a hf => ?_)
                refine stq hf rfl rfl rfl (ex_pickF hf rfl rfl) (fun a hf => ?_)
                refine stq hf rfl rfl rfl (ex_move hf rfl) (fun a hf => ?_)
                refine stepN hf rfl rfl rfl (fun a hf => ?_)
                refine stepN hf rfl rfl rfl (fun a hf => ?_)
                refine stepN hf rfl rfl rfl (fun a hf => ?_)
                refine stepN hf rfl rfl rfl (fun a hf => ?_)
                refine stepN hf rfl rfl rfl (fun a hf => ?_)
                refine stq hf rfl rfl rfl (ex_pickF hf rfl rfl) (fun a hf => ?_)
                refine stq hf rfl rfl rfl (ex_move hf rfl) (fun a hf => ?_)
                refine stepN hf rfl rfl rfl (fun a hf => ?_)
                refine stq hf rfl rfl rfl (ex_pickF hf rfl rfl) (fun a hf => ?_)
                refine stq hf rfl rfl rfl (ex_assign hf rfl) (fun a hf => ?_)
                refine hK162 _ _ ?_
                refine wp_ret ?_
                have eR := some_eq H; subst eR
                replace hs := hs.keep (.d (.d (.d (.d (.d (.d (.d .nil)))))))
                exact ret1 Try.results3 hf rfl ⟨_, rfl, ⟨rfl, hs⟩⟩

end Go.Proofs.Ytkcmohmnmapnbaa.X
