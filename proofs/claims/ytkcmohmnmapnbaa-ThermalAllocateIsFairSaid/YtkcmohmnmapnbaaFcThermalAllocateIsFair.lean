/- Each function of the machine comes to what its pure function says. -/
import Derived.Test.YtkcmohmnmapnbaaFc1
import Derived.Test.YtkcmohmnmapnbaaFc2
import Derived.Test.YtkcmohmnmapnbaaFc3
import Derived.Test.YtkcmohmnmapnbaaFb
namespace Go.Proofs.Ytkcmohmnmapnbaa.X
open Go Go.RowKit Go.Sx
set_option linter.unusedVariables false

set_option maxRecDepth 100000 in
theorem law39_ThermalAllocateIsFair.calls {M : Nat → Prop} {w0 : World} (k : Nat) (a0 : Int) (a1 : (List Actor)) (v1 : Value) {r : Bool} (hs : St M w0 w0 []) (hr : Sr M w0 [rsl K_api_Actor v1 a1])
    (h : law39_ThermalAllocateIsFair.f k a0 a1 = some r) : Calls Try.prog 8 #[.int .u64 a0, v1] w0 fun e w => ∃ v, e = .returned v ∧ (.bool r = v ∧ St M w0 w []) := by
  have H := (law39_ThermalAllocateIsFair.f.eq_1 ..).symm.trans h
  clear h
  refine enter Try.func8 rfl Try.ntmps8 rfl (fun a hf => ?_)
  refine seq_reg (fun K1 hK1 => ?_)
  refine stq hf rfl rfl rfl (ex_assign hf rfl) (fun a hf => ?_)
  refine hK1 _ _ ?_
  refine seq_n (fun Q2 hN2 hR2 hX2 => ?_)
  refine seq_reg (fun K3 hK3 => ?_)
  refine stq hf rfl rfl rfl (ex_move hf rfl) (fun a hf => ?_)
  refine stq hf rfl rfl rfl (ex_lenS Try.underlying38 (rsl_isSl (hr.now hs (i := 0) rfl)) hf rfl) (fun a hf => ?_)
  refine stq hf rfl rfl rfl (ex_gtr hf rfl rfl) (fun a hf => ?_)
  refine hK3 _ _ ?_
  refine itt H (fun hc4 H => ?_) (fun hc4 H => ?_)
  · -- 40 < (a1.length : Int)
    replace hf := hf.castB (t := 16) rfl (dec_t hc4)
    refine cond_T hf rfl ?_
    refine bnd H (fun s5 hs5 H => ?_)
    refine seq_reg (fun K6 hK6 => ?_)
    refine stepF hf rfl rfl rfl (ex_call cf_10 hf rfl) (law39_awake.calls k (hs.enter .nil) (Sr.nil _ _) hs5) (fun v w hR a hf => ?_)
    obtain ⟨rfl, hs'⟩ := hR
    replace hs := hs.step .nil hs'
    clear hs'
    refine stq hf rfl rfl rfl (ex_assign hf rfl) (fun a hf => ?_)
    refine hK6 _ _ ?_
    refine wp_ret ?_
    refine hR2 _ _ ?_
    have eR := some_eq H; subst eR
    exact ret1 Try.results8 hf rfl ⟨_, rfl, ⟨rfl, hs⟩⟩
  · -- not 40 < (a1.length : Int)
    replace hf := hf.castB (t := 16) rfl (dec_f hc4)
    refine cond_F hf rfl ?_
    refine wp_skip ?_
    refine hN2 _ _ ?_
    refine bnd H (fun s7 hs7 H => ?_)
    refine seq_reg (fun K9 hK9 => ?_)
    refine stq hf rfl rfl rfl (ex_move hf rfl) (fun a hf => ?_)
    refine stepF hf rfl rfl rfl (ex_call cf_17 hf rfl) (law39_Actors.calls k a1 v1 (hs.enter .nil) (Sr.old hr hs .nil (i := 0) rfl (fun _ h => h) (fun _ h => h) (Sr.nil _ _)) hs7) (fun v w hR a hf => ?_)
    obtain ⟨v8, rfl, hs'⟩ := hR
    replace hs := hs.step .nil hs'
    clear hs'
    refine stq hf rfl rfl rfl (ex_assign hf rfl) (fun a hf => ?_)
    refine hK9 _ _ ?_
    refine seq_reg (fun K10 hK10 => ?_)
    refine stq hf rfl rfl rfl (ex_move hf rfl) (fun a hf => ?_)
    refine stq hf rfl rfl rfl (ex_rem hf rfl rfl (by decide)) (fun a hf => ?_)
    refine stq hf rfl rfl rfl (ex_assign hf rfl) (fun a hf => ?_)
    refine hK10 _ _ ?_
    refine bnd H (fun s11 hs11 H => ?_)
    refine seq_reg (fun K13 hK13 => ?_)
    refine stq hf rfl rfl rfl (ex_move hf rfl) (fun a hf => ?_)
    refine stq hf rfl rfl rfl (ex_move hf rfl) (fun a hf => ?_)
    refine stepF hf rfl rfl rfl (ex_call cf_18 hf rfl) (thermal_Allocate.calls k (Int.tmod a0 200) s7 v8 (hs.enter (.k .nil)) (Sr.own hs (.k .nil) (i := 0) rfl osl_rsl (fun _ h => h.1) (Sr.nil _ _)) hs11) (fun v w hR a hf => ?_)
    obtain ⟨v12, rfl, hs'⟩ := hR
    replace hs := hs.step (.k .nil) hs'
    clear hs'
    refine stq hf rfl rfl rfl (ex_move hf rfl) (fun a hf => ?_)
    refine stq hf rfl rfl rfl (ex_extract hf rfl rfl) (fun a hf => ?_)
    refine stq hf rfl rfl rfl (ex_extract hf rfl rfl) (fun a hf => ?_)
    refine stq hf rfl rfl rfl (ex_assign hf rfl) (fun a hf => ?_)
    refine stq hf rfl rfl rfl (ex_assign hf rfl) (fun a hf => ?_)
    refine hK13 _ _ ?_
    refine seq_reg (fun K14 hK14 => ?_)
    refine stq hf rfl rfl rfl (ex_assign hf rfl) (fun a hf => ?_)
    refine stq hf rfl rfl rfl (ex_assign hf rfl) (fun a hf => ?_)
    refine stq hf rfl rfl rfl (ex_assign hf rfl) (fun a hf => ?_)
    refine hK14 _ _ ?_
    refine bnd H (fun x15 H15 HO15 => ?_)
    clear H
    refine seq_cut (fun a w => Fr a 119 [(5, v8), (6, .int .u64 (Int.tmod a0 200)), (7, v12), (8, .int .i64 s11.2), (9, .int .u64 x15.1), (10, .int .u64 x15.2), (11, .int .u64 0)] ∧ St M w0 w [osl K_api_Actor v8 s7, osl K_uint64 v12 s11.1]) (fun Q15 hJ15 hR15 hX15 => ?_) (fun a w hJ => ?_)
    · replace H := H15
      refine seq_reg (fun K16 hK16 => ?_)
      refine stq hf rfl rfl rfl (ex_assign hf rfl) (fun a hf => ?_)
      refine hK16 _ _ ?_
      refine block_k (fun Q17 hN17 hR17 hX17 hY17 => ?_)
      refine loop_k (fun n a w => ∃ (y18 : Int) (y19 : Int) (y20 : Int), Fr a 119 [(5, v8), (6, .int .u64 (Int.tmod a0 200)), (7, v12), (8, .int .i64 s11.2), (9, .int .u64 y18), (10, .int .u64 y19), (11, .int .u64 0), (12, .int .i64 y20)] ∧ St M w0 w [osl K_api_Actor v8 s7, osl K_uint64 v12 s11.1] ∧ law39_ThermalAllocateIsFair.l1 n s7 y18 y19 y20 = some x15) k ?_ (fun n22 a w hI Q22 hL22 hR22 hX22 => ?_)
      · -- at the start
        replace hs := hs.pick (.k (.c .nil))
        exact ⟨0, 0, 0, hf.sub ⟨rfl, rfl, rfl, rfl, rfl, rfl, rfl, rfl, trivial⟩, hs, H⟩
      · obtain ⟨y18, y19, y20, hf, hs, H⟩ := hI
        cases n22 with
        | zero => exact absurd H (by rw [law39_ThermalAllocateIsFair.l1.eq_1]; intro h; cases h)
        | succ k22 =>
          replace H := (law39_ThermalAllocateIsFair.l1.eq_2 ..).symm.trans H
          refine seq_n (fun Q23 hN23 hR23 hX23 => ?_)
          refine seq_reg (fun K24 hK24 => ?_)
          refine stq hf rfl rfl rfl (ex_move hf rfl) (fun a hf => ?_)
          refine stq hf rfl rfl rfl (ex_move hf rfl) (fun a hf => ?_)
          refine stq hf rfl rfl rfl (ex_lenS Try.underlying38 (rsl_isSl (osl_rsl _ (hs.get (i := 0) rfl))) hf rfl) (fun a hf => ?_)
          refine stq hf rfl rfl rfl (ex_lss hf rfl rfl) (fun a hf => ?_)
          refine hK24 _ _ ?_
          refine itt H (fun hc25 H => ?_) (fun hc25 H => ?_)
          · -- y20 < (s7.length : Int)
            replace hf := hf.castB (t := 31) rfl (dec_t hc25)
            refine cond_T hf rfl ?_
            refine wp_skip ?_
            refine hN23 _ _ ?_
            refine seq_n (fun Q26 hN26 hR26 hX26 => ?_)
            refine block_k (fun Q27 hN27 hR27 hX27 hY27 => ?_)
            refine ck_some H (fun hc28 H => ?_)
            refine bnd H (fun s29 hs29 H => ?_)
            refine region_o fol 15 [(5, v8), (6, .int .u64 (Int.tmod a0 200)), (7, v12), (8, .int .i64 s11.2), (10, .int .u64 y19), (11, .int .u64 0), (12, .int .i64 y20)] [(9, .int .u64 y18, 14)] [(0, .int .u64 y18), (1, v8), (2, .int .i64 y20), (3, .pointer (some (sla v8 (y20.toNat * 3)))), (4, .pointer (some (sla v8 (y20.toNat * 3 + 1)))), (5, .int .u64 ((gd Actor.zero s7 y20).Min)), (6, .int .u64 (IntKind.u64.wrap (y18 + ((gd Actor.zero s7 y20).Min)))), (7, .int .u64 y19), (8, v8), (9, .int .i64 y20), (10, .pointer (some (sla v8 (y20.toNat * 3)))), (11, .agg #[.int .u64 ((gd Actor.zero s7 y20).Request), .int .u64 ((gd Actor.zero s7 y20).Min), .int .u64 ((gd Actor.zero s7 y20).Max)])] [12] (fun w => (osl K_api_Actor v8 s7).ok w ∧ True) (fun w => St M w0 w [osl K_api_Actor v8 s7, osl K_uint64 v12 s11.1]) hf ⟨rfl, rfl, rfl, rfl, rfl, rfl, rfl, trivial⟩ ⟨rfl, trivial⟩ (by kernel_rfl) (by kernel_rfl) (by kernel_rfl) rfl (by decide) ⟨hs.drew.get (i := 0) rfl, trivial⟩ hs.drew (.cons (⟨_, _, rfl, rfl, rfl, rfl, fun a w hR hf => .inl ⟨wanted_yes hf rfl, ex_move hf rfl⟩⟩) (.cons (⟨_, _, rfl, rfl, rfl, rfl, fun a w hR hf => .inl ⟨wanted_yes hf rfl, ex_move hf rfl⟩⟩) (.cons (⟨_, _, rfl, rfl, rfl, rfl, fun a w hR hf => .inl ⟨wanted_yes hf rfl, ex_move hf rfl⟩⟩) (.cons (⟨_, _, rfl, rfl, rfl, rfl, fun a w hR hf => .inl ⟨wanted_yes hf rfl, ex_indexAddr sa_38 (rsl_isSl (osl_rsl _ hR.1)) hc28.1 hc28.2 hf rfl rfl⟩⟩) (.cons (⟨_, _, rfl, rfl, rfl, rfl, fun a w hR hf => .inl ⟨wanted_yes hf rfl, ex_fieldAddrS fa_56_1 rfl hf rfl⟩⟩) (.cons (⟨_, _, rfl, rfl, rfl, rfl, fun a w hR hf => .inl ⟨wanted_yes hf rfl, ex_load sc_37 hf rfl (el_cell (K := K_api_Actor) (f := 1) (rsl_rd (osl_rsl _ hR.1)) hc28.1 hc28.2 rfl)⟩⟩) (.cons (⟨_, _, rfl, rfl, rfl, rfl, fun a w hR hf => .inl ⟨wanted_yes hf rfl, ex_add hf rfl rfl⟩⟩) (.cons (⟨_, _, rfl, rfl, rfl, rfl, fun a w hR hf => .inl ⟨wanted_yes hf rfl, ex_move hf rfl⟩⟩) (.cons (⟨_, _, rfl, rfl, rfl, rfl, fun a w hR hf => .inl ⟨wanted_yes hf rfl, ex_move hf rfl⟩⟩) (.cons (⟨_, _, rfl, rfl, rfl, rfl, fun a w hR hf => .inl ⟨wanted_yes hf rfl, ex_move hf rfl⟩⟩) (.cons (⟨_, _, rfl, rfl, rfl, rfl, fun a w hR hf => .inl ⟨wanted_yes hf rfl, ex_indexAddr sa_38 (rsl_isSl (osl_rsl _ hR.1)) hc28.1 hc28.2 hf rfl rfl⟩⟩) (.cons (⟨_, _, rfl, rfl, rfl, rfl, fun a w hR hf => .inl ⟨wanted_yes hf rfl, ex_loadA (cs := [.int .u64 ((gd Actor.zero s7 y20).Request), .int .u64 ((gd Actor.zero s7 y20).Min), .int .u64 ((gd Actor.zero s7 y20).Max)]) ag_56 hf rfl (el_cells (K := K_api_Actor) (rsl_rd (osl_rsl _ hR.1)) hc28.1 hc28.2 rfl)⟩⟩) (.nil))))))))))))) (fun K30 hK30 => ?_)
            refine RWo.one 12 (by kernel_rfl) (by kernel_rfl) rfl (fun d hd => by cases hd; rfl) [(45, .agg #[.int .u64 ((gd Actor.zero s7 y20).Request), .int .u64 ((gd Actor.zero s7 y20).Min), .int .u64 ((gd Actor.zero s7 y20).Max)])] ⟨rfl, trivial⟩ (fun a w hR hs hf => ⟨wanted_yes hf rfl, ?_⟩)
            refine estep_f (ex_call cf_29 hf rfl) (law39_want.calls k22 (⟨((gd Actor.zero s7 y20).Request), ((gd Actor.zero s7 y20).Min), ((gd Actor.zero s7 y20).Max)⟩ : Actor) (hs.enter (.k (.k .nil))) (Sr.nil _ _) hs29) (fun v w hR => ?_)
            obtain ⟨rfl, hs'⟩ := hR
            replace hs := hs.step (.k (.k .nil)) hs'
            clear hs'
            refine ⟨[(13, .int .u64 (IntKind.u64.wrap (y19 + s29))), (14, .int .u64 (IntKind.u64.wrap (y18 + ((gd Actor.zero s7 y20).Min))))], [(13, .int .u64 (IntKind.u64.wrap (y19 + s29))), (14, .int .u64 (IntKind.u64.wrap (y18 + ((gd Actor.zero s7 y20).Min)))), (12, .int .u64 s29), (0, .int .u64 y18), (1, v8), (2, .int .i64 y20), (3, .pointer (some (sla v8 (y20.toNat * 3)))), (4, .pointer (some (sla v8 (y20.toNat * 3 + 1)))), (5, .int .u64 ((gd Actor.zero s7 y20).Min)), (6, .int .u64 (IntKind.u64.wrap (y18 + ((gd Actor.zero s7 y20).Min)))), (7, .int .u64 y19), (8, v8), (9, .int .i64 y20), (10, .pointer (some (sla v8 (y20.toNat * 3)))), (11, .agg #[.int .u64 ((gd Actor.zero s7 y20).Request), .int .u64 ((gd Actor.zero s7 y20).Min), .int .u64 ((gd Actor.zero s7 y20).Max)])], [], (fun _ => True), (fun w => St M w0 w [osl K_api_Actor v8 s7, osl K_uint64 v12 s11.1]), rfl, rfl, ⟨hs.get (i := 0) rfl, trivial⟩, trivial, hs, (by kernel_rfl), .cons (⟨_, _, rfl, rfl, rfl, rfl, fun a w hR hf => .inl ⟨wanted_yes hf rfl, ex_add hf rfl rfl⟩⟩) (.cons (⟨_, _, rfl, rfl, rfl, rfl, fun a w hR hf => .inl ⟨wanted_yes hf rfl, ex_assign hf rfl⟩⟩) (.nil)), ?_⟩
            refine RWo.zero (by kernel_rfl) (by kernel_rfl) [(5, v8), (6, .int .u64 (Int.tmod a0 200)), (7, v12), (8, .int .i64 s11.2), (9, .int .u64 (IntKind.u64.wrap (y18 + ((gd Actor.zero s7 y20).Min)))), (10, .int .u64 y19), (11, .int .u64 0), (12, .int .i64 y20), (47, .int .u64 (IntKind.u64.wrap (y19 + s29)))] ⟨rfl, rfl, rfl, rfl, rfl, rfl, rfl, rfl, rfl, trivial⟩ (fun a w hR hs hf => ?_)
            refine stq hf rfl rfl rfl (ex_assign hf rfl) (fun a hf => ?_)
            refine hK30 _ _ ?_
            refine hN27 _ _ ?_
            refine hN26 _ _ ?_
            refine region_k (fun K31 hK31 => ?_)
            refine stq hf rfl rfl rfl (ex_move hf rfl) (fun a hf => ?_)
            refine stq hf rfl rfl rfl (ex_add hf rfl rfl) (fun a hf => ?_)
            refine stq hf rfl rfl rfl (ex_assign hf rfl) (fun a hf => ?_)
            refine hK31 _ _ ?_
            exact hL22 k22 _ _ (Nat.lt_succ_self _) ⟨(IntKind.u64.wrap (y18 + ((gd Actor.zero s7 y20).Min))), (IntKind.u64.wrap (y19 + s29)), (IntKind.i64.wrap (y20 + 1)), hf.sub ⟨rfl, rfl, rfl, rfl, rfl, rfl, rfl, rfl, trivial⟩, hs, H⟩
          · -- not y20 < (s7.length : Int)
            replace hf := hf.castB (t := 31) rfl (dec_f hc25)
            refine cond_F hf rfl ?_
            refine wp_exit ?_
            refine hX23 0 _ _ ?_
            refine hX22 0 _ _ ?_
            refine hX17 _ _ ?_
            have e15 := some_eq H; subst e15
            exact hJ15 _ _ ⟨hf.sub ⟨rfl, rfl, rfl, rfl, rfl, rfl, rfl, trivial⟩, hs⟩
    · obtain ⟨hf, hs⟩ := hJ
      replace H := HO15
      clear HO15
      refine seq_n (fun Q32 hN32 hR32 hX32 => ?_)
      refine seq_reg (fun K33 hK33 => ?_)
      refine stq hf rfl rfl rfl (ex_move hf rfl) (fun a hf => ?_)
      refine stq hf rfl rfl rfl (ex_neq hf rfl rfl) (fun a hf => ?_)
      refine hK33 _ _ ?_
      refine itt H (fun hc34 H => ?_) (fun hc34 H => ?_)
      · -- s11.2 = 0
        replace hf := hf.castB (t := 49) rfl (ndec_f hc34)
        refine cond_F hf rfl ?_
        refine wp_skip ?_
        refine hN32 _ _ ?_
        refine seq_n (fun Q35 hN35 hR35 hX35 => ?_)
        refine bnd H (fun x36 H36 HO36 => ?_)
        clear H
        refine seq_cut (fun a w => Fr a 119 [(5, v8), (6, .int .u64 (Int.tmod a0 200)), (7, v12), (9, .int .u64 x15.1), (10, .int .u64 x15.2), (11, .int .u64 0), (71, .bool x36)] ∧ St M w0 w [osl K_api_Actor v8 s7, osl K_uint64 v12 s11.1]) (fun Q36 hJ36 hR36 hX36 => ?_) (fun a w hJ => ?_)
        · replace H := H36
          refine itt H (fun hc37 H => ?_) (fun hc37 H => ?_)
          · -- (s11.1.length : Int) = (s7.length : Int)
            refine bnd H (fun s38 hs38 H => ?_)
            refine region_k (fun K39 hK39 => ?_)
            refine stq hf rfl rfl rfl (ex_move hf rfl) (fun a hf => ?_)
            refine stq hf rfl rfl rfl (ex_lenS Try.underlying40 (rsl_isSl (osl_rsl _ (hs.get (i := 1) rfl))) hf rfl) (fun a hf => ?_)
            refine stq hf rfl rfl rfl (ex_move hf rfl) (fun a hf => ?_)
            refine stq hf rfl rfl rfl (ex_lenS Try.underlying38 (rsl_isSl (osl_rsl _ (hs.get (i := 0) rfl))) hf rfl) (fun a hf => ?_)
            refine stq hf rfl rfl rfl (ex_neq hf rfl rfl) (fun a hf => ?_)
            refine stq hf rfl rfl rfl (ex_move hf rfl) (fun a hf => ?_)
            replace hf := hf.castB (t := 64) rfl (ndec_f hc37)
            replace hf := hf.castB (t := 65) rfl (ndec_f hc37)
            refine stq hf rfl rfl rfl (ex_move hf rfl) (fun a hf => ?_)
            refine stq hf rfl rfl rfl (ex_move hf rfl) (fun a hf => ?_)
            refine stq hf rfl rfl rfl (ex_move hf rfl) (fun a hf => ?_)
            refine stepF hf rfl rfl rfl (ex_call cf_30 hf rfl) (thermal_Fair.calls k (Int.tmod a0 200) s7 s11.1 v8 v12 (hs.enter (.k (.k .nil))) (Sr.own hs (.k (.k .nil)) (i := 0) rfl osl_rsl (fun _ h => h.1) (Sr.own hs (.k (.k .nil)) (i := 1) rfl osl_rsl (fun _ h => h.1) (Sr.nil _ _))) hs38) (fun v w hR a hf => ?_)
            obtain ⟨rfl, hs'⟩ := hR
            replace hs := hs.step (.k (.k .nil)) hs'
            clear hs'
            refine stq hf rfl rfl rfl (ex_not hf rfl) (fun a hf => ?_)
            refine stq hf rfl rfl rfl (ex_pickF hf rfl rfl) (fun a hf => ?_)
            refine hK39 _ _ ?_
            have e36 := some_eq H; subst e36
            exact hJ36 _ _ ⟨hf.sub ⟨rfl, rfl, rfl, rfl, rfl, rfl, rfl, trivial⟩, hs⟩
          · -- not (s11.1.length : Int) = (s7.length : Int)
            refine region_k (fun K40 hK40 => ?_)
            refine stq hf rfl rfl rfl (ex_move hf rfl) (fun a hf => ?_)
            refine stq hf rfl rfl rfl (ex_lenS Try.underlying40 (rsl_isSl (osl_rsl _ (hs.get (i := 1) rfl))) hf rfl) (fun a hf => ?_)
            refine stq hf rfl rfl rfl (ex_move hf rfl) (fun a hf => ?_)
            refine stq hf rfl rfl rfl (ex_lenS Try.underlying38 (rsl_isSl (osl_rsl _ (hs.get (i := 0) rfl))) hf rfl) (fun a hf => ?_)
            refine stq hf rfl rfl rfl (ex_neq hf rfl rfl) (fun a hf => ?_)
            refine stq hf rfl rfl rfl (ex_move hf rfl) (fun a hf => ?_)
            replace hf := hf.castB (t := 64) rfl (ndec_t hc37)
            replace hf := hf.castB (t := 65) rfl (ndec_t hc37)
            refine stepN hf rfl rfl rfl (fun a hf => ?_)
            refine stepN hf rfl rfl rfl (fun a hf => ?_)
            refine stepN hf rfl rfl rfl (fun a hf => ?_)
            refine stepN hf rfl rfl rfl (fun a hf => ?_)
            refine stepN hf rfl rfl rfl (fun a hf => ?_)
            refine stq hf rfl rfl rfl (ex_pickT hf rfl rfl) (fun a hf => ?_)
            refine hK40 _ _ ?_
            have e36 := some_eq H; subst e36
            exact hJ36 _ _ ⟨hf.sub ⟨rfl, rfl, rfl, rfl, rfl, rfl, rfl, trivial⟩, hs⟩
        · obtain ⟨hf, hs⟩ := hJ
          replace H := HO36
          clear HO36
          refine itt H (fun hc41 H => ?_) (fun hc41 H => ?_)
          · -- x36 = true
            replace hf := hf.castB (t := 71) rfl hc41
            refine cond_T hf rfl ?_
            refine seq_reg (fun K42 hK42 => ?_)
            refine stq hf rfl rfl rfl (ex_assign hf rfl) (fun a hf => ?_)
            refine hK42 _ _ ?_
            refine wp_ret ?_
            refine hR35 _ _ ?_
            have eR := some_eq H; subst eR
            replace hs := hs.keep (.d (.d .nil))
            exact ret1 Try.results8 hf rfl ⟨_, rfl, ⟨rfl, hs⟩⟩
          · -- not x36 = true
            replace hf := hf.castB (t := 71) rfl (bool_f hc41)
            refine cond_F hf rfl ?_
            refine wp_skip ?_
            refine hN35 _ _ ?_
            refine bnd H (fun x43 H43 HO43 => ?_)
            clear H
            refine seq_cut (fun a w => ∃ (x43s : Int), x43 = .go x43s ∧ Fr a 119 [(6, .int .u64 (Int.tmod a0 200)), (9, .int .u64 x15.1), (10, .int .u64 x15.2), (11, .int .u64 x43s)] ∧ St M w0 w []) (fun Q43 hJ43 hR43 hX43 => ?_) (fun a w hJ => ?_)
            · replace H := H43
              refine seq_reg (fun K44 hK44 => ?_)
              refine stq hf rfl rfl rfl (ex_assign hf rfl) (fun a hf => ?_)
              refine hK44 _ _ ?_
              refine block_k (fun Q45 hN45 hR45 hX45 hY45 => ?_)
              refine loop_k (fun n a w => ∃ (y46 : Int) (y47 : Int), Fr a 119 [(5, v8), (6, .int .u64 (Int.tmod a0 200)), (7, v12), (9, .int .u64 x15.1), (10, .int .u64 x15.2), (11, .int .u64 y46), (13, .int .i64 y47)] ∧ St M w0 w [osl K_api_Actor v8 s7, osl K_uint64 v12 s11.1] ∧ law39_ThermalAllocateIsFair.l2 n s11 s7 y46 y47 = some x43) k ?_ (fun n49 a w hI Q49 hL49 hR49 hX49 => ?_)
              · -- at the start
                exact ⟨0, 0, hf.sub ⟨rfl, rfl, rfl, rfl, rfl, rfl, rfl, trivial⟩, hs, H⟩
              · obtain ⟨y46, y47, hf, hs, H⟩ := hI
                cases n49 with
                | zero => exact absurd H (by rw [law39_ThermalAllocateIsFair.l2.eq_1]; intro h; cases h)
                | succ k49 =>
                  replace H := (law39_ThermalAllocateIsFair.l2.eq_2 ..).symm.trans H
                  refine seq_n (fun Q50 hN50 hR50 hX50 => ?_)
                  refine seq_reg (fun K51 hK51 => ?_)
                  refine stq hf rfl rfl rfl (ex_move hf rfl) (fun a hf => ?_)
                  refine stq hf rfl rfl rfl (ex_move hf rfl) (fun a hf => ?_)
                  refine stq hf rfl rfl rfl (ex_lenS Try.underlying40 (rsl_isSl (osl_rsl _ (hs.get (i := 1) rfl))) hf rfl) (fun a hf => ?_)
                  refine stq hf rfl rfl rfl (ex_lss hf rfl rfl) (fun a hf => ?_)
                  refine hK51 _ _ ?_
                  refine itt H (fun hc52 H => ?_) (fun hc52 H => ?_)
                  · -- y47 < (s11.1.length : Int)
                    replace hf := hf.castB (t := 75) rfl (dec_t hc52)
                    refine cond_T hf rfl ?_
                    refine wp_skip ?_
                    refine hN50 _ _ ?_
                    refine seq_n (fun Q53 hN53 hR53 hX53 => ?_)
                    refine block_k (fun Q54 hN54 hR54 hX54 hY54 => ?_)
                    refine seq_n (fun Q55 hN55 hR55 hX55 => ?_)
                    refine bnd H (fun x56 H56 HO56 => ?_)
                    clear H
                    refine seq_cut (fun a w => Fr a 119 [(5, v8), (6, .int .u64 (Int.tmod a0 200)), (7, v12), (9, .int .u64 x15.1), (10, .int .u64 x15.2), (11, .int .u64 y46), (13, .int .i64 y47), (99, .bool x56)] ∧ St M w0 w [osl K_api_Actor v8 s7, osl K_uint64 v12 s11.1]) (fun Q56 hJ56 hR56 hX56 => ?_) (fun a w hJ => ?_)
                    · replace H := H56
                      refine ck_some H (fun hc57 H => ?_)
                      refine ck_some H (fun hc58 H => ?_)
                      refine itt H (fun hc59 H => ?_) (fun hc59 H => ?_)
                      · -- (gd 0 s11.1 y47) < ((gd Actor.zero s7 y47).Min)
                        refine region_d fol 22 [(5, v8), (6, .int .u64 (Int.tmod a0 200)), (7, v12), (9, .int .u64 x15.1), (10, .int .u64 x15.2), (11, .int .u64 y46), (13, .int .i64 y47)] [(0, v12), (1, .int .i64 y47), (2, .pointer (some (sla v12 (y47.toNat * 1)))), (3, .int .u64 (gd 0 s11.1 y47)), (4, v8), (5, .int .i64 y47), (6, .pointer (some (sla v8 (y47.toNat * 3)))), (7, .pointer (some (sla v8 (y47.toNat * 3 + 1)))), (8, .int .u64 ((gd Actor.zero s7 y47).Min)), (9, .bool true), (10, .bool true), (11, undef), (12, undef), (13, undef), (14, undef), (15, undef), (16, undef), (17, undef), (18, undef), (19, undef), (20, undef), (21, .bool true)] [] (fun w => (osl K_uint64 v12 s11.1).ok w ∧ (osl K_api_Actor v8 s7).ok w ∧ True) (fun w => St M w0 w [osl K_api_Actor v8 s7, osl K_uint64 v12 s11.1]) hf ⟨rfl, rfl, rfl, rfl, rfl, rfl, rfl, trivial⟩ (by kernel_rfl) (by kernel_rfl) rfl (by decide) ⟨hs.drew.get (i := 1) rfl, hs.drew.get (i := 0) rfl, trivial⟩ hs.drew (.cons (⟨_, _, rfl, rfl, rfl, rfl, fun a w hR hf => .inl ⟨wanted_yes hf rfl, ex_move hf rfl⟩⟩) (.cons (⟨_, _, rfl, rfl, rfl, rfl, fun a w hR hf => .inl ⟨wanted_yes hf rfl, ex_move hf rfl⟩⟩) (.cons (⟨_, _, rfl, rfl, rfl, rfl, fun a w hR hf => .inl ⟨wanted_yes hf rfl, ex_indexAddr sa_40 (rsl_isSl (osl_rsl _ hR.1)) hc57.1 hc57.2 hf rfl rfl⟩⟩) (.cons (⟨_, _, rfl, rfl, rfl, rfl, fun a w hR hf => .inl ⟨wanted_yes hf rfl, ex_load sc_37 hf rfl (el_cell (K := K_uint64) (f := 0) (rsl_rd (osl_rsl _ hR.1)) hc57.1 hc57.2 rfl)⟩⟩) (.cons (⟨_, _, rfl, rfl, rfl, rfl, fun a w hR hf => .inl ⟨wanted_yes hf rfl, ex_move hf rfl⟩⟩) (.cons (⟨_, _, rfl, rfl, rfl, rfl, fun a w hR hf => .inl ⟨wanted_yes hf rfl, ex_move hf rfl⟩⟩) (.cons (⟨_, _, rfl, rfl, rfl, rfl, fun a w hR hf => .inl ⟨wanted_yes hf rfl, ex_indexAddr sa_38 (rsl_isSl (osl_rsl _ hR.2.1)) hc58.1 hc58.2 hf rfl rfl⟩⟩) (.cons (⟨_, _, rfl, rfl, rfl, rfl, fun a w hR hf => .inl ⟨wanted_yes hf rfl, ex_fieldAddrS fa_56_1 rfl hf rfl⟩⟩) (.cons (⟨_, _, rfl, rfl, rfl, rfl, fun a w hR hf => .inl ⟨wanted_yes hf rfl, ex_load sc_37 hf rfl (el_cell (K := K_api_Actor) (f := 1) (rsl_rd (osl_rsl _ hR.2.1)) hc58.1 hc58.2 rfl)⟩⟩) (.cons (⟨_, _, rfl, rfl, rfl, rfl, fun a w hR hf => .inl ⟨wanted_yes hf rfl, ex_castB (ex_lss hf rfl rfl) (dec_t hc59)⟩⟩) (.cons (⟨_, _, rfl, rfl, rfl, rfl, fun a w hR hf => .inl ⟨wanted_yes hf rfl, ex_move hf rfl⟩⟩) (.cons (⟨_, _, rfl, rfl, rfl, rfl, fun a w hR hf => .inr ⟨wanted_no hf rfl, rfl⟩⟩) (.cons (⟨_, _, rfl, rfl, rfl, rfl, fun a w hR hf => .inr ⟨wanted_no hf rfl, rfl⟩⟩) (.cons (⟨_, _, rfl, rfl, rfl, rfl, fun a w hR hf => .inr ⟨wanted_no hf rfl, rfl⟩⟩) (.cons (⟨_, _, rfl, rfl, rfl, rfl, fun a w hR hf => .inr ⟨wanted_no hf rfl, rfl⟩⟩) (.cons (⟨_, _, rfl, rfl, rfl, rfl, fun a w hR hf => .inr ⟨wanted_no hf rfl, rfl⟩⟩) (.cons (⟨_, _, rfl, rfl, rfl, rfl, fun a w hR hf => .inr ⟨wanted_no hf rfl, rfl⟩⟩) (.cons (⟨_, _, rfl, rfl, rfl, rfl, fun a w hR hf => .inr ⟨wanted_no hf rfl, rfl⟩⟩) (.cons (⟨_, _, rfl, rfl, rfl, rfl, fun a w hR hf => .inr ⟨wanted_no hf rfl, rfl⟩⟩) (.cons (⟨_, _, rfl, rfl, rfl, rfl, fun a w hR hf => .inr ⟨wanted_no hf rfl, rfl⟩⟩) (.cons (⟨_, _, rfl, rfl, rfl, rfl, fun a w hR hf => .inr ⟨wanted_no hf rfl, rfl⟩⟩) (.cons (⟨_, _, rfl, rfl, rfl, rfl, fun a w hR hf => .inl ⟨wanted_yes hf rfl, ex_pickT hf rfl rfl⟩⟩) (.nil))))))))))))))))))))))) (fun K60 hK60 => ?_)
                        refine RW.zero (by kernel_rfl) (by kernel_rfl) [(5, v8), (6, .int .u64 (Int.tmod a0 200)), (7, v12), (9, .int .u64 x15.1), (10, .int .u64 x15.2), (11, .int .u64 y46), (13, .int .i64 y47), (99, .bool true)] ⟨rfl, rfl, rfl, rfl, rfl, rfl, rfl, rfl, trivial⟩ (fun a w hR hs hf => ?_)
                        refine hK60 _ _ ?_
                        have e56 := some_eq H; subst e56
                        exact hJ56 _ _ ⟨hf.sub ⟨rfl, rfl, rfl, rfl, rfl, rfl, rfl, rfl, trivial⟩, hs⟩
                      · -- not (gd 0 s11.1 y47) < ((gd Actor.zero s7 y47).Min)
                        refine bnd H (fun s61 hs61 H => ?_)
                        refine region_d fol 22 [(5, v8), (6, .int .u64 (Int.tmod a0 200)), (7, v12), (9, .int .u64 x15.1), (10, .int .u64 x15.2), (11, .int .u64 y46), (13, .int .i64 y47)] [(0, v12), (1, .int .i64 y47), (2, .pointer (some (sla v12 (y47.toNat * 1)))), (3, .int .u64 (gd 0 s11.1 y47)), (4, v8), (5, .int .i64 y47), (6, .pointer (some (sla v8 (y47.toNat * 3)))), (7, .pointer (some (sla v8 (y47.toNat * 3 + 1)))), (8, .int .u64 ((gd Actor.zero s7 y47).Min)), (9, .bool false), (10, .bool false), (11, v12), (12, .int .i64 y47), (13, .pointer (some (sla v12 (y47.toNat * 1)))), (14, .int .u64 (gd 0 s11.1 y47)), (15, v8), (16, .int .i64 y47), (17, .pointer (some (sla v8 (y47.toNat * 3)))), (18, .agg #[.int .u64 ((gd Actor.zero s7 y47).Request), .int .u64 ((gd Actor.zero s7 y47).Min), .int .u64 ((gd Actor.zero s7 y47).Max)])] [19] (fun w => (osl K_uint64 v12 s11.1).ok w ∧ (osl K_api_Actor v8 s7).ok w ∧ True) (fun w => St M w0 w [osl K_api_Actor v8 s7, osl K_uint64 v12 s11.1]) hf ⟨rfl, rfl, rfl, rfl, rfl, rfl, rfl, trivial⟩ (by kernel_rfl) (by kernel_rfl) rfl (by decide) ⟨hs.drew.get (i := 1) rfl, hs.drew.get (i := 0) rfl, trivial⟩ hs.drew (.cons (⟨_, _, rfl, rfl, rfl, rfl, fun a w hR hf => .inl ⟨wanted_yes hf rfl, ex_move hf rfl⟩⟩) (.cons (⟨_, _, rfl, rfl, rfl, rfl, fun a w hR hf => .inl ⟨wanted_yes hf rfl, ex_move hf rfl⟩⟩) (.cons (⟨_, _, rfl, rfl, rfl, rfl, fun a w hR hf => .inl ⟨wanted_yes hf rfl, ex_indexAddr sa_40 (rsl_isSl (osl_rsl _ hR.1)) hc57.1 hc57.2 hf rfl rfl⟩⟩) (.cons (⟨_, _, rfl, rfl, rfl, rfl, fun a w hR hf => .inl ⟨wanted_yes hf rfl, ex_load sc_37 hf rfl (el_cell (K := K_uint64) (f := 0) (rsl_rd (osl_rsl _ hR.1)) hc57.1 hc57.2 rfl)⟩⟩) (.cons (⟨_, _, rfl, rfl, rfl, rfl, fun a w hR hf => .inl ⟨wanted_yes hf rfl, ex_move hf rfl⟩⟩) (.cons (⟨_, _, rfl, rfl, rfl, rfl, fun a w hR hf => .inl ⟨wanted_yes hf rfl, ex_move hf rfl⟩⟩) (.cons (⟨_, _, rfl, rfl, rfl, rfl, fun a w hR hf => .inl ⟨wanted_yes hf rfl, ex_indexAddr sa_38 (rsl_isSl (osl_rsl _ hR.2.1)) hc58.1 hc58.2 hf rfl rfl⟩⟩) (.cons (⟨_, _, rfl, rfl, rfl, rfl, fun a w hR hf => .inl ⟨wanted_yes hf rfl, ex_fieldAddrS fa_56_1 rfl hf rfl⟩⟩) (.cons (⟨_, _, rfl, rfl, rfl, rfl, fun a w hR hf => .inl ⟨wanted_yes hf rfl, ex_load sc_37 hf rfl (el_cell (K := K_api_Actor) (f := 1) (rsl_rd (osl_rsl _ hR.2.1)) hc58.1 hc58.2 rfl)⟩⟩) (.cons (⟨_, _, rfl, rfl, rfl, rfl, fun a w hR hf => .inl ⟨wanted_yes hf rfl, ex_castB (ex_lss hf rfl rfl) (dec_f hc59)⟩⟩) (.cons (⟨_, _, rfl, rfl, rfl, rfl, fun a w hR hf => .inl ⟨wanted_yes hf rfl, ex_move hf rfl⟩⟩) (.cons (⟨_, _, rfl, rfl, rfl, rfl, fun a w hR hf => .inl ⟨wanted_yes hf rfl, ex_move hf rfl⟩⟩) (.cons (⟨_, _, rfl, rfl, rfl, rfl, fun a w hR hf => .inl ⟨wanted_yes hf rfl, ex_move hf rfl⟩⟩) (.cons (⟨_, _, rfl, rfl, rfl, rfl, fun a w hR hf => .inl ⟨wanted_yes hf rfl, ex_indexAddr sa_40 (rsl_isSl (osl_rsl _ hR.1)) hc57.1 hc57.2 hf rfl rfl⟩⟩) (.cons (⟨_, _, rfl, rfl, rfl, rfl, fun a w hR hf => .inl ⟨wanted_yes hf rfl, ex_load sc_37 hf rfl (el_cell (K := K_uint64) (f := 0) (rsl_rd (osl_rsl _ hR.1)) hc57.1 hc57.2 rfl)⟩⟩) (.cons (⟨_, _, rfl, rfl, rfl, rfl, fun a w hR hf => .inl ⟨wanted_yes hf rfl, ex_move hf rfl⟩⟩) (.cons (⟨_, _, rfl, rfl, rfl, rfl, fun a w hR hf => .inl ⟨wanted_yes hf rfl, ex_move hf rfl⟩⟩) (.cons (⟨_, _, rfl, rfl, rfl, rfl, fun a w hR hf => .inl ⟨wanted_yes hf rfl, ex_indexAddr sa_38 (rsl_isSl (osl_rsl _ hR.2.1)) hc58.1 hc58.2 hf rfl rfl⟩⟩) (.cons (⟨_, _, rfl, rfl, rfl, rfl, fun a w hR hf => .inl ⟨wanted_yes hf rfl, ex_loadA (cs := [.int .u64 ((gd Actor.zero s7 y47).Request), .int .u64 ((gd Actor.zero s7 y47).Min), .int .u64 ((gd Actor.zero s7 y47).Max)]) ag_56 hf rfl (el_cells (K := K_api_Actor) (rsl_rd (osl_rsl _ hR.2.1)) hc58.1 hc58.2 rfl)⟩⟩) (.nil)))))))))))))))))))) (fun K62 hK62 => ?_)
                        refine RW.one 19 (by kernel_rfl) (by kernel_rfl) rfl (fun d hd => by cases hd; rfl) [(88, .bool false), (96, .agg #[.int .u64 ((gd Actor.zero s7 y47).Request), .int .u64 ((gd Actor.zero s7 y47).Min), .int .u64 ((gd Actor.zero s7 y47).Max)])] ⟨rfl, rfl, trivial⟩ (fun a w hR hs hf => ⟨wanted_yes hf rfl, ?_⟩)
                        refine estep_f (ex_call cf_29 hf rfl) (law39_want.calls k49 (⟨((gd Actor.zero s7 y47).Request), ((gd Actor.zero s7 y47).Min), ((gd Actor.zero s7 y47).Max)⟩ : Actor) (hs.enter (.k (.k .nil))) (Sr.nil _ _) hs61) (fun v w hR => ?_)
                        obtain ⟨rfl, hs'⟩ := hR
                        replace hs := hs.step (.k (.k .nil)) hs'
                        clear hs'
                        refine ⟨[(20, .bool (decide (s61 < (gd 0 s11.1 y47)))), (21, .bool (decide (s61 < (gd 0 s11.1 y47))))], [(20, .bool (decide (s61 < (gd 0 s11.1 y47)))), (21, .bool (decide (s61 < (gd 0 s11.1 y47)))), (19, .int .u64 s61), (0, v12), (1, .int .i64 y47), (2, .pointer (some (sla v12 (y47.toNat * 1)))), (3, .int .u64 (gd 0 s11.1 y47)), (4, v8), (5, .int .i64 y47), (6, .pointer (some (sla v8 (y47.toNat * 3)))), (7, .pointer (some (sla v8 (y47.toNat * 3 + 1)))), (8, .int .u64 ((gd Actor.zero s7 y47).Min)), (9, .bool false), (10, .bool false), (11, v12), (12, .int .i64 y47), (13, .pointer (some (sla v12 (y47.toNat * 1)))), (14, .int .u64 (gd 0 s11.1 y47)), (15, v8), (16, .int .i64 y47), (17, .pointer (some (sla v8 (y47.toNat * 3)))), (18, .agg #[.int .u64 ((gd Actor.zero s7 y47).Request), .int .u64 ((gd Actor.zero s7 y47).Min), .int .u64 ((gd Actor.zero s7 y47).Max)])], [], (fun _ => True), (fun w => St M w0 w [osl K_api_Actor v8 s7, osl K_uint64 v12 s11.1]), rfl, rfl, ⟨hs.get (i := 1) rfl, hs.get (i := 0) rfl, trivial⟩, trivial, hs, (by kernel_rfl), .cons (⟨_, _, rfl, rfl, rfl, rfl, fun a w hR hf => .inl ⟨wanted_yes hf rfl, ex_gtr hf rfl rfl⟩⟩) (.cons (⟨_, _, rfl, rfl, rfl, rfl, fun a w hR hf => .inl ⟨wanted_yes hf rfl, ex_pickF hf rfl rfl⟩⟩) (.nil)), ?_⟩
                        refine RW.zero (by kernel_rfl) (by kernel_rfl) [(5, v8), (6, .int .u64 (Int.tmod a0 200)), (7, v12), (9, .int .u64 x15.1), (10, .int .u64 x15.2), (11, .int .u64 y46), (13, .int .i64 y47), (99, .bool (decide (s61 < (gd 0 s11.1 y47))))] ⟨rfl, rfl, rfl, rfl, rfl, rfl, rfl, rfl, trivial⟩ (fun a w hR hs hf => ?_)
                        refine hK62 _ _ ?_
                        have e56 := some_eq H; subst e56
                        exact hJ56 _ _ ⟨hf.sub ⟨rfl, rfl, rfl, rfl, rfl, rfl, rfl, rfl, trivial⟩, hs⟩
                    · obtain ⟨hf, hs⟩ := hJ
                      replace H := HO56
                      clear HO56
                      refine itt H (fun hc63 H => ?_) (fun hc63 H => ?_)
                      · -- x56 = true
                        replace hf := hf.castB (t := 99) rfl hc63
                        refine cond_T hf rfl ?_
                        refine seq_reg (fun K64 hK64 => ?_)
                        refine stq hf rfl rfl rfl (ex_assign hf rfl) (fun a hf => ?_)
                        refine hK64 _ _ ?_
                        refine wp_ret ?_
                        refine hR55 _ _ ?_
                        refine hR54 _ _ ?_
                        refine hR53 _ _ ?_
                        refine hR49 _ _ ?_
                        refine hR45 _ _ ?_
                        have e43 := some_eq H; subst e43; replace H := el_rt HO43
                        refine hR43 _ _ ?_
                        have eR := some_eq H; subst eR
                        replace hs := hs.keep (.d (.d .nil))
                        exact ret1 Try.results8 hf rfl ⟨_, rfl, ⟨rfl, hs⟩⟩
                      · -- not x56 = true
                        replace hf := hf.castB (t := 99) rfl (bool_f hc63)
                        refine cond_F hf rfl ?_
                        refine wp_skip ?_
                        refine hN55 _ _ ?_
                        refine ck_some H (fun hc65 H => ?_)
                        refine region_k (fun K66 hK66 => ?_)
                        refine stq hf rfl rfl rfl (ex_move hf rfl) (fun a hf => ?_)
                        refine stq hf rfl rfl rfl (ex_move hf rfl) (fun a hf => ?_)
                        refine stq hf rfl rfl rfl (ex_move hf rfl) (fun a hf => ?_)
                        refine stq hf rfl rfl rfl (ex_indexAddr sa_40 (rsl_isSl (osl_rsl _ (hs.get (i := 1) rfl))) hc65.1 hc65.2 hf rfl rfl) (fun a hf => ?_)
                        refine stq hf rfl rfl rfl (ex_load sc_37 hf rfl (el_cell (K := K_uint64) (f := 0) (rsl_rd (osl_rsl _ (hs.get (i := 1) rfl))) hc65.1 hc65.2 rfl)) (fun a hf => ?_)
                        refine stq hf rfl rfl rfl (ex_add hf rfl rfl) (fun a hf => ?_)
                        refine stq hf rfl rfl rfl (ex_assign hf rfl) (fun a hf => ?_)
                        refine hK66 _ _ ?_
                        refine hN54 _ _ ?_
                        refine hN53 _ _ ?_
                        refine region_k (fun K67 hK67 => ?_)
                        refine stq hf rfl rfl rfl (ex_move hf rfl) (fun a hf => ?_)
                        refine stq hf rfl rfl rfl (ex_add hf rfl rfl) (fun a hf => ?_)
                        refine stq hf rfl rfl rfl (ex_assign hf rfl) (fun a hf => ?_)
                        refine hK67 _ _ ?_
                        exact hL49 k49 _ _ (Nat.lt_succ_self _) ⟨(IntKind.u64.wrap (y46 + (gd 0 s11.1 y47))), (IntKind.i64.wrap (y47 + 1)), hf.sub ⟨rfl, rfl, rfl, rfl, rfl, rfl, rfl, trivial⟩, hs, H⟩
                  · -- not y47 < (s11.1.length : Int)
                    replace hf := hf.castB (t := 75) rfl (dec_f hc52)
                    refine cond_F hf rfl ?_
                    refine wp_exit ?_
                    refine hX50 2 _ _ ?_
                    refine hX49 2 _ _ ?_
                    refine hX45 _ _ ?_
                    replace hs := hs.keep (.d (.d .nil))
                    have e43 := some_eq H; subst e43
                    exact hJ43 _ _ ⟨_, rfl, hf.sub ⟨rfl, rfl, rfl, rfl, trivial⟩, hs⟩
            · obtain ⟨x43s, rfl, hf, hs⟩ := hJ
              replace H := el_go HO43
              clear HO43
              refine itt H (fun hc68 H => ?_) (fun hc68 H => ?_)
              · -- x15.1 ≤ (Int.tmod a0 200)
                refine itt H (fun hc69 H => ?_) (fun hc69 H => ?_)
                · -- x43s = (mn (Int.tmod a0 200) x15.2)
                  refine bnd H (fun s70 hs70 H => ?_)
                  refine seq_reg (fun K71 hK71 => ?_)
                  refine stq hf rfl rfl rfl (ex_move hf rfl) (fun a hf => ?_)
                  refine stq hf rfl rfl rfl (ex_move hf rfl) (fun a hf => ?_)
                  refine stq hf rfl rfl rfl (ex_leq hf rfl rfl) (fun a hf => ?_)
                  refine stq hf rfl rfl rfl (ex_move hf rfl) (fun a hf => ?_)
                  replace hf := hf.castB (t := 108) rfl (dec_t hc68)
                  replace hf := hf.castB (t := 109) rfl (dec_t hc68)
                  refine stq hf rfl rfl rfl (ex_move hf rfl) (fun a hf => ?_)
                  refine stq hf rfl rfl rfl (ex_move hf rfl) (fun a hf => ?_)
                  refine stq hf rfl rfl rfl (ex_move hf rfl) (fun a hf => ?_)
                  refine stq hf rfl rfl rfl (ex_min hf rfl rfl) (fun a hf => ?_)
                  refine stq hf rfl rfl rfl (ex_eql hf rfl rfl) (fun a hf => ?_)
                  refine stq hf rfl rfl rfl (ex_pickT hf rfl rfl) (fun a hf => ?_)
                  refine stq hf rfl rfl rfl (ex_move hf rfl) (fun a hf => ?_)
                  replace hf := hf.castB (t := 114) rfl (dec_t hc69)
                  replace hf := hf.castB (t := 115) rfl (dec_t hc69)
                  replace hf := hf.castB (t := 116) rfl (dec_t hc69)
                  refine stepF hf rfl rfl rfl (ex_call cf_10 hf rfl) (law39_awake.calls k (hs.enter .nil) (Sr.nil _ _) hs70) (fun v w hR a hf => ?_)
                  obtain ⟨rfl, hs'⟩ := hR
                  replace hs := hs.step .nil hs'
                  clear hs'
                  refine stq hf rfl rfl rfl (ex_pickT hf rfl rfl) (fun a hf => ?_)
                  refine stq hf rfl rfl rfl (ex_assign hf rfl) (fun a hf => ?_)
                  refine hK71 _ _ ?_
                  refine wp_ret ?_
                  have eR := some_eq H; subst eR
                  exact ret1 Try.results8 hf rfl ⟨_, rfl, ⟨rfl, hs⟩⟩
                · -- not x43s = (mn (Int.tmod a0 200) x15.2)
                  refine seq_reg (fun K72 hK72 => ?_)
                  refine stq hf rfl rfl rfl (ex_move hf rfl) (fun a hf => ?_)
                  refine stq hf rfl rfl rfl (ex_move hf rfl) (fun a hf => ?_)
                  refine stq hf rfl rfl rfl (ex_leq hf rfl rfl) (fun a hf => ?_)
                  refine stq hf rfl rfl rfl (ex_move hf rfl) (fun a hf => ?_)
                  replace hf := hf.castB (t := 108) rfl (dec_t hc68)
                  replace hf := hf.castB (t := 109) rfl (dec_t hc68)
                  refine stq hf rfl rfl rfl (ex_move hf rfl) (fun a hf => ?_)
                  refine stq hf rfl rfl rfl (ex_move hf rfl) (fun a hf => ?_)
                  refine stq hf rfl rfl rfl (ex_move hf rfl) (fun a hf => ?_)
                  refine stq hf rfl rfl rfl (ex_min hf rfl rfl) (fun a hf => ?_)
                  refine stq hf rfl rfl rfl (ex_eql hf rfl rfl) (fun a hf => ?_)
                  refine stq hf rfl rfl rfl (ex_pickT hf rfl rfl) (fun a hf => ?_)
                  refine stq hf rfl rfl rfl (ex_move hf rfl) (fun a hf => ?_)
                  replace hf := hf.castB (t := 114) rfl (dec_f hc69)
                  replace hf := hf.castB (t := 115) rfl (dec_f hc69)
                  replace hf := hf.castB (t := 116) rfl (dec_f hc69)
                  refine stepN hf rfl rfl rfl (fun a hf => ?_)
                  refine stq hf rfl rfl rfl (ex_pickF hf rfl rfl) (fun a hf => ?_)
                  refine stq hf rfl rfl rfl (ex_assign hf rfl) (fun a hf => ?_)
                  refine hK72 _ _ ?_
                  refine wp_ret ?_
                  have eR := some_eq H; subst eR
                  exact ret1 Try.results8 hf rfl ⟨_, rfl, ⟨rfl, hs⟩⟩
              · -- not x15.1 ≤ (Int.tmod a0 200)
                refine seq_reg (fun K73 hK73 => ?_)
                refine stq hf rfl rfl rfl (ex_move hf rfl) (fun a hf => ?_)
                refine stq hf rfl rfl rfl (ex_move hf rfl) (fun a hf => ?_)
                refine stq hf rfl rfl rfl (ex_leq hf rfl rfl) (fun a hf => ?_)
                refine stq hf rfl rfl rfl (ex_move hf rfl) (fun a hf => ?_)
                replace hf := hf.castB (t := 108) rfl (dec_f hc68)
                replace hf := hf.castB (t := 109) rfl (dec_f hc68)
                refine stepN hf rfl rfl rfl (fun a hf => ?_)
                refine stepN hf rfl rfl rfl (fun a hf => ?_)
                refine stepN hf rfl rfl rfl (fun a hf => ?_)
                refine stepN hf rfl rfl rfl (fun a hf => ?_)
                refine stepN hf rfl rfl rfl (fun a hf => ?_)
                refine stq hf rfl rfl rfl (ex_pickF hf rfl rfl) (fun a hf => ?_)
                refine stq hf rfl rfl rfl (ex_move hf rfl) (fun a hf => ?_)
                refine stepN hf rfl rfl rfl (fun a hf => ?_)
                refine stq hf rfl rfl rfl (ex_pickF hf rfl rfl) (fun a hf => ?_)
                refine stq hf rfl rfl rfl (ex_assign hf rfl) (fun a hf => ?_)
                refine hK73 _ _ ?_
                refine wp_ret ?_
                have eR := some_eq H; subst eR
                exact ret1 Try.results8 hf rfl ⟨_, rfl, ⟨rfl, hs⟩⟩
      · -- not s11.2 = 0
        replace hf := hf.castB (t := 49) rfl (ndec_t hc34)
        refine cond_T hf rfl ?_
        refine itt H (fun hc74 H => ?_) (fun hc74 H => ?_)
        · -- s11.2 = 19
          refine itt H (fun hc75 H => ?_) (fun hc75 H => ?_)
          · -- (Int.tmod a0 200) < x15.1
            refine bnd H (fun s76 hs76 H => ?_)
            refine seq_reg (fun K77 hK77 => ?_)
            refine stq hf rfl rfl rfl (ex_move hf rfl) (fun a hf => ?_)
            refine stq hf rfl rfl rfl (ex_eql hf rfl rfl) (fun a hf => ?_)
            refine stq hf rfl rfl rfl (ex_move hf rfl) (fun a hf => ?_)
            replace hf := hf.castB (t := 51) rfl (dec_t hc74)
            replace hf := hf.castB (t := 52) rfl (dec_t hc74)
            refine stq hf rfl rfl rfl (ex_move hf rfl) (fun a hf => ?_)
            refine stq hf rfl rfl rfl (ex_move hf rfl) (fun a hf => ?_)
            refine stq hf rfl rfl rfl (ex_gtr hf rfl rfl) (fun a hf => ?_)
            refine stq hf rfl rfl rfl (ex_pickT hf rfl rfl) (fun a hf => ?_)
            refine stq hf rfl rfl rfl (ex_move hf rfl) (fun a hf => ?_)
            replace hf := hf.castB (t := 55) rfl (dec_t hc75)
            replace hf := hf.castB (t := 56) rfl (dec_t hc75)
            replace hf := hf.castB (t := 57) rfl (dec_t hc75)
            refine stepF hf rfl rfl rfl (ex_call cf_10 hf rfl) (law39_awake.calls k (hs.enter (.k (.k .nil))) (Sr.nil _ _) hs76) (fun v w hR a hf => ?_)
            obtain ⟨rfl, hs'⟩ := hR
            replace hs := hs.step (.k (.k .nil)) hs'
            clear hs'
            refine stq hf rfl rfl rfl (ex_pickT hf rfl rfl) (fun a hf => ?_)
            refine stq hf rfl rfl rfl (ex_assign hf rfl) (fun a hf => ?_)
            refine hK77 _ _ ?_
            refine wp_ret ?_
            refine hR32 _ _ ?_
            have eR := some_eq H; subst eR
            replace hs := hs.keep (.d (.d .nil))
            exact ret1 Try.results8 hf rfl ⟨_, rfl, ⟨rfl, hs⟩⟩
          · -- not (Int.tmod a0 200) < x15.1
            refine seq_reg (fun K78 hK78 => ?_)
            refine stq hf rfl rfl rfl (ex_move hf rfl) (fun a hf => ?_)
            refine stq hf rfl rfl rfl (ex_eql hf rfl rfl) (fun a hf => ?_)
            refine stq hf rfl rfl rfl (ex_move hf rfl) (fun a hf => ?_)
            replace hf := hf.castB (t := 51) rfl (dec_t hc74)
            replace hf := hf.castB (t := 52) rfl (dec_t hc74)
            refine stq hf rfl rfl rfl (ex_move hf rfl) (fun a hf => ?_)
            refine stq hf rfl rfl rfl (ex_move hf rfl) (fun a hf => ?_)
            refine stq hf rfl rfl rfl (ex_gtr hf rfl rfl) (fun a hf => ?_)
            refine stq hf rfl rfl rfl (ex_pickT hf rfl rfl) (fun a hf => ?_)
            refine stq hf rfl rfl rfl (ex_move hf rfl) (fun a hf => ?_)
            replace hf := hf.castB (t := 55) rfl (dec_f hc75)
            replace hf := hf.castB (t := 56) rfl (dec_f hc75)
            replace hf := hf.castB (t := 57) rfl (dec_f hc75)
            refine stepN hf rfl rfl rfl (fun a hf => ?_)
            refine stq hf rfl rfl rfl (ex_pickF hf rfl rfl) (fun a hf => ?_)
            refine stq hf rfl rfl rfl (ex_assign hf rfl) (fun a hf => ?_)
            refine hK78 _ _ ?_
            refine wp_ret ?_
            refine hR32 _ _ ?_
            have eR := some_eq H; subst eR
            replace hs := hs.keep (.d (.d .nil))
            exact ret1 Try.results8 hf rfl ⟨_, rfl, ⟨rfl, hs⟩⟩
        · -- not s11.2 = 19
          refine seq_reg (fun K79 hK79 => ?_)
          refine stq hf rfl rfl rfl (ex_move hf rfl) (fun a hf => ?_)
          refine stq hf rfl rfl rfl (ex_eql hf rfl rfl) (fun a hf => ?_)
          refine stq hf rfl rfl rfl (ex_move hf rfl) (fun a hf => ?_)
          replace hf := hf.castB (t := 51) rfl (dec_f hc74)
          replace hf := hf.castB (t := 52) rfl (dec_f hc74)
          refine stepN hf rfl rfl rfl (fun a hf => ?_)
          refine stepN hf rfl rfl rfl (fun a hf => ?_)
          refine stepN hf rfl rfl rfl (fun a hf => ?_)
          refine stq hf rfl rfl rfl (ex_pickF hf rfl rfl) (fun a hf => ?_)
          refine stq hf rfl rfl rfl (ex_move hf rfl) (fun a hf => ?_)
          refine stepN hf rfl rfl rfl (fun a hf => ?_)
          refine stq hf rfl rfl rfl (ex_pickF hf rfl rfl) (fun a hf => ?_)
          refine stq hf rfl rfl rfl (ex_assign hf rfl) (fun a hf => ?_)
          refine hK79 _ _ ?_
          refine wp_ret ?_
          refine hR32 _ _ ?_
          have eR := some_eq H; subst eR
          replace hs := hs.keep (.d (.d .nil))
          exact ret1 Try.results8 hf rfl ⟨_, rfl, ⟨rfl, hs⟩⟩

end Go.Proofs.Ytkcmohmnmapnbaa.X
