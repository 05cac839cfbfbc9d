/- Each function of the machine comes to what its pure function says. -/
import Derived.Test.YtannodkbindlbaaFc2
import Derived.Test.YtannodkbindlbaaFc3
import Derived.Test.YtannodkbindlbaaFc4
import Derived.Test.YtannodkbindlbaaFc5
import Derived.Test.YtannodkbindlbaaFc6
import Derived.Test.YtannodkbindlbaaFb
namespace Go.Proofs.Ytannodkbindlbaa.X
open Go Go.RowKit Go.Sx
set_option linter.unusedVariables false

set_option maxHeartbeats 4000000 in
set_option maxRecDepth 100000 in
theorem law39_ThermalThrottledGovernor.calls {M : Nat → Prop} {w0 : World} (k : Nat) (a0 : HeatDomain) (a1 : Int) (a2 : Int) (a3 : (List OperatingPoint)) (a4 : (List Int)) (v3 : Value) (v4 : Value) {r : Bool} (hs : St M w0 w0 []) (hr : Sr M w0 [rsl K_api_OperatingPoint v3 a3, rsl K_int v4 a4])
    (h : law39_ThermalThrottledGovernor.f k a0 a1 a2 a3 a4 = some r) : Calls Try.prog 8 #[.agg #[.int .i64 a0.Capacity, .int .i64 a0.Ambient], .int .i64 a1, .int .i64 a2, v3, v4] w0 fun e w => ∃ v, e = .returned v ∧ (.bool r = v ∧ St M w0 w []) := by
  have H := (law39_ThermalThrottledGovernor.f.eq_1 ..).symm.trans h
  clear h
  refine enter Try.func8 rfl Try.ntmps8 rfl (fun a hf => ?_)
  refine seq_reg (fun K2 hK2 => ?_)
  refine stepV hf rfl rfl rfl (er_box (cs := [.int .i64 a0.Capacity, .int .i64 a0.Ambient]) hs hf rfl rfl) (fun v w hR a hf => ?_)
  obtain ⟨b1, rfl, hs⟩ := hR
  refine stq hf rfl rfl rfl (ex_assign hf rfl) (fun a hf => ?_)
  refine hK2 _ _ ?_
  refine seq_n (fun Q3 hN3 hR3 hX3 => ?_)
  refine bnd H (fun x4 H4 HO4 => ?_)
  clear H
  refine seq_cut (fun a w => Fr a 169 [(1, .int .i64 a1), (2, .int .i64 a2), (3, v3), (4, v4), (5, .pointer (some ⟨b1, 0, none⟩)), (34, .bool x4)] ∧ St M w0 w [bx b1 33 [.int .i64 a0.Capacity, .int .i64 a0.Ambient]]) (fun Q4 hJ4 hR4 hX4 => ?_) (fun a w hJ => ?_)
  · replace H := H4
    refine itt H (fun hc5 H => ?_) (fun hc5 H => ?_)
    · -- 20 < (a3.length : Int)
      refine region_k (fun K6 hK6 => ?_)
      refine stq hf rfl rfl rfl (ex_move hf rfl) (fun a hf => ?_)
      refine stq hf rfl rfl rfl (ex_lenS Try.underlying22 (rsl_isSl (hr.now hs (i := 0) rfl)) hf rfl) (fun a hf => ?_)
      refine stq hf rfl rfl rfl (ex_gtr hf rfl rfl) (fun a hf => ?_)
      refine stq hf rfl rfl rfl (ex_move hf rfl) (fun a hf => ?_)
      replace hf := hf.castB (t := 29) rfl (dec_t hc5)
      replace hf := hf.castB (t := 30) rfl (dec_t hc5)
      refine stepN hf rfl rfl rfl (fun a hf => ?_)
      refine stepN hf rfl rfl rfl (fun a hf => ?_)
      refine stepN hf rfl rfl rfl (fun a hf => ?_)
      refine stq hf rfl rfl rfl (ex_pickT hf rfl rfl) (fun a hf => ?_)
      refine hK6 _ _ ?_
      have e4 := some_eq H; subst e4
      exact hJ4 _ _ ⟨hf.sub ⟨rfl, rfl, rfl, rfl, rfl, rfl, trivial⟩, hs⟩
    · -- not 20 < (a3.length : Int)
      refine region_k (fun K7 hK7 => ?_)
      refine stq hf rfl rfl rfl (ex_move hf rfl) (fun a hf => ?_)
      refine stq hf rfl rfl rfl (ex_lenS Try.underlying22 (rsl_isSl (hr.now hs (i := 0) rfl)) hf rfl) (fun a hf => ?_)
      refine stq hf rfl rfl rfl (ex_gtr hf rfl rfl) (fun a hf => ?_)
      refine stq hf rfl rfl rfl (ex_move hf rfl) (fun a hf => ?_)
      replace hf := hf.castB (t := 29) rfl (dec_f hc5)
      replace hf := hf.castB (t := 30) rfl (dec_f hc5)
      refine stq hf rfl rfl rfl (ex_move hf rfl) (fun a hf => ?_)
      refine stq hf rfl rfl rfl (ex_lenS Try.underlying71 (rsl_isSl (hr.now hs (i := 1) rfl)) hf rfl) (fun a hf => ?_)
      refine stq hf rfl rfl rfl (ex_gtr hf rfl rfl) (fun a hf => ?_)
      refine stq hf rfl rfl rfl (ex_pickF hf rfl rfl) (fun a hf => ?_)
      refine hK7 _ _ ?_
      have e4 := some_eq H; subst e4
      exact hJ4 _ _ ⟨hf.sub ⟨rfl, rfl, rfl, rfl, rfl, rfl, trivial⟩, hs⟩
  · obtain ⟨hf, hs⟩ := hJ
    replace H := HO4
    clear HO4
    refine itt H (fun hc8 H => ?_) (fun hc8 H => ?_)
    · -- x4 = true
      replace hf := hf.castB (t := 34) rfl hc8
      refine cond_T hf rfl ?_
      refine bnd H (fun s9 hs9 H => ?_)
      refine seq_reg (fun K10 hK10 => ?_)
      refine stepF hf rfl rfl rfl (ex_call cf_9 hf rfl) (law39_awake.calls k (hs.enter (.k .nil)) (Sr.nil _ _) hs9) (fun v w hR a hf => ?_)
      obtain ⟨rfl, hs'⟩ := hR
      replace hs := hs.step (.k .nil) hs'
      clear hs'
      refine stq hf rfl rfl rfl (ex_assign hf rfl) (fun a hf => ?_)
      refine hK10 _ _ ?_
      refine wp_ret ?_
      refine hR3 _ _ ?_
      have eR := some_eq H; subst eR
      replace hs := hs.keep (.d .nil)
      exact ret1 Try.results8 hf rfl ⟨_, rfl, ⟨rfl, hs⟩⟩
    · -- not x4 = true
      replace hf := hf.castB (t := 34) rfl (bool_f hc8)
      refine cond_F hf rfl ?_
      refine wp_skip ?_
      refine hN3 _ _ ?_
      refine bnd H (fun s12 hs12 H => ?_)
      refine seq_reg (fun K16 hK16 => ?_)
      refine stq hf rfl rfl rfl (ex_loadA (cs := [.int .i64 a0.Capacity, .int .i64 a0.Ambient]) ag_33 hf rfl (bx_cells (hs.get (i := 0) rfl) rfl)) (fun a hf => ?_)
      refine stepV hf rfl rfl rfl (er_buildSlice (K := K_api_HeatDomain) (xs := [a0]) hs Try.underlying35 ep_33 rfl rfl hf rfl (.cons rfl .nil) rfl rfl) (fun v11 w hs a hf => ?_)
      refine stq hf rfl rfl rfl (ex_move hf rfl) (fun a hf => ?_)
      refine stepF hf rfl rfl rfl (ex_call cf_13 hf rfl) (law38_Some.calls k [a0] [] a1 v11 (.slice none 0 0) (hs.enter (.k (.k .nil))) (Sr.own hs (.k (.k .nil)) (i := 0) rfl osl_rsl (fun _ h => h.1) (Sr.free (nil_rsl _ _) nil_fs (Sr.nil _ _))) hs12) (fun v w hR a hf => ?_)
      obtain ⟨v13, v14, rfl, hs'⟩ := hR
      replace hs := hs.step (.k (.k .nil)) hs'
      clear hs'
      refine stepV hf rfl rfl rfl (er_alloc hs ti_38 (cs := [(.slice none 0 0), (.slice none 0 0), .int .i64 0]) rfl) (fun v w hR a hf => ?_)
      obtain ⟨b15, rfl, hs⟩ := hR
      refine stepS hf rfl rfl (er_storeAB (vs := [v13, v14, .int .i64 s12.2.2]) (cs' := [v13, v14, .int .i64 s12.2.2]) hs (.c (.k (.k (.k (.k .nil))))) sz_38 hf rfl rfl (all1 (IsSl.one (rsl_isSl (osl_rsl _ (hs.get (i := 1) rfl)))) (all1 (IsSl.one (rsl_isSl (osl_rsl _ (hs.get (i := 2) rfl)))) (all1 rfl (all1_nil)))) rfl rfl) (fun w hs => ?_)
      refine hK16 _ _ ?_
      refine seq_reg (fun K17 hK17 => ?_)
      refine stq hf rfl rfl rfl (ex_fieldAddrB fa_38_2 rfl hf rfl) (fun a hf => ?_)
      refine stq hf rfl rfl rfl (ex_load sc_2 hf rfl (bx_cell (hs.get (i := 0) rfl) _ rfl)) (fun a hf => ?_)
      refine stq hf rfl rfl rfl (ex_move hf rfl) (fun a hf => ?_)
      refine stq hf rfl rfl rfl (ex_conv Try.underlying2 Try.underlying23 hf rfl) (fun a hf => ?_)
      refine stq hf rfl rfl rfl (ex_rem hf rfl rfl (by decide)) (fun a hf => ?_)
      refine stq hf rfl rfl rfl (ex_conv Try.underlying23 Try.underlying2 hf rfl) (fun a hf => ?_)
      refine stq hf rfl rfl rfl (ex_add hf rfl rfl) (fun a hf => ?_)
      refine stq hf rfl rfl rfl (ex_assign hf rfl) (fun a hf => ?_)
      refine hK17 _ _ ?_
      refine seq_n (fun Q18 hN18 hR18 hX18 => ?_)
      refine ck_some H (fun hc19 H => ?_)
      refine bnd H (fun s20 hs20 H => ?_)
      refine region_d fol 12 [(3, v3), (4, v4), (11, .pointer (some ⟨b15, 0, none⟩)), (12, .int .i64 (IntKind.i64.wrap (s12.2.2 + (IntKind.i64.wrap (Int.tmod (IntKind.u64.wrap a2) 60)))))] [(0, .pointer (some ⟨b15, 0, none⟩)), (1, v13), (2, .pointer (some (sla v13 ((0 : Int).toNat * 2)))), (3, .agg #[.int .i64 ((gd HeatDomain.zero s12.1 0).Capacity), .int .i64 ((gd HeatDomain.zero s12.1 0).Ambient)]), (4, .pointer (some ⟨b15, 2, none⟩)), (5, .int .i64 s12.2.2), (6, .int .i64 (IntKind.i64.wrap (s12.2.2 + (IntKind.i64.wrap (Int.tmod (IntKind.u64.wrap a2) 60)))))] [7] (fun w => (bx b15 38 [v13, v14, .int .i64 s12.2.2]).ok w ∧ (osl K_api_HeatDomain v13 s12.1).ok w ∧ True) (fun w => St M w0 w [bx b15 38 [v13, v14, .int .i64 s12.2.2], osl K_api_HeatDomain v13 s12.1, osl K_api_HeatLink v14 s12.2.1, osl K_api_HeatDomain v11 [a0], bx b1 33 [.int .i64 a0.Capacity, .int .i64 a0.Ambient]]) hf ⟨rfl, rfl, rfl, rfl, trivial⟩ (by kernel_rfl) (by kernel_rfl) rfl (by decide) ⟨hs.drew.get (i := 0) rfl, hs.drew.get (i := 1) rfl, trivial⟩ hs.drew (.cons (⟨_, _, rfl, rfl, rfl, rfl, fun a w hR hf => .inl ⟨wanted_yes hf rfl, ex_fieldAddrB fa_38_0 rfl hf rfl⟩⟩) (.cons (⟨_, _, rfl, rfl, rfl, rfl, fun a w hR hf => .inl ⟨wanted_yes hf rfl, ex_load sc_35 hf rfl (bx_cell (hR.1) _ rfl)⟩⟩) (.cons (⟨_, _, rfl, rfl, rfl, rfl, fun a w hR hf => .inl ⟨wanted_yes hf rfl, ex_indexAddr sa_35 (rsl_isSl (osl_rsl _ hR.2.1)) hc19.1 hc19.2 hf rfl rfl⟩⟩) (.cons (⟨_, _, rfl, rfl, rfl, rfl, fun a w hR hf => .inl ⟨wanted_yes hf rfl, ex_loadA (cs := [.int .i64 ((gd HeatDomain.zero s12.1 0).Capacity), .int .i64 ((gd HeatDomain.zero s12.1 0).Ambient)]) ag_33 hf rfl (el_cells (K := K_api_HeatDomain) (rsl_rd (osl_rsl _ hR.2.1)) hc19.1 hc19.2 rfl)⟩⟩) (.cons (⟨_, _, rfl, rfl, rfl, rfl, fun a w hR hf => .inl ⟨wanted_yes hf rfl, ex_fieldAddrB fa_38_2 rfl hf rfl⟩⟩) (.cons (⟨_, _, rfl, rfl, rfl, rfl, fun a w hR hf => .inl ⟨wanted_yes hf rfl, ex_load sc_2 hf rfl (bx_cell (hR.1) _ rfl)⟩⟩) (.cons (⟨_, _, rfl, rfl, rfl, rfl, fun a w hR hf => .inl ⟨wanted_yes hf rfl, ex_move hf rfl⟩⟩) (.nil)))))))) (fun K21 hK21 => ?_)
      refine RW.one 7 (by kernel_rfl) (by kernel_rfl) rfl (fun d hd => by cases hd; rfl) [(51, .agg #[.int .i64 ((gd HeatDomain.zero s12.1 0).Capacity), .int .i64 ((gd HeatDomain.zero s12.1 0).Ambient)]), (53, .int .i64 s12.2.2), (54, .int .i64 (IntKind.i64.wrap (s12.2.2 + (IntKind.i64.wrap (Int.tmod (IntKind.u64.wrap a2) 60)))))] ⟨rfl, rfl, rfl, trivial⟩ (fun a w hR hs hf => ⟨wanted_yes hf rfl, ?_⟩)
      refine estep_f (ex_call cf_14 hf rfl) (thermal_Sustainable.calls k (⟨((gd HeatDomain.zero s12.1 0).Capacity), ((gd HeatDomain.zero s12.1 0).Ambient)⟩ : HeatDomain) s12.2.2 (IntKind.i64.wrap (s12.2.2 + (IntKind.i64.wrap (Int.tmod (IntKind.u64.wrap a2) 60)))) (hs.enter (.k (.k (.k (.k (.k .nil)))))) (Sr.nil _ _) hs20) (fun v w hR => ?_)
      obtain ⟨rfl, hs'⟩ := hR
      replace hs := hs.step (.k (.k (.k (.k (.k .nil))))) hs'
      clear hs'
      refine ⟨[(8, .tuple #[.int .i64 s20.1, .int .i64 s20.2]), (9, .int .i64 s20.1), (10, .int .i64 s20.2), (11, .int .i64 s20.1)], [(8, .tuple #[.int .i64 s20.1, .int .i64 s20.2]), (9, .int .i64 s20.1), (10, .int .i64 s20.2), (11, .int .i64 s20.1), (7, .tuple #[.int .i64 s20.1, .int .i64 s20.2]), (0, .pointer (some ⟨b15, 0, none⟩)), (1, v13), (2, .pointer (some (sla v13 ((0 : Int).toNat * 2)))), (3, .agg #[.int .i64 ((gd HeatDomain.zero s12.1 0).Capacity), .int .i64 ((gd HeatDomain.zero s12.1 0).Ambient)]), (4, .pointer (some ⟨b15, 2, none⟩)), (5, .int .i64 s12.2.2), (6, .int .i64 (IntKind.i64.wrap (s12.2.2 + (IntKind.i64.wrap (Int.tmod (IntKind.u64.wrap a2) 60)))))], [], (fun _ => True), (fun w => St M w0 w [bx b15 38 [v13, v14, .int .i64 s12.2.2], osl K_api_HeatDomain v13 s12.1, osl K_api_HeatLink v14 s12.2.1, osl K_api_HeatDomain v11 [a0], bx b1 33 [.int .i64 a0.Capacity, .int .i64 a0.Ambient]]), rfl, rfl, ⟨hs.get (i := 0) rfl, hs.get (i := 1) rfl, trivial⟩, trivial, hs, (by kernel_rfl), .cons (⟨_, _, rfl, rfl, rfl, rfl, fun a w hR hf => .inl ⟨wanted_yes hf rfl, ex_move hf rfl⟩⟩) (.cons (⟨_, _, rfl, rfl, rfl, rfl, fun a w hR hf => .inl ⟨wanted_yes hf rfl, ex_extract hf rfl rfl⟩⟩) (.cons (⟨_, _, rfl, rfl, rfl, rfl, fun a w hR hf => .inl ⟨wanted_yes hf rfl, ex_extract hf rfl rfl⟩⟩) (.cons (⟨_, _, rfl, rfl, rfl, rfl, fun a w hR hf => .inl ⟨wanted_yes hf rfl, ex_assign hf rfl⟩⟩) (.nil)))), ?_⟩
      refine RW.zero (by kernel_rfl) (by kernel_rfl) [(3, v3), (4, v4), (11, .pointer (some ⟨b15, 0, none⟩)), (12, .int .i64 (IntKind.i64.wrap (s12.2.2 + (IntKind.i64.wrap (Int.tmod (IntKind.u64.wrap a2) 60))))), (13, .int .i64 s20.1), (57, .int .i64 s20.2)] ⟨rfl, rfl, rfl, rfl, rfl, rfl, trivial⟩ (fun a w hR hs hf => ?_)
      refine stq hf rfl rfl rfl (ex_assign hf rfl) (fun a hf => ?_)
      refine hK21 _ _ ?_
      refine hN18 _ _ ?_
      refine seq_n (fun Q22 hN22 hR22 hX22 => ?_)
      refine bnd H (fun s23 hs23 H => ?_)
      cases hps23 : s23.1 with
      | none =>
        replace H := elim_n hps23 H
        refine region_k (fun K25 hK25 => ?_)
        refine stq hf rfl rfl rfl (ex_fieldAddrB fa_38_0 rfl hf rfl) (fun a hf => ?_)
        refine stq hf rfl rfl rfl (ex_load sc_35 hf rfl (bx_cell (hs.get (i := 0) rfl) _ rfl)) (fun a hf => ?_)
        refine stq hf rfl rfl rfl (ex_fieldAddrB fa_38_2 rfl hf rfl) (fun a hf => ?_)
        refine stq hf rfl rfl rfl (ex_load sc_2 hf rfl (bx_cell (hs.get (i := 0) rfl) _ rfl)) (fun a hf => ?_)
        refine stepF hf rfl rfl rfl (ex_call cf_15 hf rfl) (heat_New.calls k s12.1 [] s12.2.2 v13 (.slice none 0 0) (hs.enter (.k (.k (.k (.k (.k .nil)))))) (Sr.own hs (.k (.k (.k (.k (.k .nil))))) (i := 1) rfl osl_rsl (fun _ h => h.1) (Sr.free (nil_rsl _ _) nil_fs (Sr.nil _ _))) hs23) (fun v w hR a hf => ?_)
        obtain ⟨_, rfl, hs'⟩ | ⟨_, hc', _⟩ := hR
        case inr => rw [hps23] at hc'; cases hc'
        replace hs := hs.step (.k (.k (.k (.k (.k .nil))))) hs'
        clear hs'
        refine stq hf rfl rfl rfl (ex_move hf rfl) (fun a hf => ?_)
        refine stq hf rfl rfl rfl (ex_extract hf rfl rfl) (fun a hf => ?_)
        refine stq hf rfl rfl rfl (ex_extract hf rfl rfl) (fun a hf => ?_)
        refine stq hf rfl rfl rfl (ex_assign hf rfl) (fun a hf => ?_)
        refine stq hf rfl rfl rfl (ex_assign hf rfl) (fun a hf => ?_)
        refine hK25 _ _ ?_
        refine hN22 _ _ ?_
        refine bnd H (fun s26 hs26 H => ?_)
        refine seq_reg (fun K28 hK28 => ?_)
        refine stq hf rfl rfl rfl (ex_move hf rfl) (fun a hf => ?_)
        refine stepF hf rfl rfl rfl (ex_call cf_10 hf rfl) (law36_Table.calls k a3 v3 (hs.enter (.k (.k (.k (.k (.k .nil)))))) (Sr.old hr hs (.k (.k (.k (.k (.k .nil))))) (i := 0) rfl (fun _ h => h) (fun _ h => h) (Sr.nil _ _)) hs26) (fun v w hR a hf => ?_)
        obtain ⟨v27, rfl, hs'⟩ := hR
        replace hs := hs.step (.k (.k (.k (.k (.k .nil))))) hs'
        clear hs'
        refine stq hf rfl rfl rfl (ex_assign hf rfl) (fun a hf => ?_)
        refine hK28 _ _ ?_
        refine seq_n (fun Q29 hN29 hR29 hX29 => ?_)
        refine bnd H (fun s30 hs30 H => ?_)
        cases hps30 : s30.1 with
        | none =>
          replace H := elim_n hps30 H
          refine region_k (fun K32 hK32 => ?_)
          refine stq hf rfl rfl rfl (ex_move hf rfl) (fun a hf => ?_)
          refine stq hf rfl rfl rfl (ex_build (cs := [.int .i64 80, .int .i64 30, .int .i64 2]) bt_76 hf rfl (.cons rfl (.cons rfl (.cons rfl .nil))) rfl) (fun a hf => ?_)
          refine stepF hf rfl rfl rfl (ex_call cf_23 hf rfl) (perf_New.calls k s26 (⟨80, 30, 2⟩ : GovernorParams) v27 (hs.enter (.k (.k (.k (.k (.k (.k .nil))))))) (Sr.own hs (.k (.k (.k (.k (.k (.k .nil)))))) (i := 0) rfl osl_rsl (fun _ h => h.1) (Sr.nil _ _)) hs30) (fun v w hR a hf => ?_)
          obtain ⟨_, rfl, hs'⟩ | ⟨_, hc', _⟩ := hR
          case inr => rw [hps30] at hc'; cases hc'
          replace hs := hs.step (.k (.k (.k (.k (.k (.k .nil)))))) hs'
          clear hs'
          refine stq hf rfl rfl rfl (ex_move hf rfl) (fun a hf => ?_)
          refine stq hf rfl rfl rfl (ex_extract hf rfl rfl) (fun a hf => ?_)
          refine stq hf rfl rfl rfl (ex_extract hf rfl rfl) (fun a hf => ?_)
          refine stq hf rfl rfl rfl (ex_assign hf rfl) (fun a hf => ?_)
          refine stq hf rfl rfl rfl (ex_assign hf rfl) (fun a hf => ?_)
          refine hK32 _ _ ?_
          refine hN29 _ _ ?_
          refine seq_n (fun Q33 hN33 hR33 hX33 => ?_)
          refine bnd H (fun x34 H34 HO34 => ?_)
          clear H
          refine seq_cut (fun a w => Fr a 169 [(4, v4), (12, .int .i64 (IntKind.i64.wrap (s12.2.2 + (IntKind.i64.wrap (Int.tmod (IntKind.u64.wrap a2) 60))))), (13, .int .i64 s20.1), (15, .pointer none), (17, v27), (18, .pointer none), (95, .bool true)] ∧ St M w0 w [osl K_api_OperatingPoint v27 s26]) (fun Q34 hJ34 hR34 hX34 => ?_) (fun a w hJ => ?_)
          · replace H := H34
            refine itt H (fun hc35 H => ?_) (fun hc35 H => ?_)
            · -- s20.2 = 0
              refine itt H (fun hc36 H => ?_) (fun hc36 H => ?_)
              · -- s23.2 = 0
                refine itt H (fun hc37 H => ?_) (fun hc37 H => ?_)
                · -- s30.2 = 0
                  refine region_k (fun K38 hK38 => ?_)
                  refine stq hf rfl rfl rfl (ex_move hf rfl) (fun a hf => ?_)
                  refine stq hf rfl rfl rfl (ex_neq hf rfl rfl) (fun a hf => ?_)
                  refine stq hf rfl rfl rfl (ex_move hf rfl) (fun a hf => ?_)
                  replace hf := hf.castB (t := 75) rfl (ndec_f hc35)
                  replace hf := hf.castB (t := 76) rfl (ndec_f hc35)
                  refine stq hf rfl rfl rfl (ex_move hf rfl) (fun a hf => ?_)
                  refine stq hf rfl rfl rfl (ex_neq hf rfl rfl) (fun a hf => ?_)
                  refine stq hf rfl rfl rfl (ex_pickF hf rfl rfl) (fun a hf => ?_)
                  refine stq hf rfl rfl rfl (ex_move hf rfl) (fun a hf => ?_)
                  replace hf := hf.castB (t := 78) rfl (ndec_f hc36)
                  replace hf := hf.castB (t := 79) rfl (ndec_f hc36)
                  replace hf := hf.castB (t := 80) rfl (ndec_f hc36)
                  refine stq hf rfl rfl rfl (ex_move hf rfl) (fun a hf => ?_)
                  refine stq hf rfl rfl rfl (ex_neq hf rfl rfl) (fun a hf => ?_)
                  refine stq hf rfl rfl rfl (ex_pickF hf rfl rfl) (fun a hf => ?_)
                  refine stq hf rfl rfl rfl (ex_move hf rfl) (fun a hf => ?_)
                  replace hf := hf.castB (t := 82) rfl (ndec_f hc37)
                  replace hf := hf.castB (t := 83) rfl (ndec_f hc37)
                  replace hf := hf.castB (t := 84) rfl (ndec_f hc37)
                  refine stq hf rfl rfl rfl (ex_move hf rfl) (fun a hf => ?_)
                  refine stq hf rfl rfl rfl (ex_eqp Try.underlying42 hf rfl rfl) (fun a hf => ?_)
                  refine stq hf rfl rfl rfl (ex_pickF hf rfl rfl) (fun a hf => ?_)
                  refine stq hf rfl rfl rfl (ex_move hf rfl) (fun a hf => ?_)
                  refine stepN hf rfl rfl rfl (fun a hf => ?_)
                  refine stepN hf rfl rfl rfl (fun a hf => ?_)
                  refine stq hf rfl rfl rfl (ex_pickT hf rfl rfl) (fun a hf => ?_)
                  refine stq hf rfl rfl rfl (ex_move hf rfl) (fun a hf => ?_)
                  refine stepN hf rfl rfl rfl (fun a hf => ?_)
                  refine stepN hf rfl rfl rfl (fun a hf => ?_)
                  refine stq hf rfl rfl rfl (ex_pickT hf rfl rfl) (fun a hf => ?_)
                  refine hK38 _ _ ?_
                  replace hs := hs.keep (.k (.d (.d (.d (.d (.d .nil))))))
                  have e34 := some_eq H; subst e34
                  exact hJ34 _ _ ⟨hf.sub ⟨rfl, rfl, rfl, rfl, rfl, rfl, rfl, trivial⟩, hs⟩
                · -- not s30.2 = 0
                  refine region_k (fun K39 hK39 => ?_)
                  refine stq hf rfl rfl rfl (ex_move hf rfl) (fun a hf => ?_)
                  refine stq hf rfl rfl rfl (ex_neq hf rfl rfl) (fun a hf => ?_)
                  refine stq hf rfl rfl rfl (ex_move hf rfl) (fun a hf => ?_)
                  replace hf := hf.castB (t := 75) rfl (ndec_f hc35)
                  replace hf := hf.castB (t := 76) rfl (ndec_f hc35)
                  refine stq hf rfl rfl rfl (ex_move hf rfl) (fun a hf => ?_)
                  refine stq hf rfl rfl rfl (ex_neq hf rfl rfl) (fun a hf => ?_)
                  refine stq hf rfl rfl rfl (ex_pickF hf rfl rfl) (fun a hf => ?_)
                  refine stq hf rfl rfl rfl (ex_move hf rfl) (fun a hf => ?_)
                  replace hf := hf.castB (t := 78) rfl (ndec_f hc36)
                  replace hf := hf.castB (t := 79) rfl (ndec_f hc36)
                  replace hf := hf.castB (t := 80) rfl (ndec_f hc36)
                  refine stq hf rfl rfl rfl (ex_move hf rfl) (fun a hf => ?_)
                  refine stq hf rfl rfl rfl (ex_neq hf rfl rfl) (fun a hf => ?_)
                  refine stq hf rfl rfl rfl (ex_pickF hf rfl rfl) (fun a hf => ?_)
                  refine stq hf rfl rfl rfl (ex_move hf rfl) (fun a hf => ?_)
                  replace hf := hf.castB (t := 82) rfl (ndec_t hc37)
                  replace hf := hf.castB (t := 83) rfl (ndec_t hc37)
                  replace hf := hf.castB (t := 84) rfl (ndec_t hc37)
                  refine stepN hf rfl rfl rfl (fun a hf => ?_)
                  refine stepN hf rfl rfl rfl (fun a hf => ?_)
                  refine stq hf rfl rfl rfl (ex_pickT hf rfl rfl) (fun a hf => ?_)
                  refine stq hf rfl rfl rfl (ex_move hf rfl) (fun a hf => ?_)
                  refine stepN hf rfl rfl rfl (fun a hf => ?_)
                  refine stepN hf rfl rfl rfl (fun a hf => ?_)
                  refine stq hf rfl rfl rfl (ex_pickT hf rfl rfl) (fun a hf => ?_)
                  refine stq hf rfl rfl rfl (ex_move hf rfl) (fun a hf => ?_)
                  refine stepN hf rfl rfl rfl (fun a hf => ?_)
                  refine stepN hf rfl rfl rfl (fun a hf => ?_)
                  refine stq hf rfl rfl rfl (ex_pickT hf rfl rfl) (fun a hf => ?_)
                  refine hK39 _ _ ?_
                  replace hs := hs.keep (.k (.d (.d (.d (.d (.d .nil))))))
                  have e34 := some_eq H; subst e34
                  exact hJ34 _ _ ⟨hf.sub ⟨rfl, rfl, rfl, rfl, rfl, rfl, rfl, trivial⟩, hs⟩
              · -- not s23.2 = 0
                refine region_k (fun K40 hK40 => ?_)
                refine stq hf rfl rfl rfl (ex_move hf rfl) (fun a hf => ?_)
                refine stq hf rfl rfl rfl (ex_neq hf rfl rfl) (fun a hf => ?_)
                refine stq hf rfl rfl rfl (ex_move hf rfl) (fun a hf => ?_)
                replace hf := hf.castB (t := 75) rfl (ndec_f hc35)
                replace hf := hf.castB (t := 76) rfl (ndec_f hc35)
                refine stq hf rfl rfl rfl (ex_move hf rfl) (fun a hf => ?_)
                refine stq hf rfl rfl rfl (ex_neq hf rfl rfl) (fun a hf => ?_)
                refine stq hf rfl rfl rfl (ex_pickF hf rfl rfl) (fun a hf => ?_)
                refine stq hf rfl rfl rfl (ex_move hf rfl) (fun a hf => ?_)
                replace hf := hf.castB (t := 78) rfl (ndec_t hc36)
                replace hf := hf.castB (t := 79) rfl (ndec_t hc36)
                replace hf := hf.castB (t := 80) rfl (ndec_t hc36)
                refine stepN hf rfl rfl rfl (fun a hf => ?_)
                refine stepN hf rfl rfl rfl (fun a hf => ?_)
                refine stq hf rfl rfl rfl (ex_pickT hf rfl rfl) (fun a hf => ?_)
                refine stq hf rfl rfl rfl (ex_move hf rfl) (fun a hf => ?_)
                refine stepN hf rfl rfl rfl (fun a hf => ?_)
                refine stepN hf rfl rfl rfl (fun a hf => ?_)
                refine stq hf rfl rfl rfl (ex_pickT hf rfl rfl) (fun a hf => ?_)
                refine stq hf rfl rfl rfl (ex_move hf rfl) (fun a hf => ?_)
                refine stepN hf rfl rfl rfl (fun a hf => ?_)
                refine stepN hf rfl rfl rfl (fun a hf => ?_)
                refine stq hf rfl rfl rfl (ex_pickT hf rfl rfl) (fun a hf => ?_)
                refine stq hf rfl rfl rfl (ex_move hf rfl) (fun a hf => ?_)
                refine stepN hf rfl rfl rfl (fun a hf => ?_)
                refine stepN hf rfl rfl rfl (fun a hf => ?_)
                refine stq hf rfl rfl rfl (ex_pickT hf rfl rfl) (fun a hf => ?_)
                refine hK40 _ _ ?_
                replace hs := hs.keep (.k (.d (.d (.d (.d (.d .nil))))))
                have e34 := some_eq H; subst e34
                exact hJ34 _ _ ⟨hf.sub ⟨rfl, rfl, rfl, rfl, rfl, rfl, rfl, trivial⟩, hs⟩
            · -- not s20.2 = 0
              refine region_k (fun K41 hK41 => ?_)
              refine stq hf rfl rfl rfl (ex_move hf rfl) (fun a hf => ?_)
              refine stq hf rfl rfl rfl (ex_neq hf rfl rfl) (fun a hf => ?_)
              refine stq hf rfl rfl rfl (ex_move hf rfl) (fun a hf => ?_)
              replace hf := hf.castB (t := 75) rfl (ndec_t hc35)
              replace hf := hf.castB (t := 76) rfl (ndec_t hc35)
              refine stepN hf rfl rfl rfl (fun a hf => ?_)
              refine stepN hf rfl rfl rfl (fun a hf => ?_)
              refine stq hf rfl rfl rfl (ex_pickT hf rfl rfl) (fun a hf => ?_)
              refine stq hf rfl rfl rfl (ex_move hf rfl) (fun a hf => ?_)
              refine stepN hf rfl rfl rfl (fun a hf => ?_)
              refine stepN hf rfl rfl rfl (fun a hf => ?_)
              refine stq hf rfl rfl rfl (ex_pickT hf rfl rfl) (fun a hf => ?_)
              refine stq hf rfl rfl rfl (ex_move hf rfl) (fun a hf => ?_)
              refine stepN hf rfl rfl rfl (fun a hf => ?_)
              refine stepN hf rfl rfl rfl (fun a hf => ?_)
              refine stq hf rfl rfl rfl (ex_pickT hf rfl rfl) (fun a hf => ?_)
              refine stq hf rfl rfl rfl (ex_move hf rfl) (fun a hf => ?_)
              refine stepN hf rfl rfl rfl (fun a hf => ?_)
              refine stepN hf rfl rfl rfl (fun a hf => ?_)
              refine stq hf rfl rfl rfl (ex_pickT hf rfl rfl) (fun a hf => ?_)
              refine stq hf rfl rfl rfl (ex_move hf rfl) (fun a hf => ?_)
              refine stepN hf rfl rfl rfl (fun a hf => ?_)
              refine stepN hf rfl rfl rfl (fun a hf => ?_)
              refine stq hf rfl rfl rfl (ex_pickT hf rfl rfl) (fun a hf => ?_)
              refine hK41 _ _ ?_
              replace hs := hs.keep (.k (.d (.d (.d (.d (.d .nil))))))
              have e34 := some_eq H; subst e34
              exact hJ34 _ _ ⟨hf.sub ⟨rfl, rfl, rfl, rfl, rfl, rfl, rfl, trivial⟩, hs⟩
          · obtain ⟨hf, hs⟩ := hJ
            replace H := HO34
            clear HO34
            refine cond_T hf rfl ?_
            refine seq_reg (fun K42 hK42 => ?_)
            refine stq hf rfl rfl rfl (ex_assign hf rfl) (fun a hf => ?_)
            refine hK42 _ _ ?_
            refine wp_ret ?_
            refine hR33 _ _ ?_
            have eR := some_eq H; subst eR
            replace hs := hs.keep (.d .nil)
            exact ret1 Try.results8 hf rfl ⟨_, rfl, ⟨rfl, hs⟩⟩
        | some c31 =>
          replace H := elim_s hps30 H
          refine region_k (fun K45 hK45 => ?_)
          refine stq hf rfl rfl rfl (ex_move hf rfl) (fun a hf => ?_)
          refine stq hf rfl rfl rfl (ex_build (cs := [.int .i64 80, .int .i64 30, .int .i64 2]) bt_76 hf rfl (.cons rfl (.cons rfl (.cons rfl .nil))) rfl) (fun a hf => ?_)
          refine stepF hf rfl rfl rfl (ex_call cf_23 hf rfl) (perf_New.calls k s26 (⟨80, 30, 2⟩ : GovernorParams) v27 (hs.enter (.k (.k (.k (.k (.k (.k .nil))))))) (Sr.own hs (.k (.k (.k (.k (.k (.k .nil)))))) (i := 0) rfl osl_rsl (fun _ h => h.1) (Sr.nil _ _)) hs30) (fun v w hR a hf => ?_)
          obtain ⟨hc', _⟩ | ⟨cc, hc', b43, v44, rfl, hs'⟩ := hR
          case inl => rw [hps30] at hc'; cases hc'
          obtain rfl : c31 = cc := by rw [hps30] at hc'; exact Option.some.inj hc'
          replace hs := hs.step (.k (.k (.k (.k (.k (.k .nil)))))) hs'
          clear hs'
          refine stq hf rfl rfl rfl (ex_move hf rfl) (fun a hf => ?_)
          refine stq hf rfl rfl rfl (ex_extract hf rfl rfl) (fun a hf => ?_)
          refine stq hf rfl rfl rfl (ex_extract hf rfl rfl) (fun a hf => ?_)
          refine stq hf rfl rfl rfl (ex_assign hf rfl) (fun a hf => ?_)
          refine stq hf rfl rfl rfl (ex_assign hf rfl) (fun a hf => ?_)
          refine hK45 _ _ ?_
          refine hN29 _ _ ?_
          refine seq_n (fun Q46 hN46 hR46 hX46 => ?_)
          refine bnd H (fun x47 H47 HO47 => ?_)
          clear H
          refine seq_cut (fun a w => Fr a 169 [(4, v4), (12, .int .i64 (IntKind.i64.wrap (s12.2.2 + (IntKind.i64.wrap (Int.tmod (IntKind.u64.wrap a2) 60))))), (13, .int .i64 s20.1), (15, .pointer none), (17, v27), (18, .pointer (some ⟨b43, 0, none⟩)), (95, .bool true)] ∧ St M w0 w [osl K_api_OperatingPoint v27 s26, bx b43 102 [v44, .int .i64 c31.2.1, .int .i64 c31.2.2.1, .int .i64 c31.2.2.2.1, .int .i64 c31.2.2.2.2.1, .int .i64 c31.2.2.2.2.2.1, .int .i64 c31.2.2.2.2.2.2.1, .int .i64 c31.2.2.2.2.2.2.2], osl K_api_OperatingPoint v44 c31.1]) (fun Q47 hJ47 hR47 hX47 => ?_) (fun a w hJ => ?_)
          · replace H := H47
            refine itt H (fun hc48 H => ?_) (fun hc48 H => ?_)
            · -- s20.2 = 0
              refine itt H (fun hc49 H => ?_) (fun hc49 H => ?_)
              · -- s23.2 = 0
                refine itt H (fun hc50 H => ?_) (fun hc50 H => ?_)
                · -- s30.2 = 0
                  refine region_k (fun K51 hK51 => ?_)
                  refine stq hf rfl rfl rfl (ex_move hf rfl) (fun a hf => ?_)
                  refine stq hf rfl rfl rfl (ex_neq hf rfl rfl) (fun a hf => ?_)
                  refine stq hf rfl rfl rfl (ex_move hf rfl) (fun a hf => ?_)
                  replace hf := hf.castB (t := 75) rfl (ndec_f hc48)
                  replace hf := hf.castB (t := 76) rfl (ndec_f hc48)
                  refine stq hf rfl rfl rfl (ex_move hf rfl) (fun a hf => ?_)
                  refine stq hf rfl rfl rfl (ex_neq hf rfl rfl) (fun a hf => ?_)
                  refine stq hf rfl rfl rfl (ex_pickF hf rfl rfl) (fun a hf => ?_)
                  refine stq hf rfl rfl rfl (ex_move hf rfl) (fun a hf => ?_)
                  replace hf := hf.castB (t := 78) rfl (ndec_f hc49)
                  replace hf := hf.castB (t := 79) rfl (ndec_f hc49)
                  replace hf := hf.castB (t := 80) rfl (ndec_f hc49)
                  refine stq hf rfl rfl rfl (ex_move hf rfl) (fun a hf => ?_)
                  refine stq hf rfl rfl rfl (ex_neq hf rfl rfl) (fun a hf => ?_)
                  refine stq hf rfl rfl rfl (ex_pickF hf rfl rfl) (fun a hf => ?_)
                  refine stq hf rfl rfl rfl (ex_move hf rfl) (fun a hf => ?_)
                  replace hf := hf.castB (t := 82) rfl (ndec_f hc50)
                  replace hf := hf.castB (t := 83) rfl (ndec_f hc50)
                  replace hf := hf.castB (t := 84) rfl (ndec_f hc50)
                  refine stq hf rfl rfl rfl (ex_move hf rfl) (fun a hf => ?_)
                  refine stq hf rfl rfl rfl (ex_eqp Try.underlying42 hf rfl rfl) (fun a hf => ?_)
                  refine stq hf rfl rfl rfl (ex_pickF hf rfl rfl) (fun a hf => ?_)
                  refine stq hf rfl rfl rfl (ex_move hf rfl) (fun a hf => ?_)
                  refine stepN hf rfl rfl rfl (fun a hf => ?_)
                  refine stepN hf rfl rfl rfl (fun a hf => ?_)
                  refine stq hf rfl rfl rfl (ex_pickT hf rfl rfl) (fun a hf => ?_)
                  refine stq hf rfl rfl rfl (ex_move hf rfl) (fun a hf => ?_)
                  refine stepN hf rfl rfl rfl (fun a hf => ?_)
                  refine stepN hf rfl rfl rfl (fun a hf => ?_)
                  refine stq hf rfl rfl rfl (ex_pickT hf rfl rfl) (fun a hf => ?_)
                  refine hK51 _ _ ?_
                  replace hs := hs.keep (.k (.k (.k (.d (.d (.d (.d (.d .nil))))))))
                  replace hs := hs.pick (.k (.c (.k .nil)))
                  replace hs := hs.pick (.k (.c (.k .nil)))
                  replace hs := hs.pick (.k (.k (.c .nil)))
                  have e47 := some_eq H; subst e47
                  exact hJ47 _ _ ⟨hf.sub ⟨rfl, rfl, rfl, rfl, rfl, rfl, rfl, trivial⟩, hs⟩
                · -- not s30.2 = 0
                  refine region_k (fun K52 hK52 => ?_)
                  refine stq hf rfl rfl rfl (ex_move hf rfl) (fun a hf => ?_)
                  refine stq hf rfl rfl rfl (ex_neq hf rfl rfl) (fun a hf => ?_)
                  refine stq hf rfl rfl rfl (ex_move hf rfl) (fun a hf => ?_)
                  replace hf := hf.castB (t := 75) rfl (ndec_f hc48)
                  replace hf := hf.castB (t := 76) rfl (ndec_f hc48)
                  refine stq hf rfl rfl rfl (ex_move hf rfl) (fun a hf => ?_)
                  refine stq hf rfl rfl rfl (ex_neq hf rfl rfl) (fun a hf => ?_)
                  refine stq hf rfl rfl rfl (ex_pickF hf rfl rfl) (fun a hf => ?_)
                  refine stq hf rfl rfl rfl (ex_move hf rfl) (fun a hf => ?_)
                  replace hf := hf.castB (t := 78) rfl (ndec_f hc49)
                  replace hf := hf.castB (t := 79) rfl (ndec_f hc49)
                  replace hf := hf.castB (t := 80) rfl (ndec_f hc49)
                  refine stq hf rfl rfl rfl (ex_move hf rfl) (fun a hf => ?_)
                  refine stq hf rfl rfl rfl (ex_neq hf rfl rfl) (fun a hf => ?_)
                  refine stq hf rfl rfl rfl (ex_pickF hf rfl rfl) (fun a hf => ?_)
                  refine stq hf rfl rfl rfl (ex_move hf rfl) (fun a hf => ?_)
                  replace hf := hf.castB (t := 82) rfl (ndec_t hc50)
                  replace hf := hf.castB (t := 83) rfl (ndec_t hc50)
                  replace hf := hf.castB (t := 84) rfl (ndec_t hc50)
                  refine stepN hf rfl rfl rfl (fun a hf => ?_)
                  refine stepN hf rfl rfl rfl (fun a hf => ?_)
                  refine stq hf rfl rfl rfl (ex_pickT hf rfl rfl) (fun a hf => ?_)
                  refine stq hf rfl rfl rfl (ex_move hf rfl) (fun a hf => ?_)
                  refine stepN hf rfl rfl rfl (fun a hf => ?_)
                  refine stepN hf rfl rfl rfl (fun a hf => ?_)
                  refine stq hf rfl rfl rfl (ex_pickT hf rfl rfl) (fun a hf => ?_)
                  refine stq hf rfl rfl rfl (ex_move hf rfl) (fun a hf => ?_)
                  refine stepN hf rfl rfl rfl (fun a hf => ?_)
                  refine stepN hf rfl rfl rfl (fun a hf => ?_)
                  refine stq hf rfl rfl rfl (ex_pickT hf rfl rfl) (fun a hf => ?_)
                  refine hK52 _ _ ?_
                  replace hs := hs.keep (.k (.k (.k (.d (.d (.d (.d (.d .nil))))))))
                  replace hs := hs.pick (.k (.c (.k .nil)))
                  replace hs := hs.pick (.k (.c (.k .nil)))
                  replace hs := hs.pick (.k (.k (.c .nil)))
                  have e47 := some_eq H; subst e47
                  exact hJ47 _ _ ⟨hf.sub ⟨rfl, rfl, rfl, rfl, rfl, rfl, rfl, trivial⟩, hs⟩
              · -- not s23.2 = 0
                refine region_k (fun K53 hK53 => ?_)
                refine stq hf rfl rfl rfl (ex_move hf rfl) (fun a hf => ?_)
                refine stq hf rfl rfl rfl (ex_neq hf rfl rfl) (fun a hf => ?_)
                refine stq hf rfl rfl rfl (ex_move hf rfl) (fun a hf => ?_)
                replace hf := hf.castB (t := 75) rfl (ndec_f hc48)
                replace hf := hf.castB (t := 76) rfl (ndec_f hc48)
                refine stq hf rfl rfl rfl (ex_move hf rfl) (fun a hf => ?_)
                refine stq hf rfl rfl rfl (ex_neq hf rfl rfl) (fun a hf => ?_)
                refine stq hf rfl rfl rfl (ex_pickF hf rfl rfl) (fun a hf => ?_)
                refine stq hf rfl rfl rfl (ex_move hf rfl) (fun a hf => ?_)
                replace hf := hf.castB (t := 78) rfl (ndec_t hc49)
                replace hf := hf.castB (t := 79) rfl (ndec_t hc49)
                replace hf := hf.castB (t := 80) rfl (ndec_t hc49)
                refine stepN hf rfl rfl rfl (fun a hf => ?_)
                refine stepN hf rfl rfl rfl (fun a hf => ?_)
                refine stq hf rfl rfl rfl (ex_pickT hf rfl rfl) (fun a hf => ?_)
                refine stq hf rfl rfl rfl (ex_move hf rfl) (fun a hf => ?_)
                refine stepN hf rfl rfl rfl (fun a hf => ?_)
                refine stepN hf rfl rfl rfl (fun a hf => ?_)
                refine stq hf rfl rfl rfl (ex_pickT hf rfl rfl) (fun a hf => ?_)
                refine stq hf rfl rfl rfl (ex_move hf rfl) (fun a hf => ?_)
                refine stepN hf rfl rfl rfl (fun a hf => ?_)
                refine stepN hf rfl rfl rfl (fun a hf => ?_)
                refine stq hf rfl rfl rfl (ex_pickT hf rfl rfl) (fun a hf => ?_)
                refine stq hf rfl rfl rfl (ex_move hf rfl) (fun a hf => ?_)
                refine stepN hf rfl rfl rfl (fun a hf => ?_)
                refine stepN hf rfl rfl rfl (fun a hf => ?_)
                refine stq hf rfl rfl rfl (ex_pickT hf rfl rfl) (fun a hf => ?_)
                refine hK53 _ _ ?_
                replace hs := hs.keep (.k (.k (.k (.d (.d (.d (.d (.d .nil))))))))
                replace hs := hs.pick (.k (.c (.k .nil)))
                replace hs := hs.pick (.k (.c (.k .nil)))
                replace hs := hs.pick (.k (.k (.c .nil)))
                have e47 := some_eq H; subst e47
                exact hJ47 _ _ ⟨hf.sub ⟨rfl, rfl, rfl, rfl, rfl, rfl, rfl, trivial⟩, hs⟩
            · -- not s20.2 = 0
              refine region_k (fun K54 hK54 => ?_)
              refine stq hf rfl rfl rfl (ex_move hf rfl) (fun a hf => ?_)
              refine stq hf rfl rfl rfl (ex_neq hf rfl rfl) (fun a hf => ?_)
              refine stq hf rfl rfl rfl (ex_move hf rfl) (fun a hf => ?_)
              replace hf := hf.castB (t := 75) rfl (ndec_t hc48)
              replace hf := hf.castB (t := 76) rfl (ndec_t hc48)
              refine stepN hf rfl rfl rfl (fun a hf => ?_)
              refine stepN hf rfl rfl rfl (fun a hf => ?_)
              refine stq hf rfl rfl rfl (ex_pickT hf rfl rfl) (fun a hf => ?_)
              refine stq hf rfl rfl rfl (ex_move hf rfl) (fun a hf => ?_)
              refine stepN hf rfl rfl rfl (fun a hf => ?_)
              refine stepN hf rfl rfl rfl (fun a hf => ?_)
              refine stq hf rfl rfl rfl (ex_pickT hf rfl rfl) (fun a hf => ?_)
              refine stq hf rfl rfl rfl (ex_move hf rfl) (fun a hf => ?_)
              refine stepN hf rfl rfl rfl (fun a hf => ?_)
              refine stepN hf rfl rfl rfl (fun a hf => ?_)
              refine stq hf rfl rfl rfl (ex_pickT hf rfl rfl) (fun a hf => ?_)
              refine stq hf rfl rfl rfl (ex_move hf rfl) (fun a hf => ?_)
              refine stepN hf rfl rfl rfl (fun a hf => ?_)
              refine stepN hf rfl rfl rfl (fun a hf => ?_)
              refine stq hf rfl rfl rfl (ex_pickT hf rfl rfl) (fun a hf => ?_)
              refine stq hf rfl rfl rfl (ex_move hf rfl) (fun a hf => ?_)
              refine stepN hf rfl rfl rfl (fun a hf => ?_)
              refine stepN hf rfl rfl rfl (fun a hf => ?_)
              refine stq hf rfl rfl rfl (ex_pickT hf rfl rfl) (fun a hf => ?_)
              refine hK54 _ _ ?_
              replace hs := hs.keep (.k (.k (.k (.d (.d (.d (.d (.d .nil))))))))
              replace hs := hs.pick (.k (.c (.k .nil)))
              replace hs := hs.pick (.k (.c (.k .nil)))
              replace hs := hs.pick (.k (.k (.c .nil)))
              have e47 := some_eq H; subst e47
              exact hJ47 _ _ ⟨hf.sub ⟨rfl, rfl, rfl, rfl, rfl, rfl, rfl, trivial⟩, hs⟩
          · obtain ⟨hf, hs⟩ := hJ
            replace H := HO47
            clear HO47
            refine cond_T hf rfl ?_
            refine seq_reg (fun K55 hK55 => ?_)
            refine stq hf rfl rfl rfl (ex_assign hf rfl) (fun a hf => ?_)
            refine hK55 _ _ ?_
            refine wp_ret ?_
            refine hR46 _ _ ?_
            have eR := some_eq H; subst eR
            replace hs := hs.keep (.d (.d (.d .nil)))
            exact ret1 Try.results8 hf rfl ⟨_, rfl, ⟨rfl, hs⟩⟩
      | some c24 =>
        replace H := elim_s hps23 H
        refine region_k (fun K60 hK60 => ?_)
        refine stq hf rfl rfl rfl (ex_fieldAddrB fa_38_0 rfl hf rfl) (fun a hf => ?_)
        refine stq hf rfl rfl rfl (ex_load sc_35 hf rfl (bx_cell (hs.get (i := 0) rfl) _ rfl)) (fun a hf => ?_)
        refine stq hf rfl rfl rfl (ex_fieldAddrB fa_38_2 rfl hf rfl) (fun a hf => ?_)
        refine stq hf rfl rfl rfl (ex_load sc_2 hf rfl (bx_cell (hs.get (i := 0) rfl) _ rfl)) (fun a hf => ?_)
        refine stepF hf rfl rfl rfl (ex_call cf_15 hf rfl) (heat_New.calls k s12.1 [] s12.2.2 v13 (.slice none 0 0) (hs.enter (.k (.k (.k (.k (.k .nil)))))) (Sr.own hs (.k (.k (.k (.k (.k .nil))))) (i := 1) rfl osl_rsl (fun _ h => h.1) (Sr.free (nil_rsl _ _) nil_fs (Sr.nil _ _))) hs23) (fun v w hR a hf => ?_)
        obtain ⟨hc', _⟩ | ⟨cc, hc', b56, v57, v58, v59, rfl, hs'⟩ := hR
        case inl => rw [hps23] at hc'; cases hc'
        obtain rfl : c24 = cc := by rw [hps23] at hc'; exact Option.some.inj hc'
        replace hs := hs.step (.k (.k (.k (.k (.k .nil))))) hs'
        clear hs'
        refine stq hf rfl rfl rfl (ex_move hf rfl) (fun a hf => ?_)
        refine stq hf rfl rfl rfl (ex_extract hf rfl rfl) (fun a hf => ?_)
        refine stq hf rfl rfl rfl (ex_extract hf rfl rfl) (fun a hf => ?_)
        refine stq hf rfl rfl rfl (ex_assign hf rfl) (fun a hf => ?_)
        refine stq hf rfl rfl rfl (ex_assign hf rfl) (fun a hf => ?_)
        refine hK60 _ _ ?_
        refine hN22 _ _ ?_
        refine bnd H (fun s61 hs61 H => ?_)
        refine seq_reg (fun K63 hK63 => ?_)
        refine stq hf rfl rfl rfl (ex_move hf rfl) (fun a hf => ?_)
        refine stepF hf rfl rfl rfl (ex_call cf_10 hf rfl) (law36_Table.calls k a3 v3 (hs.enter (.k (.k (.k (.k (.k (.k (.k (.k (.k .nil)))))))))) (Sr.old hr hs (.k (.k (.k (.k (.k (.k (.k (.k (.k .nil))))))))) (i := 0) rfl (fun _ h => h) (fun _ h => h) (Sr.nil _ _)) hs61) (fun v w hR a hf => ?_)
        obtain ⟨v62, rfl, hs'⟩ := hR
        replace hs := hs.step (.k (.k (.k (.k (.k (.k (.k (.k (.k .nil))))))))) hs'
        clear hs'
        refine stq hf rfl rfl rfl (ex_assign hf rfl) (fun a hf => ?_)
        refine hK63 _ _ ?_
        refine seq_n (fun Q64 hN64 hR64 hX64 => ?_)
        refine bnd H (fun s65 hs65 H => ?_)
        cases hps65 : s65.1 with
        | none =>
          replace H := elim_n hps65 H
          refine region_k (fun K67 hK67 => ?_)
          refine stq hf rfl rfl rfl (ex_move hf rfl) (fun a hf => ?_)
          refine stq hf rfl rfl rfl (ex_build (cs := [.int .i64 80, .int .i64 30, .int .i64 2]) bt_76 hf rfl (.cons rfl (.cons rfl (.cons rfl .nil))) rfl) (fun a hf => ?_)
          refine stepF hf rfl rfl rfl (ex_call cf_23 hf rfl) (perf_New.calls k s61 (⟨80, 30, 2⟩ : GovernorParams) v62 (hs.enter (.k (.k (.k (.k (.k (.k (.k (.k (.k (.k .nil))))))))))) (Sr.own hs (.k (.k (.k (.k (.k (.k (.k (.k (.k (.k .nil)))))))))) (i := 0) rfl osl_rsl (fun _ h => h.1) (Sr.nil _ _)) hs65) (fun v w hR a hf => ?_)
          obtain ⟨_, rfl, hs'⟩ | ⟨_, hc', _⟩ := hR
          case inr => rw [hps65] at hc'; cases hc'
          replace hs := hs.step (.k (.k (.k (.k (.k (.k (.k (.k (.k (.k .nil)))))))))) hs'
          clear hs'
          refine stq hf rfl rfl rfl (ex_move hf rfl) (fun a hf => ?_)
          refine stq hf rfl rfl rfl (ex_extract hf rfl rfl) (fun a hf => ?_)
          refine stq hf rfl rfl rfl (ex_extract hf rfl rfl) (fun a hf => ?_)
          refine stq hf rfl rfl rfl (ex_assign hf rfl) (fun a hf => ?_)
          refine stq hf rfl rfl rfl (ex_assign hf rfl) (fun a hf => ?_)
          refine hK67 _ _ ?_
          refine hN64 _ _ ?_
          refine seq_n (fun Q68 hN68 hR68 hX68 => ?_)
          refine bnd H (fun x69 H69 HO69 => ?_)
          clear H
          refine seq_cut (fun a w => Fr a 169 [(4, v4), (12, .int .i64 (IntKind.i64.wrap (s12.2.2 + (IntKind.i64.wrap (Int.tmod (IntKind.u64.wrap a2) 60))))), (13, .int .i64 s20.1), (15, .pointer (some ⟨b56, 0, none⟩)), (17, v62), (18, .pointer none), (95, .bool true)] ∧ St M w0 w [bx b56 89 [v57, v58, .int .i64 c24.2.2.1, v59, .int .i64 c24.2.2.2.2], osl K_api_HeatDomain v57 c24.1, osl K_api_HeatLink v58 c24.2.1, osl K_int64 v59 c24.2.2.2.1, osl K_api_OperatingPoint v62 s61]) (fun Q69 hJ69 hR69 hX69 => ?_) (fun a w hJ => ?_)
          · replace H := H69
            refine itt H (fun hc70 H => ?_) (fun hc70 H => ?_)
            · -- s20.2 = 0
              refine itt H (fun hc71 H => ?_) (fun hc71 H => ?_)
              · -- s23.2 = 0
                refine itt H (fun hc72 H => ?_) (fun hc72 H => ?_)
                · -- s65.2 = 0
                  refine region_k (fun K73 hK73 => ?_)
                  refine stq hf rfl rfl rfl (ex_move hf rfl) (fun a hf => ?_)
                  refine stq hf rfl rfl rfl (ex_neq hf rfl rfl) (fun a hf => ?_)
                  refine stq hf rfl rfl rfl (ex_move hf rfl) (fun a hf => ?_)
                  replace hf := hf.castB (t := 75) rfl (ndec_f hc70)
                  replace hf := hf.castB (t := 76) rfl (ndec_f hc70)
                  refine stq hf rfl rfl rfl (ex_move hf rfl) (fun a hf => ?_)
                  refine stq hf rfl rfl rfl (ex_neq hf rfl rfl) (fun a hf => ?_)
                  refine stq hf rfl rfl rfl (ex_pickF hf rfl rfl) (fun a hf => ?_)
                  refine stq hf rfl rfl rfl (ex_move hf rfl) (fun a hf => ?_)
                  replace hf := hf.castB (t := 78) rfl (ndec_f hc71)
                  replace hf := hf.castB (t := 79) rfl (ndec_f hc71)
                  replace hf := hf.castB (t := 80) rfl (ndec_f hc71)
                  refine stq hf rfl rfl rfl (ex_move hf rfl) (fun a hf => ?_)
                  refine stq hf rfl rfl rfl (ex_neq hf rfl rfl) (fun a hf => ?_)
                  refine stq hf rfl rfl rfl (ex_pickF hf rfl rfl) (fun a hf => ?_)
                  refine stq hf rfl rfl rfl (ex_move hf rfl) (fun a hf => ?_)
                  replace hf := hf.castB (t := 82) rfl (ndec_f hc72)
                  replace hf := hf.castB (t := 83) rfl (ndec_f hc72)
                  replace hf := hf.castB (t := 84) rfl (ndec_f hc72)
                  refine stq hf rfl rfl rfl (ex_move hf rfl) (fun a hf => ?_)
                  refine stq hf rfl rfl rfl (ex_eqp Try.underlying42 hf rfl rfl) (fun a hf => ?_)
                  refine stq hf rfl rfl rfl (ex_pickF hf rfl rfl) (fun a hf => ?_)
                  refine stq hf rfl rfl rfl (ex_move hf rfl) (fun a hf => ?_)
                  refine stq hf rfl rfl rfl (ex_move hf rfl) (fun a hf => ?_)
                  refine stq hf rfl rfl rfl (ex_eqp Try.underlying72 hf rfl rfl) (fun a hf => ?_)
                  refine stq hf rfl rfl rfl (ex_pickF hf rfl rfl) (fun a hf => ?_)
                  refine stq hf rfl rfl rfl (ex_move hf rfl) (fun a hf => ?_)
                  refine stepN hf rfl rfl rfl (fun a hf => ?_)
                  refine stepN hf rfl rfl rfl (fun a hf => ?_)
                  refine stq hf rfl rfl rfl (ex_pickT hf rfl rfl) (fun a hf => ?_)
                  refine hK73 _ _ ?_
                  replace hs := hs.keep (.k (.k (.k (.k (.k (.d (.d (.d (.d (.d .nil))))))))))
                  replace hs := hs.pick (.k (.k (.k (.k (.c .nil)))))
                  replace hs := hs.pick (.k (.k (.k (.k (.c .nil)))))
                  replace hs := hs.pick (.k (.k (.k (.k (.c .nil)))))
                  replace hs := hs.pick (.k (.k (.k (.k (.c .nil)))))
                  have e69 := some_eq H; subst e69
                  exact hJ69 _ _ ⟨hf.sub ⟨rfl, rfl, rfl, rfl, rfl, rfl, rfl, trivial⟩, hs⟩
                · -- not s65.2 = 0
                  refine region_k (fun K74 hK74 => ?_)
                  refine stq hf rfl rfl rfl (ex_move hf rfl) (fun a hf => ?_)
                  refine stq hf rfl rfl rfl (ex_neq hf rfl rfl) (fun a hf => ?_)
                  refine stq hf rfl rfl rfl (ex_move hf rfl) (fun a hf => ?_)
                  replace hf := hf.castB (t := 75) rfl (ndec_f hc70)
                  replace hf := hf.castB (t := 76) rfl (ndec_f hc70)
                  refine stq hf rfl rfl rfl (ex_move hf rfl) (fun a hf => ?_)
                  refine stq hf rfl rfl rfl (ex_neq hf rfl rfl) (fun a hf => ?_)
                  refine stq hf rfl rfl rfl (ex_pickF hf rfl rfl) (fun a hf => ?_)
                  refine stq hf rfl rfl rfl (ex_move hf rfl) (fun a hf => ?_)
                  replace hf := hf.castB (t := 78) rfl (ndec_f hc71)
                  replace hf := hf.castB (t := 79) rfl (ndec_f hc71)
                  replace hf := hf.castB (t := 80) rfl (ndec_f hc71)
                  refine stq hf rfl rfl rfl (ex_move hf rfl) (fun a hf => ?_)
                  refine stq hf rfl rfl rfl (ex_neq hf rfl rfl) (fun a hf => ?_)
                  refine stq hf rfl rfl rfl (ex_pickF hf rfl rfl) (fun a hf => ?_)
                  refine stq hf rfl rfl rfl (ex_move hf rfl) (fun a hf => ?_)
                  replace hf := hf.castB (t := 82) rfl (ndec_t hc72)
                  replace hf := hf.castB (t := 83) rfl (ndec_t hc72)
                  replace hf := hf.castB (t := 84) rfl (ndec_t hc72)
                  refine stepN hf rfl rfl rfl (fun a hf => ?_)
                  refine stepN hf rfl rfl rfl (fun a hf => ?_)
                  refine stq hf rfl rfl rfl (ex_pickT hf rfl rfl) (fun a hf => ?_)
                  refine stq hf rfl rfl rfl (ex_move hf rfl) (fun a hf => ?_)
                  refine stepN hf rfl rfl rfl (fun a hf => ?_)
                  refine stepN hf rfl rfl rfl (fun a hf => ?_)
                  refine stq hf rfl rfl rfl (ex_pickT hf rfl rfl) (fun a hf => ?_)
                  refine stq hf rfl rfl rfl (ex_move hf rfl) (fun a hf => ?_)
                  refine stepN hf rfl rfl rfl (fun a hf => ?_)
                  refine stepN hf rfl rfl rfl (fun a hf => ?_)
                  refine stq hf rfl rfl rfl (ex_pickT hf rfl rfl) (fun a hf => ?_)
                  refine hK74 _ _ ?_
                  replace hs := hs.keep (.k (.k (.k (.k (.k (.d (.d (.d (.d (.d .nil))))))))))
                  replace hs := hs.pick (.k (.k (.k (.k (.c .nil)))))
                  replace hs := hs.pick (.k (.k (.k (.k (.c .nil)))))
                  replace hs := hs.pick (.k (.k (.k (.k (.c .nil)))))
                  replace hs := hs.pick (.k (.k (.k (.k (.c .nil)))))
                  have e69 := some_eq H; subst e69
                  exact hJ69 _ _ ⟨hf.sub ⟨rfl, rfl, rfl, rfl, rfl, rfl, rfl, trivial⟩, hs⟩
              · -- not s23.2 = 0
                refine region_k (fun K75 hK75 => ?_)
                refine stq hf rfl rfl rfl (ex_move hf rfl) (fun a hf => ?_)
                refine stq hf rfl rfl rfl (ex_neq hf rfl rfl) (fun a hf => ?_)
                refine stq hf rfl rfl rfl (ex_move hf rfl) (fun a hf => ?_)
                replace hf := hf.castB (t := 75) rfl (ndec_f hc70)
                replace hf := hf.castB (t := 76) rfl (ndec_f hc70)
                refine stq hf rfl rfl rfl (ex_move hf rfl) (fun a hf => ?_)
                refine stq hf rfl rfl rfl (ex_neq hf rfl rfl) (fun a hf => ?_)
                refine stq hf rfl rfl rfl (ex_pickF hf rfl rfl) (fun a hf => ?_)
                refine stq hf rfl rfl rfl (ex_move hf rfl) (fun a hf => ?_)
                replace hf := hf.castB (t := 78) rfl (ndec_t hc71)
                replace hf := hf.castB (t := 79) rfl (ndec_t hc71)
                replace hf := hf.castB (t := 80) rfl (ndec_t hc71)
                refine stepN hf rfl rfl rfl (fun a hf => ?_)
                refine stepN hf rfl rfl rfl (fun a hf => ?_)
                refine stq hf rfl rfl rfl (ex_pickT hf rfl rfl) (fun a hf => ?_)
                refine stq hf rfl rfl rfl (ex_move hf rfl) (fun a hf => ?_)
                refine stepN hf rfl rfl rfl (fun a hf => ?_)
                refine stepN hf rfl rfl rfl (fun a hf => ?_)
                refine stq hf rfl rfl rfl (ex_pickT hf rfl rfl) (fun a hf => ?_)
                refine stq hf rfl rfl rfl (ex_move hf rfl) (fun a hf => ?_)
                refine stepN hf rfl rfl rfl (fun a hf => ?_)
                refine stepN hf rfl rfl rfl (fun a hf => ?_)
                refine stq hf rfl rfl rfl (ex_pickT hf rfl rfl) (fun a hf => ?_)
                refine stq hf rfl rfl rfl (ex_move hf rfl) (fun a hf => ?_)
                refine stepN hf rfl rfl rfl (fun a hf => ?_)
                refine stepN hf rfl rfl rfl (fun a hf => ?_)
                refine stq hf rfl rfl rfl (ex_pickT hf rfl rfl) (fun a hf => ?_)
                refine hK75 _ _ ?_
                replace hs := hs.keep (.k (.k (.k (.k (.k (.d (.d (.d (.d (.d .nil))))))))))
                replace hs := hs.pick (.k (.k (.k (.k (.c .nil)))))
                replace hs := hs.pick (.k (.k (.k (.k (.c .nil)))))
                replace hs := hs.pick (.k (.k (.k (.k (.c .nil)))))
                replace hs := hs.pick (.k (.k (.k (.k (.c .nil)))))
                have e69 := some_eq H; subst e69
                exact hJ69 _ _ ⟨hf.sub ⟨rfl, rfl, rfl, rfl, rfl, rfl, rfl, trivial⟩, hs⟩
            · -- not s20.2 = 0
              refine region_k (fun K76 hK76 => ?_)
              refine stq hf rfl rfl rfl (ex_move hf rfl) (fun a hf => ?_)
              refine stq hf rfl rfl rfl (ex_neq hf rfl rfl) (fun a hf => ?_)
              refine stq hf rfl rfl rfl (ex_move hf rfl) (fun a hf => ?_)
              replace hf := hf.castB (t := 75) rfl (ndec_t hc70)
              replace hf := hf.castB (t := 76) rfl (ndec_t hc70)
              refine stepN hf rfl rfl rfl (fun a hf => ?_)
              refine stepN hf rfl rfl rfl (fun a hf => ?_)
              refine stq hf rfl rfl rfl (ex_pickT hf rfl rfl) (fun a hf => ?_)
              refine stq hf rfl rfl rfl (ex_move hf rfl) (fun a hf => ?_)
              refine stepN hf rfl rfl rfl (fun a hf => ?_)
              refine stepN hf rfl rfl rfl (fun a hf => ?_)
              refine stq hf rfl rfl rfl (ex_pickT hf rfl rfl) (fun a hf => ?_)
              refine stq hf rfl rfl rfl (ex_move hf rfl) (fun a hf => ?_)
              refine stepN hf rfl rfl rfl (fun a hf => ?_)
              refine stepN hf rfl rfl rfl (fun a hf => ?_)
              refine stq hf rfl rfl rfl (ex_pickT hf rfl rfl) (fun a hf => ?_)
              refine stq hf rfl rfl rfl (ex_move hf rfl) (fun a hf => ?_)
              refine stepN hf rfl rfl rfl (fun a hf => ?_)
              refine stepN hf rfl rfl rfl (fun a hf => ?_)
              refine stq hf rfl rfl rfl (ex_pickT hf rfl rfl) (fun a hf => ?_)
              refine stq hf rfl rfl rfl (ex_move hf rfl) (fun a hf => ?_)
              refine stepN hf rfl rfl rfl (fun a hf => ?_)
              refine stepN hf rfl rfl rfl (fun a hf => ?_)
              refine stq hf rfl rfl rfl (ex_pickT hf rfl rfl) (fun a hf => ?_)
              refine hK76 _ _ ?_
              replace hs := hs.keep (.k (.k (.k (.k (.k (.d (.d (.d (.d (.d .nil))))))))))
              replace hs := hs.pick (.k (.k (.k (.k (.c .nil)))))
              replace hs := hs.pick (.k (.k (.k (.k (.c .nil)))))
              replace hs := hs.pick (.k (.k (.k (.k (.c .nil)))))
              replace hs := hs.pick (.k (.k (.k (.k (.c .nil)))))
              have e69 := some_eq H; subst e69
              exact hJ69 _ _ ⟨hf.sub ⟨rfl, rfl, rfl, rfl, rfl, rfl, rfl, trivial⟩, hs⟩
          · obtain ⟨hf, hs⟩ := hJ
            replace H := HO69
            clear HO69
            refine cond_T hf rfl ?_
            refine seq_reg (fun K77 hK77 => ?_)
            refine stq hf rfl rfl rfl (ex_assign hf rfl) (fun a hf => ?_)
            refine hK77 _ _ ?_
            refine wp_ret ?_
            refine hR68 _ _ ?_
            have eR := some_eq H; subst eR
            replace hs := hs.keep (.d (.d (.d (.d (.d .nil)))))
            exact ret1 Try.results8 hf rfl ⟨_, rfl, ⟨rfl, hs⟩⟩
        | some c66 =>
          replace H := elim_s hps65 H
          refine region_k (fun K80 hK80 => ?_)
          refine stq hf rfl rfl rfl (ex_move hf rfl) (fun a hf => ?_)
          refine stq hf rfl rfl rfl (ex_build (cs := [.int .i64 80, .int .i64 30, .int .i64 2]) bt_76 hf rfl (.cons rfl (.cons rfl (.cons rfl .nil))) rfl) (fun a hf => ?_)
          refine stepF hf rfl rfl rfl (ex_call cf_23 hf rfl) (perf_New.calls k s61 (⟨80, 30, 2⟩ : GovernorParams) v62 (hs.enter (.k (.k (.k (.k (.k (.k (.k (.k (.k (.k .nil))))))))))) (Sr.own hs (.k (.k (.k (.k (.k (.k (.k (.k (.k (.k .nil)))))))))) (i := 0) rfl osl_rsl (fun _ h => h.1) (Sr.nil _ _)) hs65) (fun v w hR a hf => ?_)
          obtain ⟨hc', _⟩ | ⟨cc, hc', b78, v79, rfl, hs'⟩ := hR
          case inl => rw [hps65] at hc'; cases hc'
          obtain rfl : c66 = cc := by rw [hps65] at hc'; exact Option.some.inj hc'
          replace hs := hs.step (.k (.k (.k (.k (.k (.k (.k (.k (.k (.k .nil)))))))))) hs'
          clear hs'
          refine stq hf rfl rfl rfl (ex_move hf rfl) (fun a hf => ?_)
          refine stq hf rfl rfl rfl (ex_extract hf rfl rfl) (fun a hf => ?_)
          refine stq hf rfl rfl rfl (ex_extract hf rfl rfl) (fun a hf => ?_)
          refine stq hf rfl rfl rfl (ex_assign hf rfl) (fun a hf => ?_)
          refine stq hf rfl rfl rfl (ex_assign hf rfl) (fun a hf => ?_)
          refine hK80 _ _ ?_
          refine hN64 _ _ ?_
          refine seq_n (fun Q81 hN81 hR81 hX81 => ?_)
          refine bnd H (fun x82 H82 HO82 => ?_)
          clear H
          refine seq_cut (fun a w => Fr a 169 [(4, v4), (12, .int .i64 (IntKind.i64.wrap (s12.2.2 + (IntKind.i64.wrap (Int.tmod (IntKind.u64.wrap a2) 60))))), (13, .int .i64 s20.1), (15, .pointer (some ⟨b56, 0, none⟩)), (17, v62), (18, .pointer (some ⟨b78, 0, none⟩)), (95, .bool x82)] ∧ St M w0 w [bx b56 89 [v57, v58, .int .i64 c24.2.2.1, v59, .int .i64 c24.2.2.2.2], osl K_api_HeatDomain v57 c24.1, osl K_api_HeatLink v58 c24.2.1, osl K_int64 v59 c24.2.2.2.1, osl K_api_OperatingPoint v62 s61, bx b78 102 [v79, .int .i64 c66.2.1, .int .i64 c66.2.2.1, .int .i64 c66.2.2.2.1, .int .i64 c66.2.2.2.2.1, .int .i64 c66.2.2.2.2.2.1, .int .i64 c66.2.2.2.2.2.2.1, .int .i64 c66.2.2.2.2.2.2.2], osl K_api_OperatingPoint v79 c66.1]) (fun Q82 hJ82 hR82 hX82 => ?_) (fun a w hJ => ?_)
          · replace H := H82
            refine itt H (fun hc83 H => ?_) (fun hc83 H => ?_)
            · -- s20.2 = 0
              refine itt H (fun hc84 H => ?_) (fun hc84 H => ?_)
              · -- s23.2 = 0
                refine itt H (fun hc85 H => ?_) (fun hc85 H => ?_)
                · -- s65.2 = 0
                  refine region_k (fun K86 hK86 => ?_)
                  refine stq hf rfl rfl rfl (ex_move hf rfl) (fun a hf => ?_)
                  refine stq hf rfl rfl rfl (ex_neq hf rfl rfl) (fun a hf => ?_)
                  refine stq hf rfl rfl rfl (ex_move hf rfl) (fun a hf => ?_)
                  replace hf := hf.castB (t := 75) rfl (ndec_f hc83)
                  replace hf := hf.castB (t := 76) rfl (ndec_f hc83)
                  refine stq hf rfl rfl rfl (ex_move hf rfl) (fun a hf => ?_)
                  refine stq hf rfl rfl rfl (ex_neq hf rfl rfl) (fun a hf => ?_)
                  refine stq hf rfl rfl rfl (ex_pickF hf rfl rfl) (fun a hf => ?_)
                  refine stq hf rfl rfl rfl (ex_move hf rfl) (fun a hf => ?_)
                  replace hf := hf.castB (t := 78) rfl (ndec_f hc84)
                  replace hf := hf.castB (t := 79) rfl (ndec_f hc84)
                  replace hf := hf.castB (t := 80) rfl (ndec_f hc84)
                  refine stq hf rfl rfl rfl (ex_move hf rfl) (fun a hf => ?_)
                  refine stq hf rfl rfl rfl (ex_neq hf rfl rfl) (fun a hf => ?_)
                  refine stq hf rfl rfl rfl (ex_pickF hf rfl rfl) (fun a hf => ?_)
                  refine stq hf rfl rfl rfl (ex_move hf rfl) (fun a hf => ?_)
                  replace hf := hf.castB (t := 82) rfl (ndec_f hc85)
                  replace hf := hf.castB (t := 83) rfl (ndec_f hc85)
                  replace hf := hf.castB (t := 84) rfl (ndec_f hc85)
                  refine stq hf rfl rfl rfl (ex_move hf rfl) (fun a hf => ?_)
                  refine stq hf rfl rfl rfl (ex_eqp Try.underlying42 hf rfl rfl) (fun a hf => ?_)
                  refine stq hf rfl rfl rfl (ex_pickF hf rfl rfl) (fun a hf => ?_)
                  refine stq hf rfl rfl rfl (ex_move hf rfl) (fun a hf => ?_)
                  refine stq hf rfl rfl rfl (ex_move hf rfl) (fun a hf => ?_)
                  refine stq hf rfl rfl rfl (ex_eqp Try.underlying72 hf rfl rfl) (fun a hf => ?_)
                  refine stq hf rfl rfl rfl (ex_pickF hf rfl rfl) (fun a hf => ?_)
                  refine stq hf rfl rfl rfl (ex_move hf rfl) (fun a hf => ?_)
                  refine stq hf rfl rfl rfl (ex_move hf rfl) (fun a hf => ?_)
                  refine stq hf rfl rfl rfl (ex_lss hf rfl rfl) (fun a hf => ?_)
                  refine stq hf rfl rfl rfl (ex_pickF hf rfl rfl) (fun a hf => ?_)
                  refine hK86 _ _ ?_
                  replace hs := hs.keep (.k (.k (.k (.k (.k (.k (.k (.d (.d (.d (.d (.d .nil))))))))))))
                  replace hs := hs.pick (.k (.c (.k (.k (.k (.k (.k .nil)))))))
                  replace hs := hs.pick (.k (.c (.k (.k (.k (.k (.k .nil)))))))
                  replace hs := hs.pick (.k (.k (.c (.k (.k (.k (.k .nil)))))))
                  replace hs := hs.pick (.k (.k (.k (.k (.k (.k (.c .nil)))))))
                  replace hs := hs.pick (.k (.k (.k (.k (.k (.k (.c .nil)))))))
                  replace hs := hs.pick (.k (.k (.k (.k (.k (.k (.c .nil)))))))
                  replace hs := hs.pick (.k (.k (.k (.k (.k (.k (.c .nil)))))))
                  have e82 := some_eq H; subst e82
                  exact hJ82 _ _ ⟨hf.sub ⟨rfl, rfl, rfl, rfl, rfl, rfl, rfl, trivial⟩, hs⟩
                · -- not s65.2 = 0
                  refine region_k (fun K87 hK87 => ?_)
                  refine stq hf rfl rfl rfl (ex_move hf rfl) (fun a hf => ?_)
                  refine stq hf rfl rfl rfl (ex_neq hf rfl rfl) (fun a hf => ?_)
                  refine stq hf rfl rfl rfl (ex_move hf rfl) (fun a hf => ?_)
                  replace hf := hf.castB (t := 75) rfl (ndec_f hc83)
                  replace hf := hf.castB (t := 76) rfl (ndec_f hc83)
                  refine stq hf rfl rfl rfl (ex_move hf rfl) (fun a hf => ?_)
                  refine stq hf rfl rfl rfl (ex_neq hf rfl rfl) (fun a hf => ?_)
                  refine stq hf rfl rfl rfl (ex_pickF hf rfl rfl) (fun a hf => ?_)
                  refine stq hf rfl rfl rfl (ex_move hf rfl) (fun a hf => ?_)
                  replace hf := hf.castB (t := 78) rfl (ndec_f hc84)
                  replace hf := hf.castB (t := 79) rfl (ndec_f hc84)
                  replace hf := hf.castB (t := 80) rfl (ndec_f hc84)
                  refine stq hf rfl rfl rfl (ex_move hf rfl) (fun a hf => ?_)
                  refine stq hf rfl rfl rfl (ex_neq hf rfl rfl) (fun a hf => ?_)
                  refine stq hf rfl rfl rfl (ex_pickF hf rfl rfl) (fun a hf => ?_)
                  refine stq hf rfl rfl rfl (ex_move hf rfl) (fun a hf => ?_)
                  replace hf := hf.castB (t := 82) rfl (ndec_t hc85)
                  replace hf := hf.castB (t := 83) rfl (ndec_t hc85)
                  replace hf := hf.castB (t := 84) rfl (ndec_t hc85)
                  refine stepN hf rfl rfl rfl (fun a hf => ?_)
                  refine stepN hf rfl rfl rfl (fun a hf => ?_)
                  refine stq hf rfl rfl rfl (ex_pickT hf rfl rfl) (fun a hf => ?_)
                  refine stq hf rfl rfl rfl (ex_move hf rfl) (fun a hf => ?_)
                  refine stepN hf rfl rfl rfl (fun a hf => ?_)
                  refine stepN hf rfl rfl rfl (fun a hf => ?_)
                  refine stq hf rfl rfl rfl (ex_pickT hf rfl rfl) (fun a hf => ?_)
                  refine stq hf rfl rfl rfl (ex_move hf rfl) (fun a hf => ?_)
                  refine stepN hf rfl rfl rfl (fun a hf => ?_)
                  refine stepN hf rfl rfl rfl (fun a hf => ?_)
                  refine stq hf rfl rfl rfl (ex_pickT hf rfl rfl) (fun a hf => ?_)
                  refine hK87 _ _ ?_
                  replace hs := hs.keep (.k (.k (.k (.k (.k (.k (.k (.d (.d (.d (.d (.d .nil))))))))))))
                  replace hs := hs.pick (.k (.c (.k (.k (.k (.k (.k .nil)))))))
                  replace hs := hs.pick (.k (.c (.k (.k (.k (.k (.k .nil)))))))
                  replace hs := hs.pick (.k (.k (.c (.k (.k (.k (.k .nil)))))))
                  replace hs := hs.pick (.k (.k (.k (.k (.k (.k (.c .nil)))))))
                  replace hs := hs.pick (.k (.k (.k (.k (.k (.k (.c .nil)))))))
                  replace hs := hs.pick (.k (.k (.k (.k (.k (.k (.c .nil)))))))
                  replace hs := hs.pick (.k (.k (.k (.k (.k (.k (.c .nil)))))))
                  have e82 := some_eq H; subst e82
                  exact hJ82 _ _ ⟨hf.sub ⟨rfl, rfl, rfl, rfl, rfl, rfl, rfl, trivial⟩, hs⟩
              · -- not s23.2 = 0
                refine region_k (fun K88 hK88 => ?_)
                refine stq hf rfl rfl rfl (ex_move hf rfl) (fun a hf => ?_)
                refine stq hf rfl rfl rfl (ex_neq hf rfl rfl) (fun a hf => ?_)
                refine stq hf rfl rfl rfl (ex_move hf rfl) (fun a hf => ?_)
                replace hf := hf.castB (t := 75) rfl (ndec_f hc83)
                replace hf := hf.castB (t := 76) rfl (ndec_f hc83)
                refine stq hf rfl rfl rfl (ex_move hf rfl) (fun a hf => ?_)
                refine stq hf rfl rfl rfl (ex_neq hf rfl rfl) (fun a hf => ?_)
                refine stq hf rfl rfl rfl (ex_pickF hf rfl rfl) (fun a hf => ?_)
                refine stq hf rfl rfl rfl (ex_move hf rfl) (fun a hf => ?_)
                replace hf := hf.castB (t := 78) rfl (ndec_t hc84)
                replace hf := hf.castB (t := 79) rfl (ndec_t hc84)
                replace hf := hf.castB (t := 80) rfl (ndec_t hc84)
                refine stepN hf rfl rfl rfl (fun a hf => ?_)
                refine stepN hf rfl rfl rfl (fun a hf => ?_)
                refine stq hf rfl rfl rfl (ex_pickT hf rfl rfl) (fun a hf => ?_)
                refine stq hf rfl rfl rfl (ex_move hf rfl) (fun a hf => ?_)
                refine stepN hf rfl rfl rfl (fun a hf => ?_)
                refine stepN hf rfl rfl rfl (fun a hf => ?_)
                refine stq hf rfl rfl rfl (ex_pickT hf rfl rfl) (fun a hf => ?_)
                refine stq hf rfl rfl rfl (ex_move hf rfl) (fun a hf => ?_)
                refine stepN hf rfl rfl rfl (fun a hf => ?_)
                refine stepN hf rfl rfl rfl (fun a hf => ?_)
                refine stq hf rfl rfl rfl (ex_pickT hf rfl rfl) (fun a hf => ?_)
                refine stq hf rfl rfl rfl (ex_move hf rfl) (fun a hf => ?_)
                refine stepN hf rfl rfl rfl (fun a hf => ?_)
                refine stepN hf rfl rfl rfl (fun a hf => ?_)
                refine stq hf rfl rfl rfl (ex_pickT hf rfl rfl) (fun a hf => ?_)
                refine hK88 _ _ ?_
                replace hs := hs.keep (.k (.k (.k (.k (.k (.k (.k (.d (.d (.d (.d (.d .nil))))))))))))
                replace hs := hs.pick (.k (.c (.k (.k (.k (.k (.k .nil)))))))
                replace hs := hs.pick (.k (.c (.k (.k (.k (.k (.k .nil)))))))
                replace hs := hs.pick (.k (.k (.c (.k (.k (.k (.k .nil)))))))
                replace hs := hs.pick (.k (.k (.k (.k (.k (.k (.c .nil)))))))
                replace hs := hs.pick (.k (.k (.k (.k (.k (.k (.c .nil)))))))
                replace hs := hs.pick (.k (.k (.k (.k (.k (.k (.c .nil)))))))
                replace hs := hs.pick (.k (.k (.k (.k (.k (.k (.c .nil)))))))
                have e82 := some_eq H; subst e82
                exact hJ82 _ _ ⟨hf.sub ⟨rfl, rfl, rfl, rfl, rfl, rfl, rfl, trivial⟩, hs⟩
            · -- not s20.2 = 0
              refine region_k (fun K89 hK89 => ?_)
              refine stq hf rfl rfl rfl (ex_move hf rfl) (fun a hf => ?_)
              refine stq hf rfl rfl rfl (ex_neq hf rfl rfl) (fun a hf => ?_)
              refine stq hf rfl rfl rfl (ex_move hf rfl) (fun a hf => ?_)
              replace hf := hf.castB (t := 75) rfl (ndec_t hc83)
              replace hf := hf.castB (t := 76) rfl (ndec_t hc83)
              refine stepN hf rfl rfl rfl (fun a hf => ?_)
              refine stepN hf rfl rfl rfl (fun a hf => ?_)
              refine stq hf rfl rfl rfl (ex_pickT hf rfl rfl) (fun a hf => ?_)
              refine stq hf rfl rfl rfl (ex_move hf rfl) (fun a hf => ?_)
              refine stepN hf rfl rfl rfl (fun a hf => ?_)
              refine stepN hf rfl rfl rfl (fun a hf => ?_)
              refine stq hf rfl rfl rfl (ex_pickT hf rfl rfl) (fun a hf => ?_)
              refine stq hf rfl rfl rfl (ex_move hf rfl) (fun a hf => ?_)
              refine stepN hf rfl rfl rfl (fun a hf => ?_)
              refine stepN hf rfl rfl rfl (fun a hf => ?_)
              refine stq hf rfl rfl rfl (ex_pickT hf rfl rfl) (fun a hf => ?_)
              refine stq hf rfl rfl rfl (ex_move hf rfl) (fun a hf => ?_)
              refine stepN hf rfl rfl rfl (fun a hf => ?_)
              refine stepN hf rfl rfl rfl (fun a hf => ?_)
              refine stq hf rfl rfl rfl (ex_pickT hf rfl rfl) (fun a hf => ?_)
              refine stq hf rfl rfl rfl (ex_move hf rfl) (fun a hf => ?_)
              refine stepN hf rfl rfl rfl (fun a hf => ?_)
              refine stepN hf rfl rfl rfl (fun a hf => ?_)
              refine stq hf rfl rfl rfl (ex_pickT hf rfl rfl) (fun a hf => ?_)
              refine hK89 _ _ ?_
              replace hs := hs.keep (.k (.k (.k (.k (.k (.k (.k (.d (.d (.d (.d (.d .nil))))))))))))
              replace hs := hs.pick (.k (.c (.k (.k (.k (.k (.k .nil)))))))
              replace hs := hs.pick (.k (.c (.k (.k (.k (.k (.k .nil)))))))
              replace hs := hs.pick (.k (.k (.c (.k (.k (.k (.k .nil)))))))
              replace hs := hs.pick (.k (.k (.k (.k (.k (.k (.c .nil)))))))
              replace hs := hs.pick (.k (.k (.k (.k (.k (.k (.c .nil)))))))
              replace hs := hs.pick (.k (.k (.k (.k (.k (.k (.c .nil)))))))
              replace hs := hs.pick (.k (.k (.k (.k (.k (.k (.c .nil)))))))
              have e82 := some_eq H; subst e82
              exact hJ82 _ _ ⟨hf.sub ⟨rfl, rfl, rfl, rfl, rfl, rfl, rfl, trivial⟩, hs⟩
          · obtain ⟨hf, hs⟩ := hJ
            replace H := HO82
            clear HO82
            refine itt H (fun hc90 H => ?_) (fun hc90 H => ?_)
            · -- x82 = true
              replace hf := hf.castB (t := 95) rfl hc90
              refine cond_T hf rfl ?_
              refine seq_reg (fun K91 hK91 => ?_)
              refine stq hf rfl rfl rfl (ex_assign hf rfl) (fun a hf => ?_)
              refine hK91 _ _ ?_
              refine wp_ret ?_
              refine hR81 _ _ ?_
              have eR := some_eq H; subst eR
              replace hs := hs.keep (.d (.d (.d (.d (.d (.d (.d .nil)))))))
              exact ret1 Try.results8 hf rfl ⟨_, rfl, ⟨rfl, hs⟩⟩
            · -- not x82 = true
              replace hf := hf.castB (t := 95) rfl (bool_f hc90)
              refine cond_F hf rfl ?_
              refine wp_skip ?_
              refine hN81 _ _ ?_
              refine bnd H (fun s92 hs92 H => ?_)
              refine seq_reg (fun K93 hK93 => ?_)
              refine stq hf rfl rfl rfl (ex_move hf rfl) (fun a hf => ?_)
              refine stq hf rfl rfl rfl (ex_move hf rfl) (fun a hf => ?_)
              refine stq hf rfl rfl rfl (ex_conv Try.underlying2 Try.underlying23 hf rfl) (fun a hf => ?_)
              refine stepF hf rfl rfl rfl (ex_call cf_11 hf rfl) (thermal_Throttle.calls k s61 (IntKind.u64.wrap s20.1) v62 (hs.enter (.k (.k (.k (.k (.k (.k (.k .nil)))))))) (Sr.own hs (.k (.k (.k (.k (.k (.k (.k .nil))))))) (i := 4) rfl osl_rsl (fun _ h => h.1) (Sr.nil _ _)) hs92) (fun v w hR a hf => ?_)
              obtain ⟨rfl, hs'⟩ := hR
              replace hs := hs.step (.k (.k (.k (.k (.k (.k (.k .nil))))))) hs'
              clear hs'
              refine stq hf rfl rfl rfl (ex_move hf rfl) (fun a hf => ?_)
              refine stq hf rfl rfl rfl (ex_extract hf rfl rfl) (fun a hf => ?_)
              refine stq hf rfl rfl rfl (ex_extract hf rfl rfl) (fun a hf => ?_)
              refine stq hf rfl rfl rfl (ex_assign hf rfl) (fun a hf => ?_)
              refine stq hf rfl rfl rfl (ex_assign hf rfl) (fun a hf => ?_)
              refine hK93 _ _ ?_
              refine seq_n (fun Q94 hN94 hR94 hX94 => ?_)
              refine seq_reg (fun K95 hK95 => ?_)
              refine stq hf rfl rfl rfl (ex_move hf rfl) (fun a hf => ?_)
              refine stq hf rfl rfl rfl (ex_neq hf rfl rfl) (fun a hf => ?_)
              refine hK95 _ _ ?_
              refine itt H (fun hc96 H => ?_) (fun hc96 H => ?_)
              · -- s92.2 = 0
                replace hf := hf.castB (t := 104) rfl (ndec_f hc96)
                refine cond_F hf rfl ?_
                refine wp_skip ?_
                refine hN94 _ _ ?_
                refine seq_n (fun Q97 hN97 hR97 hX97 => ?_)
                refine bnd H (fun s98 hs98 H => ?_)
                refine seq_reg (fun K99 hK99 => ?_)
                refine stq hf rfl rfl rfl (ex_move hf rfl) (fun a hf => ?_)
                refine stq hf rfl rfl rfl (ex_move hf rfl) (fun a hf => ?_)
                refine stepF hf rfl rfl rfl (ex_call cf_24 hf rfl) (perf_Governor_Limit.calls k c66.1 c66.2.1 c66.2.2.1 c66.2.2.2.1 c66.2.2.2.2.1 c66.2.2.2.2.2.1 c66.2.2.2.2.2.2.1 c66.2.2.2.2.2.2.2 0 s92.1 b78 v79 (hs.enter (.k (.k (.k (.k (.k (.c (.k .nil)))))))) (Sr.own hs (.k (.k (.k (.k (.k (.c (.k .nil))))))) (i := 5) rfl osl_rsl (fun _ h => h.1) (Sr.nil _ _)) hs98) (fun v w hR a hf => ?_)
                obtain ⟨rfl, hs'⟩ := hR
                replace hs := hs.step (.k (.k (.k (.k (.k (.c (.k .nil))))))) hs'
                clear hs'
                refine stq hf rfl rfl rfl (ex_neq hf rfl rfl) (fun a hf => ?_)
                refine hK99 _ _ ?_
                refine itt H (fun hc100 H => ?_) (fun hc100 H => ?_)
                · -- s98.2.2.2.2 = 0
                  replace hf := hf.castB (t := 113) rfl (ndec_f hc100)
                  refine cond_F hf rfl ?_
                  refine wp_skip ?_
                  refine hN97 _ _ ?_
                  refine bnd H (fun x101 H101 HO101 => ?_)
                  clear H
                  refine seq_cut (fun a w => ∃ (x101s : Unit), x101 = .go x101s ∧ Fr a 169 [] ∧ St M w0 w []) (fun Q101 hJ101 hR101 hX101 => ?_) (fun a w hJ => ?_)
                  · replace H := H101
                    refine seq_reg (fun K102 hK102 => ?_)
                    refine stq hf rfl rfl rfl (ex_assign hf rfl) (fun a hf => ?_)
                    refine hK102 _ _ ?_
                    refine block_k (fun Q103 hN103 hR103 hX103 hY103 => ?_)
                    refine loop_k (fun n a w => ∃ (y105 : (List Int)) (y106 : Int) (y107 : Int) (y108 : Int) (y109 : Int) (v104 : Value), Fr a 169 [(4, v4), (12, .int .i64 (IntKind.i64.wrap (s12.2.2 + (IntKind.i64.wrap (Int.tmod (IntKind.u64.wrap a2) 60))))), (15, .pointer (some ⟨b56, 0, none⟩)), (17, v62), (18, .pointer (some ⟨b78, 0, none⟩)), (22, .int .i64 y109)] ∧ St M w0 w [bx b56 89 [v57, v58, .int .i64 c24.2.2.1, v104, .int .i64 y106], osl K_api_HeatDomain v57 c24.1, osl K_api_HeatLink v58 c24.2.1, osl K_int64 v104 y105, osl K_api_OperatingPoint v62 s61, bx b78 102 [v79, .int .i64 c66.2.1, .int .i64 c66.2.2.1, .int .i64 c66.2.2.2.1, .int .i64 s98.1, .int .i64 s98.2.1, .int .i64 y107, .int .i64 y108], osl K_api_OperatingPoint v79 c66.1] ∧ law39_ThermalThrottledGovernor.l1 n a4 c66 s98 s61 c24 s12 a2 y105 y106 y107 y108 y109 = some x101) k ?_ (fun n111 a w hI Q111 hL111 hR111 hX111 => ?_)
                    · -- at the start
                      replace hs := hs.pick (.k (.k (.k (.k (.k (.k (.c .nil)))))))
                      replace hs := hs.pick (.k (.c (.k (.k (.k (.k (.k .nil)))))))
                      replace hs := hs.pick (.k (.k (.k (.k (.k (.k (.c .nil)))))))
                      replace hs := hs.pick (.k (.k (.k (.k (.k (.k (.c .nil)))))))
                      replace hs := hs.pick (.k (.k (.k (.k (.k (.k (.c .nil)))))))
                      replace hs := hs.pick (.k (.k (.k (.k (.k (.k (.c .nil)))))))
                      replace hs := hs.pick (.k (.k (.k (.k (.k (.k (.c .nil)))))))
                      exact ⟨c24.2.2.2.1, c24.2.2.2.2, s98.2.2.1, s98.2.2.2.1, 0, v59, hf.sub ⟨rfl, rfl, rfl, rfl, rfl, rfl, trivial⟩, hs, H⟩
                    · obtain ⟨y105, y106, y107, y108, y109, v104, hf, hs, H⟩ := hI
                      cases n111 with
                      | zero => exact absurd H (by rw [law39_ThermalThrottledGovernor.l1.eq_1]; intro h; cases h)
                      | succ k111 =>
                        replace H := (law39_ThermalThrottledGovernor.l1.eq_2 ..).symm.trans H
                        refine seq_n (fun Q112 hN112 hR112 hX112 => ?_)
                        refine seq_reg (fun K113 hK113 => ?_)
                        refine stq hf rfl rfl rfl (ex_move hf rfl) (fun a hf => ?_)
                        refine stq hf rfl rfl rfl (ex_move hf rfl) (fun a hf => ?_)
                        refine stq hf rfl rfl rfl (ex_lenS Try.underlying71 (rsl_isSl (hr.now hs (i := 1) rfl)) hf rfl) (fun a hf => ?_)
                        refine stq hf rfl rfl rfl (ex_lss hf rfl rfl) (fun a hf => ?_)
                        refine hK113 _ _ ?_
                        refine itt H (fun hc114 H => ?_) (fun hc114 H => ?_)
                        · -- y109 < (a4.length : Int)
                          replace hf := hf.castB (t := 117) rfl (dec_t hc114)
                          refine cond_T hf rfl ?_
                          refine wp_skip ?_
                          refine hN112 _ _ ?_
                          refine seq_n (fun Q115 hN115 hR115 hX115 => ?_)
                          refine block_k (fun Q116 hN116 hR116 hX116 hY116 => ?_)
                          refine ck_some H (fun hc117 H => ?_)
                          refine bnd H (fun s118 hs118 H => ?_)
                          refine bnd H (fun s119 hs119 H => ?_)
                          refine seq_reg (fun K120 hK120 => ?_)
                          refine stq hf rfl rfl rfl (ex_move hf rfl) (fun a hf => ?_)
                          refine stq hf rfl rfl rfl (ex_move hf rfl) (fun a hf => ?_)
                          refine stq hf rfl rfl rfl (ex_move hf rfl) (fun a hf => ?_)
                          refine stq hf rfl rfl rfl (ex_indexAddr sa_71 (rsl_isSl (hr.now hs (i := 1) rfl)) hc117.1 hc117.2 hf rfl rfl) (fun a hf => ?_)
                          refine stq hf rfl rfl rfl (ex_load sc_3 hf rfl (el_cell (K := K_int) (f := 0) (rsl_rd (hr.now hs (i := 1) rfl)) hc117.1 hc117.2 rfl)) (fun a hf => ?_)
                          refine stepF hf rfl rfl rfl (ex_call cf_18 hf rfl) (help_Mod.calls k111 (gd 0 a4 y109) 101 (hs.enter (.k (.k (.k (.k (.k (.k (.k .nil)))))))) (Sr.nil _ _) hs118) (fun v w hR a hf => ?_)
                          obtain ⟨rfl, hs'⟩ := hR
                          replace hs := hs.step (.k (.k (.k (.k (.k (.k (.k .nil))))))) hs'
                          clear hs'
                          refine stepF hf rfl rfl rfl (ex_call cf_25 hf rfl) (perf_Governor_Sample.calls k111 c66.1 c66.2.1 c66.2.2.1 c66.2.2.2.1 s98.1 s98.2.1 y107 y108 s118 b78 v79 (hs.enter (.k (.k (.k (.k (.k (.c (.k .nil)))))))) (Sr.own hs (.k (.k (.k (.k (.k (.c (.k .nil))))))) (i := 5) rfl osl_rsl (fun _ h => h.1) (Sr.nil _ _)) hs119) (fun v w hR a hf => ?_)
                          obtain ⟨rfl, hs'⟩ := hR
                          replace hs := hs.step (.k (.k (.k (.k (.k (.c (.k .nil))))))) hs'
                          clear hs'
                          refine stq hf rfl rfl rfl (ex_move hf rfl) (fun a hf => ?_)
                          refine stq hf rfl rfl rfl (ex_extract hf rfl rfl) (fun a hf => ?_)
                          refine stq hf rfl rfl rfl (ex_extract hf rfl rfl) (fun a hf => ?_)
                          refine stq hf rfl rfl rfl (ex_assign hf rfl) (fun a hf => ?_)
                          refine stq hf rfl rfl rfl (ex_assign hf rfl) (fun a hf => ?_)
                          refine hK120 _ _ ?_
                          refine seq_n (fun Q121 hN121 hR121 hX121 => ?_)
                          refine bnd H (fun x122 H122 HO122 => ?_)
                          clear H
                          refine seq_cut (fun a w => Fr a 169 [(4, v4), (12, .int .i64 (IntKind.i64.wrap (s12.2.2 + (IntKind.i64.wrap (Int.tmod (IntKind.u64.wrap a2) 60))))), (15, .pointer (some ⟨b56, 0, none⟩)), (17, v62), (18, .pointer (some ⟨b78, 0, none⟩)), (22, .int .i64 y109), (23, .int .i64 s119.2.2.1), (141, .bool x122)] ∧ St M w0 w [bx b56 89 [v57, v58, .int .i64 c24.2.2.1, v104, .int .i64 y106], osl K_api_HeatDomain v57 c24.1, osl K_api_HeatLink v58 c24.2.1, osl K_int64 v104 y105, osl K_api_OperatingPoint v62 s61, bx b78 102 [v79, .int .i64 c66.2.1, .int .i64 c66.2.2.1, .int .i64 c66.2.2.2.1, .int .i64 s98.1, .int .i64 s98.2.1, .int .i64 s119.1, .int .i64 s119.2.1], osl K_api_OperatingPoint v79 c66.1]) (fun Q122 hJ122 hR122 hX122 => ?_) (fun a w hJ => ?_)
                          · replace H := H122
                            refine itt H (fun hc123 H => ?_) (fun hc123 H => ?_)
                            · -- s119.2.2.2 = 0
                              refine itt H (fun hc124 H => ?_) (fun hc124 H => ?_)
                              · -- s119.2.2.1 < 0
                                refine region_k (fun K125 hK125 => ?_)
                                refine stq hf rfl rfl rfl (ex_move hf rfl) (fun a hf => ?_)
                                refine stq hf rfl rfl rfl (ex_neq hf rfl rfl) (fun a hf => ?_)
                                refine stq hf rfl rfl rfl (ex_move hf rfl) (fun a hf => ?_)
                                replace hf := hf.castB (t := 131) rfl (ndec_f hc123)
                                replace hf := hf.castB (t := 132) rfl (ndec_f hc123)
                                refine stq hf rfl rfl rfl (ex_move hf rfl) (fun a hf => ?_)
                                refine stq hf rfl rfl rfl (ex_lss hf rfl rfl) (fun a hf => ?_)
                                refine stq hf rfl rfl rfl (ex_pickF hf rfl rfl) (fun a hf => ?_)
                                refine stq hf rfl rfl rfl (ex_move hf rfl) (fun a hf => ?_)
                                replace hf := hf.castB (t := 134) rfl (dec_t hc124)
                                replace hf := hf.castB (t := 135) rfl (dec_t hc124)
                                replace hf := hf.castB (t := 136) rfl (dec_t hc124)
                                refine stepN hf rfl rfl rfl (fun a hf => ?_)
                                refine stepN hf rfl rfl rfl (fun a hf => ?_)
                                refine stepN hf rfl rfl rfl (fun a hf => ?_)
                                refine stepN hf rfl rfl rfl (fun a hf => ?_)
                                refine stq hf rfl rfl rfl (ex_pickT hf rfl rfl) (fun a hf => ?_)
                                refine hK125 _ _ ?_
                                replace hs := hs.pick (.k (.k (.k (.k (.k (.k (.c .nil)))))))
                                replace hs := hs.pick (.k (.c (.k (.k (.k (.k (.k .nil)))))))
                                replace hs := hs.pick (.k (.k (.k (.k (.k (.k (.c .nil)))))))
                                replace hs := hs.pick (.k (.k (.k (.k (.k (.k (.c .nil)))))))
                                replace hs := hs.pick (.k (.k (.k (.k (.k (.k (.c .nil)))))))
                                replace hs := hs.pick (.k (.k (.k (.k (.k (.k (.c .nil)))))))
                                replace hs := hs.pick (.k (.k (.k (.k (.k (.k (.c .nil)))))))
                                have e122 := some_eq H; subst e122
                                exact hJ122 _ _ ⟨hf.sub ⟨rfl, rfl, rfl, rfl, rfl, rfl, rfl, rfl, trivial⟩, hs⟩
                              · -- not s119.2.2.1 < 0
                                refine region_k (fun K126 hK126 => ?_)
                                refine stq hf rfl rfl rfl (ex_move hf rfl) (fun a hf => ?_)
                                refine stq hf rfl rfl rfl (ex_neq hf rfl rfl) (fun a hf => ?_)
                                refine stq hf rfl rfl rfl (ex_move hf rfl) (fun a hf => ?_)
                                replace hf := hf.castB (t := 131) rfl (ndec_f hc123)
                                replace hf := hf.castB (t := 132) rfl (ndec_f hc123)
                                refine stq hf rfl rfl rfl (ex_move hf rfl) (fun a hf => ?_)
                                refine stq hf rfl rfl rfl (ex_lss hf rfl rfl) (fun a hf => ?_)
                                refine stq hf rfl rfl rfl (ex_pickF hf rfl rfl) (fun a hf => ?_)
                                refine stq hf rfl rfl rfl (ex_move hf rfl) (fun a hf => ?_)
                                replace hf := hf.castB (t := 134) rfl (dec_f hc124)
                                replace hf := hf.castB (t := 135) rfl (dec_f hc124)
                                replace hf := hf.castB (t := 136) rfl (dec_f hc124)
                                refine stq hf rfl rfl rfl (ex_move hf rfl) (fun a hf => ?_)
                                refine stq hf rfl rfl rfl (ex_move hf rfl) (fun a hf => ?_)
                                refine stq hf rfl rfl rfl (ex_lenS Try.underlying22 (rsl_isSl (osl_rsl _ (hs.get (i := 5) rfl))) hf rfl) (fun a hf => ?_)
                                refine stq hf rfl rfl rfl (ex_geq hf rfl rfl) (fun a hf => ?_)
                                refine stq hf rfl rfl rfl (ex_pickF hf rfl rfl) (fun a hf => ?_)
                                refine hK126 _ _ ?_
                                replace hs := hs.pick (.k (.k (.k (.k (.k (.k (.c .nil)))))))
                                replace hs := hs.pick (.k (.c (.k (.k (.k (.k (.k .nil)))))))
                                replace hs := hs.pick (.k (.k (.k (.k (.k (.k (.c .nil)))))))
                                replace hs := hs.pick (.k (.k (.k (.k (.k (.k (.c .nil)))))))
                                replace hs := hs.pick (.k (.k (.k (.k (.k (.k (.c .nil)))))))
                                replace hs := hs.pick (.k (.k (.k (.k (.k (.k (.c .nil)))))))
                                replace hs := hs.pick (.k (.k (.k (.k (.k (.k (.c .nil)))))))
                                have e122 := some_eq H; subst e122
                                exact hJ122 _ _ ⟨hf.sub ⟨rfl, rfl, rfl, rfl, rfl, rfl, rfl, rfl, trivial⟩, hs⟩
                            · -- not s119.2.2.2 = 0
                              refine region_k (fun K127 hK127 => ?_)
                              refine stq hf rfl rfl rfl (ex_move hf rfl) (fun a hf => ?_)
                              refine stq hf rfl rfl rfl (ex_neq hf rfl rfl) (fun a hf => ?_)
                              refine stq hf rfl rfl rfl (ex_move hf rfl) (fun a hf => ?_)
                              replace hf := hf.castB (t := 131) rfl (ndec_t hc123)
                              replace hf := hf.castB (t := 132) rfl (ndec_t hc123)
                              refine stepN hf rfl rfl rfl (fun a hf => ?_)
                              refine stepN hf rfl rfl rfl (fun a hf => ?_)
                              refine stq hf rfl rfl rfl (ex_pickT hf rfl rfl) (fun a hf => ?_)
                              refine stq hf rfl rfl rfl (ex_move hf rfl) (fun a hf => ?_)
                              refine stepN hf rfl rfl rfl (fun a hf => ?_)
                              refine stepN hf rfl rfl rfl (fun a hf => ?_)
                              refine stepN hf rfl rfl rfl (fun a hf => ?_)
                              refine stepN hf rfl rfl rfl (fun a hf => ?_)
                              refine stq hf rfl rfl rfl (ex_pickT hf rfl rfl) (fun a hf => ?_)
                              refine hK127 _ _ ?_
                              replace hs := hs.pick (.k (.k (.k (.k (.k (.k (.c .nil)))))))
                              replace hs := hs.pick (.k (.c (.k (.k (.k (.k (.k .nil)))))))
                              replace hs := hs.pick (.k (.k (.k (.k (.k (.k (.c .nil)))))))
                              replace hs := hs.pick (.k (.k (.k (.k (.k (.k (.c .nil)))))))
                              replace hs := hs.pick (.k (.k (.k (.k (.k (.k (.c .nil)))))))
                              replace hs := hs.pick (.k (.k (.k (.k (.k (.k (.c .nil)))))))
                              replace hs := hs.pick (.k (.k (.k (.k (.k (.k (.c .nil)))))))
                              have e122 := some_eq H; subst e122
                              exact hJ122 _ _ ⟨hf.sub ⟨rfl, rfl, rfl, rfl, rfl, rfl, rfl, rfl, trivial⟩, hs⟩
                          · obtain ⟨hf, hs⟩ := hJ
                            replace H := HO122
                            clear HO122
                            refine itt H (fun hc128 H => ?_) (fun hc128 H => ?_)
                            · -- x122 = true
                              replace hf := hf.castB (t := 141) rfl hc128
                              refine cond_T hf rfl ?_
                              refine seq_reg (fun K129 hK129 => ?_)
                              refine stq hf rfl rfl rfl (ex_assign hf rfl) (fun a hf => ?_)
                              refine hK129 _ _ ?_
                              refine wp_ret ?_
                              refine hR121 _ _ ?_
                              refine hR116 _ _ ?_
                              refine hR115 _ _ ?_
                              refine hR111 _ _ ?_
                              refine hR103 _ _ ?_
                              have e101 := some_eq H; subst e101; replace H := el_rt HO101
                              refine hR101 _ _ ?_
                              have eR := some_eq H; subst eR
                              replace hs := hs.keep (.d (.d (.d (.d (.d (.d (.d .nil)))))))
                              exact ret1 Try.results8 hf rfl ⟨_, rfl, ⟨rfl, hs⟩⟩
                            · -- not x122 = true
                              replace hf := hf.castB (t := 141) rfl (bool_f hc128)
                              refine cond_F hf rfl ?_
                              refine wp_skip ?_
                              refine hN121 _ _ ?_
                              refine ck_some H (fun hc130 H => ?_)
                              refine bnd H (fun s132 hs132 H => ?_)
                              refine seq_reg (fun K135 hK135 => ?_)
                              refine stq hf rfl rfl rfl (ex_move hf rfl) (fun a hf => ?_)
                              refine stq hf rfl rfl rfl (ex_move hf rfl) (fun a hf => ?_)
                              refine stq hf rfl rfl rfl (ex_move hf rfl) (fun a hf => ?_)
                              refine stq hf rfl rfl rfl (ex_indexAddr sa_22 (rsl_isSl (osl_rsl _ (hs.get (i := 4) rfl))) hc130.1 hc130.2 hf rfl rfl) (fun a hf => ?_)
                              refine stq hf rfl rfl rfl (ex_fieldAddrS fa_30_2 rfl hf rfl) (fun a hf => ?_)
                              refine stq hf rfl rfl rfl (ex_load sc_23 hf rfl (el_cell (K := K_api_OperatingPoint) (f := 2) (rsl_rd (osl_rsl _ (hs.get (i := 4) rfl))) hc130.1 hc130.2 rfl)) (fun a hf => ?_)
                              refine stq hf rfl rfl rfl (ex_conv Try.underlying23 Try.underlying2 hf rfl) (fun a hf => ?_)
                              refine stepV hf rfl rfl rfl (er_buildSlice (K := K_int64) (xs := [(IntKind.i64.wrap ((gd OperatingPoint.zero s61 s119.2.2.1).Power))]) hs Try.underlying34 ep_2 rfl rfl hf rfl (.cons rfl .nil) rfl rfl) (fun v131 w hs a hf => ?_)
                              refine stepF hf rfl rfl rfl (ex_call cf_17 hf rfl) (heat_Model_Step.calls k111 c24.1 c24.2.1 c24.2.2.1 y105 y106 [(IntKind.i64.wrap ((gd OperatingPoint.zero s61 s119.2.2.1).Power))] b56 v57 v58 v104 v131 (hs.enter (.k (.c (.k (.k (.c (.k (.k (.k .nil))))))))) (Sr.own hs (.k (.c (.k (.k (.c (.k (.k (.k .nil)))))))) (i := 1) rfl osl_rsl (fun _ h => h.1) (Sr.own hs (.k (.c (.k (.k (.c (.k (.k (.k .nil)))))))) (i := 2) rfl osl_rsl (fun _ h => h.1) (Sr.own hs (.k (.c (.k (.k (.c (.k (.k (.k .nil)))))))) (i := 0) rfl osl_rsl (fun _ h => h.1) (Sr.nil _ _)))) hs132) (fun v w hR a hf => ?_)
                              obtain ⟨v133, v134, rfl, hs'⟩ := hR
                              replace hs := hs.step (.k (.c (.k (.k (.c (.k (.k (.k .nil)))))))) hs'
                              clear hs'
                              refine stq hf rfl rfl rfl (ex_move hf rfl) (fun a hf => ?_)
                              refine stq hf rfl rfl rfl (ex_extract hf rfl rfl) (fun a hf => ?_)
                              refine stq hf rfl rfl rfl (ex_extract hf rfl rfl) (fun a hf => ?_)
                              refine stq hf rfl rfl rfl (ex_assign hf rfl) (fun a hf => ?_)
                              refine stq hf rfl rfl rfl (ex_assign hf rfl) (fun a hf => ?_)
                              refine hK135 _ _ ?_
                              refine bnd H (fun x136 H136 HO136 => ?_)
                              clear H
                              refine seq_cut (fun a w => Fr a 169 [(4, v4), (12, .int .i64 (IntKind.i64.wrap (s12.2.2 + (IntKind.i64.wrap (Int.tmod (IntKind.u64.wrap a2) 60))))), (15, .pointer (some ⟨b56, 0, none⟩)), (17, v62), (18, .pointer (some ⟨b78, 0, none⟩)), (22, .int .i64 y109), (167, .bool x136)] ∧ St M w0 w [bx b56 89 [v57, v58, .int .i64 c24.2.2.1, v133, .int .i64 s132.1], osl K_api_HeatDomain v57 c24.1, osl K_api_HeatLink v58 c24.2.1, osl K_int64 v133 s132.2.1, osl K_api_OperatingPoint v62 s61, bx b78 102 [v79, .int .i64 c66.2.1, .int .i64 c66.2.2.1, .int .i64 c66.2.2.2.1, .int .i64 s98.1, .int .i64 s98.2.1, .int .i64 s119.1, .int .i64 s119.2.1], osl K_api_OperatingPoint v79 c66.1]) (fun Q136 hJ136 hR136 hX136 => ?_) (fun a w hJ => ?_)
                              · replace H := H136
                                refine itt H (fun hc137 H => ?_) (fun hc137 H => ?_)
                                · -- s132.2.2.2 = 0
                                  refine itt H (fun hc138 H => ?_) (fun hc138 H => ?_)
                                  · -- (s132.2.2.1.length : Int) = 1
                                    refine ck_some H (fun hc139 H => ?_)
                                    refine region_k (fun K140 hK140 => ?_)
                                    refine stq hf rfl rfl rfl (ex_move hf rfl) (fun a hf => ?_)
                                    refine stq hf rfl rfl rfl (ex_neq hf rfl rfl) (fun a hf => ?_)
                                    refine stq hf rfl rfl rfl (ex_move hf rfl) (fun a hf => ?_)
                                    replace hf := hf.castB (t := 155) rfl (ndec_f hc137)
                                    replace hf := hf.castB (t := 156) rfl (ndec_f hc137)
                                    refine stq hf rfl rfl rfl (ex_move hf rfl) (fun a hf => ?_)
                                    refine stq hf rfl rfl rfl (ex_lenS Try.underlying34 (rsl_isSl (osl_rsl _ (hs.get (i := 2) rfl))) hf rfl) (fun a hf => ?_)
                                    refine stq hf rfl rfl rfl (ex_neq hf rfl rfl) (fun a hf => ?_)
                                    refine stq hf rfl rfl rfl (ex_pickF hf rfl rfl) (fun a hf => ?_)
                                    refine stq hf rfl rfl rfl (ex_move hf rfl) (fun a hf => ?_)
                                    replace hf := hf.castB (t := 159) rfl (ndec_f hc138)
                                    replace hf := hf.castB (t := 160) rfl (ndec_f hc138)
                                    replace hf := hf.castB (t := 161) rfl (ndec_f hc138)
                                    refine stq hf rfl rfl rfl (ex_move hf rfl) (fun a hf => ?_)
                                    refine stq hf rfl rfl rfl (ex_indexAddr sa_34 (rsl_isSl (osl_rsl _ (hs.get (i := 2) rfl))) hc139.1 hc139.2 hf rfl rfl) (fun a hf => ?_)
                                    refine stq hf rfl rfl rfl (ex_load sc_2 hf rfl (el_cell (K := K_int64) (f := 0) (rsl_rd (osl_rsl _ (hs.get (i := 2) rfl))) hc139.1 hc139.2 rfl)) (fun a hf => ?_)
                                    refine stq hf rfl rfl rfl (ex_move hf rfl) (fun a hf => ?_)
                                    refine stq hf rfl rfl rfl (ex_gtr hf rfl rfl) (fun a hf => ?_)
                                    refine stq hf rfl rfl rfl (ex_pickF hf rfl rfl) (fun a hf => ?_)
                                    refine hK140 _ _ ?_
                                    replace hs := hs.keep (.k (.k (.d (.d (.k (.k (.k (.k (.k .nil)))))))))
                                    replace hs := hs.pick (.k (.k (.k (.k (.k (.k (.c .nil)))))))
                                    replace hs := hs.pick (.k (.k (.k (.k (.k (.k (.c .nil)))))))
                                    replace hs := hs.pick (.k (.k (.k (.k (.k (.k (.c .nil)))))))
                                    replace hs := hs.pick (.k (.k (.k (.k (.c (.k (.k .nil)))))))
                                    replace hs := hs.pick (.k (.k (.k (.k (.k (.k (.c .nil)))))))
                                    replace hs := hs.pick (.k (.k (.k (.k (.k (.k (.c .nil)))))))
                                    replace hs := hs.pick (.k (.k (.k (.k (.k (.k (.c .nil)))))))
                                    have e136 := some_eq H; subst e136
                                    exact hJ136 _ _ ⟨hf.sub ⟨rfl, rfl, rfl, rfl, rfl, rfl, rfl, trivial⟩, hs⟩
                                  · -- not (s132.2.2.1.length : Int) = 1
                                    refine region_k (fun K141 hK141 => ?_)
                                    refine stq hf rfl rfl rfl (ex_move hf rfl) (fun a hf => ?_)
                                    refine stq hf rfl rfl rfl (ex_neq hf rfl rfl) (fun a hf => ?_)
                                    refine stq hf rfl rfl rfl (ex_move hf rfl) (fun a hf => ?_)
                                    replace hf := hf.castB (t := 155) rfl (ndec_f hc137)
                                    replace hf := hf.castB (t := 156) rfl (ndec_f hc137)
                                    refine stq hf rfl rfl rfl (ex_move hf rfl) (fun a hf => ?_)
                                    refine stq hf rfl rfl rfl (ex_lenS Try.underlying34 (rsl_isSl (osl_rsl _ (hs.get (i := 2) rfl))) hf rfl) (fun a hf => ?_)
                                    refine stq hf rfl rfl rfl (ex_neq hf rfl rfl) (fun a hf => ?_)
                                    refine stq hf rfl rfl rfl (ex_pickF hf rfl rfl) (fun a hf => ?_)
                                    refine stq hf rfl rfl rfl (ex_move hf rfl) (fun a hf => ?_)
                                    replace hf := hf.castB (t := 159) rfl (ndec_t hc138)
                                    replace hf := hf.castB (t := 160) rfl (ndec_t hc138)
                                    replace hf := hf.castB (t := 161) rfl (ndec_t hc138)
                                    refine stepN hf rfl rfl rfl (fun a hf => ?_)
                                    refine stepN hf rfl rfl rfl (fun a hf => ?_)
                                    refine stepN hf rfl rfl rfl (fun a hf => ?_)
                                    refine stepN hf rfl rfl rfl (fun a hf => ?_)
                                    refine stepN hf rfl rfl rfl (fun a hf => ?_)
                                    refine stq hf rfl rfl rfl (ex_pickT hf rfl rfl) (fun a hf => ?_)
                                    refine hK141 _ _ ?_
                                    replace hs := hs.keep (.k (.k (.d (.d (.k (.k (.k (.k (.k .nil)))))))))
                                    replace hs := hs.pick (.k (.k (.k (.k (.k (.k (.c .nil)))))))
                                    replace hs := hs.pick (.k (.k (.k (.k (.k (.k (.c .nil)))))))
                                    replace hs := hs.pick (.k (.k (.k (.k (.k (.k (.c .nil)))))))
                                    replace hs := hs.pick (.k (.k (.k (.k (.c (.k (.k .nil)))))))
                                    replace hs := hs.pick (.k (.k (.k (.k (.k (.k (.c .nil)))))))
                                    replace hs := hs.pick (.k (.k (.k (.k (.k (.k (.c .nil)))))))
                                    replace hs := hs.pick (.k (.k (.k (.k (.k (.k (.c .nil)))))))
                                    have e136 := some_eq H; subst e136
                                    exact hJ136 _ _ ⟨hf.sub ⟨rfl, rfl, rfl, rfl, rfl, rfl, rfl, trivial⟩, hs⟩
                                · -- not s132.2.2.2 = 0
                                  refine region_k (fun K142 hK142 => ?_)
                                  refine stq hf rfl rfl rfl (ex_move hf rfl) (fun a hf => ?_)
                                  refine stq hf rfl rfl rfl (ex_neq hf rfl rfl) (fun a hf => ?_)
                                  refine stq hf rfl rfl rfl (ex_move hf rfl) (fun a hf => ?_)
                                  replace hf := hf.castB (t := 155) rfl (ndec_t hc137)
                                  replace hf := hf.castB (t := 156) rfl (ndec_t hc137)
                                  refine stepN hf rfl rfl rfl (fun a hf => ?_)
                                  refine stepN hf rfl rfl rfl (fun a hf => ?_)
                                  refine stepN hf rfl rfl rfl (fun a hf => ?_)
                                  refine stq hf rfl rfl rfl (ex_pickT hf rfl rfl) (fun a hf => ?_)
                                  refine stq hf rfl rfl rfl (ex_move hf rfl) (fun a hf => ?_)
                                  refine stepN hf rfl rfl rfl (fun a hf => ?_)
                                  refine stepN hf rfl rfl rfl (fun a hf => ?_)
                                  refine stepN hf rfl rfl rfl (fun a hf => ?_)
                                  refine stepN hf rfl rfl rfl (fun a hf => ?_)
                                  refine stepN hf rfl rfl rfl (fun a hf => ?_)
                                  refine stq hf rfl rfl rfl (ex_pickT hf rfl rfl) (fun a hf => ?_)
                                  refine hK142 _ _ ?_
                                  replace hs := hs.keep (.k (.k (.d (.d (.k (.k (.k (.k (.k .nil)))))))))
                                  replace hs := hs.pick (.k (.k (.k (.k (.k (.k (.c .nil)))))))
                                  replace hs := hs.pick (.k (.k (.k (.k (.k (.k (.c .nil)))))))
                                  replace hs := hs.pick (.k (.k (.k (.k (.k (.k (.c .nil)))))))
                                  replace hs := hs.pick (.k (.k (.k (.k (.c (.k (.k .nil)))))))
                                  replace hs := hs.pick (.k (.k (.k (.k (.k (.k (.c .nil)))))))
                                  replace hs := hs.pick (.k (.k (.k (.k (.k (.k (.c .nil)))))))
                                  replace hs := hs.pick (.k (.k (.k (.k (.k (.k (.c .nil)))))))
                                  have e136 := some_eq H; subst e136
                                  exact hJ136 _ _ ⟨hf.sub ⟨rfl, rfl, rfl, rfl, rfl, rfl, rfl, trivial⟩, hs⟩
                              · obtain ⟨hf, hs⟩ := hJ
                                replace H := HO136
                                clear HO136
                                refine itt H (fun hc143 H => ?_) (fun hc143 H => ?_)
                                · -- x136 = true
                                  replace hf := hf.castB (t := 167) rfl hc143
                                  refine cond_T hf rfl ?_
                                  refine seq_reg (fun K144 hK144 => ?_)
                                  refine stq hf rfl rfl rfl (ex_assign hf rfl) (fun a hf => ?_)
                                  refine hK144 _ _ ?_
                                  refine wp_ret ?_
                                  refine hR116 _ _ ?_
                                  refine hR115 _ _ ?_
                                  refine hR111 _ _ ?_
                                  refine hR103 _ _ ?_
                                  have e101 := some_eq H; subst e101; replace H := el_rt HO101
                                  refine hR101 _ _ ?_
                                  have eR := some_eq H; subst eR
                                  replace hs := hs.keep (.d (.d (.d (.d (.d (.d (.d .nil)))))))
                                  exact ret1 Try.results8 hf rfl ⟨_, rfl, ⟨rfl, hs⟩⟩
                                · -- not x136 = true
                                  replace hf := hf.castB (t := 167) rfl (bool_f hc143)
                                  refine cond_F hf rfl ?_
                                  refine wp_skip ?_
                                  refine hN116 _ _ ?_
                                  refine hN115 _ _ ?_
                                  refine region_k (fun K145 hK145 => ?_)
                                  refine stq hf rfl rfl rfl (ex_move hf rfl) (fun a hf => ?_)
                                  refine stq hf rfl rfl rfl (ex_add hf rfl rfl) (fun a hf => ?_)
                                  refine stq hf rfl rfl rfl (ex_assign hf rfl) (fun a hf => ?_)
                                  refine hK145 _ _ ?_
                                  exact hL111 k111 _ _ (Nat.lt_succ_self _) ⟨s132.2.1, s132.1, s119.1, s119.2.1, (IntKind.i64.wrap (y109 + 1)), v133, hf.sub ⟨rfl, rfl, rfl, rfl, rfl, rfl, trivial⟩, hs, H⟩
                        · -- not y109 < (a4.length : Int)
                          replace hf := hf.castB (t := 117) rfl (dec_f hc114)
                          refine cond_F hf rfl ?_
                          refine wp_exit ?_
                          refine hX112 0 _ _ ?_
                          refine hX111 0 _ _ ?_
                          refine hX103 _ _ ?_
                          replace hs := hs.keep (.d (.d (.d (.d (.d (.d (.d .nil)))))))
                          have e101 := some_eq H; subst e101
                          exact hJ101 _ _ ⟨_, rfl, hf.sub trivial, hs⟩
                  · obtain ⟨x101s, rfl, hf, hs⟩ := hJ
                    replace H := el_go HO101
                    clear HO101
                    refine bnd H (fun s146 hs146 H => ?_)
                    refine seq_reg (fun K147 hK147 => ?_)
                    refine stepF hf rfl rfl rfl (ex_call cf_9 hf rfl) (law39_awake.calls k (hs.enter .nil) (Sr.nil _ _) hs146) (fun v w hR a hf => ?_)
                    obtain ⟨rfl, hs'⟩ := hR
                    replace hs := hs.step .nil hs'
                    clear hs'
                    refine stq hf rfl rfl rfl (ex_assign hf rfl) (fun a hf => ?_)
                    refine hK147 _ _ ?_
                    refine wp_ret ?_
                    have eR := some_eq H; subst eR
                    exact ret1 Try.results8 hf rfl ⟨_, rfl, ⟨rfl, hs⟩⟩
                · -- not s98.2.2.2.2 = 0
                  replace hf := hf.castB (t := 113) rfl (ndec_t hc100)
                  refine cond_T hf rfl ?_
                  refine seq_reg (fun K148 hK148 => ?_)
                  refine stq hf rfl rfl rfl (ex_assign hf rfl) (fun a hf => ?_)
                  refine hK148 _ _ ?_
                  refine wp_ret ?_
                  refine hR97 _ _ ?_
                  have eR := some_eq H; subst eR
                  replace hs := hs.keep (.d (.d (.d (.d (.d (.d (.d .nil)))))))
                  exact ret1 Try.results8 hf rfl ⟨_, rfl, ⟨rfl, hs⟩⟩
              · -- not s92.2 = 0
                replace hf := hf.castB (t := 104) rfl (ndec_t hc96)
                refine cond_T hf rfl ?_
                refine itt H (fun hc149 H => ?_) (fun hc149 H => ?_)
                · -- s92.2 = 6
                  refine bnd H (fun s150 hs150 H => ?_)
                  refine seq_reg (fun K151 hK151 => ?_)
                  refine stq hf rfl rfl rfl (ex_move hf rfl) (fun a hf => ?_)
                  refine stq hf rfl rfl rfl (ex_eql hf rfl rfl) (fun a hf => ?_)
                  refine stq hf rfl rfl rfl (ex_move hf rfl) (fun a hf => ?_)
                  replace hf := hf.castB (t := 106) rfl (dec_t hc149)
                  replace hf := hf.castB (t := 107) rfl (dec_t hc149)
                  refine stepF hf rfl rfl rfl (ex_call cf_9 hf rfl) (law39_awake.calls k (hs.enter (.k (.k (.k (.k (.k (.k (.k .nil)))))))) (Sr.nil _ _) hs150) (fun v w hR a hf => ?_)
                  obtain ⟨rfl, hs'⟩ := hR
                  replace hs := hs.step (.k (.k (.k (.k (.k (.k (.k .nil))))))) hs'
                  clear hs'
                  refine stq hf rfl rfl rfl (ex_pickT hf rfl rfl) (fun a hf => ?_)
                  refine stq hf rfl rfl rfl (ex_assign hf rfl) (fun a hf => ?_)
                  refine hK151 _ _ ?_
                  refine wp_ret ?_
                  refine hR94 _ _ ?_
                  have eR := some_eq H; subst eR
                  replace hs := hs.keep (.d (.d (.d (.d (.d (.d (.d .nil)))))))
                  exact ret1 Try.results8 hf rfl ⟨_, rfl, ⟨rfl, hs⟩⟩
                · -- not s92.2 = 6
                  refine seq_reg (fun K152 hK152 => ?_)
                  refine stq hf rfl rfl rfl (ex_move hf rfl) (fun a hf => ?_)
                  refine stq hf rfl rfl rfl (ex_eql hf rfl rfl) (fun a hf => ?_)
                  refine stq hf rfl rfl rfl (ex_move hf rfl) (fun a hf => ?_)
                  replace hf := hf.castB (t := 106) rfl (dec_f hc149)
                  replace hf := hf.castB (t := 107) rfl (dec_f hc149)
                  refine stepN hf rfl rfl rfl (fun a hf => ?_)
                  refine stq hf rfl rfl rfl (ex_pickF hf rfl rfl) (fun a hf => ?_)
                  refine stq hf rfl rfl rfl (ex_assign hf rfl) (fun a hf => ?_)
                  refine hK152 _ _ ?_
                  refine wp_ret ?_
                  refine hR94 _ _ ?_
                  have eR := some_eq H; subst eR
                  replace hs := hs.keep (.d (.d (.d (.d (.d (.d (.d .nil)))))))
                  exact ret1 Try.results8 hf rfl ⟨_, rfl, ⟨rfl, hs⟩⟩

end Go.Proofs.Ytannodkbindlbaa.X
