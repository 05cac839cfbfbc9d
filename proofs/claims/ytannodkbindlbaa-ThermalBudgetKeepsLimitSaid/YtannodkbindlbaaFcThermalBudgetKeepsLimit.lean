/- Each function of the machine comes to what its pure function says. -/
import Derived.Test.YtannodkbindlbaaFc1
import Derived.Test.YtannodkbindlbaaFc2
import Derived.Test.YtannodkbindlbaaFc4
import Derived.Test.YtannodkbindlbaaFc5
import Derived.Test.YtannodkbindlbaaFc6
import Derived.Test.YtannodkbindlbaaFb
namespace Go.Proofs.Ytannodkbindlbaa.X
open Go Go.RowKit Go.Sx
set_option linter.unusedVariables false

set_option maxHeartbeats 4000000 in
set_option maxRecDepth 100000 in
theorem law39_ThermalBudgetKeepsLimit.calls {M : Nat → Prop} {w0 : World} (k : Nat) (a0 : HeatDomain) (a1 : Int) (a2 : Int) (a3 : (List Actor)) (a4 : (List Int)) (v3 : Value) (v4 : Value) {r : Bool} (hs : St M w0 w0 []) (hr : Sr M w0 [rsl K_api_Actor v3 a3, rsl K_int64 v4 a4])
    (h : law39_ThermalBudgetKeepsLimit.f k a0 a1 a2 a3 a4 = some r) : Calls Try.prog 6 #[.agg #[.int .i64 a0.Capacity, .int .i64 a0.Ambient], .int .i64 a1, .int .i64 a2, v3, v4] w0 fun e w => ∃ v, e = .returned v ∧ (.bool r = v ∧ St M w0 w []) := by
  have H := (law39_ThermalBudgetKeepsLimit.f.eq_1 ..).symm.trans h
  clear h
  refine enter Try.func6 rfl Try.ntmps6 rfl (fun a hf => ?_)
  refine seq_reg (fun K2 hK2 => ?_)
  refine stepV hf rfl rfl rfl (er_box (cs := [.int .i64 a0.Capacity, .int .i64 a0.Ambient]) hs hf rfl rfl) (fun v w hR a hf => ?_)
  obtain ⟨b1, rfl, hs⟩ := hR
  refine stq hf rfl rfl rfl (ex_assign hf rfl) (fun a hf => ?_)
  refine hK2 _ _ ?_
  refine seq_n (fun Q3 hN3 hR3 hX3 => ?_)
  refine bnd H (fun x4 H4 HO4 => ?_)
  clear H
  refine seq_cut (fun a w => Fr a 161 [(1, .int .i64 a1), (2, .int .i64 a2), (3, v3), (4, v4), (5, .pointer (some ⟨b1, 0, none⟩)), (32, .bool x4)] ∧ St M w0 w [bx b1 33 [.int .i64 a0.Capacity, .int .i64 a0.Ambient]]) (fun Q4 hJ4 hR4 hX4 => ?_) (fun a w hJ => ?_)
  · replace H := H4
    refine itt H (fun hc5 H => ?_) (fun hc5 H => ?_)
    · -- 40 < (a3.length : Int)
      refine region_k (fun K6 hK6 => ?_)
      refine stq hf rfl rfl rfl (ex_move hf rfl) (fun a hf => ?_)
      refine stq hf rfl rfl rfl (ex_lenS Try.underlying60 (rsl_isSl (hr.now hs (i := 0) rfl)) hf rfl) (fun a hf => ?_)
      refine stq hf rfl rfl rfl (ex_gtr hf rfl rfl) (fun a hf => ?_)
      refine stq hf rfl rfl rfl (ex_move hf rfl) (fun a hf => ?_)
      replace hf := hf.castB (t := 27) rfl (dec_t hc5)
      replace hf := hf.castB (t := 28) rfl (dec_t hc5)
      refine stepN hf rfl rfl rfl (fun a hf => ?_)
      refine stepN hf rfl rfl rfl (fun a hf => ?_)
      refine stepN hf rfl rfl rfl (fun a hf => ?_)
      refine stq hf rfl rfl rfl (ex_pickT hf rfl rfl) (fun a hf => ?_)
      refine hK6 _ _ ?_
      have e4 := some_eq H; subst e4
      exact hJ4 _ _ ⟨hf.sub ⟨rfl, rfl, rfl, rfl, rfl, rfl, trivial⟩, hs⟩
    · -- not 40 < (a3.length : Int)
      refine region_k (fun K7 hK7 => ?_)
      refine stq hf rfl rfl rfl (ex_move hf rfl) (fun a hf => ?_)
      refine stq hf rfl rfl rfl (ex_lenS Try.underlying60 (rsl_isSl (hr.now hs (i := 0) rfl)) hf rfl) (fun a hf => ?_)
      refine stq hf rfl rfl rfl (ex_gtr hf rfl rfl) (fun a hf => ?_)
      refine stq hf rfl rfl rfl (ex_move hf rfl) (fun a hf => ?_)
      replace hf := hf.castB (t := 27) rfl (dec_f hc5)
      replace hf := hf.castB (t := 28) rfl (dec_f hc5)
      refine stq hf rfl rfl rfl (ex_move hf rfl) (fun a hf => ?_)
      refine stq hf rfl rfl rfl (ex_lenS Try.underlying34 (rsl_isSl (hr.now hs (i := 1) rfl)) hf rfl) (fun a hf => ?_)
      refine stq hf rfl rfl rfl (ex_gtr hf rfl rfl) (fun a hf => ?_)
      refine stq hf rfl rfl rfl (ex_pickF hf rfl rfl) (fun a hf => ?_)
      refine hK7 _ _ ?_
      have e4 := some_eq H; subst e4
      exact hJ4 _ _ ⟨hf.sub ⟨rfl, rfl, rfl, rfl, rfl, rfl, trivial⟩, hs⟩
  · obtain ⟨hf, hs⟩ := hJ
    replace H := HO4
    clear HO4
    refine itt H (fun hc8 H => ?_) (fun hc8 H => ?_)
    · -- x4 = true
      replace hf := hf.castB (t := 32) rfl hc8
      refine cond_T hf rfl ?_
      refine bnd H (fun s9 hs9 H => ?_)
      refine seq_reg (fun K10 hK10 => ?_)
      refine stepF hf rfl rfl rfl (ex_call cf_9 hf rfl) (law39_awake.calls k (hs.enter (.k .nil)) (Sr.nil _ _) hs9) (fun v w hR a hf => ?_)
      obtain ⟨rfl, hs'⟩ := hR
      replace hs := hs.step (.k .nil) hs'
      clear hs'
      refine stq hf rfl rfl rfl (ex_assign hf rfl) (fun a hf => ?_)
      refine hK10 _ _ ?_
      refine wp_ret ?_
      refine hR3 _ _ ?_
      have eR := some_eq H; subst eR
      replace hs := hs.keep (.d .nil)
      exact ret1 Try.results6 hf rfl ⟨_, rfl, ⟨rfl, hs⟩⟩
    · -- not x4 = true
      replace hf := hf.castB (t := 32) rfl (bool_f hc8)
      refine cond_F hf rfl ?_
      refine wp_skip ?_
      refine hN3 _ _ ?_
      refine bnd H (fun s12 hs12 H => ?_)
      refine seq_reg (fun K16 hK16 => ?_)
      refine stq hf rfl rfl rfl (ex_loadA (cs := [.int .i64 a0.Capacity, .int .i64 a0.Ambient]) ag_33 hf rfl (bx_cells (hs.get (i := 0) rfl) rfl)) (fun a hf => ?_)
      refine stepV hf rfl rfl rfl (er_buildSlice (K := K_api_HeatDomain) (xs := [a0]) hs Try.underlying35 ep_33 rfl rfl hf rfl (.cons rfl .nil) rfl rfl) (fun v11 w hs a hf => ?_)
      refine stq hf rfl rfl rfl (ex_move hf rfl) (fun a hf => ?_)
      refine stepF hf rfl rfl rfl (ex_call cf_13 hf rfl) (law38_Some.calls k [a0] [] a1 v11 (.slice none 0 0) (hs.enter (.k (.k .nil))) (Sr.own hs (.k (.k .nil)) (i := 0) rfl osl_rsl (fun _ h => h.1) (Sr.free (nil_rsl _ _) nil_fs (Sr.nil _ _))) hs12) (fun v w hR a hf => ?_)
      obtain ⟨v13, v14, rfl, hs'⟩ := hR
      replace hs := hs.step (.k (.k .nil)) hs'
      clear hs'
      refine stepV hf rfl rfl rfl (er_alloc hs ti_38 (cs := [(.slice none 0 0), (.slice none 0 0), .int .i64 0]) rfl) (fun v w hR a hf => ?_)
      obtain ⟨b15, rfl, hs⟩ := hR
      refine stepS hf rfl rfl (er_storeAB (vs := [v13, v14, .int .i64 s12.2.2]) (cs' := [v13, v14, .int .i64 s12.2.2]) hs (.c (.k (.k (.k (.k .nil))))) sz_38 hf rfl rfl (all1 (IsSl.one (rsl_isSl (osl_rsl _ (hs.get (i := 1) rfl)))) (all1 (IsSl.one (rsl_isSl (osl_rsl _ (hs.get (i := 2) rfl)))) (all1 rfl (all1_nil)))) rfl rfl) (fun w hs => ?_)
      refine hK16 _ _ ?_
      refine seq_reg (fun K17 hK17 => ?_)
      refine stq hf rfl rfl rfl (ex_fieldAddrB fa_38_2 rfl hf rfl) (fun a hf => ?_)
      refine stq hf rfl rfl rfl (ex_load sc_2 hf rfl (bx_cell (hs.get (i := 0) rfl) _ rfl)) (fun a hf => ?_)
      refine stq hf rfl rfl rfl (ex_move hf rfl) (fun a hf => ?_)
      refine stq hf rfl rfl rfl (ex_conv Try.underlying2 Try.underlying23 hf rfl) (fun a hf => ?_)
      refine stq hf rfl rfl rfl (ex_rem hf rfl rfl (by decide)) (fun a hf => ?_)
      refine stq hf rfl rfl rfl (ex_conv Try.underlying23 Try.underlying2 hf rfl) (fun a hf => ?_)
      refine stq hf rfl rfl rfl (ex_add hf rfl rfl) (fun a hf => ?_)
      refine stq hf rfl rfl rfl (ex_assign hf rfl) (fun a hf => ?_)
      refine hK17 _ _ ?_
      refine seq_n (fun Q18 hN18 hR18 hX18 => ?_)
      refine ck_some H (fun hc19 H => ?_)
      refine bnd H (fun s20 hs20 H => ?_)
      refine region_d fol 12 [(3, v3), (4, v4), (11, .pointer (some ⟨b15, 0, none⟩)), (12, .int .i64 (IntKind.i64.wrap (s12.2.2 + (IntKind.i64.wrap (Int.tmod (IntKind.u64.wrap a2) 60)))))] [(0, .pointer (some ⟨b15, 0, none⟩)), (1, v13), (2, .pointer (some (sla v13 ((0 : Int).toNat * 2)))), (3, .agg #[.int .i64 ((gd HeatDomain.zero s12.1 0).Capacity), .int .i64 ((gd HeatDomain.zero s12.1 0).Ambient)]), (4, .pointer (some ⟨b15, 2, none⟩)), (5, .int .i64 s12.2.2), (6, .int .i64 (IntKind.i64.wrap (s12.2.2 + (IntKind.i64.wrap (Int.tmod (IntKind.u64.wrap a2) 60)))))] [7] (fun w => (bx b15 38 [v13, v14, .int .i64 s12.2.2]).ok w ∧ (osl K_api_HeatDomain v13 s12.1).ok w ∧ True) (fun w => St M w0 w [bx b15 38 [v13, v14, .int .i64 s12.2.2], osl K_api_HeatDomain v13 s12.1, osl K_api_HeatLink v14 s12.2.1, osl K_api_HeatDomain v11 [a0], bx b1 33 [.int .i64 a0.Capacity, .int .i64 a0.Ambient]]) hf ⟨rfl, rfl, rfl, rfl, trivial⟩ (by kernel_rfl) (by kernel_rfl) rfl (by decide) ⟨hs.drew.get (i := 0) rfl, hs.drew.get (i := 1) rfl, trivial⟩ hs.drew (.cons (⟨_, _, rfl, rfl, rfl, rfl, fun a w hR hf => .inl ⟨wanted_yes hf rfl, ex_fieldAddrB fa_38_0 rfl hf rfl⟩⟩) (.cons (⟨_, _, rfl, rfl, rfl, rfl, fun a w hR hf => .inl ⟨wanted_yes hf rfl, ex_load sc_35 hf rfl (bx_cell (hR.1) _ rfl)⟩⟩) (.cons (⟨_, _, rfl, rfl, rfl, rfl, fun a w hR hf => .inl ⟨wanted_yes hf rfl, ex_indexAddr sa_35 (rsl_isSl (osl_rsl _ hR.2.1)) hc19.1 hc19.2 hf rfl rfl⟩⟩) (.cons (⟨_, _, rfl, rfl, rfl, rfl, fun a w hR hf => .inl ⟨wanted_yes hf rfl, ex_loadA (cs := [.int .i64 ((gd HeatDomain.zero s12.1 0).Capacity), .int .i64 ((gd HeatDomain.zero s12.1 0).Ambient)]) ag_33 hf rfl (el_cells (K := K_api_HeatDomain) (rsl_rd (osl_rsl _ hR.2.1)) hc19.1 hc19.2 rfl)⟩⟩) (.cons (⟨_, _, rfl, rfl, rfl, rfl, fun a w hR hf => .inl ⟨wanted_yes hf rfl, ex_fieldAddrB fa_38_2 rfl hf rfl⟩⟩) (.cons (⟨_, _, rfl, rfl, rfl, rfl, fun a w hR hf => .inl ⟨wanted_yes hf rfl, ex_load sc_2 hf rfl (bx_cell (hR.1) _ rfl)⟩⟩) (.cons (⟨_, _, rfl, rfl, rfl, rfl, fun a w hR hf => .inl ⟨wanted_yes hf rfl, ex_move hf rfl⟩⟩) (.nil)))))))) (fun K21 hK21 => ?_)
      refine RW.one 7 (by kernel_rfl) (by kernel_rfl) rfl (fun d hd => by cases hd; rfl) [(49, .agg #[.int .i64 ((gd HeatDomain.zero s12.1 0).Capacity), .int .i64 ((gd HeatDomain.zero s12.1 0).Ambient)]), (51, .int .i64 s12.2.2), (52, .int .i64 (IntKind.i64.wrap (s12.2.2 + (IntKind.i64.wrap (Int.tmod (IntKind.u64.wrap a2) 60)))))] ⟨rfl, rfl, rfl, trivial⟩ (fun a w hR hs hf => ⟨wanted_yes hf rfl, ?_⟩)
      refine estep_f (ex_call cf_14 hf rfl) (thermal_Sustainable.calls k (⟨((gd HeatDomain.zero s12.1 0).Capacity), ((gd HeatDomain.zero s12.1 0).Ambient)⟩ : HeatDomain) s12.2.2 (IntKind.i64.wrap (s12.2.2 + (IntKind.i64.wrap (Int.tmod (IntKind.u64.wrap a2) 60)))) (hs.enter (.k (.k (.k (.k (.k .nil)))))) (Sr.nil _ _) hs20) (fun v w hR => ?_)
      obtain ⟨rfl, hs'⟩ := hR
      replace hs := hs.step (.k (.k (.k (.k (.k .nil))))) hs'
      clear hs'
      refine ⟨[(8, .tuple #[.int .i64 s20.1, .int .i64 s20.2]), (9, .int .i64 s20.1), (10, .int .i64 s20.2), (11, .int .i64 s20.1)], [(8, .tuple #[.int .i64 s20.1, .int .i64 s20.2]), (9, .int .i64 s20.1), (10, .int .i64 s20.2), (11, .int .i64 s20.1), (7, .tuple #[.int .i64 s20.1, .int .i64 s20.2]), (0, .pointer (some ⟨b15, 0, none⟩)), (1, v13), (2, .pointer (some (sla v13 ((0 : Int).toNat * 2)))), (3, .agg #[.int .i64 ((gd HeatDomain.zero s12.1 0).Capacity), .int .i64 ((gd HeatDomain.zero s12.1 0).Ambient)]), (4, .pointer (some ⟨b15, 2, none⟩)), (5, .int .i64 s12.2.2), (6, .int .i64 (IntKind.i64.wrap (s12.2.2 + (IntKind.i64.wrap (Int.tmod (IntKind.u64.wrap a2) 60)))))], [], (fun _ => True), (fun w => St M w0 w [bx b15 38 [v13, v14, .int .i64 s12.2.2], osl K_api_HeatDomain v13 s12.1, osl K_api_HeatLink v14 s12.2.1, osl K_api_HeatDomain v11 [a0], bx b1 33 [.int .i64 a0.Capacity, .int .i64 a0.Ambient]]), rfl, rfl, ⟨hs.get (i := 0) rfl, hs.get (i := 1) rfl, trivial⟩, trivial, hs, (by kernel_rfl), .cons (⟨_, _, rfl, rfl, rfl, rfl, fun a w hR hf => .inl ⟨wanted_yes hf rfl, ex_move hf rfl⟩⟩) (.cons (⟨_, _, rfl, rfl, rfl, rfl, fun a w hR hf => .inl ⟨wanted_yes hf rfl, ex_extract hf rfl rfl⟩⟩) (.cons (⟨_, _, rfl, rfl, rfl, rfl, fun a w hR hf => .inl ⟨wanted_yes hf rfl, ex_extract hf rfl rfl⟩⟩) (.cons (⟨_, _, rfl, rfl, rfl, rfl, fun a w hR hf => .inl ⟨wanted_yes hf rfl, ex_assign hf rfl⟩⟩) (.nil)))), ?_⟩
      refine RW.zero (by kernel_rfl) (by kernel_rfl) [(3, v3), (4, v4), (11, .pointer (some ⟨b15, 0, none⟩)), (12, .int .i64 (IntKind.i64.wrap (s12.2.2 + (IntKind.i64.wrap (Int.tmod (IntKind.u64.wrap a2) 60))))), (13, .int .i64 s20.1), (55, .int .i64 s20.2)] ⟨rfl, rfl, rfl, rfl, rfl, rfl, trivial⟩ (fun a w hR hs hf => ?_)
      refine stq hf rfl rfl rfl (ex_assign hf rfl) (fun a hf => ?_)
      refine hK21 _ _ ?_
      refine hN18 _ _ ?_
      refine seq_n (fun Q22 hN22 hR22 hX22 => ?_)
      refine bnd H (fun s23 hs23 H => ?_)
      cases hps23 : s23.1 with
      | none =>
        replace H := elim_n hps23 H
        refine region_k (fun K25 hK25 => ?_)
        refine stq hf rfl rfl rfl (ex_fieldAddrB fa_38_0 rfl hf rfl) (fun a hf => ?_)
        refine stq hf rfl rfl rfl (ex_load sc_35 hf rfl (bx_cell (hs.get (i := 0) rfl) _ rfl)) (fun a hf => ?_)
        refine stq hf rfl rfl rfl (ex_fieldAddrB fa_38_2 rfl hf rfl) (fun a hf => ?_)
        refine stq hf rfl rfl rfl (ex_load sc_2 hf rfl (bx_cell (hs.get (i := 0) rfl) _ rfl)) (fun a hf => ?_)
        refine stepF hf rfl rfl rfl (ex_call cf_15 hf rfl) (heat_New.calls k s12.1 [] s12.2.2 v13 (.slice none 0 0) (hs.enter (.k (.k (.k (.k (.k .nil)))))) (Sr.own hs (.k (.k (.k (.k (.k .nil))))) (i := 1) rfl osl_rsl (fun _ h => h.1) (Sr.free (nil_rsl _ _) nil_fs (Sr.nil _ _))) hs23) (fun v w hR a hf => ?_)
        obtain ⟨_, rfl, hs'⟩ | ⟨_, hc', _⟩ := hR
        case inr => rw [hps23] at hc'; cases hc'
        replace hs := hs.step (.k (.k (.k (.k (.k .nil))))) hs'
        clear hs'
        refine stq hf rfl rfl rfl (ex_move hf rfl) (fun a hf => ?_)
        refine stq hf rfl rfl rfl (ex_extract hf rfl rfl) (fun a hf => ?_)
        refine stq hf rfl rfl rfl (ex_extract hf rfl rfl) (fun a hf => ?_)
        refine stq hf rfl rfl rfl (ex_assign hf rfl) (fun a hf => ?_)
        refine stq hf rfl rfl rfl (ex_assign hf rfl) (fun a hf => ?_)
        refine hK25 _ _ ?_
        refine hN22 _ _ ?_
        refine seq_n (fun Q26 hN26 hR26 hX26 => ?_)
        refine bnd H (fun x27 H27 HO27 => ?_)
        clear H
        refine seq_cut (fun a w => Fr a 161 [(3, v3), (4, v4), (12, .int .i64 (IntKind.i64.wrap (s12.2.2 + (IntKind.i64.wrap (Int.tmod (IntKind.u64.wrap a2) 60))))), (13, .int .i64 s20.1), (15, .pointer none), (77, .bool true)] ∧ St M w0 w []) (fun Q27 hJ27 hR27 hX27 => ?_) (fun a w hJ => ?_)
        · replace H := H27
          refine itt H (fun hc28 H => ?_) (fun hc28 H => ?_)
          · -- s20.2 = 0
            refine itt H (fun hc29 H => ?_) (fun hc29 H => ?_)
            · -- s23.2 = 0
              refine region_k (fun K30 hK30 => ?_)
              refine stq hf rfl rfl rfl (ex_move hf rfl) (fun a hf => ?_)
              refine stq hf rfl rfl rfl (ex_neq hf rfl rfl) (fun a hf => ?_)
              refine stq hf rfl rfl rfl (ex_move hf rfl) (fun a hf => ?_)
              replace hf := hf.castB (t := 65) rfl (ndec_f hc28)
              replace hf := hf.castB (t := 66) rfl (ndec_f hc28)
              refine stq hf rfl rfl rfl (ex_move hf rfl) (fun a hf => ?_)
              refine stq hf rfl rfl rfl (ex_neq hf rfl rfl) (fun a hf => ?_)
              refine stq hf rfl rfl rfl (ex_pickF hf rfl rfl) (fun a hf => ?_)
              refine stq hf rfl rfl rfl (ex_move hf rfl) (fun a hf => ?_)
              replace hf := hf.castB (t := 68) rfl (ndec_f hc29)
              replace hf := hf.castB (t := 69) rfl (ndec_f hc29)
              replace hf := hf.castB (t := 70) rfl (ndec_f hc29)
              refine stq hf rfl rfl rfl (ex_move hf rfl) (fun a hf => ?_)
              refine stq hf rfl rfl rfl (ex_eqp Try.underlying42 hf rfl rfl) (fun a hf => ?_)
              refine stq hf rfl rfl rfl (ex_pickF hf rfl rfl) (fun a hf => ?_)
              refine stq hf rfl rfl rfl (ex_move hf rfl) (fun a hf => ?_)
              refine stepN hf rfl rfl rfl (fun a hf => ?_)
              refine stepN hf rfl rfl rfl (fun a hf => ?_)
              refine stq hf rfl rfl rfl (ex_pickT hf rfl rfl) (fun a hf => ?_)
              refine hK30 _ _ ?_
              replace hs := hs.keep (.d (.d (.d (.d (.d .nil)))))
              have e27 := some_eq H; subst e27
              exact hJ27 _ _ ⟨hf.sub ⟨rfl, rfl, rfl, rfl, rfl, rfl, trivial⟩, hs⟩
            · -- not s23.2 = 0
              refine region_k (fun K31 hK31 => ?_)
              refine stq hf rfl rfl rfl (ex_move hf rfl) (fun a hf => ?_)
              refine stq hf rfl rfl rfl (ex_neq hf rfl rfl) (fun a hf => ?_)
              refine stq hf rfl rfl rfl (ex_move hf rfl) (fun a hf => ?_)
              replace hf := hf.castB (t := 65) rfl (ndec_f hc28)
              replace hf := hf.castB (t := 66) rfl (ndec_f hc28)
              refine stq hf rfl rfl rfl (ex_move hf rfl) (fun a hf => ?_)
              refine stq hf rfl rfl rfl (ex_neq hf rfl rfl) (fun a hf => ?_)
              refine stq hf rfl rfl rfl (ex_pickF hf rfl rfl) (fun a hf => ?_)
              refine stq hf rfl rfl rfl (ex_move hf rfl) (fun a hf => ?_)
              replace hf := hf.castB (t := 68) rfl (ndec_t hc29)
              replace hf := hf.castB (t := 69) rfl (ndec_t hc29)
              replace hf := hf.castB (t := 70) rfl (ndec_t hc29)
              refine stepN hf rfl rfl rfl (fun a hf => ?_)
              refine stepN hf rfl rfl rfl (fun a hf => ?_)
              refine stq hf rfl rfl rfl (ex_pickT hf rfl rfl) (fun a hf => ?_)
              refine stq hf rfl rfl rfl (ex_move hf rfl) (fun a hf => ?_)
              refine stepN hf rfl rfl rfl (fun a hf => ?_)
              refine stepN hf rfl rfl rfl (fun a hf => ?_)
              refine stq hf rfl rfl rfl (ex_pickT hf rfl rfl) (fun a hf => ?_)
              refine hK31 _ _ ?_
              replace hs := hs.keep (.d (.d (.d (.d (.d .nil)))))
              have e27 := some_eq H; subst e27
              exact hJ27 _ _ ⟨hf.sub ⟨rfl, rfl, rfl, rfl, rfl, rfl, trivial⟩, hs⟩
          · -- not s20.2 = 0
            refine region_k (fun K32 hK32 => ?_)
            refine stq hf rfl rfl rfl (ex_move hf rfl) (fun a hf => ?_)
            refine stq hf rfl rfl rfl (ex_neq hf rfl rfl) (fun a hf => ?_)
            refine stq hf rfl rfl rfl (ex_move hf rfl) (fun a hf => ?_)
            replace hf := hf.castB (t := 65) rfl (ndec_t hc28)
            replace hf := hf.castB (t := 66) rfl (ndec_t hc28)
            refine stepN hf rfl rfl rfl (fun a hf => ?_)
            refine stepN hf rfl rfl rfl (fun a hf => ?_)
            refine stq hf rfl rfl rfl (ex_pickT hf rfl rfl) (fun a hf => ?_)
            refine stq hf rfl rfl rfl (ex_move hf rfl) (fun a hf => ?_)
            refine stepN hf rfl rfl rfl (fun a hf => ?_)
            refine stepN hf rfl rfl rfl (fun a hf => ?_)
            refine stq hf rfl rfl rfl (ex_pickT hf rfl rfl) (fun a hf => ?_)
            refine stq hf rfl rfl rfl (ex_move hf rfl) (fun a hf => ?_)
            refine stepN hf rfl rfl rfl (fun a hf => ?_)
            refine stepN hf rfl rfl rfl (fun a hf => ?_)
            refine stq hf rfl rfl rfl (ex_pickT hf rfl rfl) (fun a hf => ?_)
            refine hK32 _ _ ?_
            replace hs := hs.keep (.d (.d (.d (.d (.d .nil)))))
            have e27 := some_eq H; subst e27
            exact hJ27 _ _ ⟨hf.sub ⟨rfl, rfl, rfl, rfl, rfl, rfl, trivial⟩, hs⟩
        · obtain ⟨hf, hs⟩ := hJ
          replace H := HO27
          clear HO27
          refine cond_T hf rfl ?_
          refine seq_reg (fun K33 hK33 => ?_)
          refine stq hf rfl rfl rfl (ex_assign hf rfl) (fun a hf => ?_)
          refine hK33 _ _ ?_
          refine wp_ret ?_
          refine hR26 _ _ ?_
          have eR := some_eq H; subst eR
          exact ret1 Try.results6 hf rfl ⟨_, rfl, ⟨rfl, hs⟩⟩
      | some c24 =>
        replace H := elim_s hps23 H
        refine region_k (fun K38 hK38 => ?_)
        refine stq hf rfl rfl rfl (ex_fieldAddrB fa_38_0 rfl hf rfl) (fun a hf => ?_)
        refine stq hf rfl rfl rfl (ex_load sc_35 hf rfl (bx_cell (hs.get (i := 0) rfl) _ rfl)) (fun a hf => ?_)
        refine stq hf rfl rfl rfl (ex_fieldAddrB fa_38_2 rfl hf rfl) (fun a hf => ?_)
        refine stq hf rfl rfl rfl (ex_load sc_2 hf rfl (bx_cell (hs.get (i := 0) rfl) _ rfl)) (fun a hf => ?_)
        refine stepF hf rfl rfl rfl (ex_call cf_15 hf rfl) (heat_New.calls k s12.1 [] s12.2.2 v13 (.slice none 0 0) (hs.enter (.k (.k (.k (.k (.k .nil)))))) (Sr.own hs (.k (.k (.k (.k (.k .nil))))) (i := 1) rfl osl_rsl (fun _ h => h.1) (Sr.free (nil_rsl _ _) nil_fs (Sr.nil _ _))) hs23) (fun v w hR a hf => ?_)
        obtain ⟨hc', _⟩ | ⟨cc, hc', b34, v35, v36, v37, rfl, hs'⟩ := hR
        case inl => rw [hps23] at hc'; cases hc'
        obtain rfl : c24 = cc := by rw [hps23] at hc'; exact Option.some.inj hc'
        replace hs := hs.step (.k (.k (.k (.k (.k .nil))))) hs'
        clear hs'
        refine stq hf rfl rfl rfl (ex_move hf rfl) (fun a hf => ?_)
        refine stq hf rfl rfl rfl (ex_extract hf rfl rfl) (fun a hf => ?_)
        refine stq hf rfl rfl rfl (ex_extract hf rfl rfl) (fun a hf => ?_)
        refine stq hf rfl rfl rfl (ex_assign hf rfl) (fun a hf => ?_)
        refine stq hf rfl rfl rfl (ex_assign hf rfl) (fun a hf => ?_)
        refine hK38 _ _ ?_
        refine hN22 _ _ ?_
        refine seq_n (fun Q39 hN39 hR39 hX39 => ?_)
        refine bnd H (fun x40 H40 HO40 => ?_)
        clear H
        refine seq_cut (fun a w => Fr a 161 [(3, v3), (4, v4), (12, .int .i64 (IntKind.i64.wrap (s12.2.2 + (IntKind.i64.wrap (Int.tmod (IntKind.u64.wrap a2) 60))))), (13, .int .i64 s20.1), (15, .pointer (some ⟨b34, 0, none⟩)), (77, .bool x40)] ∧ St M w0 w [bx b34 89 [v35, v36, .int .i64 c24.2.2.1, v37, .int .i64 c24.2.2.2.2], osl K_api_HeatDomain v35 c24.1, osl K_api_HeatLink v36 c24.2.1, osl K_int64 v37 c24.2.2.2.1]) (fun Q40 hJ40 hR40 hX40 => ?_) (fun a w hJ => ?_)
        · replace H := H40
          refine itt H (fun hc41 H => ?_) (fun hc41 H => ?_)
          · -- s20.2 = 0
            refine itt H (fun hc42 H => ?_) (fun hc42 H => ?_)
            · -- s23.2 = 0
              refine region_k (fun K43 hK43 => ?_)
              refine stq hf rfl rfl rfl (ex_move hf rfl) (fun a hf => ?_)
              refine stq hf rfl rfl rfl (ex_neq hf rfl rfl) (fun a hf => ?_)
              refine stq hf rfl rfl rfl (ex_move hf rfl) (fun a hf => ?_)
              replace hf := hf.castB (t := 65) rfl (ndec_f hc41)
              replace hf := hf.castB (t := 66) rfl (ndec_f hc41)
              refine stq hf rfl rfl rfl (ex_move hf rfl) (fun a hf => ?_)
              refine stq hf rfl rfl rfl (ex_neq hf rfl rfl) (fun a hf => ?_)
              refine stq hf rfl rfl rfl (ex_pickF hf rfl rfl) (fun a hf => ?_)
              refine stq hf rfl rfl rfl (ex_move hf rfl) (fun a hf => ?_)
              replace hf := hf.castB (t := 68) rfl (ndec_f hc42)
              replace hf := hf.castB (t := 69) rfl (ndec_f hc42)
              replace hf := hf.castB (t := 70) rfl (ndec_f hc42)
              refine stq hf rfl rfl rfl (ex_move hf rfl) (fun a hf => ?_)
              refine stq hf rfl rfl rfl (ex_eqp Try.underlying42 hf rfl rfl) (fun a hf => ?_)
              refine stq hf rfl rfl rfl (ex_pickF hf rfl rfl) (fun a hf => ?_)
              refine stq hf rfl rfl rfl (ex_move hf rfl) (fun a hf => ?_)
              refine stq hf rfl rfl rfl (ex_move hf rfl) (fun a hf => ?_)
              refine stq hf rfl rfl rfl (ex_lss hf rfl rfl) (fun a hf => ?_)
              refine stq hf rfl rfl rfl (ex_pickF hf rfl rfl) (fun a hf => ?_)
              refine hK43 _ _ ?_
              replace hs := hs.keep (.k (.k (.k (.k (.d (.d (.d (.d (.d .nil)))))))))
              have e40 := some_eq H; subst e40
              exact hJ40 _ _ ⟨hf.sub ⟨rfl, rfl, rfl, rfl, rfl, rfl, trivial⟩, hs⟩
            · -- not s23.2 = 0
              refine region_k (fun K44 hK44 => ?_)
              refine stq hf rfl rfl rfl (ex_move hf rfl) (fun a hf => ?_)
              refine stq hf rfl rfl rfl (ex_neq hf rfl rfl) (fun a hf => ?_)
              refine stq hf rfl rfl rfl (ex_move hf rfl) (fun a hf => ?_)
              replace hf := hf.castB (t := 65) rfl (ndec_f hc41)
              replace hf := hf.castB (t := 66) rfl (ndec_f hc41)
              refine stq hf rfl rfl rfl (ex_move hf rfl) (fun a hf => ?_)
              refine stq hf rfl rfl rfl (ex_neq hf rfl rfl) (fun a hf => ?_)
              refine stq hf rfl rfl rfl (ex_pickF hf rfl rfl) (fun a hf => ?_)
              refine stq hf rfl rfl rfl (ex_move hf rfl) (fun a hf => ?_)
              replace hf := hf.castB (t := 68) rfl (ndec_t hc42)
              replace hf := hf.castB (t := 69) rfl (ndec_t hc42)
              replace hf := hf.castB (t := 70) rfl (ndec_t hc42)
              refine stepN hf rfl rfl rfl (fun a hf => ?_)
              refine stepN hf rfl rfl rfl (fun a hf => ?_)
              refine stq hf rfl rfl rfl (ex_pickT hf rfl rfl) (fun a hf => ?_)
              refine stq hf rfl rfl rfl (ex_move hf rfl) (fun a hf => ?_)
              refine stepN hf rfl rfl rfl (fun a hf => ?_)
              refine stepN hf rfl rfl rfl (fun a hf => ?_)
              refine stq hf rfl rfl rfl (ex_pickT hf rfl rfl) (fun a hf => ?_)
              refine hK44 _ _ ?_
              replace hs := hs.keep (.k (.k (.k (.k (.d (.d (.d (.d (.d .nil)))))))))
              have e40 := some_eq H; subst e40
              exact hJ40 _ _ ⟨hf.sub ⟨rfl, rfl, rfl, rfl, rfl, rfl, trivial⟩, hs⟩
          · -- not s20.2 = 0
            refine region_k (fun K45 hK45 => ?_)
            refine stq hf rfl rfl rfl (ex_move hf rfl) (fun a hf => ?_)
            refine stq hf rfl rfl rfl (ex_neq hf rfl rfl) (fun a hf => ?_)
            refine stq hf rfl rfl rfl (ex_move hf rfl) (fun a hf => ?_)
            replace hf := hf.castB (t := 65) rfl (ndec_t hc41)
            replace hf := hf.castB (t := 66) rfl (ndec_t hc41)
            refine stepN hf rfl rfl rfl (fun a hf => ?_)
            refine stepN hf rfl rfl rfl (fun a hf => ?_)
            refine stq hf rfl rfl rfl (ex_pickT hf rfl rfl) (fun a hf => ?_)
            refine stq hf rfl rfl rfl (ex_move hf rfl) (fun a hf => ?_)
            refine stepN hf rfl rfl rfl (fun a hf => ?_)
            refine stepN hf rfl rfl rfl (fun a hf => ?_)
            refine stq hf rfl rfl rfl (ex_pickT hf rfl rfl) (fun a hf => ?_)
            refine stq hf rfl rfl rfl (ex_move hf rfl) (fun a hf => ?_)
            refine stepN hf rfl rfl rfl (fun a hf => ?_)
            refine stepN hf rfl rfl rfl (fun a hf => ?_)
            refine stq hf rfl rfl rfl (ex_pickT hf rfl rfl) (fun a hf => ?_)
            refine hK45 _ _ ?_
            replace hs := hs.keep (.k (.k (.k (.k (.d (.d (.d (.d (.d .nil)))))))))
            have e40 := some_eq H; subst e40
            exact hJ40 _ _ ⟨hf.sub ⟨rfl, rfl, rfl, rfl, rfl, rfl, trivial⟩, hs⟩
        · obtain ⟨hf, hs⟩ := hJ
          replace H := HO40
          clear HO40
          refine itt H (fun hc46 H => ?_) (fun hc46 H => ?_)
          · -- x40 = true
            replace hf := hf.castB (t := 77) rfl hc46
            refine cond_T hf rfl ?_
            refine seq_reg (fun K47 hK47 => ?_)
            refine stq hf rfl rfl rfl (ex_assign hf rfl) (fun a hf => ?_)
            refine hK47 _ _ ?_
            refine wp_ret ?_
            refine hR39 _ _ ?_
            have eR := some_eq H; subst eR
            replace hs := hs.keep (.d (.d (.d (.d .nil))))
            exact ret1 Try.results6 hf rfl ⟨_, rfl, ⟨rfl, hs⟩⟩
          · -- not x40 = true
            replace hf := hf.castB (t := 77) rfl (bool_f hc46)
            refine cond_F hf rfl ?_
            refine wp_skip ?_
            refine hN39 _ _ ?_
            refine bnd H (fun s48 hs48 H => ?_)
            refine seq_reg (fun K50 hK50 => ?_)
            refine stq hf rfl rfl rfl (ex_move hf rfl) (fun a hf => ?_)
            refine stepF hf rfl rfl rfl (ex_call cf_21 hf rfl) (law39_Actors.calls k a3 v3 (hs.enter (.k (.k (.k (.k .nil))))) (Sr.old hr hs (.k (.k (.k (.k .nil)))) (i := 0) rfl (fun _ h => h) (fun _ h => h) (Sr.nil _ _)) hs48) (fun v w hR a hf => ?_)
            obtain ⟨v49, rfl, hs'⟩ := hR
            replace hs := hs.step (.k (.k (.k (.k .nil)))) hs'
            clear hs'
            refine stq hf rfl rfl rfl (ex_assign hf rfl) (fun a hf => ?_)
            refine hK50 _ _ ?_
            refine bnd H (fun s51 hs51 H => ?_)
            refine seq_reg (fun K53 hK53 => ?_)
            refine stq hf rfl rfl rfl (ex_move hf rfl) (fun a hf => ?_)
            refine stq hf rfl rfl rfl (ex_conv Try.underlying2 Try.underlying23 hf rfl) (fun a hf => ?_)
            refine stq hf rfl rfl rfl (ex_move hf rfl) (fun a hf => ?_)
            refine stepF hf rfl rfl rfl (ex_call cf_22 hf rfl) (thermal_Allocate.calls k (IntKind.u64.wrap s20.1) s48 v49 (hs.enter (.k (.k (.k (.k (.k .nil)))))) (Sr.own hs (.k (.k (.k (.k (.k .nil))))) (i := 0) rfl osl_rsl (fun _ h => h.1) (Sr.nil _ _)) hs51) (fun v w hR a hf => ?_)
            obtain ⟨v52, rfl, hs'⟩ := hR
            replace hs := hs.step (.k (.k (.k (.k (.k .nil))))) hs'
            clear hs'
            refine stq hf rfl rfl rfl (ex_move hf rfl) (fun a hf => ?_)
            refine stq hf rfl rfl rfl (ex_extract hf rfl rfl) (fun a hf => ?_)
            refine stq hf rfl rfl rfl (ex_extract hf rfl rfl) (fun a hf => ?_)
            refine stq hf rfl rfl rfl (ex_assign hf rfl) (fun a hf => ?_)
            refine stq hf rfl rfl rfl (ex_assign hf rfl) (fun a hf => ?_)
            refine hK53 _ _ ?_
            refine seq_n (fun Q54 hN54 hR54 hX54 => ?_)
            refine seq_reg (fun K55 hK55 => ?_)
            refine stq hf rfl rfl rfl (ex_move hf rfl) (fun a hf => ?_)
            refine stq hf rfl rfl rfl (ex_neq hf rfl rfl) (fun a hf => ?_)
            refine hK55 _ _ ?_
            refine itt H (fun hc56 H => ?_) (fun hc56 H => ?_)
            · -- s51.2 = 0
              replace hf := hf.castB (t := 88) rfl (ndec_f hc56)
              refine cond_F hf rfl ?_
              refine wp_skip ?_
              refine hN54 _ _ ?_
              refine seq_n (fun Q57 hN57 hR57 hX57 => ?_)
              refine seq_reg (fun K58 hK58 => ?_)
              refine stq hf rfl rfl rfl (ex_move hf rfl) (fun a hf => ?_)
              refine stq hf rfl rfl rfl (ex_lenS Try.underlying62 (rsl_isSl (osl_rsl _ (hs.get (i := 0) rfl))) hf rfl) (fun a hf => ?_)
              refine stq hf rfl rfl rfl (ex_move hf rfl) (fun a hf => ?_)
              refine stq hf rfl rfl rfl (ex_lenS Try.underlying60 (rsl_isSl (osl_rsl _ (hs.get (i := 1) rfl))) hf rfl) (fun a hf => ?_)
              refine stq hf rfl rfl rfl (ex_neq hf rfl rfl) (fun a hf => ?_)
              refine hK58 _ _ ?_
              refine itt H (fun hc59 H => ?_) (fun hc59 H => ?_)
              · -- (s51.1.length : Int) = (s48.length : Int)
                replace hf := hf.castB (t := 98) rfl (ndec_f hc59)
                refine cond_F hf rfl ?_
                refine wp_skip ?_
                refine hN57 _ _ ?_
                refine bnd H (fun x60 H60 HO60 => ?_)
                clear H
                refine seq_cut (fun a w => ∃ (x60s : Unit), x60 = .go x60s ∧ Fr a 161 [] ∧ St M w0 w []) (fun Q60 hJ60 hR60 hX60 => ?_) (fun a w hJ => ?_)
                · replace H := H60
                  refine seq_reg (fun K61 hK61 => ?_)
                  refine stq hf rfl rfl rfl (ex_assign hf rfl) (fun a hf => ?_)
                  refine hK61 _ _ ?_
                  refine block_k (fun Q62 hN62 hR62 hX62 hY62 => ?_)
                  refine loop_k (fun n a w => ∃ (y64 : (List Int)) (y65 : Int) (y66 : Int) (v63 : Value), Fr a 161 [(4, v4), (12, .int .i64 (IntKind.i64.wrap (s12.2.2 + (IntKind.i64.wrap (Int.tmod (IntKind.u64.wrap a2) 60))))), (15, .pointer (some ⟨b34, 0, none⟩)), (18, v52), (20, .int .i64 y66)] ∧ St M w0 w [bx b34 89 [v35, v36, .int .i64 c24.2.2.1, v63, .int .i64 y65], osl K_api_HeatDomain v35 c24.1, osl K_api_HeatLink v36 c24.2.1, osl K_int64 v63 y64, osl K_uint64 v52 s51.1] ∧ law39_ThermalBudgetKeepsLimit.l1 n a4 s51 c24 s12 a2 y64 y65 y66 = some x60) k ?_ (fun n68 a w hI Q68 hL68 hR68 hX68 => ?_)
                  · -- at the start
                    replace hs := hs.keep (.k (.d (.k (.k (.k (.k .nil))))))
                    replace hs := hs.pick (.k (.k (.k (.k (.c .nil)))))
                    replace hs := hs.pick (.k (.k (.k (.k (.c .nil)))))
                    replace hs := hs.pick (.k (.k (.k (.k (.c .nil)))))
                    replace hs := hs.pick (.k (.k (.k (.k (.c .nil)))))
                    exact ⟨c24.2.2.2.1, c24.2.2.2.2, 0, v37, hf.sub ⟨rfl, rfl, rfl, rfl, rfl, trivial⟩, hs, H⟩
                  · obtain ⟨y64, y65, y66, v63, hf, hs, H⟩ := hI
                    cases n68 with
                    | zero => exact absurd H (by rw [law39_ThermalBudgetKeepsLimit.l1.eq_1]; intro h; cases h)
                    | succ k68 =>
                      replace H := (law39_ThermalBudgetKeepsLimit.l1.eq_2 ..).symm.trans H
                      refine seq_n (fun Q69 hN69 hR69 hX69 => ?_)
                      refine seq_reg (fun K70 hK70 => ?_)
                      refine stq hf rfl rfl rfl (ex_move hf rfl) (fun a hf => ?_)
                      refine stq hf rfl rfl rfl (ex_move hf rfl) (fun a hf => ?_)
                      refine stq hf rfl rfl rfl (ex_lenS Try.underlying34 (rsl_isSl (hr.now hs (i := 1) rfl)) hf rfl) (fun a hf => ?_)
                      refine stq hf rfl rfl rfl (ex_lss hf rfl rfl) (fun a hf => ?_)
                      refine hK70 _ _ ?_
                      refine itt H (fun hc71 H => ?_) (fun hc71 H => ?_)
                      · -- y66 < (a4.length : Int)
                        replace hf := hf.castB (t := 102) rfl (dec_t hc71)
                        refine cond_T hf rfl ?_
                        refine wp_skip ?_
                        refine hN69 _ _ ?_
                        refine bnd H (fun x72 H72 HO72 => ?_)
                        clear H
                        refine seq_cut (fun a w => ∃ (x72s : (List Int) × Int) (v73 : Value), x72 = .go x72s ∧ Fr a 161 [(4, v4), (12, .int .i64 (IntKind.i64.wrap (s12.2.2 + (IntKind.i64.wrap (Int.tmod (IntKind.u64.wrap a2) 60))))), (15, .pointer (some ⟨b34, 0, none⟩)), (18, v52), (20, .int .i64 y66)] ∧ St M w0 w [bx b34 89 [v35, v36, .int .i64 c24.2.2.1, v73, .int .i64 x72s.2], osl K_api_HeatDomain v35 c24.1, osl K_api_HeatLink v36 c24.2.1, osl K_int64 v73 x72s.1, osl K_uint64 v52 s51.1]) (fun Q72 hJ72 hR72 hX72 => ?_) (fun a w hJ => ?_)
                        · replace H := H72
                          refine block_k (fun Q74 hN74 hR74 hX74 hY74 => ?_)
                          refine seq_reg (fun K75 hK75 => ?_)
                          refine stq hf rfl rfl rfl (ex_assign hf rfl) (fun a hf => ?_)
                          refine hK75 _ _ ?_
                          refine bnd H (fun x76 H76 HO76 => ?_)
                          clear H
                          refine seq_cut (fun a w => ∃ (x76s : Int), x76 = .go x76s ∧ Fr a 161 [(4, v4), (12, .int .i64 (IntKind.i64.wrap (s12.2.2 + (IntKind.i64.wrap (Int.tmod (IntKind.u64.wrap a2) 60))))), (15, .pointer (some ⟨b34, 0, none⟩)), (18, v52), (20, .int .i64 y66), (21, .int .i64 x76s)] ∧ St M w0 w [bx b34 89 [v35, v36, .int .i64 c24.2.2.1, v63, .int .i64 y65], osl K_api_HeatDomain v35 c24.1, osl K_api_HeatLink v36 c24.2.1, osl K_int64 v63 y64, osl K_uint64 v52 s51.1]) (fun Q76 hJ76 hR76 hX76 => ?_) (fun a w hJ => ?_)
                          · replace H := H76
                            refine seq_reg (fun K77 hK77 => ?_)
                            refine stq hf rfl rfl rfl (ex_assign hf rfl) (fun a hf => ?_)
                            refine hK77 _ _ ?_
                            refine block_k (fun Q78 hN78 hR78 hX78 hY78 => ?_)
                            refine loop_k (fun n a w => ∃ (y79 : Int) (y80 : Int), Fr a 161 [(4, v4), (12, .int .i64 (IntKind.i64.wrap (s12.2.2 + (IntKind.i64.wrap (Int.tmod (IntKind.u64.wrap a2) 60))))), (15, .pointer (some ⟨b34, 0, none⟩)), (18, v52), (20, .int .i64 y66), (21, .int .i64 y79), (22, .int .i64 y80)] ∧ St M w0 w [bx b34 89 [v35, v36, .int .i64 c24.2.2.1, v63, .int .i64 y65], osl K_api_HeatDomain v35 c24.1, osl K_api_HeatLink v36 c24.2.1, osl K_int64 v63 y64, osl K_uint64 v52 s51.1] ∧ law39_ThermalBudgetKeepsLimit.l2 n s51 y66 a4 y79 y80 = some x76) k68 ?_ (fun n82 a w hI Q82 hL82 hR82 hX82 => ?_)
                            · -- at the start
                              exact ⟨0, 0, hf.sub ⟨rfl, rfl, rfl, rfl, rfl, rfl, rfl, trivial⟩, hs, H⟩
                            · obtain ⟨y79, y80, hf, hs, H⟩ := hI
                              cases n82 with
                              | zero => exact absurd H (by rw [law39_ThermalBudgetKeepsLimit.l2.eq_1]; intro h; cases h)
                              | succ k82 =>
                                replace H := (law39_ThermalBudgetKeepsLimit.l2.eq_2 ..).symm.trans H
                                refine seq_n (fun Q83 hN83 hR83 hX83 => ?_)
                                refine seq_reg (fun K84 hK84 => ?_)
                                refine stq hf rfl rfl rfl (ex_move hf rfl) (fun a hf => ?_)
                                refine stq hf rfl rfl rfl (ex_move hf rfl) (fun a hf => ?_)
                                refine stq hf rfl rfl rfl (ex_lenS Try.underlying62 (rsl_isSl (osl_rsl _ (hs.get (i := 4) rfl))) hf rfl) (fun a hf => ?_)
                                refine stq hf rfl rfl rfl (ex_lss hf rfl rfl) (fun a hf => ?_)
                                refine hK84 _ _ ?_
                                refine itt H (fun hc85 H => ?_) (fun hc85 H => ?_)
                                · -- y80 < (s51.1.length : Int)
                                  replace hf := hf.castB (t := 108) rfl (dec_t hc85)
                                  refine cond_T hf rfl ?_
                                  refine wp_skip ?_
                                  refine hN83 _ _ ?_
                                  refine seq_n (fun Q86 hN86 hR86 hX86 => ?_)
                                  refine block_k (fun Q87 hN87 hR87 hX87 hY87 => ?_)
                                  refine seq_n (fun Q88 hN88 hR88 hX88 => ?_)
                                  refine ck_some H (fun hc89 H => ?_)
                                  refine seq_reg (fun K90 hK90 => ?_)
                                  refine stq hf rfl rfl rfl (ex_move hf rfl) (fun a hf => ?_)
                                  refine stq hf rfl rfl rfl (ex_move hf rfl) (fun a hf => ?_)
                                  refine stq hf rfl rfl rfl (ex_indexAddr sa_62 (rsl_isSl (osl_rsl _ (hs.get (i := 4) rfl))) hc89.1 hc89.2 hf rfl rfl) (fun a hf => ?_)
                                  refine stq hf rfl rfl rfl (ex_load sc_23 hf rfl (el_cell (K := K_uint64) (f := 0) (rsl_rd (osl_rsl _ (hs.get (i := 4) rfl))) hc89.1 hc89.2 rfl)) (fun a hf => ?_)
                                  refine stq hf rfl rfl rfl (ex_gtr hf rfl rfl) (fun a hf => ?_)
                                  refine hK90 _ _ ?_
                                  refine itt H (fun hc91 H => ?_) (fun hc91 H => ?_)
                                  · -- 4294967296 < (gd 0 s51.1 y80)
                                    replace hf := hf.castB (t := 115) rfl (dec_t hc91)
                                    refine cond_T hf rfl ?_
                                    refine seq_reg (fun K92 hK92 => ?_)
                                    refine stq hf rfl rfl rfl (ex_assign hf rfl) (fun a hf => ?_)
                                    refine hK92 _ _ ?_
                                    refine wp_ret ?_
                                    refine hR88 _ _ ?_
                                    refine hR87 _ _ ?_
                                    refine hR86 _ _ ?_
                                    refine hR82 _ _ ?_
                                    refine hR78 _ _ ?_
                                    have e76 := some_eq H; subst e76; replace H := el_rt HO76
                                    refine hR76 _ _ ?_
                                    refine hR74 _ _ ?_
                                    have e72 := some_eq H; subst e72; replace H := el_rt HO72
                                    refine hR72 _ _ ?_
                                    refine hR68 _ _ ?_
                                    refine hR62 _ _ ?_
                                    have e60 := some_eq H; subst e60; replace H := el_rt HO60
                                    refine hR60 _ _ ?_
                                    have eR := some_eq H; subst eR
                                    replace hs := hs.keep (.d (.d (.d (.d (.d .nil)))))
                                    exact ret1 Try.results6 hf rfl ⟨_, rfl, ⟨rfl, hs⟩⟩
                                  · -- not 4294967296 < (gd 0 s51.1 y80)
                                    replace hf := hf.castB (t := 115) rfl (dec_f hc91)
                                    refine cond_F hf rfl ?_
                                    refine wp_skip ?_
                                    refine hN88 _ _ ?_
                                    refine ck_some H (fun hc93 H => ?_)
                                    refine ck_some H (fun hc94 H => ?_)
                                    refine ck_some H (fun hc95 H => ?_)
                                    refine region_d fol 23 [(4, v4), (12, .int .i64 (IntKind.i64.wrap (s12.2.2 + (IntKind.i64.wrap (Int.tmod (IntKind.u64.wrap a2) 60))))), (15, .pointer (some ⟨b34, 0, none⟩)), (18, v52), (20, .int .i64 y66), (21, .int .i64 y79), (22, .int .i64 y80)] [(0, .int .i64 y79), (1, v4), (2, .int .i64 y66), (3, .pointer (some (sla v4 (y66.toNat * 1)))), (4, .int .i64 (gd 0 a4 y66)), (5, .int .u64 (IntKind.u64.wrap (gd 0 a4 y66))), (6, .int .i64 y80), (7, .int .i64 (Int.tmod y80 8)), (8, .int .u64 (IntKind.u64.wrap (Int.tmod y80 8))), (9, .int .u64 (shrw .u64 (IntKind.u64.wrap (gd 0 a4 y66)) (IntKind.u64.wrap (Int.tmod y80 8)))), (10, v52), (11, .int .i64 y80), (12, .pointer (some (sla v52 (y80.toNat * 1)))), (13, .int .u64 (gd 0 s51.1 y80)), (14, .int .u64 (IntKind.u64.wrap ((shrw .u64 (IntKind.u64.wrap (gd 0 a4 y66)) (IntKind.u64.wrap (Int.tmod y80 8))) + (gd 0 s51.1 y80)))), (15, v52), (16, .int .i64 y80), (17, .pointer (some (sla v52 (y80.toNat * 1)))), (18, .int .u64 (gd 0 s51.1 y80)), (19, .int .u64 (IntKind.u64.wrap ((gd 0 s51.1 y80) + 1))), (20, .int .u64 (Int.tmod (IntKind.u64.wrap ((shrw .u64 (IntKind.u64.wrap (gd 0 a4 y66)) (IntKind.u64.wrap (Int.tmod y80 8))) + (gd 0 s51.1 y80))) (IntKind.u64.wrap ((gd 0 s51.1 y80) + 1)))), (21, .int .i64 (IntKind.i64.wrap (Int.tmod (IntKind.u64.wrap ((shrw .u64 (IntKind.u64.wrap (gd 0 a4 y66)) (IntKind.u64.wrap (Int.tmod y80 8))) + (gd 0 s51.1 y80))) (IntKind.u64.wrap ((gd 0 s51.1 y80) + 1))))), (22, .int .i64 (IntKind.i64.wrap (y79 + (IntKind.i64.wrap (Int.tmod (IntKind.u64.wrap ((shrw .u64 (IntKind.u64.wrap (gd 0 a4 y66)) (IntKind.u64.wrap (Int.tmod y80 8))) + (gd 0 s51.1 y80))) (IntKind.u64.wrap ((gd 0 s51.1 y80) + 1)))))))] [] (fun w => (rsl K_int64 v4 a4).ok w ∧ (osl K_uint64 v52 s51.1).ok w ∧ True) (fun w => St M w0 w [bx b34 89 [v35, v36, .int .i64 c24.2.2.1, v63, .int .i64 y65], osl K_api_HeatDomain v35 c24.1, osl K_api_HeatLink v36 c24.2.1, osl K_int64 v63 y64, osl K_uint64 v52 s51.1]) hf ⟨rfl, rfl, rfl, rfl, rfl, rfl, rfl, trivial⟩ (by kernel_rfl) (by kernel_rfl) rfl (by decide) ⟨hr.now hs.drew (i := 1) rfl, hs.drew.get (i := 4) rfl, trivial⟩ hs.drew (.cons (⟨_, _, rfl, rfl, rfl, rfl, fun a w hR hf => .inl ⟨wanted_yes hf rfl, ex_move hf rfl⟩⟩) (.cons (⟨_, _, rfl, rfl, rfl, rfl, fun a w hR hf => .inl ⟨wanted_yes hf rfl, ex_move hf rfl⟩⟩) (.cons (⟨_, _, rfl, rfl, rfl, rfl, fun a w hR hf => .inl ⟨wanted_yes hf rfl, ex_move hf rfl⟩⟩) (.cons (⟨_, _, rfl, rfl, rfl, rfl, fun a w hR hf => .inl ⟨wanted_yes hf rfl, ex_indexAddr sa_34 (rsl_isSl hR.1) hc93.1 hc93.2 hf rfl rfl⟩⟩) (.cons (⟨_, _, rfl, rfl, rfl, rfl, fun a w hR hf => .inl ⟨wanted_yes hf rfl, ex_load sc_2 hf rfl (el_cell (K := K_int64) (f := 0) (rsl_rd hR.1) hc93.1 hc93.2 rfl)⟩⟩) (.cons (⟨_, _, rfl, rfl, rfl, rfl, fun a w hR hf => .inl ⟨wanted_yes hf rfl, ex_conv Try.underlying2 Try.underlying23 hf rfl⟩⟩) (.cons (⟨_, _, rfl, rfl, rfl, rfl, fun a w hR hf => .inl ⟨wanted_yes hf rfl, ex_move hf rfl⟩⟩) (.cons (⟨_, _, rfl, rfl, rfl, rfl, fun a w hR hf => .inl ⟨wanted_yes hf rfl, ex_rem hf rfl rfl (by decide)⟩⟩) (.cons (⟨_, _, rfl, rfl, rfl, rfl, fun a w hR hf => .inl ⟨wanted_yes hf rfl, ex_conv Try.underlying3 Try.underlying65 hf rfl⟩⟩) (.cons (⟨_, _, rfl, rfl, rfl, rfl, fun a w hR hf => .inl ⟨wanted_yes hf rfl, ex_shr hf rfl rfl hc94⟩⟩) (.cons (⟨_, _, rfl, rfl, rfl, rfl, fun a w hR hf => .inl ⟨wanted_yes hf rfl, ex_move hf rfl⟩⟩) (.cons (⟨_, _, rfl, rfl, rfl, rfl, fun a w hR hf => .inl ⟨wanted_yes hf rfl, ex_move hf rfl⟩⟩) (.cons (⟨_, _, rfl, rfl, rfl, rfl, fun a w hR hf => .inl ⟨wanted_yes hf rfl, ex_indexAddr sa_62 (rsl_isSl (osl_rsl _ hR.2.1)) hc89.1 hc89.2 hf rfl rfl⟩⟩) (.cons (⟨_, _, rfl, rfl, rfl, rfl, fun a w hR hf => .inl ⟨wanted_yes hf rfl, ex_load sc_23 hf rfl (el_cell (K := K_uint64) (f := 0) (rsl_rd (osl_rsl _ hR.2.1)) hc89.1 hc89.2 rfl)⟩⟩) (.cons (⟨_, _, rfl, rfl, rfl, rfl, fun a w hR hf => .inl ⟨wanted_yes hf rfl, ex_add hf rfl rfl⟩⟩) (.cons (⟨_, _, rfl, rfl, rfl, rfl, fun a w hR hf => .inl ⟨wanted_yes hf rfl, ex_move hf rfl⟩⟩) (.cons (⟨_, _, rfl, rfl, rfl, rfl, fun a w hR hf => .inl ⟨wanted_yes hf rfl, ex_move hf rfl⟩⟩) (.cons (⟨_, _, rfl, rfl, rfl, rfl, fun a w hR hf => .inl ⟨wanted_yes hf rfl, ex_indexAddr sa_62 (rsl_isSl (osl_rsl _ hR.2.1)) hc89.1 hc89.2 hf rfl rfl⟩⟩) (.cons (⟨_, _, rfl, rfl, rfl, rfl, fun a w hR hf => .inl ⟨wanted_yes hf rfl, ex_load sc_23 hf rfl (el_cell (K := K_uint64) (f := 0) (rsl_rd (osl_rsl _ hR.2.1)) hc89.1 hc89.2 rfl)⟩⟩) (.cons (⟨_, _, rfl, rfl, rfl, rfl, fun a w hR hf => .inl ⟨wanted_yes hf rfl, ex_add hf rfl rfl⟩⟩) (.cons (⟨_, _, rfl, rfl, rfl, rfl, fun a w hR hf => .inl ⟨wanted_yes hf rfl, ex_rem hf rfl rfl hc95⟩⟩) (.cons (⟨_, _, rfl, rfl, rfl, rfl, fun a w hR hf => .inl ⟨wanted_yes hf rfl, ex_conv Try.underlying23 Try.underlying2 hf rfl⟩⟩) (.cons (⟨_, _, rfl, rfl, rfl, rfl, fun a w hR hf => .inl ⟨wanted_yes hf rfl, ex_add hf rfl rfl⟩⟩) (.nil)))))))))))))))))))))))) (fun K96 hK96 => ?_)
                                    refine RW.zero (by kernel_rfl) (by kernel_rfl) [(4, v4), (12, .int .i64 (IntKind.i64.wrap (s12.2.2 + (IntKind.i64.wrap (Int.tmod (IntKind.u64.wrap a2) 60))))), (15, .pointer (some ⟨b34, 0, none⟩)), (18, v52), (20, .int .i64 y66), (21, .int .i64 y79), (22, .int .i64 y80), (138, .int .i64 (IntKind.i64.wrap (y79 + (IntKind.i64.wrap (Int.tmod (IntKind.u64.wrap ((shrw .u64 (IntKind.u64.wrap (gd 0 a4 y66)) (IntKind.u64.wrap (Int.tmod y80 8))) + (gd 0 s51.1 y80))) (IntKind.u64.wrap ((gd 0 s51.1 y80) + 1)))))))] ⟨rfl, rfl, rfl, rfl, rfl, rfl, rfl, rfl, trivial⟩ (fun a w hR hs hf => ?_)
                                    refine stq hf rfl rfl rfl (ex_assign hf rfl) (fun a hf => ?_)
                                    refine hK96 _ _ ?_
                                    refine hN87 _ _ ?_
                                    refine hN86 _ _ ?_
                                    refine region_k (fun K97 hK97 => ?_)
                                    refine stq hf rfl rfl rfl (ex_move hf rfl) (fun a hf => ?_)
                                    refine stq hf rfl rfl rfl (ex_add hf rfl rfl) (fun a hf => ?_)
                                    refine stq hf rfl rfl rfl (ex_assign hf rfl) (fun a hf => ?_)
                                    refine hK97 _ _ ?_
                                    exact hL82 k82 _ _ (Nat.lt_succ_self _) ⟨(IntKind.i64.wrap (y79 + (IntKind.i64.wrap (Int.tmod (IntKind.u64.wrap ((shrw .u64 (IntKind.u64.wrap (gd 0 a4 y66)) (IntKind.u64.wrap (Int.tmod y80 8))) + (gd 0 s51.1 y80))) (IntKind.u64.wrap ((gd 0 s51.1 y80) + 1)))))), (IntKind.i64.wrap (y80 + 1)), hf.sub ⟨rfl, rfl, rfl, rfl, rfl, rfl, rfl, trivial⟩, hs, H⟩
                                · -- not y80 < (s51.1.length : Int)
                                  replace hf := hf.castB (t := 108) rfl (dec_f hc85)
                                  refine cond_F hf rfl ?_
                                  refine wp_exit ?_
                                  refine hX83 2 _ _ ?_
                                  refine hX82 2 _ _ ?_
                                  refine hX78 _ _ ?_
                                  have e76 := some_eq H; subst e76
                                  exact hJ76 _ _ ⟨_, rfl, hf.sub ⟨rfl, rfl, rfl, rfl, rfl, rfl, trivial⟩, hs⟩
                          · obtain ⟨x76s, rfl, hf, hs⟩ := hJ
                            replace H := el_go HO76
                            clear HO76
                            refine bnd H (fun s99 hs99 H => ?_)
                            refine seq_reg (fun K102 hK102 => ?_)
                            refine stq hf rfl rfl rfl (ex_move hf rfl) (fun a hf => ?_)
                            refine stq hf rfl rfl rfl (ex_move hf rfl) (fun a hf => ?_)
                            refine stepV hf rfl rfl rfl (er_buildSlice (K := K_int64) (xs := [x76s]) hs Try.underlying34 ep_2 rfl rfl hf rfl (.cons rfl .nil) rfl rfl) (fun v98 w hs a hf => ?_)
                            refine stepF hf rfl rfl rfl (ex_call cf_17 hf rfl) (heat_Model_Step.calls k68 c24.1 c24.2.1 c24.2.2.1 y64 y65 [x76s] b34 v35 v36 v63 v98 (hs.enter (.k (.c (.k (.k (.c (.k .nil))))))) (Sr.own hs (.k (.c (.k (.k (.c (.k .nil)))))) (i := 1) rfl osl_rsl (fun _ h => h.1) (Sr.own hs (.k (.c (.k (.k (.c (.k .nil)))))) (i := 2) rfl osl_rsl (fun _ h => h.1) (Sr.own hs (.k (.c (.k (.k (.c (.k .nil)))))) (i := 0) rfl osl_rsl (fun _ h => h.1) (Sr.nil _ _)))) hs99) (fun v w hR a hf => ?_)
                            obtain ⟨v100, v101, rfl, hs'⟩ := hR
                            replace hs := hs.step (.k (.c (.k (.k (.c (.k .nil)))))) hs'
                            clear hs'
                            refine stq hf rfl rfl rfl (ex_move hf rfl) (fun a hf => ?_)
                            refine stq hf rfl rfl rfl (ex_extract hf rfl rfl) (fun a hf => ?_)
                            refine stq hf rfl rfl rfl (ex_extract hf rfl rfl) (fun a hf => ?_)
                            refine stq hf rfl rfl rfl (ex_assign hf rfl) (fun a hf => ?_)
                            refine stq hf rfl rfl rfl (ex_assign hf rfl) (fun a hf => ?_)
                            refine hK102 _ _ ?_
                            refine bnd H (fun x103 H103 HO103 => ?_)
                            clear H
                            refine seq_cut (fun a w => Fr a 161 [(4, v4), (12, .int .i64 (IntKind.i64.wrap (s12.2.2 + (IntKind.i64.wrap (Int.tmod (IntKind.u64.wrap a2) 60))))), (15, .pointer (some ⟨b34, 0, none⟩)), (18, v52), (20, .int .i64 y66), (159, .bool x103)] ∧ St M w0 w [bx b34 89 [v35, v36, .int .i64 c24.2.2.1, v100, .int .i64 s99.1], osl K_api_HeatDomain v35 c24.1, osl K_api_HeatLink v36 c24.2.1, osl K_int64 v100 s99.2.1, osl K_uint64 v52 s51.1]) (fun Q103 hJ103 hR103 hX103 => ?_) (fun a w hJ => ?_)
                            · replace H := H103
                              refine itt H (fun hc104 H => ?_) (fun hc104 H => ?_)
                              · -- s99.2.2.2 = 0
                                refine itt H (fun hc105 H => ?_) (fun hc105 H => ?_)
                                · -- (s99.2.2.1.length : Int) = 1
                                  refine ck_some H (fun hc106 H => ?_)
                                  refine region_k (fun K107 hK107 => ?_)
                                  refine stq hf rfl rfl rfl (ex_move hf rfl) (fun a hf => ?_)
                                  refine stq hf rfl rfl rfl (ex_neq hf rfl rfl) (fun a hf => ?_)
                                  refine stq hf rfl rfl rfl (ex_move hf rfl) (fun a hf => ?_)
                                  replace hf := hf.castB (t := 147) rfl (ndec_f hc104)
                                  replace hf := hf.castB (t := 148) rfl (ndec_f hc104)
                                  refine stq hf rfl rfl rfl (ex_move hf rfl) (fun a hf => ?_)
                                  refine stq hf rfl rfl rfl (ex_lenS Try.underlying34 (rsl_isSl (osl_rsl _ (hs.get (i := 2) rfl))) hf rfl) (fun a hf => ?_)
                                  refine stq hf rfl rfl rfl (ex_neq hf rfl rfl) (fun a hf => ?_)
                                  refine stq hf rfl rfl rfl (ex_pickF hf rfl rfl) (fun a hf => ?_)
                                  refine stq hf rfl rfl rfl (ex_move hf rfl) (fun a hf => ?_)
                                  replace hf := hf.castB (t := 151) rfl (ndec_f hc105)
                                  replace hf := hf.castB (t := 152) rfl (ndec_f hc105)
                                  replace hf := hf.castB (t := 153) rfl (ndec_f hc105)
                                  refine stq hf rfl rfl rfl (ex_move hf rfl) (fun a hf => ?_)
                                  refine stq hf rfl rfl rfl (ex_indexAddr sa_34 (rsl_isSl (osl_rsl _ (hs.get (i := 2) rfl))) hc106.1 hc106.2 hf rfl rfl) (fun a hf => ?_)
                                  refine stq hf rfl rfl rfl (ex_load sc_2 hf rfl (el_cell (K := K_int64) (f := 0) (rsl_rd (osl_rsl _ (hs.get (i := 2) rfl))) hc106.1 hc106.2 rfl)) (fun a hf => ?_)
                                  refine stq hf rfl rfl rfl (ex_move hf rfl) (fun a hf => ?_)
                                  refine stq hf rfl rfl rfl (ex_gtr hf rfl rfl) (fun a hf => ?_)
                                  refine stq hf rfl rfl rfl (ex_pickF hf rfl rfl) (fun a hf => ?_)
                                  refine hK107 _ _ ?_
                                  replace hs := hs.keep (.k (.k (.d (.d (.k (.k (.k .nil)))))))
                                  replace hs := hs.pick (.k (.k (.k (.k (.c .nil)))))
                                  replace hs := hs.pick (.k (.k (.c (.k (.k .nil)))))
                                  replace hs := hs.pick (.k (.k (.k (.k (.c .nil)))))
                                  replace hs := hs.pick (.k (.k (.k (.k (.c .nil)))))
                                  replace hs := hs.pick (.k (.k (.k (.k (.c .nil)))))
                                  have e103 := some_eq H; subst e103
                                  exact hJ103 _ _ ⟨hf.sub ⟨rfl, rfl, rfl, rfl, rfl, rfl, trivial⟩, hs⟩
                                · -- not (s99.2.2.1.length : Int) = 1
                                  refine region_k (fun K108 hK108 => ?_)
                                  refine stq hf rfl rfl rfl (ex_move hf rfl) (fun a hf => ?_)
                                  refine stq hf rfl rfl rfl (ex_neq hf rfl rfl) (fun a hf => ?_)
                                  refine stq hf rfl rfl rfl (ex_move hf rfl) (fun a hf => ?_)
                                  replace hf := hf.castB (t := 147) rfl (ndec_f hc104)
                                  replace hf := hf.castB (t := 148) rfl (ndec_f hc104)
                                  refine stq hf rfl rfl rfl (ex_move hf rfl) (fun a hf => ?_)
                                  refine stq hf rfl rfl rfl (ex_lenS Try.underlying34 (rsl_isSl (osl_rsl _ (hs.get (i := 2) rfl))) hf rfl) (fun a hf => ?_)
                                  refine stq hf rfl rfl rfl (ex_neq hf rfl rfl) (fun a hf => ?_)
                                  refine stq hf rfl rfl rfl (ex_pickF hf rfl rfl) (fun a hf => ?_)
                                  refine stq hf rfl rfl rfl (ex_move hf rfl) (fun a hf => ?_)
                                  replace hf := hf.castB (t := 151) rfl (ndec_t hc105)
                                  replace hf := hf.castB (t := 152) rfl (ndec_t hc105)
                                  replace hf := hf.castB (t := 153) rfl (ndec_t hc105)
                                  refine stepN hf rfl rfl rfl (fun a hf => ?_)
                                  refine stepN hf rfl rfl rfl (fun a hf => ?_)
                                  refine stepN hf rfl rfl rfl (fun a hf => ?_)
                                  refine stepN hf rfl rfl rfl (fun a hf => ?_)
                                  refine stepN hf rfl rfl rfl (fun a hf => ?_)
                                  refine stq hf rfl rfl rfl (ex_pickT hf rfl rfl) (fun a hf => ?_)
                                  refine hK108 _ _ ?_
                                  replace hs := hs.keep (.k (.k (.d (.d (.k (.k (.k .nil)))))))
                                  replace hs := hs.pick (.k (.k (.k (.k (.c .nil)))))
                                  replace hs := hs.pick (.k (.k (.c (.k (.k .nil)))))
                                  replace hs := hs.pick (.k (.k (.k (.k (.c .nil)))))
                                  replace hs := hs.pick (.k (.k (.k (.k (.c .nil)))))
                                  replace hs := hs.pick (.k (.k (.k (.k (.c .nil)))))
                                  have e103 := some_eq H; subst e103
                                  exact hJ103 _ _ ⟨hf.sub ⟨rfl, rfl, rfl, rfl, rfl, rfl, trivial⟩, hs⟩
                              · -- not s99.2.2.2 = 0
                                refine region_k (fun K109 hK109 => ?_)
                                refine stq hf rfl rfl rfl (ex_move hf rfl) (fun a hf => ?_)
                                refine stq hf rfl rfl rfl (ex_neq hf rfl rfl) (fun a hf => ?_)
                                refine stq hf rfl rfl rfl (ex_move hf rfl) (fun a hf => ?_)
                                replace hf := hf.castB (t := 147) rfl (ndec_t hc104)
                                replace hf := hf.castB (t := 148) rfl (ndec_t hc104)
                                refine stepN hf rfl rfl rfl (fun a hf => ?_)
                                refine stepN hf rfl rfl rfl (fun a hf => ?_)
                                refine stepN hf rfl rfl rfl (fun a hf => ?_)
                                refine stq hf rfl rfl rfl (ex_pickT hf rfl rfl) (fun a hf => ?_)
                                refine stq hf rfl rfl rfl (ex_move hf rfl) (fun a hf => ?_)
                                refine stepN hf rfl rfl rfl (fun a hf => ?_)
                                refine stepN hf rfl rfl rfl (fun a hf => ?_)
                                refine stepN hf rfl rfl rfl (fun a hf => ?_)
                                refine stepN hf rfl rfl rfl (fun a hf => ?_)
                                refine stepN hf rfl rfl rfl (fun a hf => ?_)
                                refine stq hf rfl rfl rfl (ex_pickT hf rfl rfl) (fun a hf => ?_)
                                refine hK109 _ _ ?_
                                replace hs := hs.keep (.k (.k (.d (.d (.k (.k (.k .nil)))))))
                                replace hs := hs.pick (.k (.k (.k (.k (.c .nil)))))
                                replace hs := hs.pick (.k (.k (.c (.k (.k .nil)))))
                                replace hs := hs.pick (.k (.k (.k (.k (.c .nil)))))
                                replace hs := hs.pick (.k (.k (.k (.k (.c .nil)))))
                                replace hs := hs.pick (.k (.k (.k (.k (.c .nil)))))
                                have e103 := some_eq H; subst e103
                                exact hJ103 _ _ ⟨hf.sub ⟨rfl, rfl, rfl, rfl, rfl, rfl, trivial⟩, hs⟩
                            · obtain ⟨hf, hs⟩ := hJ
                              replace H := HO103
                              clear HO103
                              refine itt H (fun hc110 H => ?_) (fun hc110 H => ?_)
                              · -- x103 = true
                                replace hf := hf.castB (t := 159) rfl hc110
                                refine cond_T hf rfl ?_
                                refine seq_reg (fun K111 hK111 => ?_)
                                refine stq hf rfl rfl rfl (ex_assign hf rfl) (fun a hf => ?_)
                                refine hK111 _ _ ?_
                                refine wp_ret ?_
                                refine hR74 _ _ ?_
                                have e72 := some_eq H; subst e72; replace H := el_rt HO72
                                refine hR72 _ _ ?_
                                refine hR68 _ _ ?_
                                refine hR62 _ _ ?_
                                have e60 := some_eq H; subst e60; replace H := el_rt HO60
                                refine hR60 _ _ ?_
                                have eR := some_eq H; subst eR
                                replace hs := hs.keep (.d (.d (.d (.d (.d .nil)))))
                                exact ret1 Try.results6 hf rfl ⟨_, rfl, ⟨rfl, hs⟩⟩
                              · -- not x103 = true
                                replace hf := hf.castB (t := 159) rfl (bool_f hc110)
                                refine cond_F hf rfl ?_
                                refine wp_skip ?_
                                refine hN74 _ _ ?_
                                have e72 := some_eq H; subst e72
                                exact hJ72 _ _ ⟨_, v100, rfl, hf.sub ⟨rfl, rfl, rfl, rfl, rfl, trivial⟩, hs⟩
                        · obtain ⟨x72s, v73, rfl, hf, hs⟩ := hJ
                          replace H := el_go HO72
                          clear HO72
                          refine region_k (fun K112 hK112 => ?_)
                          refine stq hf rfl rfl rfl (ex_move hf rfl) (fun a hf => ?_)
                          refine stq hf rfl rfl rfl (ex_add hf rfl rfl) (fun a hf => ?_)
                          refine stq hf rfl rfl rfl (ex_assign hf rfl) (fun a hf => ?_)
                          refine hK112 _ _ ?_
                          exact hL68 k68 _ _ (Nat.lt_succ_self _) ⟨x72s.1, x72s.2, (IntKind.i64.wrap (y66 + 1)), v73, hf.sub ⟨rfl, rfl, rfl, rfl, rfl, trivial⟩, hs, H⟩
                      · -- not y66 < (a4.length : Int)
                        replace hf := hf.castB (t := 102) rfl (dec_f hc71)
                        refine cond_F hf rfl ?_
                        refine wp_exit ?_
                        refine hX69 0 _ _ ?_
                        refine hX68 0 _ _ ?_
                        refine hX62 _ _ ?_
                        replace hs := hs.keep (.d (.d (.d (.d (.d .nil)))))
                        have e60 := some_eq H; subst e60
                        exact hJ60 _ _ ⟨_, rfl, hf.sub trivial, hs⟩
                · obtain ⟨x60s, rfl, hf, hs⟩ := hJ
                  replace H := el_go HO60
                  clear HO60
                  refine bnd H (fun s113 hs113 H => ?_)
                  refine seq_reg (fun K114 hK114 => ?_)
                  refine stepF hf rfl rfl rfl (ex_call cf_9 hf rfl) (law39_awake.calls k (hs.enter .nil) (Sr.nil _ _) hs113) (fun v w hR a hf => ?_)
                  obtain ⟨rfl, hs'⟩ := hR
                  replace hs := hs.step .nil hs'
                  clear hs'
                  refine stq hf rfl rfl rfl (ex_assign hf rfl) (fun a hf => ?_)
                  refine hK114 _ _ ?_
                  refine wp_ret ?_
                  have eR := some_eq H; subst eR
                  exact ret1 Try.results6 hf rfl ⟨_, rfl, ⟨rfl, hs⟩⟩
              · -- not (s51.1.length : Int) = (s48.length : Int)
                replace hf := hf.castB (t := 98) rfl (ndec_t hc59)
                refine cond_T hf rfl ?_
                refine seq_reg (fun K115 hK115 => ?_)
                refine stq hf rfl rfl rfl (ex_assign hf rfl) (fun a hf => ?_)
                refine hK115 _ _ ?_
                refine wp_ret ?_
                refine hR57 _ _ ?_
                have eR := some_eq H; subst eR
                replace hs := hs.keep (.d (.d (.d (.d (.d (.d .nil))))))
                exact ret1 Try.results6 hf rfl ⟨_, rfl, ⟨rfl, hs⟩⟩
            · -- not s51.2 = 0
              replace hf := hf.castB (t := 88) rfl (ndec_t hc56)
              refine cond_T hf rfl ?_
              refine itt H (fun hc116 H => ?_) (fun hc116 H => ?_)
              · -- s51.2 = 19
                refine bnd H (fun s117 hs117 H => ?_)
                refine seq_reg (fun K118 hK118 => ?_)
                refine stq hf rfl rfl rfl (ex_move hf rfl) (fun a hf => ?_)
                refine stq hf rfl rfl rfl (ex_eql hf rfl rfl) (fun a hf => ?_)
                refine stq hf rfl rfl rfl (ex_move hf rfl) (fun a hf => ?_)
                replace hf := hf.castB (t := 90) rfl (dec_t hc116)
                replace hf := hf.castB (t := 91) rfl (dec_t hc116)
                refine stepF hf rfl rfl rfl (ex_call cf_9 hf rfl) (law39_awake.calls k (hs.enter (.k (.k (.k (.k (.k (.k .nil))))))) (Sr.nil _ _) hs117) (fun v w hR a hf => ?_)
                obtain ⟨rfl, hs'⟩ := hR
                replace hs := hs.step (.k (.k (.k (.k (.k (.k .nil)))))) hs'
                clear hs'
                refine stq hf rfl rfl rfl (ex_pickT hf rfl rfl) (fun a hf => ?_)
                refine stq hf rfl rfl rfl (ex_assign hf rfl) (fun a hf => ?_)
                refine hK118 _ _ ?_
                refine wp_ret ?_
                refine hR54 _ _ ?_
                have eR := some_eq H; subst eR
                replace hs := hs.keep (.d (.d (.d (.d (.d (.d .nil))))))
                exact ret1 Try.results6 hf rfl ⟨_, rfl, ⟨rfl, hs⟩⟩
              · -- not s51.2 = 19
                refine seq_reg (fun K119 hK119 => ?_)
                refine stq hf rfl rfl rfl (ex_move hf rfl) (fun a hf => ?_)
                refine stq hf rfl rfl rfl (ex_eql hf rfl rfl) (fun a hf => ?_)
                refine stq hf rfl rfl rfl (ex_move hf rfl) (fun a hf => ?_)
                replace hf := hf.castB (t := 90) rfl (dec_f hc116)
                replace hf := hf.castB (t := 91) rfl (dec_f hc116)
                refine stepN hf rfl rfl rfl (fun a hf => ?_)
                refine stq hf rfl rfl rfl (ex_pickF hf rfl rfl) (fun a hf => ?_)
                refine stq hf rfl rfl rfl (ex_assign hf rfl) (fun a hf => ?_)
                refine hK119 _ _ ?_
                refine wp_ret ?_
                refine hR54 _ _ ?_
                have eR := some_eq H; subst eR
                replace hs := hs.keep (.d (.d (.d (.d (.d (.d .nil))))))
                exact ret1 Try.results6 hf rfl ⟨_, rfl, ⟨rfl, hs⟩⟩

end Go.Proofs.Ytannodkbindlbaa.X
