/- Each function of the machine comes to what its pure function says. -/
import Derived.Test.YtannodkbindlbaaFc2
import Derived.Test.YtannodkbindlbaaFc4
import Derived.Test.YtannodkbindlbaaFc5
import Derived.Test.YtannodkbindlbaaFc6
import Derived.Test.YtannodkbindlbaaFb
namespace Go.Proofs.Ytannodkbindlbaa.X
open Go Go.RowKit Go.Sx
set_option linter.unusedVariables false

set_option maxRecDepth 100000 in
theorem law39_ThermalKeepsLimit.calls {M : Nat → Prop} {w0 : World} (k : Nat) (a0 : HeatDomain) (a1 : Int) (a2 : Int) (a3 : (List Int)) (v3 : Value) {r : Bool} (hs : St M w0 w0 []) (hr : Sr M w0 [rsl K_int64 v3 a3])
    (h : law39_ThermalKeepsLimit.f k a0 a1 a2 a3 = some r) : Calls Try.prog 4 #[.agg #[.int .i64 a0.Capacity, .int .i64 a0.Ambient], .int .i64 a1, .int .i64 a2, v3] w0 fun e w => ∃ v, e = .returned v ∧ (.bool r = v ∧ St M w0 w []) := by
  have H := (law39_ThermalKeepsLimit.f.eq_1 ..).symm.trans h
  clear h
  refine enter Try.func4 rfl Try.ntmps4 rfl (fun a hf => ?_)
  refine seq_reg (fun K2 hK2 => ?_)
  refine stepV hf rfl rfl rfl (er_box (cs := [.int .i64 a0.Capacity, .int .i64 a0.Ambient]) hs hf rfl rfl) (fun v w hR a hf => ?_)
  obtain ⟨b1, rfl, hs⟩ := hR
  refine stq hf rfl rfl rfl (ex_assign hf rfl) (fun a hf => ?_)
  refine hK2 _ _ ?_
  refine seq_n (fun Q3 hN3 hR3 hX3 => ?_)
  refine seq_reg (fun K4 hK4 => ?_)
  refine stq hf rfl rfl rfl (ex_move hf rfl) (fun a hf => ?_)
  refine stq hf rfl rfl rfl (ex_lenS Try.underlying34 (rsl_isSl (hr.now hs (i := 0) rfl)) hf rfl) (fun a hf => ?_)
  refine stq hf rfl rfl rfl (ex_gtr hf rfl rfl) (fun a hf => ?_)
  refine hK4 _ _ ?_
  refine itt H (fun hc5 H => ?_) (fun hc5 H => ?_)
  · -- 60 < (a3.length : Int)
    replace hf := hf.castB (t := 21) rfl (dec_t hc5)
    refine cond_T hf rfl ?_
    refine bnd H (fun s6 hs6 H => ?_)
    refine seq_reg (fun K7 hK7 => ?_)
    refine stepF hf rfl rfl rfl (ex_call cf_9 hf rfl) (law39_awake.calls k (hs.enter (.k .nil)) (Sr.nil _ _) hs6) (fun v w hR a hf => ?_)
    obtain ⟨rfl, hs'⟩ := hR
    replace hs := hs.step (.k .nil) hs'
    clear hs'
    refine stq hf rfl rfl rfl (ex_assign hf rfl) (fun a hf => ?_)
    refine hK7 _ _ ?_
    refine wp_ret ?_
    refine hR3 _ _ ?_
    have eR := some_eq H; subst eR
    replace hs := hs.keep (.d .nil)
    exact ret1 Try.results4 hf rfl ⟨_, rfl, ⟨rfl, hs⟩⟩
  · -- not 60 < (a3.length : Int)
    replace hf := hf.castB (t := 21) rfl (dec_f hc5)
    refine cond_F hf rfl ?_
    refine wp_skip ?_
    refine hN3 _ _ ?_
    refine bnd H (fun s9 hs9 H => ?_)
    refine seq_reg (fun K13 hK13 => ?_)
    refine stq hf rfl rfl rfl (ex_loadA (cs := [.int .i64 a0.Capacity, .int .i64 a0.Ambient]) ag_33 hf rfl (bx_cells (hs.get (i := 0) rfl) rfl)) (fun a hf => ?_)
    refine stepV hf rfl rfl rfl (er_buildSlice (K := K_api_HeatDomain) (xs := [a0]) hs Try.underlying35 ep_33 rfl rfl hf rfl (.cons rfl .nil) rfl rfl) (fun v8 w hs a hf => ?_)
    refine stq hf rfl rfl rfl (ex_move hf rfl) (fun a hf => ?_)
    refine stepF hf rfl rfl rfl (ex_call cf_13 hf rfl) (law38_Some.calls k [a0] [] a1 v8 (.slice none 0 0) (hs.enter (.k (.k .nil))) (Sr.own hs (.k (.k .nil)) (i := 0) rfl osl_rsl (fun _ h => h.1) (Sr.free (nil_rsl _ _) nil_fs (Sr.nil _ _))) hs9) (fun v w hR a hf => ?_)
    obtain ⟨v10, v11, rfl, hs'⟩ := hR
    replace hs := hs.step (.k (.k .nil)) hs'
    clear hs'
    refine stepV hf rfl rfl rfl (er_alloc hs ti_38 (cs := [(.slice none 0 0), (.slice none 0 0), .int .i64 0]) rfl) (fun v w hR a hf => ?_)
    obtain ⟨b12, rfl, hs⟩ := hR
    refine stepS hf rfl rfl (er_storeAB (vs := [v10, v11, .int .i64 s9.2.2]) (cs' := [v10, v11, .int .i64 s9.2.2]) hs (.c (.k (.k (.k (.k .nil))))) sz_38 hf rfl rfl (all1 (IsSl.one (rsl_isSl (osl_rsl _ (hs.get (i := 1) rfl)))) (all1 (IsSl.one (rsl_isSl (osl_rsl _ (hs.get (i := 2) rfl)))) (all1 rfl (all1_nil)))) rfl rfl) (fun w hs => ?_)
    refine hK13 _ _ ?_
    refine seq_reg (fun K14 hK14 => ?_)
    refine stq hf rfl rfl rfl (ex_fieldAddrB fa_38_2 rfl hf rfl) (fun a hf => ?_)
    refine stq hf rfl rfl rfl (ex_load sc_2 hf rfl (bx_cell (hs.get (i := 0) rfl) _ rfl)) (fun a hf => ?_)
    refine stq hf rfl rfl rfl (ex_move hf rfl) (fun a hf => ?_)
    refine stq hf rfl rfl rfl (ex_conv Try.underlying2 Try.underlying23 hf rfl) (fun a hf => ?_)
    refine stq hf rfl rfl rfl (ex_rem hf rfl rfl (by decide)) (fun a hf => ?_)
    refine stq hf rfl rfl rfl (ex_conv Try.underlying23 Try.underlying2 hf rfl) (fun a hf => ?_)
    refine stq hf rfl rfl rfl (ex_add hf rfl rfl) (fun a hf => ?_)
    refine stq hf rfl rfl rfl (ex_assign hf rfl) (fun a hf => ?_)
    refine hK14 _ _ ?_
    refine seq_n (fun Q15 hN15 hR15 hX15 => ?_)
    refine ck_some H (fun hc16 H => ?_)
    refine bnd H (fun s17 hs17 H => ?_)
    refine region_d fol 12 [(3, v3), (9, .pointer (some ⟨b12, 0, none⟩)), (10, .int .i64 (IntKind.i64.wrap (s9.2.2 + (IntKind.i64.wrap (Int.tmod (IntKind.u64.wrap a2) 50)))))] [(0, .pointer (some ⟨b12, 0, none⟩)), (1, v10), (2, .pointer (some (sla v10 ((0 : Int).toNat * 2)))), (3, .agg #[.int .i64 ((gd HeatDomain.zero s9.1 0).Capacity), .int .i64 ((gd HeatDomain.zero s9.1 0).Ambient)]), (4, .pointer (some ⟨b12, 2, none⟩)), (5, .int .i64 s9.2.2), (6, .int .i64 (IntKind.i64.wrap (s9.2.2 + (IntKind.i64.wrap (Int.tmod (IntKind.u64.wrap a2) 50)))))] [7] (fun w => (bx b12 38 [v10, v11, .int .i64 s9.2.2]).ok w ∧ (osl K_api_HeatDomain v10 s9.1).ok w ∧ True) (fun w => St M w0 w [bx b12 38 [v10, v11, .int .i64 s9.2.2], osl K_api_HeatDomain v10 s9.1, osl K_api_HeatLink v11 s9.2.1, osl K_api_HeatDomain v8 [a0], bx b1 33 [.int .i64 a0.Capacity, .int .i64 a0.Ambient]]) hf ⟨rfl, rfl, rfl, trivial⟩ (by kernel_rfl) (by kernel_rfl) rfl (by decide) ⟨hs.drew.get (i := 0) rfl, hs.drew.get (i := 1) rfl, trivial⟩ hs.drew (.cons (⟨_, _, rfl, rfl, rfl, rfl, fun a w hR hf => .inl ⟨wanted_yes hf rfl, ex_fieldAddrB fa_38_0 rfl hf rfl⟩⟩) (.cons (⟨_, _, rfl, rfl, rfl, rfl, fun a w hR hf => .inl ⟨wanted_yes hf rfl, ex_load sc_35 hf rfl (bx_cell (hR.1) _ rfl)⟩⟩) (.cons (⟨_, _, rfl, rfl, rfl, rfl, fun a w hR hf => .inl ⟨wanted_yes hf rfl, ex_indexAddr sa_35 (rsl_isSl (osl_rsl _ hR.2.1)) hc16.1 hc16.2 hf rfl rfl⟩⟩) (.cons (⟨_, _, rfl, rfl, rfl, rfl, fun a w hR hf => .inl ⟨wanted_yes hf rfl, ex_loadA (cs := [.int .i64 ((gd HeatDomain.zero s9.1 0).Capacity), .int .i64 ((gd HeatDomain.zero s9.1 0).Ambient)]) ag_33 hf rfl (el_cells (K := K_api_HeatDomain) (rsl_rd (osl_rsl _ hR.2.1)) hc16.1 hc16.2 rfl)⟩⟩) (.cons (⟨_, _, rfl, rfl, rfl, rfl, fun a w hR hf => .inl ⟨wanted_yes hf rfl, ex_fieldAddrB fa_38_2 rfl hf rfl⟩⟩) (.cons (⟨_, _, rfl, rfl, rfl, rfl, fun a w hR hf => .inl ⟨wanted_yes hf rfl, ex_load sc_2 hf rfl (bx_cell (hR.1) _ rfl)⟩⟩) (.cons (⟨_, _, rfl, rfl, rfl, rfl, fun a w hR hf => .inl ⟨wanted_yes hf rfl, ex_move hf rfl⟩⟩) (.nil)))))))) (fun K18 hK18 => ?_)
    refine RW.one 7 (by kernel_rfl) (by kernel_rfl) rfl (fun d hd => by cases hd; rfl) [(38, .agg #[.int .i64 ((gd HeatDomain.zero s9.1 0).Capacity), .int .i64 ((gd HeatDomain.zero s9.1 0).Ambient)]), (40, .int .i64 s9.2.2), (41, .int .i64 (IntKind.i64.wrap (s9.2.2 + (IntKind.i64.wrap (Int.tmod (IntKind.u64.wrap a2) 50)))))] ⟨rfl, rfl, rfl, trivial⟩ (fun a w hR hs hf => ⟨wanted_yes hf rfl, ?_⟩)
    refine estep_f (ex_call cf_14 hf rfl) (thermal_Sustainable.calls k (⟨((gd HeatDomain.zero s9.1 0).Capacity), ((gd HeatDomain.zero s9.1 0).Ambient)⟩ : HeatDomain) s9.2.2 (IntKind.i64.wrap (s9.2.2 + (IntKind.i64.wrap (Int.tmod (IntKind.u64.wrap a2) 50)))) (hs.enter (.k (.k (.k (.k (.k .nil)))))) (Sr.nil _ _) hs17) (fun v w hR => ?_)
    obtain ⟨rfl, hs'⟩ := hR
    replace hs := hs.step (.k (.k (.k (.k (.k .nil))))) hs'
    clear hs'
    refine ⟨[(8, .tuple #[.int .i64 s17.1, .int .i64 s17.2]), (9, .int .i64 s17.1), (10, .int .i64 s17.2), (11, .int .i64 s17.1)], [(8, .tuple #[.int .i64 s17.1, .int .i64 s17.2]), (9, .int .i64 s17.1), (10, .int .i64 s17.2), (11, .int .i64 s17.1), (7, .tuple #[.int .i64 s17.1, .int .i64 s17.2]), (0, .pointer (some ⟨b12, 0, none⟩)), (1, v10), (2, .pointer (some (sla v10 ((0 : Int).toNat * 2)))), (3, .agg #[.int .i64 ((gd HeatDomain.zero s9.1 0).Capacity), .int .i64 ((gd HeatDomain.zero s9.1 0).Ambient)]), (4, .pointer (some ⟨b12, 2, none⟩)), (5, .int .i64 s9.2.2), (6, .int .i64 (IntKind.i64.wrap (s9.2.2 + (IntKind.i64.wrap (Int.tmod (IntKind.u64.wrap a2) 50)))))], [], (fun _ => True), (fun w => St M w0 w [bx b12 38 [v10, v11, .int .i64 s9.2.2], osl K_api_HeatDomain v10 s9.1, osl K_api_HeatLink v11 s9.2.1, osl K_api_HeatDomain v8 [a0], bx b1 33 [.int .i64 a0.Capacity, .int .i64 a0.Ambient]]), rfl, rfl, ⟨hs.get (i := 0) rfl, hs.get (i := 1) rfl, trivial⟩, trivial, hs, (by kernel_rfl), .cons (⟨_, _, rfl, rfl, rfl, rfl, fun a w hR hf => .inl ⟨wanted_yes hf rfl, ex_move hf rfl⟩⟩) (.cons (⟨_, _, rfl, rfl, rfl, rfl, fun a w hR hf => .inl ⟨wanted_yes hf rfl, ex_extract hf rfl rfl⟩⟩) (.cons (⟨_, _, rfl, rfl, rfl, rfl, fun a w hR hf => .inl ⟨wanted_yes hf rfl, ex_extract hf rfl rfl⟩⟩) (.cons (⟨_, _, rfl, rfl, rfl, rfl, fun a w hR hf => .inl ⟨wanted_yes hf rfl, ex_assign hf rfl⟩⟩) (.nil)))), ?_⟩
    refine RW.zero (by kernel_rfl) (by kernel_rfl) [(3, v3), (9, .pointer (some ⟨b12, 0, none⟩)), (10, .int .i64 (IntKind.i64.wrap (s9.2.2 + (IntKind.i64.wrap (Int.tmod (IntKind.u64.wrap a2) 50))))), (11, .int .i64 s17.1), (44, .int .i64 s17.2)] ⟨rfl, rfl, rfl, rfl, rfl, trivial⟩ (fun a w hR hs hf => ?_)
    refine stq hf rfl rfl rfl (ex_assign hf rfl) (fun a hf => ?_)
    refine hK18 _ _ ?_
    refine hN15 _ _ ?_
    refine seq_n (fun Q19 hN19 hR19 hX19 => ?_)
    refine bnd H (fun s20 hs20 H => ?_)
    cases hps20 : s20.1 with
    | none =>
      replace H := elim_n hps20 H
      refine region_k (fun K22 hK22 => ?_)
      refine stq hf rfl rfl rfl (ex_fieldAddrB fa_38_0 rfl hf rfl) (fun a hf => ?_)
      refine stq hf rfl rfl rfl (ex_load sc_35 hf rfl (bx_cell (hs.get (i := 0) rfl) _ rfl)) (fun a hf => ?_)
      refine stq hf rfl rfl rfl (ex_fieldAddrB fa_38_2 rfl hf rfl) (fun a hf => ?_)
      refine stq hf rfl rfl rfl (ex_load sc_2 hf rfl (bx_cell (hs.get (i := 0) rfl) _ rfl)) (fun a hf => ?_)
      refine stepF hf rfl rfl rfl (ex_call cf_15 hf rfl) (heat_New.calls k s9.1 [] s9.2.2 v10 (.slice none 0 0) (hs.enter (.k (.k (.k (.k (.k .nil)))))) (Sr.own hs (.k (.k (.k (.k (.k .nil))))) (i := 1) rfl osl_rsl (fun _ h => h.1) (Sr.free (nil_rsl _ _) nil_fs (Sr.nil _ _))) hs20) (fun v w hR a hf => ?_)
      obtain ⟨_, rfl, hs'⟩ | ⟨_, hc', _⟩ := hR
      case inr => rw [hps20] at hc'; cases hc'
      replace hs := hs.step (.k (.k (.k (.k (.k .nil))))) hs'
      clear hs'
      refine stq hf rfl rfl rfl (ex_move hf rfl) (fun a hf => ?_)
      refine stq hf rfl rfl rfl (ex_extract hf rfl rfl) (fun a hf => ?_)
      refine stq hf rfl rfl rfl (ex_extract hf rfl rfl) (fun a hf => ?_)
      refine stq hf rfl rfl rfl (ex_assign hf rfl) (fun a hf => ?_)
      refine stq hf rfl rfl rfl (ex_assign hf rfl) (fun a hf => ?_)
      refine hK22 _ _ ?_
      refine hN19 _ _ ?_
      refine seq_n (fun Q23 hN23 hR23 hX23 => ?_)
      refine bnd H (fun x24 H24 HO24 => ?_)
      clear H
      refine seq_cut (fun a w => Fr a 107 [(3, v3), (10, .int .i64 (IntKind.i64.wrap (s9.2.2 + (IntKind.i64.wrap (Int.tmod (IntKind.u64.wrap a2) 50))))), (11, .int .i64 s17.1), (13, .pointer none), (66, .bool true)] ∧ St M w0 w []) (fun Q24 hJ24 hR24 hX24 => ?_) (fun a w hJ => ?_)
      · replace H := H24
        refine itt H (fun hc25 H => ?_) (fun hc25 H => ?_)
        · -- s17.2 = 0
          refine itt H (fun hc26 H => ?_) (fun hc26 H => ?_)
          · -- s20.2 = 0
            refine region_k (fun K27 hK27 => ?_)
            refine stq hf rfl rfl rfl (ex_move hf rfl) (fun a hf => ?_)
            refine stq hf rfl rfl rfl (ex_neq hf rfl rfl) (fun a hf => ?_)
            refine stq hf rfl rfl rfl (ex_move hf rfl) (fun a hf => ?_)
            replace hf := hf.castB (t := 54) rfl (ndec_f hc25)
            replace hf := hf.castB (t := 55) rfl (ndec_f hc25)
            refine stq hf rfl rfl rfl (ex_move hf rfl) (fun a hf => ?_)
            refine stq hf rfl rfl rfl (ex_neq hf rfl rfl) (fun a hf => ?_)
            refine stq hf rfl rfl rfl (ex_pickF hf rfl rfl) (fun a hf => ?_)
            refine stq hf rfl rfl rfl (ex_move hf rfl) (fun a hf => ?_)
            replace hf := hf.castB (t := 57) rfl (ndec_f hc26)
            replace hf := hf.castB (t := 58) rfl (ndec_f hc26)
            replace hf := hf.castB (t := 59) rfl (ndec_f hc26)
            refine stq hf rfl rfl rfl (ex_move hf rfl) (fun a hf => ?_)
            refine stq hf rfl rfl rfl (ex_eqp Try.underlying42 hf rfl rfl) (fun a hf => ?_)
            refine stq hf rfl rfl rfl (ex_pickF hf rfl rfl) (fun a hf => ?_)
            refine stq hf rfl rfl rfl (ex_move hf rfl) (fun a hf => ?_)
            refine stepN hf rfl rfl rfl (fun a hf => ?_)
            refine stepN hf rfl rfl rfl (fun a hf => ?_)
            refine stq hf rfl rfl rfl (ex_pickT hf rfl rfl) (fun a hf => ?_)
            refine hK27 _ _ ?_
            replace hs := hs.keep (.d (.d (.d (.d (.d .nil)))))
            have e24 := some_eq H; subst e24
            exact hJ24 _ _ ⟨hf.sub ⟨rfl, rfl, rfl, rfl, rfl, trivial⟩, hs⟩
          · -- not s20.2 = 0
            refine region_k (fun K28 hK28 => ?_)
            refine stq hf rfl rfl rfl (ex_move hf rfl) (fun a hf => ?_)
            refine stq hf rfl rfl rfl (ex_neq hf rfl rfl) (fun a hf => ?_)
            refine stq hf rfl rfl rfl (ex_move hf rfl) (fun a hf => ?_)
            replace hf := hf.castB (t := 54) rfl (ndec_f hc25)
            replace hf := hf.castB (t := 55) rfl (ndec_f hc25)
            refine stq hf rfl rfl rfl (ex_move hf rfl) (fun a hf => ?_)
            refine stq hf rfl rfl rfl (ex_neq hf rfl rfl) (fun a hf => ?_)
            refine stq hf rfl rfl rfl (ex_pickF hf rfl rfl) (fun a hf => ?_)
            refine stq hf rfl rfl rfl (ex_move hf rfl) (fun a hf => ?_)
            replace hf := hf.castB (t := 57) rfl (ndec_t hc26)
            replace hf := hf.castB (t := 58) rfl (ndec_t hc26)
            replace hf := hf.castB (t := 59) rfl (ndec_t hc26)
            refine stepN hf rfl rfl rfl (fun a hf => ?_)
            refine stepN hf rfl rfl rfl (fun a hf => ?_)
            refine stq hf rfl rfl rfl (ex_pickT hf rfl rfl) (fun a hf => ?_)
            refine stq hf rfl rfl rfl (ex_move hf rfl) (fun a hf => ?_)
            refine stepN hf rfl rfl rfl (fun a hf => ?_)
            refine stepN hf rfl rfl rfl (fun a hf => ?_)
            refine stq hf rfl rfl rfl (ex_pickT hf rfl rfl) (fun a hf => ?_)
            refine hK28 _ _ ?_
            replace hs := hs.keep (.d (.d (.d (.d (.d .nil)))))
            have e24 := some_eq H; subst e24
            exact hJ24 _ _ ⟨hf.sub ⟨rfl, rfl, rfl, rfl, rfl, trivial⟩, hs⟩
        · -- not s17.2 = 0
          refine region_k (fun K29 hK29 => ?_)
          refine stq hf rfl rfl rfl (ex_move hf rfl) (fun a hf => ?_)
          refine stq hf rfl rfl rfl (ex_neq hf rfl rfl) (fun a hf => ?_)
          refine stq hf rfl rfl rfl (ex_move hf rfl) (fun a hf => ?_)
          replace hf := hf.castB (t := 54) rfl (ndec_t hc25)
          replace hf := hf.castB (t := 55) rfl (ndec_t hc25)
          refine stepN hf rfl rfl rfl (fun a hf => ?_)
          refine stepN hf rfl rfl rfl (fun a hf => ?_)
          refine stq hf rfl rfl rfl (ex_pickT hf rfl rfl) (fun a hf => ?_)
          refine stq hf rfl rfl rfl (ex_move hf rfl) (fun a hf => ?_)
          refine stepN hf rfl rfl rfl (fun a hf => ?_)
          refine stepN hf rfl rfl rfl (fun a hf => ?_)
          refine stq hf rfl rfl rfl (ex_pickT hf rfl rfl) (fun a hf => ?_)
          refine stq hf rfl rfl rfl (ex_move hf rfl) (fun a hf => ?_)
          refine stepN hf rfl rfl rfl (fun a hf => ?_)
          refine stepN hf rfl rfl rfl (fun a hf => ?_)
          refine stq hf rfl rfl rfl (ex_pickT hf rfl rfl) (fun a hf => ?_)
          refine hK29 _ _ ?_
          replace hs := hs.keep (.d (.d (.d (.d (.d .nil)))))
          have e24 := some_eq H; subst e24
          exact hJ24 _ _ ⟨hf.sub ⟨rfl, rfl, rfl, rfl, rfl, trivial⟩, hs⟩
      · obtain ⟨hf, hs⟩ := hJ
        replace H := HO24
        clear HO24
        refine cond_T hf rfl ?_
        refine seq_reg (fun K30 hK30 => ?_)
        refine stq hf rfl rfl rfl (ex_assign hf rfl) (fun a hf => ?_)
        refine hK30 _ _ ?_
        refine wp_ret ?_
        refine hR23 _ _ ?_
        have eR := some_eq H; subst eR
        exact ret1 Try.results4 hf rfl ⟨_, rfl, ⟨rfl, hs⟩⟩
    | some c21 =>
      replace H := elim_s hps20 H
      refine region_k (fun K35 hK35 => ?_)
      refine stq hf rfl rfl rfl (ex_fieldAddrB fa_38_0 rfl hf rfl) (fun a hf => ?_)
      refine stq hf rfl rfl rfl (ex_load sc_35 hf rfl (bx_cell (hs.get (i := 0) rfl) _ rfl)) (fun a hf => ?_)
      refine stq hf rfl rfl rfl (ex_fieldAddrB fa_38_2 rfl hf rfl) (fun a hf => ?_)
      refine stq hf rfl rfl rfl (ex_load sc_2 hf rfl (bx_cell (hs.get (i := 0) rfl) _ rfl)) (fun a hf => ?_)
      refine stepF hf rfl rfl rfl (ex_call cf_15 hf rfl) (heat_New.calls k s9.1 [] s9.2.2 v10 (.slice none 0 0) (hs.enter (.k (.k (.k (.k (.k .nil)))))) (Sr.own hs (.k (.k (.k (.k (.k .nil))))) (i := 1) rfl osl_rsl (fun _ h => h.1) (Sr.free (nil_rsl _ _) nil_fs (Sr.nil _ _))) hs20) (fun v w hR a hf => ?_)
      obtain ⟨hc', _⟩ | ⟨cc, hc', b31, v32, v33, v34, rfl, hs'⟩ := hR
      case inl => rw [hps20] at hc'; cases hc'
      obtain rfl : c21 = cc := by rw [hps20] at hc'; exact Option.some.inj hc'
      replace hs := hs.step (.k (.k (.k (.k (.k .nil))))) hs'
      clear hs'
      refine stq hf rfl rfl rfl (ex_move hf rfl) (fun a hf => ?_)
      refine stq hf rfl rfl rfl (ex_extract hf rfl rfl) (fun a hf => ?_)
      refine stq hf rfl rfl rfl (ex_extract hf rfl rfl) (fun a hf => ?_)
      refine stq hf rfl rfl rfl (ex_assign hf rfl) (fun a hf => ?_)
      refine stq hf rfl rfl rfl (ex_assign hf rfl) (fun a hf => ?_)
      refine hK35 _ _ ?_
      refine hN19 _ _ ?_
      refine seq_n (fun Q36 hN36 hR36 hX36 => ?_)
      refine bnd H (fun x37 H37 HO37 => ?_)
      clear H
      refine seq_cut (fun a w => Fr a 107 [(3, v3), (10, .int .i64 (IntKind.i64.wrap (s9.2.2 + (IntKind.i64.wrap (Int.tmod (IntKind.u64.wrap a2) 50))))), (11, .int .i64 s17.1), (13, .pointer (some ⟨b31, 0, none⟩)), (66, .bool x37)] ∧ St M w0 w [bx b31 89 [v32, v33, .int .i64 c21.2.2.1, v34, .int .i64 c21.2.2.2.2], osl K_api_HeatDomain v32 c21.1, osl K_api_HeatLink v33 c21.2.1, osl K_int64 v34 c21.2.2.2.1]) (fun Q37 hJ37 hR37 hX37 => ?_) (fun a w hJ => ?_)
      · replace H := H37
        refine itt H (fun hc38 H => ?_) (fun hc38 H => ?_)
        · -- s17.2 = 0
          refine itt H (fun hc39 H => ?_) (fun hc39 H => ?_)
          · -- s20.2 = 0
            refine region_k (fun K40 hK40 => ?_)
            refine stq hf rfl rfl rfl (ex_move hf rfl) (fun a hf => ?_)
            refine stq hf rfl rfl rfl (ex_neq hf rfl rfl) (fun a hf => ?_)
            refine stq hf rfl rfl rfl (ex_move hf rfl) (fun a hf => ?_)
            replace hf := hf.castB (t := 54) rfl (ndec_f hc38)
            replace hf := hf.castB (t := 55) rfl (ndec_f hc38)
            refine stq hf rfl rfl rfl (ex_move hf rfl) (fun a hf => ?_)
            refine stq hf rfl rfl rfl (ex_neq hf rfl rfl) (fun a hf => ?_)
            refine stq hf rfl rfl rfl (ex_pickF hf rfl rfl) (fun a hf => ?_)
            refine stq hf rfl rfl rfl (ex_move hf rfl) (fun a hf => ?_)
            replace hf := hf.castB (t := 57) rfl (ndec_f hc39)
            replace hf := hf.castB (t := 58) rfl (ndec_f hc39)
            replace hf := hf.castB (t := 59) rfl (ndec_f hc39)
            refine stq hf rfl rfl rfl (ex_move hf rfl) (fun a hf => ?_)
            refine stq hf rfl rfl rfl (ex_eqp Try.underlying42 hf rfl rfl) (fun a hf => ?_)
            refine stq hf rfl rfl rfl (ex_pickF hf rfl rfl) (fun a hf => ?_)
            refine stq hf rfl rfl rfl (ex_move hf rfl) (fun a hf => ?_)
            refine stq hf rfl rfl rfl (ex_move hf rfl) (fun a hf => ?_)
            refine stq hf rfl rfl rfl (ex_lss hf rfl rfl) (fun a hf => ?_)
            refine stq hf rfl rfl rfl (ex_pickF hf rfl rfl) (fun a hf => ?_)
            refine hK40 _ _ ?_
            replace hs := hs.keep (.k (.k (.k (.k (.d (.d (.d (.d (.d .nil)))))))))
            have e37 := some_eq H; subst e37
            exact hJ37 _ _ ⟨hf.sub ⟨rfl, rfl, rfl, rfl, rfl, trivial⟩, hs⟩
          · -- not s20.2 = 0
            refine region_k (fun K41 hK41 => ?_)
            refine stq hf rfl rfl rfl (ex_move hf rfl) (fun a hf => ?_)
            refine stq hf rfl rfl rfl (ex_neq hf rfl rfl) (fun a hf => ?_)
            refine stq hf rfl rfl rfl (ex_move hf rfl) (fun a hf => ?_)
            replace hf := hf.castB (t := 54) rfl (ndec_f hc38)
            replace hf := hf.castB (t := 55) rfl (ndec_f hc38)
            refine stq hf rfl rfl rfl (ex_move hf rfl) (fun a hf => ?_)
            refine stq hf rfl rfl rfl (ex_neq hf rfl rfl) (fun a hf => ?_)
            refine stq hf rfl rfl rfl (ex_pickF hf rfl rfl) (fun a hf => ?_)
            refine stq hf rfl rfl rfl (ex_move hf rfl) (fun a hf => ?_)
            replace hf := hf.castB (t := 57) rfl (ndec_t hc39)
            replace hf := hf.castB (t := 58) rfl (ndec_t hc39)
            replace hf := hf.castB (t := 59) rfl (ndec_t hc39)
            refine stepN hf rfl rfl rfl (fun a hf => ?_)
            refine stepN hf rfl rfl rfl (fun a hf => ?_)
            refine stq hf rfl rfl rfl (ex_pickT hf rfl rfl) (fun a hf => ?_)
            refine stq hf rfl rfl rfl (ex_move hf rfl) (fun a hf => ?_)
            refine stepN hf rfl rfl rfl (fun a hf => ?_)
            refine stepN hf rfl rfl rfl (fun a hf => ?_)
            refine stq hf rfl rfl rfl (ex_pickT hf rfl rfl) (fun a hf => ?_)
            refine hK41 _ _ ?_
            replace hs := hs.keep (.k (.k (.k (.k (.d (.d (.d (.d (.d .nil)))))))))
            have e37 := some_eq H; subst e37
            exact hJ37 _ _ ⟨hf.sub ⟨rfl, rfl, rfl, rfl, rfl, trivial⟩, hs⟩
        · -- not s17.2 = 0
          refine region_k (fun K42 hK42 => ?_)
          refine stq hf rfl rfl rfl (ex_move hf rfl) (fun a hf => ?_)
          refine stq hf rfl rfl rfl (ex_neq hf rfl rfl) (fun a hf => ?_)
          refine stq hf rfl rfl rfl (ex_move hf rfl) (fun a hf => ?_)
          replace hf := hf.castB (t := 54) rfl (ndec_t hc38)
          replace hf := hf.castB (t := 55) rfl (ndec_t hc38)
          refine stepN hf rfl rfl rfl (fun a hf => ?_)
          refine stepN hf rfl rfl rfl (fun a hf => ?_)
          refine stq hf rfl rfl rfl (ex_pickT hf rfl rfl) (fun a hf => ?_)
          refine stq hf rfl rfl rfl (ex_move hf rfl) (fun a hf => ?_)
          refine stepN hf rfl rfl rfl (fun a hf => ?_)
          refine stepN hf rfl rfl rfl (fun a hf => ?_)
          refine stq hf rfl rfl rfl (ex_pickT hf rfl rfl) (fun a hf => ?_)
          refine stq hf rfl rfl rfl (ex_move hf rfl) (fun a hf => ?_)
          refine stepN hf rfl rfl rfl (fun a hf => ?_)
          refine stepN hf rfl rfl rfl (fun a hf => ?_)
          refine stq hf rfl rfl rfl (ex_pickT hf rfl rfl) (fun a hf => ?_)
          refine hK42 _ _ ?_
          replace hs := hs.keep (.k (.k (.k (.k (.d (.d (.d (.d (.d .nil)))))))))
          have e37 := some_eq H; subst e37
          exact hJ37 _ _ ⟨hf.sub ⟨rfl, rfl, rfl, rfl, rfl, trivial⟩, hs⟩
      · obtain ⟨hf, hs⟩ := hJ
        replace H := HO37
        clear HO37
        refine itt H (fun hc43 H => ?_) (fun hc43 H => ?_)
        · -- x37 = true
          replace hf := hf.castB (t := 66) rfl hc43
          refine cond_T hf rfl ?_
          refine seq_reg (fun K44 hK44 => ?_)
          refine stq hf rfl rfl rfl (ex_assign hf rfl) (fun a hf => ?_)
          refine hK44 _ _ ?_
          refine wp_ret ?_
          refine hR36 _ _ ?_
          have eR := some_eq H; subst eR
          replace hs := hs.keep (.d (.d (.d (.d .nil))))
          exact ret1 Try.results4 hf rfl ⟨_, rfl, ⟨rfl, hs⟩⟩
        · -- not x37 = true
          replace hf := hf.castB (t := 66) rfl (bool_f hc43)
          refine cond_F hf rfl ?_
          refine wp_skip ?_
          refine hN36 _ _ ?_
          refine bnd H (fun x45 H45 HO45 => ?_)
          clear H
          refine seq_cut (fun a w => ∃ (x45s : Unit), x45 = .go x45s ∧ Fr a 107 [] ∧ St M w0 w []) (fun Q45 hJ45 hR45 hX45 => ?_) (fun a w hJ => ?_)
          · replace H := H45
            refine seq_reg (fun K46 hK46 => ?_)
            refine stq hf rfl rfl rfl (ex_assign hf rfl) (fun a hf => ?_)
            refine hK46 _ _ ?_
            refine block_k (fun Q47 hN47 hR47 hX47 hY47 => ?_)
            refine loop_k (fun n a w => ∃ (y49 : (List Int)) (y50 : Int) (y51 : Int) (v48 : Value), Fr a 107 [(3, v3), (10, .int .i64 (IntKind.i64.wrap (s9.2.2 + (IntKind.i64.wrap (Int.tmod (IntKind.u64.wrap a2) 50))))), (11, .int .i64 s17.1), (13, .pointer (some ⟨b31, 0, none⟩)), (15, .int .i64 y51)] ∧ St M w0 w [bx b31 89 [v32, v33, .int .i64 c21.2.2.1, v48, .int .i64 y50], osl K_api_HeatDomain v32 c21.1, osl K_api_HeatLink v33 c21.2.1, osl K_int64 v48 y49] ∧ law39_ThermalKeepsLimit.l1 n a3 s17 c21 s9 a2 y49 y50 y51 = some x45) k ?_ (fun n53 a w hI Q53 hL53 hR53 hX53 => ?_)
            · -- at the start
              exact ⟨c21.2.2.2.1, c21.2.2.2.2, 0, v34, hf.sub ⟨rfl, rfl, rfl, rfl, rfl, trivial⟩, hs, H⟩
            · obtain ⟨y49, y50, y51, v48, hf, hs, H⟩ := hI
              cases n53 with
              | zero => exact absurd H (by rw [law39_ThermalKeepsLimit.l1.eq_1]; intro h; cases h)
              | succ k53 =>
                replace H := (law39_ThermalKeepsLimit.l1.eq_2 ..).symm.trans H
                refine seq_n (fun Q54 hN54 hR54 hX54 => ?_)
                refine seq_reg (fun K55 hK55 => ?_)
                refine stq hf rfl rfl rfl (ex_move hf rfl) (fun a hf => ?_)
                refine stq hf rfl rfl rfl (ex_move hf rfl) (fun a hf => ?_)
                refine stq hf rfl rfl rfl (ex_lenS Try.underlying34 (rsl_isSl (hr.now hs (i := 0) rfl)) hf rfl) (fun a hf => ?_)
                refine stq hf rfl rfl rfl (ex_lss hf rfl rfl) (fun a hf => ?_)
                refine hK55 _ _ ?_
                refine itt H (fun hc56 H => ?_) (fun hc56 H => ?_)
                · -- y51 < (a3.length : Int)
                  replace hf := hf.castB (t := 70) rfl (dec_t hc56)
                  refine cond_T hf rfl ?_
                  refine wp_skip ?_
                  refine hN54 _ _ ?_
                  refine seq_n (fun Q57 hN57 hR57 hX57 => ?_)
                  refine block_k (fun Q58 hN58 hR58 hX58 hY58 => ?_)
                  refine ck_some H (fun hc59 H => ?_)
                  refine bnd H (fun s61 hs61 H => ?_)
                  refine seq_reg (fun K63 hK63 => ?_)
                  refine stq hf rfl rfl rfl (ex_move hf rfl) (fun a hf => ?_)
                  refine stq hf rfl rfl rfl (ex_move hf rfl) (fun a hf => ?_)
                  refine stq hf rfl rfl rfl (ex_indexAddr sa_34 (rsl_isSl (hr.now hs (i := 0) rfl)) hc59.1 hc59.2 hf rfl rfl) (fun a hf => ?_)
                  refine stq hf rfl rfl rfl (ex_load sc_2 hf rfl (el_cell (K := K_int64) (f := 0) (rsl_rd (hr.now hs (i := 0) rfl)) hc59.1 hc59.2 rfl)) (fun a hf => ?_)
                  refine stepV hf rfl rfl rfl (er_buildSlice (K := K_int64) (xs := [(gd 0 a3 y51)]) hs Try.underlying34 ep_2 rfl rfl hf rfl (.cons rfl .nil) rfl rfl) (fun v60 w hs a hf => ?_)
                  refine stq hf rfl rfl rfl (ex_move hf rfl) (fun a hf => ?_)
                  refine stepF hf rfl rfl rfl (ex_call cf_16 hf rfl) (law38_Powers.calls k53 [(gd 0 a3 y51)] 1 s17.1 v60 (hs.enter (.k (.k (.k (.k (.k .nil)))))) (Sr.own hs (.k (.k (.k (.k (.k .nil))))) (i := 0) rfl osl_rsl (fun _ h => h.1) (Sr.nil _ _)) hs61) (fun v w hR a hf => ?_)
                  obtain ⟨v62, rfl, hs'⟩ := hR
                  replace hs := hs.step (.k (.k (.k (.k (.k .nil))))) hs'
                  clear hs'
                  refine stq hf rfl rfl rfl (ex_assign hf rfl) (fun a hf => ?_)
                  refine hK63 _ _ ?_
                  refine bnd H (fun x64 H64 HO64 => ?_)
                  clear H
                  refine seq_cut (fun a w => Fr a 107 [(3, v3), (10, .int .i64 (IntKind.i64.wrap (s9.2.2 + (IntKind.i64.wrap (Int.tmod (IntKind.u64.wrap a2) 50))))), (11, .int .i64 s17.1), (13, .pointer (some ⟨b31, 0, none⟩)), (15, .int .i64 y51), (16, v62)] ∧ St M w0 w [bx b31 89 [v32, v33, .int .i64 c21.2.2.1, v48, .int .i64 y50], osl K_api_HeatDomain v32 c21.1, osl K_api_HeatLink v33 c21.2.1, osl K_int64 v48 y49, osl K_int64 v62 x64]) (fun Q64 hJ64 hR64 hX64 => ?_) (fun a w hJ => ?_)
                  · replace H := H64
                    refine seq_reg (fun K65 hK65 => ?_)
                    refine stq hf rfl rfl rfl (ex_move hf rfl) (fun a hf => ?_)
                    refine stq hf rfl rfl rfl (ex_rem hf rfl rfl (by decide)) (fun a hf => ?_)
                    refine stq hf rfl rfl rfl (ex_eql hf rfl rfl) (fun a hf => ?_)
                    refine hK65 _ _ ?_
                    refine itt H (fun hc66 H => ?_) (fun hc66 H => ?_)
                    · -- (Int.tmod y51 3) = 0
                      replace hf := hf.castB (t := 82) rfl (dec_t hc66)
                      refine cond_T hf rfl ?_
                      refine ck_some H (fun hc67 H => ?_)
                      refine region_k (fun K68 hK68 => ?_)
                      refine stq hf rfl rfl rfl (ex_move hf rfl) (fun a hf => ?_)
                      refine stq hf rfl rfl rfl (ex_move hf rfl) (fun a hf => ?_)
                      refine stq hf rfl rfl rfl (ex_indexAddr sa_34 (rsl_isSl (osl_rsl _ (hs.get (i := 0) rfl))) hc67.1 hc67.2 hf rfl rfl) (fun a hf => ?_)
                      refine stepS hf rfl rfl (er_storeE (K := K_int64) (f := 0) (x' := s17.1) hs (.c (.k (.k (.k (.k (.k .nil)))))) hc67.1 hc67.2 hf rfl rfl rfl sz_2 rfl rfl) (fun w hs => ?_)
                      refine hK68 _ _ ?_
                      replace hs := hs.keep (.k (.d (.k (.k (.k (.k .nil))))))
                      replace hs := hs.pick (.k (.k (.k (.k (.c .nil)))))
                      replace hs := hs.pick (.k (.k (.k (.k (.c .nil)))))
                      replace hs := hs.pick (.k (.k (.k (.k (.c .nil)))))
                      replace hs := hs.pick (.k (.k (.k (.k (.c .nil)))))
                      have e64 := some_eq H; subst e64
                      exact hJ64 _ _ ⟨hf.sub ⟨rfl, rfl, rfl, rfl, rfl, rfl, trivial⟩, hs⟩
                    · -- not (Int.tmod y51 3) = 0
                      replace hf := hf.castB (t := 82) rfl (dec_f hc66)
                      refine cond_F hf rfl ?_
                      refine wp_skip ?_
                      replace hs := hs.keep (.k (.d (.k (.k (.k (.k .nil))))))
                      replace hs := hs.pick (.k (.k (.k (.k (.c .nil)))))
                      replace hs := hs.pick (.k (.k (.k (.k (.c .nil)))))
                      replace hs := hs.pick (.k (.k (.k (.k (.c .nil)))))
                      replace hs := hs.pick (.k (.k (.k (.k (.c .nil)))))
                      have e64 := some_eq H; subst e64
                      exact hJ64 _ _ ⟨hf.sub ⟨rfl, rfl, rfl, rfl, rfl, rfl, trivial⟩, hs⟩
                  · obtain ⟨hf, hs⟩ := hJ
                    replace H := HO64
                    clear HO64
                    refine bnd H (fun s69 hs69 H => ?_)
                    refine seq_reg (fun K72 hK72 => ?_)
                    refine stq hf rfl rfl rfl (ex_move hf rfl) (fun a hf => ?_)
                    refine stq hf rfl rfl rfl (ex_move hf rfl) (fun a hf => ?_)
                    refine stepF hf rfl rfl rfl (ex_call cf_17 hf rfl) (heat_Model_Step.calls k53 c21.1 c21.2.1 c21.2.2.1 y49 y50 x64 b31 v32 v33 v48 v62 (hs.enter (.c (.k (.k (.c (.k .nil)))))) (Sr.own hs (.c (.k (.k (.c (.k .nil))))) (i := 0) rfl osl_rsl (fun _ h => h.1) (Sr.own hs (.c (.k (.k (.c (.k .nil))))) (i := 1) rfl osl_rsl (fun _ h => h.1) (Sr.own hs (.c (.k (.k (.c (.k .nil))))) (i := 2) rfl osl_rsl (fun _ h => h.1) (Sr.nil _ _)))) hs69) (fun v w hR a hf => ?_)
                    obtain ⟨v70, v71, rfl, hs'⟩ := hR
                    replace hs := hs.step (.c (.k (.k (.c (.k .nil))))) hs'
                    clear hs'
                    refine stq hf rfl rfl rfl (ex_move hf rfl) (fun a hf => ?_)
                    refine stq hf rfl rfl rfl (ex_extract hf rfl rfl) (fun a hf => ?_)
                    refine stq hf rfl rfl rfl (ex_extract hf rfl rfl) (fun a hf => ?_)
                    refine stq hf rfl rfl rfl (ex_assign hf rfl) (fun a hf => ?_)
                    refine stq hf rfl rfl rfl (ex_assign hf rfl) (fun a hf => ?_)
                    refine hK72 _ _ ?_
                    refine bnd H (fun x73 H73 HO73 => ?_)
                    clear H
                    refine seq_cut (fun a w => Fr a 107 [(3, v3), (10, .int .i64 (IntKind.i64.wrap (s9.2.2 + (IntKind.i64.wrap (Int.tmod (IntKind.u64.wrap a2) 50))))), (11, .int .i64 s17.1), (13, .pointer (some ⟨b31, 0, none⟩)), (15, .int .i64 y51), (105, .bool x73)] ∧ St M w0 w [bx b31 89 [v32, v33, .int .i64 c21.2.2.1, v70, .int .i64 s69.1], osl K_api_HeatDomain v32 c21.1, osl K_api_HeatLink v33 c21.2.1, osl K_int64 v70 s69.2.1]) (fun Q73 hJ73 hR73 hX73 => ?_) (fun a w hJ => ?_)
                    · replace H := H73
                      refine itt H (fun hc74 H => ?_) (fun hc74 H => ?_)
                      · -- s69.2.2.2 = 0
                        refine itt H (fun hc75 H => ?_) (fun hc75 H => ?_)
                        · -- (s69.2.2.1.length : Int) = 1
                          refine ck_some H (fun hc76 H => ?_)
                          refine region_k (fun K77 hK77 => ?_)
                          refine stq hf rfl rfl rfl (ex_move hf rfl) (fun a hf => ?_)
                          refine stq hf rfl rfl rfl (ex_neq hf rfl rfl) (fun a hf => ?_)
                          refine stq hf rfl rfl rfl (ex_move hf rfl) (fun a hf => ?_)
                          replace hf := hf.castB (t := 93) rfl (ndec_f hc74)
                          replace hf := hf.castB (t := 94) rfl (ndec_f hc74)
                          refine stq hf rfl rfl rfl (ex_move hf rfl) (fun a hf => ?_)
                          refine stq hf rfl rfl rfl (ex_lenS Try.underlying34 (rsl_isSl (osl_rsl _ (hs.get (i := 2) rfl))) hf rfl) (fun a hf => ?_)
                          refine stq hf rfl rfl rfl (ex_neq hf rfl rfl) (fun a hf => ?_)
                          refine stq hf rfl rfl rfl (ex_pickF hf rfl rfl) (fun a hf => ?_)
                          refine stq hf rfl rfl rfl (ex_move hf rfl) (fun a hf => ?_)
                          replace hf := hf.castB (t := 97) rfl (ndec_f hc75)
                          replace hf := hf.castB (t := 98) rfl (ndec_f hc75)
                          replace hf := hf.castB (t := 99) rfl (ndec_f hc75)
                          refine stq hf rfl rfl rfl (ex_move hf rfl) (fun a hf => ?_)
                          refine stq hf rfl rfl rfl (ex_indexAddr sa_34 (rsl_isSl (osl_rsl _ (hs.get (i := 2) rfl))) hc76.1 hc76.2 hf rfl rfl) (fun a hf => ?_)
                          refine stq hf rfl rfl rfl (ex_load sc_2 hf rfl (el_cell (K := K_int64) (f := 0) (rsl_rd (osl_rsl _ (hs.get (i := 2) rfl))) hc76.1 hc76.2 rfl)) (fun a hf => ?_)
                          refine stq hf rfl rfl rfl (ex_move hf rfl) (fun a hf => ?_)
                          refine stq hf rfl rfl rfl (ex_gtr hf rfl rfl) (fun a hf => ?_)
                          refine stq hf rfl rfl rfl (ex_pickF hf rfl rfl) (fun a hf => ?_)
                          refine hK77 _ _ ?_
                          replace hs := hs.keep (.k (.k (.d (.k (.k (.d .nil))))))
                          replace hs := hs.pick (.k (.c (.k (.k .nil))))
                          replace hs := hs.pick (.k (.k (.k (.c .nil))))
                          replace hs := hs.pick (.k (.k (.k (.c .nil))))
                          replace hs := hs.pick (.k (.k (.k (.c .nil))))
                          have e73 := some_eq H; subst e73
                          exact hJ73 _ _ ⟨hf.sub ⟨rfl, rfl, rfl, rfl, rfl, rfl, trivial⟩, hs⟩
                        · -- not (s69.2.2.1.length : Int) = 1
                          refine region_k (fun K78 hK78 => ?_)
                          refine stq hf rfl rfl rfl (ex_move hf rfl) (fun a hf => ?_)
                          refine stq hf rfl rfl rfl (ex_neq hf rfl rfl) (fun a hf => ?_)
                          refine stq hf rfl rfl rfl (ex_move hf rfl) (fun a hf => ?_)
                          replace hf := hf.castB (t := 93) rfl (ndec_f hc74)
                          replace hf := hf.castB (t := 94) rfl (ndec_f hc74)
                          refine stq hf rfl rfl rfl (ex_move hf rfl) (fun a hf => ?_)
                          refine stq hf rfl rfl rfl (ex_lenS Try.underlying34 (rsl_isSl (osl_rsl _ (hs.get (i := 2) rfl))) hf rfl) (fun a hf => ?_)
                          refine stq hf rfl rfl rfl (ex_neq hf rfl rfl) (fun a hf => ?_)
                          refine stq hf rfl rfl rfl (ex_pickF hf rfl rfl) (fun a hf => ?_)
                          refine stq hf rfl rfl rfl (ex_move hf rfl) (fun a hf => ?_)
                          replace hf := hf.castB (t := 97) rfl (ndec_t hc75)
                          replace hf := hf.castB (t := 98) rfl (ndec_t hc75)
                          replace hf := hf.castB (t := 99) rfl (ndec_t hc75)
                          refine stepN hf rfl rfl rfl (fun a hf => ?_)
                          refine stepN hf rfl rfl rfl (fun a hf => ?_)
                          refine stepN hf rfl rfl rfl (fun a hf => ?_)
                          refine stepN hf rfl rfl rfl (fun a hf => ?_)
                          refine stepN hf rfl rfl rfl (fun a hf => ?_)
                          refine stq hf rfl rfl rfl (ex_pickT hf rfl rfl) (fun a hf => ?_)
                          refine hK78 _ _ ?_
                          replace hs := hs.keep (.k (.k (.d (.k (.k (.d .nil))))))
                          replace hs := hs.pick (.k (.c (.k (.k .nil))))
                          replace hs := hs.pick (.k (.k (.k (.c .nil))))
                          replace hs := hs.pick (.k (.k (.k (.c .nil))))
                          replace hs := hs.pick (.k (.k (.k (.c .nil))))
                          have e73 := some_eq H; subst e73
                          exact hJ73 _ _ ⟨hf.sub ⟨rfl, rfl, rfl, rfl, rfl, rfl, trivial⟩, hs⟩
                      · -- not s69.2.2.2 = 0
                        refine region_k (fun K79 hK79 => ?_)
                        refine stq hf rfl rfl rfl (ex_move hf rfl) (fun a hf => ?_)
                        refine stq hf rfl rfl rfl (ex_neq hf rfl rfl) (fun a hf => ?_)
                        refine stq hf rfl rfl rfl (ex_move hf rfl) (fun a hf => ?_)
                        replace hf := hf.castB (t := 93) rfl (ndec_t hc74)
                        replace hf := hf.castB (t := 94) rfl (ndec_t hc74)
                        refine stepN hf rfl rfl rfl (fun a hf => ?_)
                        refine stepN hf rfl rfl rfl (fun a hf => ?_)
                        refine stepN hf rfl rfl rfl (fun a hf => ?_)
                        refine stq hf rfl rfl rfl (ex_pickT hf rfl rfl) (fun a hf => ?_)
                        refine stq hf rfl rfl rfl (ex_move hf rfl) (fun a hf => ?_)
                        refine stepN hf rfl rfl rfl (fun a hf => ?_)
                        refine stepN hf rfl rfl rfl (fun a hf => ?_)
                        refine stepN hf rfl rfl rfl (fun a hf => ?_)
                        refine stepN hf rfl rfl rfl (fun a hf => ?_)
                        refine stepN hf rfl rfl rfl (fun a hf => ?_)
                        refine stq hf rfl rfl rfl (ex_pickT hf rfl rfl) (fun a hf => ?_)
                        refine hK79 _ _ ?_
                        replace hs := hs.keep (.k (.k (.d (.k (.k (.d .nil))))))
                        replace hs := hs.pick (.k (.c (.k (.k .nil))))
                        replace hs := hs.pick (.k (.k (.k (.c .nil))))
                        replace hs := hs.pick (.k (.k (.k (.c .nil))))
                        replace hs := hs.pick (.k (.k (.k (.c .nil))))
                        have e73 := some_eq H; subst e73
                        exact hJ73 _ _ ⟨hf.sub ⟨rfl, rfl, rfl, rfl, rfl, rfl, trivial⟩, hs⟩
                    · obtain ⟨hf, hs⟩ := hJ
                      replace H := HO73
                      clear HO73
                      refine itt H (fun hc80 H => ?_) (fun hc80 H => ?_)
                      · -- x73 = true
                        replace hf := hf.castB (t := 105) rfl hc80
                        refine cond_T hf rfl ?_
                        refine seq_reg (fun K81 hK81 => ?_)
                        refine stq hf rfl rfl rfl (ex_assign hf rfl) (fun a hf => ?_)
                        refine hK81 _ _ ?_
                        refine wp_ret ?_
                        refine hR58 _ _ ?_
                        refine hR57 _ _ ?_
                        refine hR53 _ _ ?_
                        refine hR47 _ _ ?_
                        have e45 := some_eq H; subst e45; replace H := el_rt HO45
                        refine hR45 _ _ ?_
                        have eR := some_eq H; subst eR
                        replace hs := hs.keep (.d (.d (.d (.d .nil))))
                        exact ret1 Try.results4 hf rfl ⟨_, rfl, ⟨rfl, hs⟩⟩
                      · -- not x73 = true
                        replace hf := hf.castB (t := 105) rfl (bool_f hc80)
                        refine cond_F hf rfl ?_
                        refine wp_skip ?_
                        refine hN58 _ _ ?_
                        refine hN57 _ _ ?_
                        refine region_k (fun K82 hK82 => ?_)
                        refine stq hf rfl rfl rfl (ex_move hf rfl) (fun a hf => ?_)
                        refine stq hf rfl rfl rfl (ex_add hf rfl rfl) (fun a hf => ?_)
                        refine stq hf rfl rfl rfl (ex_assign hf rfl) (fun a hf => ?_)
                        refine hK82 _ _ ?_
                        exact hL53 k53 _ _ (Nat.lt_succ_self _) ⟨s69.2.1, s69.1, (IntKind.i64.wrap (y51 + 1)), v70, hf.sub ⟨rfl, rfl, rfl, rfl, rfl, trivial⟩, hs, H⟩
                · -- not y51 < (a3.length : Int)
                  replace hf := hf.castB (t := 70) rfl (dec_f hc56)
                  refine cond_F hf rfl ?_
                  refine wp_exit ?_
                  refine hX54 0 _ _ ?_
                  refine hX53 0 _ _ ?_
                  refine hX47 _ _ ?_
                  replace hs := hs.keep (.d (.d (.d (.d .nil))))
                  have e45 := some_eq H; subst e45
                  exact hJ45 _ _ ⟨_, rfl, hf.sub trivial, hs⟩
          · obtain ⟨x45s, rfl, hf, hs⟩ := hJ
            replace H := el_go HO45
            clear HO45
            refine bnd H (fun s83 hs83 H => ?_)
            refine seq_reg (fun K84 hK84 => ?_)
            refine stepF hf rfl rfl rfl (ex_call cf_9 hf rfl) (law39_awake.calls k (hs.enter .nil) (Sr.nil _ _) hs83) (fun v w hR a hf => ?_)
            obtain ⟨rfl, hs'⟩ := hR
            replace hs := hs.step .nil hs'
            clear hs'
            refine stq hf rfl rfl rfl (ex_assign hf rfl) (fun a hf => ?_)
            refine hK84 _ _ ?_
            refine wp_ret ?_
            have eR := some_eq H; subst eR
            exact ret1 Try.results4 hf rfl ⟨_, rfl, ⟨rfl, hs⟩⟩

end Go.Proofs.Ytannodkbindlbaa.X
