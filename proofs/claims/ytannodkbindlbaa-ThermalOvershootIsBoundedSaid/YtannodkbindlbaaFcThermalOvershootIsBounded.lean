/- Each function of the machine comes to what its pure function says. -/
import Derived.Test.YtannodkbindlbaaFc1
import Derived.Test.YtannodkbindlbaaFc2
import Derived.Test.YtannodkbindlbaaFc3
import Derived.Test.YtannodkbindlbaaFc4
import Derived.Test.YtannodkbindlbaaFc5
import Derived.Test.YtannodkbindlbaaFc6
import Derived.Test.YtannodkbindlbaaFb
namespace Go.Proofs.Ytannodkbindlbaa.X
open Go Go.RowKit Go.Sx
set_option linter.unusedVariables false

set_option maxHeartbeats 4000000 in
set_option maxRecDepth 100000 in
theorem law39_ThermalOvershootIsBounded.calls {M : Nat → Prop} {w0 : World} (k : Nat) (a0 : HeatDomain) (a1 : Int) (a2 : Int) (a3 : Int) (a4 : Int) (a5 : Int) (a6 : Int) {r : Bool} (hs : St M w0 w0 []) (hr : Sr M w0 [])
    (h : law39_ThermalOvershootIsBounded.f k a0 a1 a2 a3 a4 a5 a6 = some r) : Calls Try.prog 5 #[.agg #[.int .i64 a0.Capacity, .int .i64 a0.Ambient], .int .i64 a1, .int .u16 a2, .int .u16 a3, .int .i64 a4, .int .u8 a5, .int .i64 a6] w0 fun e w => ∃ v, e = .returned v ∧ (.bool r = v ∧ St M w0 w []) := by
  have H := (law39_ThermalOvershootIsBounded.f.eq_1 ..).symm.trans h
  clear h
  refine enter Try.func5 rfl Try.ntmps5 rfl (fun a hf => ?_)
  refine seq_reg (fun K2 hK2 => ?_)
  refine stepV hf rfl rfl rfl (er_box (cs := [.int .i64 a0.Capacity, .int .i64 a0.Ambient]) hs hf rfl rfl) (fun v w hR a hf => ?_)
  obtain ⟨b1, rfl, hs⟩ := hR
  refine stq hf rfl rfl rfl (ex_assign hf rfl) (fun a hf => ?_)
  refine hK2 _ _ ?_
  refine bnd H (fun s4 hs4 H => ?_)
  refine seq_reg (fun K8 hK8 => ?_)
  refine stq hf rfl rfl rfl (ex_loadA (cs := [.int .i64 a0.Capacity, .int .i64 a0.Ambient]) ag_33 hf rfl (bx_cells (hs.get (i := 0) rfl) rfl)) (fun a hf => ?_)
  refine stepV hf rfl rfl rfl (er_buildSlice (K := K_api_HeatDomain) (xs := [a0]) hs Try.underlying35 ep_33 rfl rfl hf rfl (.cons rfl .nil) rfl rfl) (fun v3 w hs a hf => ?_)
  refine stq hf rfl rfl rfl (ex_move hf rfl) (fun a hf => ?_)
  refine stepF hf rfl rfl rfl (ex_call cf_13 hf rfl) (law38_Some.calls k [a0] [] a1 v3 (.slice none 0 0) (hs.enter (.k (.k .nil))) (Sr.own hs (.k (.k .nil)) (i := 0) rfl osl_rsl (fun _ h => h.1) (Sr.free (nil_rsl _ _) nil_fs (Sr.nil _ _))) hs4) (fun v w hR a hf => ?_)
  obtain ⟨v5, v6, rfl, hs'⟩ := hR
  replace hs := hs.step (.k (.k .nil)) hs'
  clear hs'
  refine stepV hf rfl rfl rfl (er_alloc hs ti_38 (cs := [(.slice none 0 0), (.slice none 0 0), .int .i64 0]) rfl) (fun v w hR a hf => ?_)
  obtain ⟨b7, rfl, hs⟩ := hR
  refine stepS hf rfl rfl (er_storeAB (vs := [v5, v6, .int .i64 s4.2.2]) (cs' := [v5, v6, .int .i64 s4.2.2]) hs (.c (.k (.k (.k (.k .nil))))) sz_38 hf rfl rfl (all1 (IsSl.one (rsl_isSl (osl_rsl _ (hs.get (i := 1) rfl)))) (all1 (IsSl.one (rsl_isSl (osl_rsl _ (hs.get (i := 2) rfl)))) (all1 rfl (all1_nil)))) rfl rfl) (fun w hs => ?_)
  refine hK8 _ _ ?_
  refine ck_some H (fun hc9 H => ?_)
  refine seq_reg (fun K11 hK11 => ?_)
  refine stq hf rfl rfl rfl (ex_fieldAddrB fa_38_0 rfl hf rfl) (fun a hf => ?_)
  refine stq hf rfl rfl rfl (ex_load sc_35 hf rfl (bx_cell (hs.get (i := 0) rfl) _ rfl)) (fun a hf => ?_)
  refine stq hf rfl rfl rfl (ex_indexAddr sa_35 (rsl_isSl (osl_rsl _ (hs.get (i := 1) rfl))) hc9.1 hc9.2 hf rfl rfl) (fun a hf => ?_)
  refine stq hf rfl rfl rfl (ex_loadA (cs := [.int .i64 ((gd HeatDomain.zero s4.1 0).Capacity), .int .i64 ((gd HeatDomain.zero s4.1 0).Ambient)]) ag_33 hf rfl (el_cells (K := K_api_HeatDomain) (rsl_rd (osl_rsl _ (hs.get (i := 1) rfl))) hc9.1 hc9.2 rfl)) (fun a hf => ?_)
  refine stepV hf rfl rfl rfl (er_alloc hs ti_33 (cs := [.int .i64 0, .int .i64 0]) rfl) (fun v w hR a hf => ?_)
  obtain ⟨b10, rfl, hs⟩ := hR
  refine stepS hf rfl rfl (er_storeAB (vs := [.int .i64 ((gd HeatDomain.zero s4.1 0).Capacity), .int .i64 ((gd HeatDomain.zero s4.1 0).Ambient)]) (cs' := [.int .i64 ((gd HeatDomain.zero s4.1 0).Capacity), .int .i64 ((gd HeatDomain.zero s4.1 0).Ambient)]) hs (.c (.k (.k (.k (.k (.k .nil)))))) sz_33 hf rfl rfl (all1 rfl (all1 rfl (all1_nil))) rfl rfl) (fun w hs => ?_)
  refine hK11 _ _ ?_
  refine seq_reg (fun K12 hK12 => ?_)
  refine stq hf rfl rfl rfl (ex_fieldAddrB fa_38_2 rfl hf rfl) (fun a hf => ?_)
  refine stq hf rfl rfl rfl (ex_load sc_2 hf rfl (bx_cell (hs.get (i := 1) rfl) _ rfl)) (fun a hf => ?_)
  refine stq hf rfl rfl rfl (ex_move hf rfl) (fun a hf => ?_)
  refine stq hf rfl rfl rfl (ex_rem hf rfl rfl (by decide)) (fun a hf => ?_)
  refine stq hf rfl rfl rfl (ex_conv Try.underlying49 Try.underlying2 hf rfl) (fun a hf => ?_)
  refine stq hf rfl rfl rfl (ex_add hf rfl rfl) (fun a hf => ?_)
  refine stq hf rfl rfl rfl (ex_assign hf rfl) (fun a hf => ?_)
  refine hK12 _ _ ?_
  refine bnd H (fun s13 hs13 H => ?_)
  refine seq_reg (fun K14 hK14 => ?_)
  refine stq hf rfl rfl rfl (ex_move hf rfl) (fun a hf => ?_)
  refine stepF hf rfl rfl rfl (ex_call cf_18 hf rfl) (help_Mod.calls k a4 8 (hs.enter (.k (.k (.k (.k (.k (.k .nil))))))) (Sr.nil _ _) hs13) (fun v w hR a hf => ?_)
  obtain ⟨rfl, hs'⟩ := hR
  replace hs := hs.step (.k (.k (.k (.k (.k (.k .nil)))))) hs'
  clear hs'
  refine stq hf rfl rfl rfl (ex_add hf rfl rfl) (fun a hf => ?_)
  refine stq hf rfl rfl rfl (ex_assign hf rfl) (fun a hf => ?_)
  refine hK14 _ _ ?_
  refine seq_n (fun Q15 hN15 hR15 hX15 => ?_)
  refine bnd H (fun s17 hs17 H => ?_)
  cases hps17 : s17.1 with
  | none =>
    replace H := elim_n hps17 H
    refine region_k (fun K19 hK19 => ?_)
    refine stq hf rfl rfl rfl (ex_move hf rfl) (fun a hf => ?_)
    refine stq hf rfl rfl rfl (ex_move hf rfl) (fun a hf => ?_)
    refine stq hf rfl rfl rfl (ex_rem hf rfl rfl (by decide)) (fun a hf => ?_)
    refine stq hf rfl rfl rfl (ex_conv Try.underlying5 Try.underlying2 hf rfl) (fun a hf => ?_)
    refine stq hf rfl rfl rfl (ex_build (cs := [.int .i64 2, .int .i64 (IntKind.i64.wrap (s4.2.2 + (IntKind.i64.wrap (Int.tmod a2 60)))), .int .i64 (IntKind.i64.wrap (Int.tmod a5 20))]) bt_55 hf rfl (.cons rfl (.cons rfl (.cons rfl .nil))) rfl) (fun a hf => ?_)
    refine stepV hf rfl rfl rfl (er_buildSlice (K := K_api_Trip) (xs := [(⟨2, (IntKind.i64.wrap (s4.2.2 + (IntKind.i64.wrap (Int.tmod a2 60)))), (IntKind.i64.wrap (Int.tmod a5 20))⟩ : Trip)]) hs Try.underlying56 ep_55 rfl rfl hf rfl (.cons rfl .nil) rfl rfl) (fun v16 w hs a hf => ?_)
    refine stq hf rfl rfl rfl (ex_move hf rfl) (fun a hf => ?_)
    refine stepF hf rfl rfl rfl (ex_call cf_19 hf rfl) (thermal_NewZone.calls k [(⟨2, (IntKind.i64.wrap (s4.2.2 + (IntKind.i64.wrap (Int.tmod a2 60)))), (IntKind.i64.wrap (Int.tmod a5 20))⟩ : Trip)] (IntKind.i64.wrap (1 + s13)) v16 (hs.enter (.k (.k (.k (.k (.k (.k (.k .nil)))))))) (Sr.own hs (.k (.k (.k (.k (.k (.k (.k .nil))))))) (i := 0) rfl osl_rsl (fun _ h => h.1) (Sr.nil _ _)) hs17) (fun v w hR a hf => ?_)
    obtain ⟨_, rfl, hs'⟩ | ⟨_, hc', _⟩ := hR
    case inr => rw [hps17] at hc'; cases hc'
    replace hs := hs.step (.k (.k (.k (.k (.k (.k (.k .nil))))))) hs'
    clear hs'
    refine stq hf rfl rfl rfl (ex_move hf rfl) (fun a hf => ?_)
    refine stq hf rfl rfl rfl (ex_extract hf rfl rfl) (fun a hf => ?_)
    refine stq hf rfl rfl rfl (ex_extract hf rfl rfl) (fun a hf => ?_)
    refine stq hf rfl rfl rfl (ex_assign hf rfl) (fun a hf => ?_)
    refine stq hf rfl rfl rfl (ex_assign hf rfl) (fun a hf => ?_)
    refine hK19 _ _ ?_
    refine hN15 _ _ ?_
    refine seq_n (fun Q20 hN20 hR20 hX20 => ?_)
    refine bnd H (fun s21 hs21 H => ?_)
    cases hps21 : s21.1 with
    | none =>
      replace H := elim_n hps21 H
      refine region_k (fun K23 hK23 => ?_)
      refine stq hf rfl rfl rfl (ex_fieldAddrB fa_38_0 rfl hf rfl) (fun a hf => ?_)
      refine stq hf rfl rfl rfl (ex_load sc_35 hf rfl (bx_cell (hs.get (i := 2) rfl) _ rfl)) (fun a hf => ?_)
      refine stq hf rfl rfl rfl (ex_fieldAddrB fa_38_2 rfl hf rfl) (fun a hf => ?_)
      refine stq hf rfl rfl rfl (ex_load sc_2 hf rfl (bx_cell (hs.get (i := 2) rfl) _ rfl)) (fun a hf => ?_)
      refine stepF hf rfl rfl rfl (ex_call cf_15 hf rfl) (heat_New.calls k s4.1 [] s4.2.2 v5 (.slice none 0 0) (hs.enter (.k (.k (.k (.k (.k (.k (.k .nil)))))))) (Sr.own hs (.k (.k (.k (.k (.k (.k (.k .nil))))))) (i := 3) rfl osl_rsl (fun _ h => h.1) (Sr.free (nil_rsl _ _) nil_fs (Sr.nil _ _))) hs21) (fun v w hR a hf => ?_)
      obtain ⟨_, rfl, hs'⟩ | ⟨_, hc', _⟩ := hR
      case inr => rw [hps21] at hc'; cases hc'
      replace hs := hs.step (.k (.k (.k (.k (.k (.k (.k .nil))))))) hs'
      clear hs'
      refine stq hf rfl rfl rfl (ex_move hf rfl) (fun a hf => ?_)
      refine stq hf rfl rfl rfl (ex_extract hf rfl rfl) (fun a hf => ?_)
      refine stq hf rfl rfl rfl (ex_extract hf rfl rfl) (fun a hf => ?_)
      refine stq hf rfl rfl rfl (ex_assign hf rfl) (fun a hf => ?_)
      refine stq hf rfl rfl rfl (ex_assign hf rfl) (fun a hf => ?_)
      refine hK23 _ _ ?_
      refine hN20 _ _ ?_
      refine bnd H (fun s24 hs24 H => ?_)
      refine seq_reg (fun K25 hK25 => ?_)
      refine stq hf rfl rfl rfl (ex_loadA (cs := [.int .i64 ((gd HeatDomain.zero s4.1 0).Capacity), .int .i64 ((gd HeatDomain.zero s4.1 0).Ambient)]) ag_33 hf rfl (bx_cells (hs.get (i := 1) rfl) rfl)) (fun a hf => ?_)
      refine stq hf rfl rfl rfl (ex_fieldAddrB fa_38_2 rfl hf rfl) (fun a hf => ?_)
      refine stq hf rfl rfl rfl (ex_load sc_2 hf rfl (bx_cell (hs.get (i := 2) rfl) _ rfl)) (fun a hf => ?_)
      refine stq hf rfl rfl rfl (ex_move hf rfl) (fun a hf => ?_)
      refine stepF hf rfl rfl rfl (ex_call cf_14 hf rfl) (thermal_Sustainable.calls k (⟨((gd HeatDomain.zero s4.1 0).Capacity), ((gd HeatDomain.zero s4.1 0).Ambient)⟩ : HeatDomain) s4.2.2 (IntKind.i64.wrap (s4.2.2 + (IntKind.i64.wrap (Int.tmod a2 60)))) (hs.enter (.k (.k (.k (.k (.k (.k (.k .nil)))))))) (Sr.nil _ _) hs24) (fun v w hR a hf => ?_)
      obtain ⟨rfl, hs'⟩ := hR
      replace hs := hs.step (.k (.k (.k (.k (.k (.k (.k .nil))))))) hs'
      clear hs'
      refine stq hf rfl rfl rfl (ex_move hf rfl) (fun a hf => ?_)
      refine stq hf rfl rfl rfl (ex_extract hf rfl rfl) (fun a hf => ?_)
      refine stq hf rfl rfl rfl (ex_extract hf rfl rfl) (fun a hf => ?_)
      refine stq hf rfl rfl rfl (ex_assign hf rfl) (fun a hf => ?_)
      refine stq hf rfl rfl rfl (ex_assign hf rfl) (fun a hf => ?_)
      refine hK25 _ _ ?_
      refine seq_n (fun Q26 hN26 hR26 hX26 => ?_)
      refine bnd H (fun x27 H27 HO27 => ?_)
      clear H
      refine seq_cut (fun a w => Fr a 176 [(3, .int .u16 a3), (6, .int .i64 a6), (16, .pointer (some ⟨b10, 0, none⟩)), (17, .int .i64 (IntKind.i64.wrap (s4.2.2 + (IntKind.i64.wrap (Int.tmod a2 60))))), (18, .int .i64 (IntKind.i64.wrap (1 + s13))), (19, .pointer none), (21, .pointer none), (23, .int .i64 s24.1), (97, .bool true)] ∧ St M w0 w [bx b10 33 [.int .i64 ((gd HeatDomain.zero s4.1 0).Capacity), .int .i64 ((gd HeatDomain.zero s4.1 0).Ambient)]]) (fun Q27 hJ27 hR27 hX27 => ?_) (fun a w hJ => ?_)
      · replace H := H27
        refine itt H (fun hc28 H => ?_) (fun hc28 H => ?_)
        · -- s17.2 = 0
          refine itt H (fun hc29 H => ?_) (fun hc29 H => ?_)
          · -- s21.2 = 0
            refine itt H (fun hc30 H => ?_) (fun hc30 H => ?_)
            · -- s24.2 = 0
              refine region_k (fun K31 hK31 => ?_)
              refine stq hf rfl rfl rfl (ex_move hf rfl) (fun a hf => ?_)
              refine stq hf rfl rfl rfl (ex_neq hf rfl rfl) (fun a hf => ?_)
              refine stq hf rfl rfl rfl (ex_move hf rfl) (fun a hf => ?_)
              replace hf := hf.castB (t := 77) rfl (ndec_f hc28)
              replace hf := hf.castB (t := 78) rfl (ndec_f hc28)
              refine stq hf rfl rfl rfl (ex_move hf rfl) (fun a hf => ?_)
              refine stq hf rfl rfl rfl (ex_neq hf rfl rfl) (fun a hf => ?_)
              refine stq hf rfl rfl rfl (ex_pickF hf rfl rfl) (fun a hf => ?_)
              refine stq hf rfl rfl rfl (ex_move hf rfl) (fun a hf => ?_)
              replace hf := hf.castB (t := 80) rfl (ndec_f hc29)
              replace hf := hf.castB (t := 81) rfl (ndec_f hc29)
              replace hf := hf.castB (t := 82) rfl (ndec_f hc29)
              refine stq hf rfl rfl rfl (ex_move hf rfl) (fun a hf => ?_)
              refine stq hf rfl rfl rfl (ex_neq hf rfl rfl) (fun a hf => ?_)
              refine stq hf rfl rfl rfl (ex_pickF hf rfl rfl) (fun a hf => ?_)
              refine stq hf rfl rfl rfl (ex_move hf rfl) (fun a hf => ?_)
              replace hf := hf.castB (t := 84) rfl (ndec_f hc30)
              replace hf := hf.castB (t := 85) rfl (ndec_f hc30)
              replace hf := hf.castB (t := 86) rfl (ndec_f hc30)
              refine stq hf rfl rfl rfl (ex_move hf rfl) (fun a hf => ?_)
              refine stq hf rfl rfl rfl (ex_eqp Try.underlying51 hf rfl rfl) (fun a hf => ?_)
              refine stq hf rfl rfl rfl (ex_pickF hf rfl rfl) (fun a hf => ?_)
              refine stq hf rfl rfl rfl (ex_move hf rfl) (fun a hf => ?_)
              refine stepN hf rfl rfl rfl (fun a hf => ?_)
              refine stepN hf rfl rfl rfl (fun a hf => ?_)
              refine stq hf rfl rfl rfl (ex_pickT hf rfl rfl) (fun a hf => ?_)
              refine stq hf rfl rfl rfl (ex_move hf rfl) (fun a hf => ?_)
              refine stepN hf rfl rfl rfl (fun a hf => ?_)
              refine stepN hf rfl rfl rfl (fun a hf => ?_)
              refine stq hf rfl rfl rfl (ex_pickT hf rfl rfl) (fun a hf => ?_)
              refine hK31 _ _ ?_
              replace hs := hs.keep (.d (.k (.d (.d (.d (.d (.d .nil)))))))
              have e27 := some_eq H; subst e27
              exact hJ27 _ _ ⟨hf.sub ⟨rfl, rfl, rfl, rfl, rfl, rfl, rfl, rfl, rfl, trivial⟩, hs⟩
            · -- not s24.2 = 0
              refine region_k (fun K32 hK32 => ?_)
              refine stq hf rfl rfl rfl (ex_move hf rfl) (fun a hf => ?_)
              refine stq hf rfl rfl rfl (ex_neq hf rfl rfl) (fun a hf => ?_)
              refine stq hf rfl rfl rfl (ex_move hf rfl) (fun a hf => ?_)
              replace hf := hf.castB (t := 77) rfl (ndec_f hc28)
              replace hf := hf.castB (t := 78) rfl (ndec_f hc28)
              refine stq hf rfl rfl rfl (ex_move hf rfl) (fun a hf => ?_)
              refine stq hf rfl rfl rfl (ex_neq hf rfl rfl) (fun a hf => ?_)
              refine stq hf rfl rfl rfl (ex_pickF hf rfl rfl) (fun a hf => ?_)
              refine stq hf rfl rfl rfl (ex_move hf rfl) (fun a hf => ?_)
              replace hf := hf.castB (t := 80) rfl (ndec_f hc29)
              replace hf := hf.castB (t := 81) rfl (ndec_f hc29)
              replace hf := hf.castB (t := 82) rfl (ndec_f hc29)
              refine stq hf rfl rfl rfl (ex_move hf rfl) (fun a hf => ?_)
              refine stq hf rfl rfl rfl (ex_neq hf rfl rfl) (fun a hf => ?_)
              refine stq hf rfl rfl rfl (ex_pickF hf rfl rfl) (fun a hf => ?_)
              refine stq hf rfl rfl rfl (ex_move hf rfl) (fun a hf => ?_)
              replace hf := hf.castB (t := 84) rfl (ndec_t hc30)
              replace hf := hf.castB (t := 85) rfl (ndec_t hc30)
              replace hf := hf.castB (t := 86) rfl (ndec_t hc30)
              refine stepN hf rfl rfl rfl (fun a hf => ?_)
              refine stepN hf rfl rfl rfl (fun a hf => ?_)
              refine stq hf rfl rfl rfl (ex_pickT hf rfl rfl) (fun a hf => ?_)
              refine stq hf rfl rfl rfl (ex_move hf rfl) (fun a hf => ?_)
              refine stepN hf rfl rfl rfl (fun a hf => ?_)
              refine stepN hf rfl rfl rfl (fun a hf => ?_)
              refine stq hf rfl rfl rfl (ex_pickT hf rfl rfl) (fun a hf => ?_)
              refine stq hf rfl rfl rfl (ex_move hf rfl) (fun a hf => ?_)
              refine stepN hf rfl rfl rfl (fun a hf => ?_)
              refine stepN hf rfl rfl rfl (fun a hf => ?_)
              refine stq hf rfl rfl rfl (ex_pickT hf rfl rfl) (fun a hf => ?_)
              refine hK32 _ _ ?_
              replace hs := hs.keep (.d (.k (.d (.d (.d (.d (.d .nil)))))))
              have e27 := some_eq H; subst e27
              exact hJ27 _ _ ⟨hf.sub ⟨rfl, rfl, rfl, rfl, rfl, rfl, rfl, rfl, rfl, trivial⟩, hs⟩
          · -- not s21.2 = 0
            refine region_k (fun K33 hK33 => ?_)
            refine stq hf rfl rfl rfl (ex_move hf rfl) (fun a hf => ?_)
            refine stq hf rfl rfl rfl (ex_neq hf rfl rfl) (fun a hf => ?_)
            refine stq hf rfl rfl rfl (ex_move hf rfl) (fun a hf => ?_)
            replace hf := hf.castB (t := 77) rfl (ndec_f hc28)
            replace hf := hf.castB (t := 78) rfl (ndec_f hc28)
            refine stq hf rfl rfl rfl (ex_move hf rfl) (fun a hf => ?_)
            refine stq hf rfl rfl rfl (ex_neq hf rfl rfl) (fun a hf => ?_)
            refine stq hf rfl rfl rfl (ex_pickF hf rfl rfl) (fun a hf => ?_)
            refine stq hf rfl rfl rfl (ex_move hf rfl) (fun a hf => ?_)
            replace hf := hf.castB (t := 80) rfl (ndec_t hc29)
            replace hf := hf.castB (t := 81) rfl (ndec_t hc29)
            replace hf := hf.castB (t := 82) rfl (ndec_t hc29)
            refine stepN hf rfl rfl rfl (fun a hf => ?_)
            refine stepN hf rfl rfl rfl (fun a hf => ?_)
            refine stq hf rfl rfl rfl (ex_pickT hf rfl rfl) (fun a hf => ?_)
            refine stq hf rfl rfl rfl (ex_move hf rfl) (fun a hf => ?_)
            refine stepN hf rfl rfl rfl (fun a hf => ?_)
            refine stepN hf rfl rfl rfl (fun a hf => ?_)
            refine stq hf rfl rfl rfl (ex_pickT hf rfl rfl) (fun a hf => ?_)
            refine stq hf rfl rfl rfl (ex_move hf rfl) (fun a hf => ?_)
            refine stepN hf rfl rfl rfl (fun a hf => ?_)
            refine stepN hf rfl rfl rfl (fun a hf => ?_)
            refine stq hf rfl rfl rfl (ex_pickT hf rfl rfl) (fun a hf => ?_)
            refine stq hf rfl rfl rfl (ex_move hf rfl) (fun a hf => ?_)
            refine stepN hf rfl rfl rfl (fun a hf => ?_)
            refine stepN hf rfl rfl rfl (fun a hf => ?_)
            refine stq hf rfl rfl rfl (ex_pickT hf rfl rfl) (fun a hf => ?_)
            refine hK33 _ _ ?_
            replace hs := hs.keep (.d (.k (.d (.d (.d (.d (.d .nil)))))))
            have e27 := some_eq H; subst e27
            exact hJ27 _ _ ⟨hf.sub ⟨rfl, rfl, rfl, rfl, rfl, rfl, rfl, rfl, rfl, trivial⟩, hs⟩
        · -- not s17.2 = 0
          refine region_k (fun K34 hK34 => ?_)
          refine stq hf rfl rfl rfl (ex_move hf rfl) (fun a hf => ?_)
          refine stq hf rfl rfl rfl (ex_neq hf rfl rfl) (fun a hf => ?_)
          refine stq hf rfl rfl rfl (ex_move hf rfl) (fun a hf => ?_)
          replace hf := hf.castB (t := 77) rfl (ndec_t hc28)
          replace hf := hf.castB (t := 78) rfl (ndec_t hc28)
          refine stepN hf rfl rfl rfl (fun a hf => ?_)
          refine stepN hf rfl rfl rfl (fun a hf => ?_)
          refine stq hf rfl rfl rfl (ex_pickT hf rfl rfl) (fun a hf => ?_)
          refine stq hf rfl rfl rfl (ex_move hf rfl) (fun a hf => ?_)
          refine stepN hf rfl rfl rfl (fun a hf => ?_)
          refine stepN hf rfl rfl rfl (fun a hf => ?_)
          refine stq hf rfl rfl rfl (ex_pickT hf rfl rfl) (fun a hf => ?_)
          refine stq hf rfl rfl rfl (ex_move hf rfl) (fun a hf => ?_)
          refine stepN hf rfl rfl rfl (fun a hf => ?_)
          refine stepN hf rfl rfl rfl (fun a hf => ?_)
          refine stq hf rfl rfl rfl (ex_pickT hf rfl rfl) (fun a hf => ?_)
          refine stq hf rfl rfl rfl (ex_move hf rfl) (fun a hf => ?_)
          refine stepN hf rfl rfl rfl (fun a hf => ?_)
          refine stepN hf rfl rfl rfl (fun a hf => ?_)
          refine stq hf rfl rfl rfl (ex_pickT hf rfl rfl) (fun a hf => ?_)
          refine stq hf rfl rfl rfl (ex_move hf rfl) (fun a hf => ?_)
          refine stepN hf rfl rfl rfl (fun a hf => ?_)
          refine stepN hf rfl rfl rfl (fun a hf => ?_)
          refine stq hf rfl rfl rfl (ex_pickT hf rfl rfl) (fun a hf => ?_)
          refine hK34 _ _ ?_
          replace hs := hs.keep (.d (.k (.d (.d (.d (.d (.d .nil)))))))
          have e27 := some_eq H; subst e27
          exact hJ27 _ _ ⟨hf.sub ⟨rfl, rfl, rfl, rfl, rfl, rfl, rfl, rfl, rfl, trivial⟩, hs⟩
      · obtain ⟨hf, hs⟩ := hJ
        replace H := HO27
        clear HO27
        refine cond_T hf rfl ?_
        refine seq_reg (fun K35 hK35 => ?_)
        refine stq hf rfl rfl rfl (ex_assign hf rfl) (fun a hf => ?_)
        refine hK35 _ _ ?_
        refine wp_ret ?_
        refine hR26 _ _ ?_
        have eR := some_eq H; subst eR
        replace hs := hs.keep (.d .nil)
        exact ret1 Try.results5 hf rfl ⟨_, rfl, ⟨rfl, hs⟩⟩
    | some c22 =>
      replace H := elim_s hps21 H
      refine region_k (fun K40 hK40 => ?_)
      refine stq hf rfl rfl rfl (ex_fieldAddrB fa_38_0 rfl hf rfl) (fun a hf => ?_)
      refine stq hf rfl rfl rfl (ex_load sc_35 hf rfl (bx_cell (hs.get (i := 2) rfl) _ rfl)) (fun a hf => ?_)
      refine stq hf rfl rfl rfl (ex_fieldAddrB fa_38_2 rfl hf rfl) (fun a hf => ?_)
      refine stq hf rfl rfl rfl (ex_load sc_2 hf rfl (bx_cell (hs.get (i := 2) rfl) _ rfl)) (fun a hf => ?_)
      refine stepF hf rfl rfl rfl (ex_call cf_15 hf rfl) (heat_New.calls k s4.1 [] s4.2.2 v5 (.slice none 0 0) (hs.enter (.k (.k (.k (.k (.k (.k (.k .nil)))))))) (Sr.own hs (.k (.k (.k (.k (.k (.k (.k .nil))))))) (i := 3) rfl osl_rsl (fun _ h => h.1) (Sr.free (nil_rsl _ _) nil_fs (Sr.nil _ _))) hs21) (fun v w hR a hf => ?_)
      obtain ⟨hc', _⟩ | ⟨cc, hc', b36, v37, v38, v39, rfl, hs'⟩ := hR
      case inl => rw [hps21] at hc'; cases hc'
      obtain rfl : c22 = cc := by rw [hps21] at hc'; exact Option.some.inj hc'
      replace hs := hs.step (.k (.k (.k (.k (.k (.k (.k .nil))))))) hs'
      clear hs'
      refine stq hf rfl rfl rfl (ex_move hf rfl) (fun a hf => ?_)
      refine stq hf rfl rfl rfl (ex_extract hf rfl rfl) (fun a hf => ?_)
      refine stq hf rfl rfl rfl (ex_extract hf rfl rfl) (fun a hf => ?_)
      refine stq hf rfl rfl rfl (ex_assign hf rfl) (fun a hf => ?_)
      refine stq hf rfl rfl rfl (ex_assign hf rfl) (fun a hf => ?_)
      refine hK40 _ _ ?_
      refine hN20 _ _ ?_
      refine bnd H (fun s41 hs41 H => ?_)
      refine seq_reg (fun K42 hK42 => ?_)
      refine stq hf rfl rfl rfl (ex_loadA (cs := [.int .i64 ((gd HeatDomain.zero s4.1 0).Capacity), .int .i64 ((gd HeatDomain.zero s4.1 0).Ambient)]) ag_33 hf rfl (bx_cells (hs.get (i := 5) rfl) rfl)) (fun a hf => ?_)
      refine stq hf rfl rfl rfl (ex_fieldAddrB fa_38_2 rfl hf rfl) (fun a hf => ?_)
      refine stq hf rfl rfl rfl (ex_load sc_2 hf rfl (bx_cell (hs.get (i := 6) rfl) _ rfl)) (fun a hf => ?_)
      refine stq hf rfl rfl rfl (ex_move hf rfl) (fun a hf => ?_)
      refine stepF hf rfl rfl rfl (ex_call cf_14 hf rfl) (thermal_Sustainable.calls k (⟨((gd HeatDomain.zero s4.1 0).Capacity), ((gd HeatDomain.zero s4.1 0).Ambient)⟩ : HeatDomain) s4.2.2 (IntKind.i64.wrap (s4.2.2 + (IntKind.i64.wrap (Int.tmod a2 60)))) (hs.enter (.k (.k (.k (.k (.k (.k (.k (.k (.k (.k (.k .nil)))))))))))) (Sr.nil _ _) hs41) (fun v w hR a hf => ?_)
      obtain ⟨rfl, hs'⟩ := hR
      replace hs := hs.step (.k (.k (.k (.k (.k (.k (.k (.k (.k (.k (.k .nil))))))))))) hs'
      clear hs'
      refine stq hf rfl rfl rfl (ex_move hf rfl) (fun a hf => ?_)
      refine stq hf rfl rfl rfl (ex_extract hf rfl rfl) (fun a hf => ?_)
      refine stq hf rfl rfl rfl (ex_extract hf rfl rfl) (fun a hf => ?_)
      refine stq hf rfl rfl rfl (ex_assign hf rfl) (fun a hf => ?_)
      refine stq hf rfl rfl rfl (ex_assign hf rfl) (fun a hf => ?_)
      refine hK42 _ _ ?_
      refine seq_n (fun Q43 hN43 hR43 hX43 => ?_)
      refine bnd H (fun x44 H44 HO44 => ?_)
      clear H
      refine seq_cut (fun a w => Fr a 176 [(3, .int .u16 a3), (6, .int .i64 a6), (16, .pointer (some ⟨b10, 0, none⟩)), (17, .int .i64 (IntKind.i64.wrap (s4.2.2 + (IntKind.i64.wrap (Int.tmod a2 60))))), (18, .int .i64 (IntKind.i64.wrap (1 + s13))), (19, .pointer none), (21, .pointer (some ⟨b36, 0, none⟩)), (23, .int .i64 s41.1), (97, .bool true)] ∧ St M w0 w [bx b10 33 [.int .i64 ((gd HeatDomain.zero s4.1 0).Capacity), .int .i64 ((gd HeatDomain.zero s4.1 0).Ambient)], bx b36 89 [v37, v38, .int .i64 c22.2.2.1, v39, .int .i64 c22.2.2.2.2], osl K_api_HeatDomain v37 c22.1, osl K_api_HeatLink v38 c22.2.1, osl K_int64 v39 c22.2.2.2.1]) (fun Q44 hJ44 hR44 hX44 => ?_) (fun a w hJ => ?_)
      · replace H := H44
        refine itt H (fun hc45 H => ?_) (fun hc45 H => ?_)
        · -- s17.2 = 0
          refine itt H (fun hc46 H => ?_) (fun hc46 H => ?_)
          · -- s21.2 = 0
            refine itt H (fun hc47 H => ?_) (fun hc47 H => ?_)
            · -- s41.2 = 0
              refine region_k (fun K48 hK48 => ?_)
              refine stq hf rfl rfl rfl (ex_move hf rfl) (fun a hf => ?_)
              refine stq hf rfl rfl rfl (ex_neq hf rfl rfl) (fun a hf => ?_)
              refine stq hf rfl rfl rfl (ex_move hf rfl) (fun a hf => ?_)
              replace hf := hf.castB (t := 77) rfl (ndec_f hc45)
              replace hf := hf.castB (t := 78) rfl (ndec_f hc45)
              refine stq hf rfl rfl rfl (ex_move hf rfl) (fun a hf => ?_)
              refine stq hf rfl rfl rfl (ex_neq hf rfl rfl) (fun a hf => ?_)
              refine stq hf rfl rfl rfl (ex_pickF hf rfl rfl) (fun a hf => ?_)
              refine stq hf rfl rfl rfl (ex_move hf rfl) (fun a hf => ?_)
              replace hf := hf.castB (t := 80) rfl (ndec_f hc46)
              replace hf := hf.castB (t := 81) rfl (ndec_f hc46)
              replace hf := hf.castB (t := 82) rfl (ndec_f hc46)
              refine stq hf rfl rfl rfl (ex_move hf rfl) (fun a hf => ?_)
              refine stq hf rfl rfl rfl (ex_neq hf rfl rfl) (fun a hf => ?_)
              refine stq hf rfl rfl rfl (ex_pickF hf rfl rfl) (fun a hf => ?_)
              refine stq hf rfl rfl rfl (ex_move hf rfl) (fun a hf => ?_)
              replace hf := hf.castB (t := 84) rfl (ndec_f hc47)
              replace hf := hf.castB (t := 85) rfl (ndec_f hc47)
              replace hf := hf.castB (t := 86) rfl (ndec_f hc47)
              refine stq hf rfl rfl rfl (ex_move hf rfl) (fun a hf => ?_)
              refine stq hf rfl rfl rfl (ex_eqp Try.underlying51 hf rfl rfl) (fun a hf => ?_)
              refine stq hf rfl rfl rfl (ex_pickF hf rfl rfl) (fun a hf => ?_)
              refine stq hf rfl rfl rfl (ex_move hf rfl) (fun a hf => ?_)
              refine stepN hf rfl rfl rfl (fun a hf => ?_)
              refine stepN hf rfl rfl rfl (fun a hf => ?_)
              refine stq hf rfl rfl rfl (ex_pickT hf rfl rfl) (fun a hf => ?_)
              refine stq hf rfl rfl rfl (ex_move hf rfl) (fun a hf => ?_)
              refine stepN hf rfl rfl rfl (fun a hf => ?_)
              refine stepN hf rfl rfl rfl (fun a hf => ?_)
              refine stq hf rfl rfl rfl (ex_pickT hf rfl rfl) (fun a hf => ?_)
              refine hK48 _ _ ?_
              replace hs := hs.keep (.k (.k (.k (.k (.d (.k (.d (.d (.d (.d (.d .nil)))))))))))
              replace hs := hs.pick (.k (.k (.k (.c (.k .nil)))))
              replace hs := hs.pick (.k (.k (.k (.c (.k .nil)))))
              replace hs := hs.pick (.k (.k (.k (.c (.k .nil)))))
              replace hs := hs.pick (.k (.k (.k (.c (.k .nil)))))
              replace hs := hs.pick (.k (.k (.k (.k (.c .nil)))))
              have e44 := some_eq H; subst e44
              exact hJ44 _ _ ⟨hf.sub ⟨rfl, rfl, rfl, rfl, rfl, rfl, rfl, rfl, rfl, trivial⟩, hs⟩
            · -- not s41.2 = 0
              refine region_k (fun K49 hK49 => ?_)
              refine stq hf rfl rfl rfl (ex_move hf rfl) (fun a hf => ?_)
              refine stq hf rfl rfl rfl (ex_neq hf rfl rfl) (fun a hf => ?_)
              refine stq hf rfl rfl rfl (ex_move hf rfl) (fun a hf => ?_)
              replace hf := hf.castB (t := 77) rfl (ndec_f hc45)
              replace hf := hf.castB (t := 78) rfl (ndec_f hc45)
              refine stq hf rfl rfl rfl (ex_move hf rfl) (fun a hf => ?_)
              refine stq hf rfl rfl rfl (ex_neq hf rfl rfl) (fun a hf => ?_)
              refine stq hf rfl rfl rfl (ex_pickF hf rfl rfl) (fun a hf => ?_)
              refine stq hf rfl rfl rfl (ex_move hf rfl) (fun a hf => ?_)
              replace hf := hf.castB (t := 80) rfl (ndec_f hc46)
              replace hf := hf.castB (t := 81) rfl (ndec_f hc46)
              replace hf := hf.castB (t := 82) rfl (ndec_f hc46)
              refine stq hf rfl rfl rfl (ex_move hf rfl) (fun a hf => ?_)
              refine stq hf rfl rfl rfl (ex_neq hf rfl rfl) (fun a hf => ?_)
              refine stq hf rfl rfl rfl (ex_pickF hf rfl rfl) (fun a hf => ?_)
              refine stq hf rfl rfl rfl (ex_move hf rfl) (fun a hf => ?_)
              replace hf := hf.castB (t := 84) rfl (ndec_t hc47)
              replace hf := hf.castB (t := 85) rfl (ndec_t hc47)
              replace hf := hf.castB (t := 86) rfl (ndec_t hc47)
              refine stepN hf rfl rfl rfl (fun a hf => ?_)
              refine stepN hf rfl rfl rfl (fun a hf => ?_)
              refine stq hf rfl rfl rfl (ex_pickT hf rfl rfl) (fun a hf => ?_)
              refine stq hf rfl rfl rfl (ex_move hf rfl) (fun a hf => ?_)
              refine stepN hf rfl rfl rfl (fun a hf => ?_)
              refine stepN hf rfl rfl rfl (fun a hf => ?_)
              refine stq hf rfl rfl rfl (ex_pickT hf rfl rfl) (fun a hf => ?_)
              refine stq hf rfl rfl rfl (ex_move hf rfl) (fun a hf => ?_)
              refine stepN hf rfl rfl rfl (fun a hf => ?_)
              refine stepN hf rfl rfl rfl (fun a hf => ?_)
              refine stq hf rfl rfl rfl (ex_pickT hf rfl rfl) (fun a hf => ?_)
              refine hK49 _ _ ?_
              replace hs := hs.keep (.k (.k (.k (.k (.d (.k (.d (.d (.d (.d (.d .nil)))))))))))
              replace hs := hs.pick (.k (.k (.k (.c (.k .nil)))))
              replace hs := hs.pick (.k (.k (.k (.c (.k .nil)))))
              replace hs := hs.pick (.k (.k (.k (.c (.k .nil)))))
              replace hs := hs.pick (.k (.k (.k (.c (.k .nil)))))
              replace hs := hs.pick (.k (.k (.k (.k (.c .nil)))))
              have e44 := some_eq H; subst e44
              exact hJ44 _ _ ⟨hf.sub ⟨rfl, rfl, rfl, rfl, rfl, rfl, rfl, rfl, rfl, trivial⟩, hs⟩
          · -- not s21.2 = 0
            refine region_k (fun K50 hK50 => ?_)
            refine stq hf rfl rfl rfl (ex_move hf rfl) (fun a hf => ?_)
            refine stq hf rfl rfl rfl (ex_neq hf rfl rfl) (fun a hf => ?_)
            refine stq hf rfl rfl rfl (ex_move hf rfl) (fun a hf => ?_)
            replace hf := hf.castB (t := 77) rfl (ndec_f hc45)
            replace hf := hf.castB (t := 78) rfl (ndec_f hc45)
            refine stq hf rfl rfl rfl (ex_move hf rfl) (fun a hf => ?_)
            refine stq hf rfl rfl rfl (ex_neq hf rfl rfl) (fun a hf => ?_)
            refine stq hf rfl rfl rfl (ex_pickF hf rfl rfl) (fun a hf => ?_)
            refine stq hf rfl rfl rfl (ex_move hf rfl) (fun a hf => ?_)
            replace hf := hf.castB (t := 80) rfl (ndec_t hc46)
            replace hf := hf.castB (t := 81) rfl (ndec_t hc46)
            replace hf := hf.castB (t := 82) rfl (ndec_t hc46)
            refine stepN hf rfl rfl rfl (fun a hf => ?_)
            refine stepN hf rfl rfl rfl (fun a hf => ?_)
            refine stq hf rfl rfl rfl (ex_pickT hf rfl rfl) (fun a hf => ?_)
            refine stq hf rfl rfl rfl (ex_move hf rfl) (fun a hf => ?_)
            refine stepN hf rfl rfl rfl (fun a hf => ?_)
            refine stepN hf rfl rfl rfl (fun a hf => ?_)
            refine stq hf rfl rfl rfl (ex_pickT hf rfl rfl) (fun a hf => ?_)
            refine stq hf rfl rfl rfl (ex_move hf rfl) (fun a hf => ?_)
            refine stepN hf rfl rfl rfl (fun a hf => ?_)
            refine stepN hf rfl rfl rfl (fun a hf => ?_)
            refine stq hf rfl rfl rfl (ex_pickT hf rfl rfl) (fun a hf => ?_)
            refine stq hf rfl rfl rfl (ex_move hf rfl) (fun a hf => ?_)
            refine stepN hf rfl rfl rfl (fun a hf => ?_)
            refine stepN hf rfl rfl rfl (fun a hf => ?_)
            refine stq hf rfl rfl rfl (ex_pickT hf rfl rfl) (fun a hf => ?_)
            refine hK50 _ _ ?_
            replace hs := hs.keep (.k (.k (.k (.k (.d (.k (.d (.d (.d (.d (.d .nil)))))))))))
            replace hs := hs.pick (.k (.k (.k (.c (.k .nil)))))
            replace hs := hs.pick (.k (.k (.k (.c (.k .nil)))))
            replace hs := hs.pick (.k (.k (.k (.c (.k .nil)))))
            replace hs := hs.pick (.k (.k (.k (.c (.k .nil)))))
            replace hs := hs.pick (.k (.k (.k (.k (.c .nil)))))
            have e44 := some_eq H; subst e44
            exact hJ44 _ _ ⟨hf.sub ⟨rfl, rfl, rfl, rfl, rfl, rfl, rfl, rfl, rfl, trivial⟩, hs⟩
        · -- not s17.2 = 0
          refine region_k (fun K51 hK51 => ?_)
          refine stq hf rfl rfl rfl (ex_move hf rfl) (fun a hf => ?_)
          refine stq hf rfl rfl rfl (ex_neq hf rfl rfl) (fun a hf => ?_)
          refine stq hf rfl rfl rfl (ex_move hf rfl) (fun a hf => ?_)
          replace hf := hf.castB (t := 77) rfl (ndec_t hc45)
          replace hf := hf.castB (t := 78) rfl (ndec_t hc45)
          refine stepN hf rfl rfl rfl (fun a hf => ?_)
          refine stepN hf rfl rfl rfl (fun a hf => ?_)
          refine stq hf rfl rfl rfl (ex_pickT hf rfl rfl) (fun a hf => ?_)
          refine stq hf rfl rfl rfl (ex_move hf rfl) (fun a hf => ?_)
          refine stepN hf rfl rfl rfl (fun a hf => ?_)
          refine stepN hf rfl rfl rfl (fun a hf => ?_)
          refine stq hf rfl rfl rfl (ex_pickT hf rfl rfl) (fun a hf => ?_)
          refine stq hf rfl rfl rfl (ex_move hf rfl) (fun a hf => ?_)
          refine stepN hf rfl rfl rfl (fun a hf => ?_)
          refine stepN hf rfl rfl rfl (fun a hf => ?_)
          refine stq hf rfl rfl rfl (ex_pickT hf rfl rfl) (fun a hf => ?_)
          refine stq hf rfl rfl rfl (ex_move hf rfl) (fun a hf => ?_)
          refine stepN hf rfl rfl rfl (fun a hf => ?_)
          refine stepN hf rfl rfl rfl (fun a hf => ?_)
          refine stq hf rfl rfl rfl (ex_pickT hf rfl rfl) (fun a hf => ?_)
          refine stq hf rfl rfl rfl (ex_move hf rfl) (fun a hf => ?_)
          refine stepN hf rfl rfl rfl (fun a hf => ?_)
          refine stepN hf rfl rfl rfl (fun a hf => ?_)
          refine stq hf rfl rfl rfl (ex_pickT hf rfl rfl) (fun a hf => ?_)
          refine hK51 _ _ ?_
          replace hs := hs.keep (.k (.k (.k (.k (.d (.k (.d (.d (.d (.d (.d .nil)))))))))))
          replace hs := hs.pick (.k (.k (.k (.c (.k .nil)))))
          replace hs := hs.pick (.k (.k (.k (.c (.k .nil)))))
          replace hs := hs.pick (.k (.k (.k (.c (.k .nil)))))
          replace hs := hs.pick (.k (.k (.k (.c (.k .nil)))))
          replace hs := hs.pick (.k (.k (.k (.k (.c .nil)))))
          have e44 := some_eq H; subst e44
          exact hJ44 _ _ ⟨hf.sub ⟨rfl, rfl, rfl, rfl, rfl, rfl, rfl, rfl, rfl, trivial⟩, hs⟩
      · obtain ⟨hf, hs⟩ := hJ
        replace H := HO44
        clear HO44
        refine cond_T hf rfl ?_
        refine seq_reg (fun K52 hK52 => ?_)
        refine stq hf rfl rfl rfl (ex_assign hf rfl) (fun a hf => ?_)
        refine hK52 _ _ ?_
        refine wp_ret ?_
        refine hR43 _ _ ?_
        have eR := some_eq H; subst eR
        replace hs := hs.keep (.d (.d (.d (.d (.d .nil)))))
        exact ret1 Try.results5 hf rfl ⟨_, rfl, ⟨rfl, hs⟩⟩
  | some c18 =>
    replace H := elim_s hps17 H
    refine region_k (fun K56 hK56 => ?_)
    refine stq hf rfl rfl rfl (ex_move hf rfl) (fun a hf => ?_)
    refine stq hf rfl rfl rfl (ex_move hf rfl) (fun a hf => ?_)
    refine stq hf rfl rfl rfl (ex_rem hf rfl rfl (by decide)) (fun a hf => ?_)
    refine stq hf rfl rfl rfl (ex_conv Try.underlying5 Try.underlying2 hf rfl) (fun a hf => ?_)
    refine stq hf rfl rfl rfl (ex_build (cs := [.int .i64 2, .int .i64 (IntKind.i64.wrap (s4.2.2 + (IntKind.i64.wrap (Int.tmod a2 60)))), .int .i64 (IntKind.i64.wrap (Int.tmod a5 20))]) bt_55 hf rfl (.cons rfl (.cons rfl (.cons rfl .nil))) rfl) (fun a hf => ?_)
    refine stepV hf rfl rfl rfl (er_buildSlice (K := K_api_Trip) (xs := [(⟨2, (IntKind.i64.wrap (s4.2.2 + (IntKind.i64.wrap (Int.tmod a2 60)))), (IntKind.i64.wrap (Int.tmod a5 20))⟩ : Trip)]) hs Try.underlying56 ep_55 rfl rfl hf rfl (.cons rfl .nil) rfl rfl) (fun v16 w hs a hf => ?_)
    refine stq hf rfl rfl rfl (ex_move hf rfl) (fun a hf => ?_)
    refine stepF hf rfl rfl rfl (ex_call cf_19 hf rfl) (thermal_NewZone.calls k [(⟨2, (IntKind.i64.wrap (s4.2.2 + (IntKind.i64.wrap (Int.tmod a2 60)))), (IntKind.i64.wrap (Int.tmod a5 20))⟩ : Trip)] (IntKind.i64.wrap (1 + s13)) v16 (hs.enter (.k (.k (.k (.k (.k (.k (.k .nil)))))))) (Sr.own hs (.k (.k (.k (.k (.k (.k (.k .nil))))))) (i := 0) rfl osl_rsl (fun _ h => h.1) (Sr.nil _ _)) hs17) (fun v w hR a hf => ?_)
    obtain ⟨hc', _⟩ | ⟨cc, hc', b53, v54, v55, rfl, hs'⟩ := hR
    case inl => rw [hps17] at hc'; cases hc'
    obtain rfl : c18 = cc := by rw [hps17] at hc'; exact Option.some.inj hc'
    replace hs := hs.step (.k (.k (.k (.k (.k (.k (.k .nil))))))) hs'
    clear hs'
    refine stq hf rfl rfl rfl (ex_move hf rfl) (fun a hf => ?_)
    refine stq hf rfl rfl rfl (ex_extract hf rfl rfl) (fun a hf => ?_)
    refine stq hf rfl rfl rfl (ex_extract hf rfl rfl) (fun a hf => ?_)
    refine stq hf rfl rfl rfl (ex_assign hf rfl) (fun a hf => ?_)
    refine stq hf rfl rfl rfl (ex_assign hf rfl) (fun a hf => ?_)
    refine hK56 _ _ ?_
    refine hN15 _ _ ?_
    refine seq_n (fun Q57 hN57 hR57 hX57 => ?_)
    refine bnd H (fun s58 hs58 H => ?_)
    cases hps58 : s58.1 with
    | none =>
      replace H := elim_n hps58 H
      refine region_k (fun K60 hK60 => ?_)
      refine stq hf rfl rfl rfl (ex_fieldAddrB fa_38_0 rfl hf rfl) (fun a hf => ?_)
      refine stq hf rfl rfl rfl (ex_load sc_35 hf rfl (bx_cell (hs.get (i := 5) rfl) _ rfl)) (fun a hf => ?_)
      refine stq hf rfl rfl rfl (ex_fieldAddrB fa_38_2 rfl hf rfl) (fun a hf => ?_)
      refine stq hf rfl rfl rfl (ex_load sc_2 hf rfl (bx_cell (hs.get (i := 5) rfl) _ rfl)) (fun a hf => ?_)
      refine stepF hf rfl rfl rfl (ex_call cf_15 hf rfl) (heat_New.calls k s4.1 [] s4.2.2 v5 (.slice none 0 0) (hs.enter (.k (.k (.k (.k (.k (.k (.k (.k (.k (.k .nil))))))))))) (Sr.own hs (.k (.k (.k (.k (.k (.k (.k (.k (.k (.k .nil)))))))))) (i := 6) rfl osl_rsl (fun _ h => h.1) (Sr.free (nil_rsl _ _) nil_fs (Sr.nil _ _))) hs58) (fun v w hR a hf => ?_)
      obtain ⟨_, rfl, hs'⟩ | ⟨_, hc', _⟩ := hR
      case inr => rw [hps58] at hc'; cases hc'
      replace hs := hs.step (.k (.k (.k (.k (.k (.k (.k (.k (.k (.k .nil)))))))))) hs'
      clear hs'
      refine stq hf rfl rfl rfl (ex_move hf rfl) (fun a hf => ?_)
      refine stq hf rfl rfl rfl (ex_extract hf rfl rfl) (fun a hf => ?_)
      refine stq hf rfl rfl rfl (ex_extract hf rfl rfl) (fun a hf => ?_)
      refine stq hf rfl rfl rfl (ex_assign hf rfl) (fun a hf => ?_)
      refine stq hf rfl rfl rfl (ex_assign hf rfl) (fun a hf => ?_)
      refine hK60 _ _ ?_
      refine hN57 _ _ ?_
      refine bnd H (fun s61 hs61 H => ?_)
      refine seq_reg (fun K62 hK62 => ?_)
      refine stq hf rfl rfl rfl (ex_loadA (cs := [.int .i64 ((gd HeatDomain.zero s4.1 0).Capacity), .int .i64 ((gd HeatDomain.zero s4.1 0).Ambient)]) ag_33 hf rfl (bx_cells (hs.get (i := 4) rfl) rfl)) (fun a hf => ?_)
      refine stq hf rfl rfl rfl (ex_fieldAddrB fa_38_2 rfl hf rfl) (fun a hf => ?_)
      refine stq hf rfl rfl rfl (ex_load sc_2 hf rfl (bx_cell (hs.get (i := 5) rfl) _ rfl)) (fun a hf => ?_)
      refine stq hf rfl rfl rfl (ex_move hf rfl) (fun a hf => ?_)
      refine stepF hf rfl rfl rfl (ex_call cf_14 hf rfl) (thermal_Sustainable.calls k (⟨((gd HeatDomain.zero s4.1 0).Capacity), ((gd HeatDomain.zero s4.1 0).Ambient)⟩ : HeatDomain) s4.2.2 (IntKind.i64.wrap (s4.2.2 + (IntKind.i64.wrap (Int.tmod a2 60)))) (hs.enter (.k (.k (.k (.k (.k (.k (.k (.k (.k (.k .nil))))))))))) (Sr.nil _ _) hs61) (fun v w hR a hf => ?_)
      obtain ⟨rfl, hs'⟩ := hR
      replace hs := hs.step (.k (.k (.k (.k (.k (.k (.k (.k (.k (.k .nil)))))))))) hs'
      clear hs'
      refine stq hf rfl rfl rfl (ex_move hf rfl) (fun a hf => ?_)
      refine stq hf rfl rfl rfl (ex_extract hf rfl rfl) (fun a hf => ?_)
      refine stq hf rfl rfl rfl (ex_extract hf rfl rfl) (fun a hf => ?_)
      refine stq hf rfl rfl rfl (ex_assign hf rfl) (fun a hf => ?_)
      refine stq hf rfl rfl rfl (ex_assign hf rfl) (fun a hf => ?_)
      refine hK62 _ _ ?_
      refine seq_n (fun Q63 hN63 hR63 hX63 => ?_)
      refine bnd H (fun x64 H64 HO64 => ?_)
      clear H
      refine seq_cut (fun a w => Fr a 176 [(3, .int .u16 a3), (6, .int .i64 a6), (16, .pointer (some ⟨b10, 0, none⟩)), (17, .int .i64 (IntKind.i64.wrap (s4.2.2 + (IntKind.i64.wrap (Int.tmod a2 60))))), (18, .int .i64 (IntKind.i64.wrap (1 + s13))), (19, .pointer (some ⟨b53, 0, none⟩)), (21, .pointer none), (23, .int .i64 s61.1), (97, .bool true)] ∧ St M w0 w [bx b10 33 [.int .i64 ((gd HeatDomain.zero s4.1 0).Capacity), .int .i64 ((gd HeatDomain.zero s4.1 0).Ambient)], bx b53 95 [v54, v55, .int .i64 c18.2.2.1, .int .i64 c18.2.2.2], osl K_api_Trip v54 c18.1, osl K_bool v55 c18.2.1]) (fun Q64 hJ64 hR64 hX64 => ?_) (fun a w hJ => ?_)
      · replace H := H64
        refine itt H (fun hc65 H => ?_) (fun hc65 H => ?_)
        · -- s17.2 = 0
          refine itt H (fun hc66 H => ?_) (fun hc66 H => ?_)
          · -- s58.2 = 0
            refine itt H (fun hc67 H => ?_) (fun hc67 H => ?_)
            · -- s61.2 = 0
              refine region_k (fun K68 hK68 => ?_)
              refine stq hf rfl rfl rfl (ex_move hf rfl) (fun a hf => ?_)
              refine stq hf rfl rfl rfl (ex_neq hf rfl rfl) (fun a hf => ?_)
              refine stq hf rfl rfl rfl (ex_move hf rfl) (fun a hf => ?_)
              replace hf := hf.castB (t := 77) rfl (ndec_f hc65)
              replace hf := hf.castB (t := 78) rfl (ndec_f hc65)
              refine stq hf rfl rfl rfl (ex_move hf rfl) (fun a hf => ?_)
              refine stq hf rfl rfl rfl (ex_neq hf rfl rfl) (fun a hf => ?_)
              refine stq hf rfl rfl rfl (ex_pickF hf rfl rfl) (fun a hf => ?_)
              refine stq hf rfl rfl rfl (ex_move hf rfl) (fun a hf => ?_)
              replace hf := hf.castB (t := 80) rfl (ndec_f hc66)
              replace hf := hf.castB (t := 81) rfl (ndec_f hc66)
              replace hf := hf.castB (t := 82) rfl (ndec_f hc66)
              refine stq hf rfl rfl rfl (ex_move hf rfl) (fun a hf => ?_)
              refine stq hf rfl rfl rfl (ex_neq hf rfl rfl) (fun a hf => ?_)
              refine stq hf rfl rfl rfl (ex_pickF hf rfl rfl) (fun a hf => ?_)
              refine stq hf rfl rfl rfl (ex_move hf rfl) (fun a hf => ?_)
              replace hf := hf.castB (t := 84) rfl (ndec_f hc67)
              replace hf := hf.castB (t := 85) rfl (ndec_f hc67)
              replace hf := hf.castB (t := 86) rfl (ndec_f hc67)
              refine stq hf rfl rfl rfl (ex_move hf rfl) (fun a hf => ?_)
              refine stq hf rfl rfl rfl (ex_eqp Try.underlying51 hf rfl rfl) (fun a hf => ?_)
              refine stq hf rfl rfl rfl (ex_pickF hf rfl rfl) (fun a hf => ?_)
              refine stq hf rfl rfl rfl (ex_move hf rfl) (fun a hf => ?_)
              refine stq hf rfl rfl rfl (ex_move hf rfl) (fun a hf => ?_)
              refine stq hf rfl rfl rfl (ex_eqp Try.underlying42 hf rfl rfl) (fun a hf => ?_)
              refine stq hf rfl rfl rfl (ex_pickF hf rfl rfl) (fun a hf => ?_)
              refine stq hf rfl rfl rfl (ex_move hf rfl) (fun a hf => ?_)
              refine stepN hf rfl rfl rfl (fun a hf => ?_)
              refine stepN hf rfl rfl rfl (fun a hf => ?_)
              refine stq hf rfl rfl rfl (ex_pickT hf rfl rfl) (fun a hf => ?_)
              refine hK68 _ _ ?_
              replace hs := hs.keep (.k (.k (.k (.d (.k (.d (.d (.d (.d (.d .nil))))))))))
              replace hs := hs.pick (.k (.k (.c (.k .nil))))
              replace hs := hs.pick (.k (.k (.c (.k .nil))))
              replace hs := hs.pick (.k (.k (.c (.k .nil))))
              replace hs := hs.pick (.k (.k (.k (.c .nil))))
              have e64 := some_eq H; subst e64
              exact hJ64 _ _ ⟨hf.sub ⟨rfl, rfl, rfl, rfl, rfl, rfl, rfl, rfl, rfl, trivial⟩, hs⟩
            · -- not s61.2 = 0
              refine region_k (fun K69 hK69 => ?_)
              refine stq hf rfl rfl rfl (ex_move hf rfl) (fun a hf => ?_)
              refine stq hf rfl rfl rfl (ex_neq hf rfl rfl) (fun a hf => ?_)
              refine stq hf rfl rfl rfl (ex_move hf rfl) (fun a hf => ?_)
              replace hf := hf.castB (t := 77) rfl (ndec_f hc65)
              replace hf := hf.castB (t := 78) rfl (ndec_f hc65)
              refine stq hf rfl rfl rfl (ex_move hf rfl) (fun a hf => ?_)
              refine stq hf rfl rfl rfl (ex_neq hf rfl rfl) (fun a hf => ?_)
              refine stq hf rfl rfl rfl (ex_pickF hf rfl rfl) (fun a hf => ?_)
              refine stq hf rfl rfl rfl (ex_move hf rfl) (fun a hf => ?_)
              replace hf := hf.castB (t := 80) rfl (ndec_f hc66)
              replace hf := hf.castB (t := 81) rfl (ndec_f hc66)
              replace hf := hf.castB (t := 82) rfl (ndec_f hc66)
              refine stq hf rfl rfl rfl (ex_move hf rfl) (fun a hf => ?_)
              refine stq hf rfl rfl rfl (ex_neq hf rfl rfl) (fun a hf => ?_)
              refine stq hf rfl rfl rfl (ex_pickF hf rfl rfl) (fun a hf => ?_)
              refine stq hf rfl rfl rfl (ex_move hf rfl) (fun a hf => ?_)
              replace hf := hf.castB (t := 84) rfl (ndec_t hc67)
              replace hf := hf.castB (t := 85) rfl (ndec_t hc67)
              replace hf := hf.castB (t := 86) rfl (ndec_t hc67)
              refine stepN hf rfl rfl rfl (fun a hf => ?_)
              refine stepN hf rfl rfl rfl (fun a hf => ?_)
              refine stq hf rfl rfl rfl (ex_pickT hf rfl rfl) (fun a hf => ?_)
              refine stq hf rfl rfl rfl (ex_move hf rfl) (fun a hf => ?_)
              refine stepN hf rfl rfl rfl (fun a hf => ?_)
              refine stepN hf rfl rfl rfl (fun a hf => ?_)
              refine stq hf rfl rfl rfl (ex_pickT hf rfl rfl) (fun a hf => ?_)
              refine stq hf rfl rfl rfl (ex_move hf rfl) (fun a hf => ?_)
              refine stepN hf rfl rfl rfl (fun a hf => ?_)
              refine stepN hf rfl rfl rfl (fun a hf => ?_)
              refine stq hf rfl rfl rfl (ex_pickT hf rfl rfl) (fun a hf => ?_)
              refine hK69 _ _ ?_
              replace hs := hs.keep (.k (.k (.k (.d (.k (.d (.d (.d (.d (.d .nil))))))))))
              replace hs := hs.pick (.k (.k (.c (.k .nil))))
              replace hs := hs.pick (.k (.k (.c (.k .nil))))
              replace hs := hs.pick (.k (.k (.c (.k .nil))))
              replace hs := hs.pick (.k (.k (.k (.c .nil))))
              have e64 := some_eq H; subst e64
              exact hJ64 _ _ ⟨hf.sub ⟨rfl, rfl, rfl, rfl, rfl, rfl, rfl, rfl, rfl, trivial⟩, hs⟩
          · -- not s58.2 = 0
            refine region_k (fun K70 hK70 => ?_)
            refine stq hf rfl rfl rfl (ex_move hf rfl) (fun a hf => ?_)
            refine stq hf rfl rfl rfl (ex_neq hf rfl rfl) (fun a hf => ?_)
            refine stq hf rfl rfl rfl (ex_move hf rfl) (fun a hf => ?_)
            replace hf := hf.castB (t := 77) rfl (ndec_f hc65)
            replace hf := hf.castB (t := 78) rfl (ndec_f hc65)
            refine stq hf rfl rfl rfl (ex_move hf rfl) (fun a hf => ?_)
            refine stq hf rfl rfl rfl (ex_neq hf rfl rfl) (fun a hf => ?_)
            refine stq hf rfl rfl rfl (ex_pickF hf rfl rfl) (fun a hf => ?_)
            refine stq hf rfl rfl rfl (ex_move hf rfl) (fun a hf => ?_)
            replace hf := hf.castB (t := 80) rfl (ndec_t hc66)
            replace hf := hf.castB (t := 81) rfl (ndec_t hc66)
            replace hf := hf.castB (t := 82) rfl (ndec_t hc66)
            refine stepN hf rfl rfl rfl (fun a hf => ?_)
            refine stepN hf rfl rfl rfl (fun a hf => ?_)
            refine stq hf rfl rfl rfl (ex_pickT hf rfl rfl) (fun a hf => ?_)
            refine stq hf rfl rfl rfl (ex_move hf rfl) (fun a hf => ?_)
            refine stepN hf rfl rfl rfl (fun a hf => ?_)
            refine stepN hf rfl rfl rfl (fun a hf => ?_)
            refine stq hf rfl rfl rfl (ex_pickT hf rfl rfl) (fun a hf => ?_)
            refine stq hf rfl rfl rfl (ex_move hf rfl) (fun a hf => ?_)
            refine stepN hf rfl rfl rfl (fun a hf => ?_)
            refine stepN hf rfl rfl rfl (fun a hf => ?_)
            refine stq hf rfl rfl rfl (ex_pickT hf rfl rfl) (fun a hf => ?_)
            refine stq hf rfl rfl rfl (ex_move hf rfl) (fun a hf => ?_)
            refine stepN hf rfl rfl rfl (fun a hf => ?_)
            refine stepN hf rfl rfl rfl (fun a hf => ?_)
            refine stq hf rfl rfl rfl (ex_pickT hf rfl rfl) (fun a hf => ?_)
            refine hK70 _ _ ?_
            replace hs := hs.keep (.k (.k (.k (.d (.k (.d (.d (.d (.d (.d .nil))))))))))
            replace hs := hs.pick (.k (.k (.c (.k .nil))))
            replace hs := hs.pick (.k (.k (.c (.k .nil))))
            replace hs := hs.pick (.k (.k (.c (.k .nil))))
            replace hs := hs.pick (.k (.k (.k (.c .nil))))
            have e64 := some_eq H; subst e64
            exact hJ64 _ _ ⟨hf.sub ⟨rfl, rfl, rfl, rfl, rfl, rfl, rfl, rfl, rfl, trivial⟩, hs⟩
        · -- not s17.2 = 0
          refine region_k (fun K71 hK71 => ?_)
          refine stq hf rfl rfl rfl (ex_move hf rfl) (fun a hf => ?_)
          refine stq hf rfl rfl rfl (ex_neq hf rfl rfl) (fun a hf => ?_)
          refine stq hf rfl rfl rfl (ex_move hf rfl) (fun a hf => ?_)
          replace hf := hf.castB (t := 77) rfl (ndec_t hc65)
          replace hf := hf.castB (t := 78) rfl (ndec_t hc65)
          refine stepN hf rfl rfl rfl (fun a hf => ?_)
          refine stepN hf rfl rfl rfl (fun a hf => ?_)
          refine stq hf rfl rfl rfl (ex_pickT hf rfl rfl) (fun a hf => ?_)
          refine stq hf rfl rfl rfl (ex_move hf rfl) (fun a hf => ?_)
          refine stepN hf rfl rfl rfl (fun a hf => ?_)
          refine stepN hf rfl rfl rfl (fun a hf => ?_)
          refine stq hf rfl rfl rfl (ex_pickT hf rfl rfl) (fun a hf => ?_)
          refine stq hf rfl rfl rfl (ex_move hf rfl) (fun a hf => ?_)
          refine stepN hf rfl rfl rfl (fun a hf => ?_)
          refine stepN hf rfl rfl rfl (fun a hf => ?_)
          refine stq hf rfl rfl rfl (ex_pickT hf rfl rfl) (fun a hf => ?_)
          refine stq hf rfl rfl rfl (ex_move hf rfl) (fun a hf => ?_)
          refine stepN hf rfl rfl rfl (fun a hf => ?_)
          refine stepN hf rfl rfl rfl (fun a hf => ?_)
          refine stq hf rfl rfl rfl (ex_pickT hf rfl rfl) (fun a hf => ?_)
          refine stq hf rfl rfl rfl (ex_move hf rfl) (fun a hf => ?_)
          refine stepN hf rfl rfl rfl (fun a hf => ?_)
          refine stepN hf rfl rfl rfl (fun a hf => ?_)
          refine stq hf rfl rfl rfl (ex_pickT hf rfl rfl) (fun a hf => ?_)
          refine hK71 _ _ ?_
          replace hs := hs.keep (.k (.k (.k (.d (.k (.d (.d (.d (.d (.d .nil))))))))))
          replace hs := hs.pick (.k (.k (.c (.k .nil))))
          replace hs := hs.pick (.k (.k (.c (.k .nil))))
          replace hs := hs.pick (.k (.k (.c (.k .nil))))
          replace hs := hs.pick (.k (.k (.k (.c .nil))))
          have e64 := some_eq H; subst e64
          exact hJ64 _ _ ⟨hf.sub ⟨rfl, rfl, rfl, rfl, rfl, rfl, rfl, rfl, rfl, trivial⟩, hs⟩
      · obtain ⟨hf, hs⟩ := hJ
        replace H := HO64
        clear HO64
        refine cond_T hf rfl ?_
        refine seq_reg (fun K72 hK72 => ?_)
        refine stq hf rfl rfl rfl (ex_assign hf rfl) (fun a hf => ?_)
        refine hK72 _ _ ?_
        refine wp_ret ?_
        refine hR63 _ _ ?_
        have eR := some_eq H; subst eR
        replace hs := hs.keep (.d (.d (.d (.d .nil))))
        exact ret1 Try.results5 hf rfl ⟨_, rfl, ⟨rfl, hs⟩⟩
    | some c59 =>
      replace H := elim_s hps58 H
      refine region_k (fun K77 hK77 => ?_)
      refine stq hf rfl rfl rfl (ex_fieldAddrB fa_38_0 rfl hf rfl) (fun a hf => ?_)
      refine stq hf rfl rfl rfl (ex_load sc_35 hf rfl (bx_cell (hs.get (i := 5) rfl) _ rfl)) (fun a hf => ?_)
      refine stq hf rfl rfl rfl (ex_fieldAddrB fa_38_2 rfl hf rfl) (fun a hf => ?_)
      refine stq hf rfl rfl rfl (ex_load sc_2 hf rfl (bx_cell (hs.get (i := 5) rfl) _ rfl)) (fun a hf => ?_)
      refine stepF hf rfl rfl rfl (ex_call cf_15 hf rfl) (heat_New.calls k s4.1 [] s4.2.2 v5 (.slice none 0 0) (hs.enter (.k (.k (.k (.k (.k (.k (.k (.k (.k (.k .nil))))))))))) (Sr.own hs (.k (.k (.k (.k (.k (.k (.k (.k (.k (.k .nil)))))))))) (i := 6) rfl osl_rsl (fun _ h => h.1) (Sr.free (nil_rsl _ _) nil_fs (Sr.nil _ _))) hs58) (fun v w hR a hf => ?_)
      obtain ⟨hc', _⟩ | ⟨cc, hc', b73, v74, v75, v76, rfl, hs'⟩ := hR
      case inl => rw [hps58] at hc'; cases hc'
      obtain rfl : c59 = cc := by rw [hps58] at hc'; exact Option.some.inj hc'
      replace hs := hs.step (.k (.k (.k (.k (.k (.k (.k (.k (.k (.k .nil)))))))))) hs'
      clear hs'
      refine stq hf rfl rfl rfl (ex_move hf rfl) (fun a hf => ?_)
      refine stq hf rfl rfl rfl (ex_extract hf rfl rfl) (fun a hf => ?_)
      refine stq hf rfl rfl rfl (ex_extract hf rfl rfl) (fun a hf => ?_)
      refine stq hf rfl rfl rfl (ex_assign hf rfl) (fun a hf => ?_)
      refine stq hf rfl rfl rfl (ex_assign hf rfl) (fun a hf => ?_)
      refine hK77 _ _ ?_
      refine hN57 _ _ ?_
      refine bnd H (fun s78 hs78 H => ?_)
      refine seq_reg (fun K79 hK79 => ?_)
      refine stq hf rfl rfl rfl (ex_loadA (cs := [.int .i64 ((gd HeatDomain.zero s4.1 0).Capacity), .int .i64 ((gd HeatDomain.zero s4.1 0).Ambient)]) ag_33 hf rfl (bx_cells (hs.get (i := 8) rfl) rfl)) (fun a hf => ?_)
      refine stq hf rfl rfl rfl (ex_fieldAddrB fa_38_2 rfl hf rfl) (fun a hf => ?_)
      refine stq hf rfl rfl rfl (ex_load sc_2 hf rfl (bx_cell (hs.get (i := 9) rfl) _ rfl)) (fun a hf => ?_)
      refine stq hf rfl rfl rfl (ex_move hf rfl) (fun a hf => ?_)
      refine stepF hf rfl rfl rfl (ex_call cf_14 hf rfl) (thermal_Sustainable.calls k (⟨((gd HeatDomain.zero s4.1 0).Capacity), ((gd HeatDomain.zero s4.1 0).Ambient)⟩ : HeatDomain) s4.2.2 (IntKind.i64.wrap (s4.2.2 + (IntKind.i64.wrap (Int.tmod a2 60)))) (hs.enter (.k (.k (.k (.k (.k (.k (.k (.k (.k (.k (.k (.k (.k (.k .nil))))))))))))))) (Sr.nil _ _) hs78) (fun v w hR a hf => ?_)
      obtain ⟨rfl, hs'⟩ := hR
      replace hs := hs.step (.k (.k (.k (.k (.k (.k (.k (.k (.k (.k (.k (.k (.k (.k .nil)))))))))))))) hs'
      clear hs'
      refine stq hf rfl rfl rfl (ex_move hf rfl) (fun a hf => ?_)
      refine stq hf rfl rfl rfl (ex_extract hf rfl rfl) (fun a hf => ?_)
      refine stq hf rfl rfl rfl (ex_extract hf rfl rfl) (fun a hf => ?_)
      refine stq hf rfl rfl rfl (ex_assign hf rfl) (fun a hf => ?_)
      refine stq hf rfl rfl rfl (ex_assign hf rfl) (fun a hf => ?_)
      refine hK79 _ _ ?_
      refine seq_n (fun Q80 hN80 hR80 hX80 => ?_)
      refine bnd H (fun x81 H81 HO81 => ?_)
      clear H
      refine seq_cut (fun a w => Fr a 176 [(3, .int .u16 a3), (6, .int .i64 a6), (16, .pointer (some ⟨b10, 0, none⟩)), (17, .int .i64 (IntKind.i64.wrap (s4.2.2 + (IntKind.i64.wrap (Int.tmod a2 60))))), (18, .int .i64 (IntKind.i64.wrap (1 + s13))), (19, .pointer (some ⟨b53, 0, none⟩)), (21, .pointer (some ⟨b73, 0, none⟩)), (23, .int .i64 s78.1), (97, .bool x81)] ∧ St M w0 w [bx b10 33 [.int .i64 ((gd HeatDomain.zero s4.1 0).Capacity), .int .i64 ((gd HeatDomain.zero s4.1 0).Ambient)], bx b53 95 [v54, v55, .int .i64 c18.2.2.1, .int .i64 c18.2.2.2], osl K_api_Trip v54 c18.1, osl K_bool v55 c18.2.1, bx b73 89 [v74, v75, .int .i64 c59.2.2.1, v76, .int .i64 c59.2.2.2.2], osl K_api_HeatDomain v74 c59.1, osl K_api_HeatLink v75 c59.2.1, osl K_int64 v76 c59.2.2.2.1]) (fun Q81 hJ81 hR81 hX81 => ?_) (fun a w hJ => ?_)
      · replace H := H81
        refine itt H (fun hc82 H => ?_) (fun hc82 H => ?_)
        · -- s17.2 = 0
          refine itt H (fun hc83 H => ?_) (fun hc83 H => ?_)
          · -- s58.2 = 0
            refine itt H (fun hc84 H => ?_) (fun hc84 H => ?_)
            · -- s78.2 = 0
              refine region_k (fun K85 hK85 => ?_)
              refine stq hf rfl rfl rfl (ex_move hf rfl) (fun a hf => ?_)
              refine stq hf rfl rfl rfl (ex_neq hf rfl rfl) (fun a hf => ?_)
              refine stq hf rfl rfl rfl (ex_move hf rfl) (fun a hf => ?_)
              replace hf := hf.castB (t := 77) rfl (ndec_f hc82)
              replace hf := hf.castB (t := 78) rfl (ndec_f hc82)
              refine stq hf rfl rfl rfl (ex_move hf rfl) (fun a hf => ?_)
              refine stq hf rfl rfl rfl (ex_neq hf rfl rfl) (fun a hf => ?_)
              refine stq hf rfl rfl rfl (ex_pickF hf rfl rfl) (fun a hf => ?_)
              refine stq hf rfl rfl rfl (ex_move hf rfl) (fun a hf => ?_)
              replace hf := hf.castB (t := 80) rfl (ndec_f hc83)
              replace hf := hf.castB (t := 81) rfl (ndec_f hc83)
              replace hf := hf.castB (t := 82) rfl (ndec_f hc83)
              refine stq hf rfl rfl rfl (ex_move hf rfl) (fun a hf => ?_)
              refine stq hf rfl rfl rfl (ex_neq hf rfl rfl) (fun a hf => ?_)
              refine stq hf rfl rfl rfl (ex_pickF hf rfl rfl) (fun a hf => ?_)
              refine stq hf rfl rfl rfl (ex_move hf rfl) (fun a hf => ?_)
              replace hf := hf.castB (t := 84) rfl (ndec_f hc84)
              replace hf := hf.castB (t := 85) rfl (ndec_f hc84)
              replace hf := hf.castB (t := 86) rfl (ndec_f hc84)
              refine stq hf rfl rfl rfl (ex_move hf rfl) (fun a hf => ?_)
              refine stq hf rfl rfl rfl (ex_eqp Try.underlying51 hf rfl rfl) (fun a hf => ?_)
              refine stq hf rfl rfl rfl (ex_pickF hf rfl rfl) (fun a hf => ?_)
              refine stq hf rfl rfl rfl (ex_move hf rfl) (fun a hf => ?_)
              refine stq hf rfl rfl rfl (ex_move hf rfl) (fun a hf => ?_)
              refine stq hf rfl rfl rfl (ex_eqp Try.underlying42 hf rfl rfl) (fun a hf => ?_)
              refine stq hf rfl rfl rfl (ex_pickF hf rfl rfl) (fun a hf => ?_)
              refine stq hf rfl rfl rfl (ex_move hf rfl) (fun a hf => ?_)
              refine stq hf rfl rfl rfl (ex_move hf rfl) (fun a hf => ?_)
              refine stq hf rfl rfl rfl (ex_lss hf rfl rfl) (fun a hf => ?_)
              refine stq hf rfl rfl rfl (ex_pickF hf rfl rfl) (fun a hf => ?_)
              refine hK85 _ _ ?_
              replace hs := hs.keep (.k (.k (.k (.k (.k (.k (.k (.d (.k (.d (.d (.d (.d (.d .nil))))))))))))))
              replace hs := hs.pick (.k (.k (.k (.c (.k (.k (.k (.k .nil))))))))
              replace hs := hs.pick (.k (.k (.k (.c (.k (.k (.k (.k .nil))))))))
              replace hs := hs.pick (.k (.k (.k (.c (.k (.k (.k (.k .nil))))))))
              replace hs := hs.pick (.k (.k (.k (.c (.k (.k (.k (.k .nil))))))))
              replace hs := hs.pick (.k (.k (.k (.k (.k (.k (.c (.k .nil))))))))
              replace hs := hs.pick (.k (.k (.k (.k (.k (.k (.c (.k .nil))))))))
              replace hs := hs.pick (.k (.k (.k (.k (.k (.k (.c (.k .nil))))))))
              replace hs := hs.pick (.k (.k (.k (.k (.k (.k (.k (.c .nil))))))))
              have e81 := some_eq H; subst e81
              exact hJ81 _ _ ⟨hf.sub ⟨rfl, rfl, rfl, rfl, rfl, rfl, rfl, rfl, rfl, trivial⟩, hs⟩
            · -- not s78.2 = 0
              refine region_k (fun K86 hK86 => ?_)
              refine stq hf rfl rfl rfl (ex_move hf rfl) (fun a hf => ?_)
              refine stq hf rfl rfl rfl (ex_neq hf rfl rfl) (fun a hf => ?_)
              refine stq hf rfl rfl rfl (ex_move hf rfl) (fun a hf => ?_)
              replace hf := hf.castB (t := 77) rfl (ndec_f hc82)
              replace hf := hf.castB (t := 78) rfl (ndec_f hc82)
              refine stq hf rfl rfl rfl (ex_move hf rfl) (fun a hf => ?_)
              refine stq hf rfl rfl rfl (ex_neq hf rfl rfl) (fun a hf => ?_)
              refine stq hf rfl rfl rfl (ex_pickF hf rfl rfl) (fun a hf => ?_)
              refine stq hf rfl rfl rfl (ex_move hf rfl) (fun a hf => ?_)
              replace hf := hf.castB (t := 80) rfl (ndec_f hc83)
              replace hf := hf.castB (t := 81) rfl (ndec_f hc83)
              replace hf := hf.castB (t := 82) rfl (ndec_f hc83)
              refine stq hf rfl rfl rfl (ex_move hf rfl) (fun a hf => ?_)
              refine stq hf rfl rfl rfl (ex_neq hf rfl rfl) (fun a hf => ?_)
              refine stq hf rfl rfl rfl (ex_pickF hf rfl rfl) (fun a hf => ?_)
              refine stq hf rfl rfl rfl (ex_move hf rfl) (fun a hf => ?_)
              replace hf := hf.castB (t := 84) rfl (ndec_t hc84)
              replace hf := hf.castB (t := 85) rfl (ndec_t hc84)
              replace hf := hf.castB (t := 86) rfl (ndec_t hc84)
              refine stepN hf rfl rfl rfl (fun a hf => ?_)
              refine stepN hf rfl rfl rfl (fun a hf => ?_)
              refine stq hf rfl rfl rfl (ex_pickT hf rfl rfl) (fun a hf => ?_)
              refine stq hf rfl rfl rfl (ex_move hf rfl) (fun a hf => ?_)
              refine stepN hf rfl rfl rfl (fun a hf => ?_)
              refine stepN hf rfl rfl rfl (fun a hf => ?_)
              refine stq hf rfl rfl rfl (ex_pickT hf rfl rfl) (fun a hf => ?_)
              refine stq hf rfl rfl rfl (ex_move hf rfl) (fun a hf => ?_)
              refine stepN hf rfl rfl rfl (fun a hf => ?_)
              refine stepN hf rfl rfl rfl (fun a hf => ?_)
              refine stq hf rfl rfl rfl (ex_pickT hf rfl rfl) (fun a hf => ?_)
              refine hK86 _ _ ?_
              replace hs := hs.keep (.k (.k (.k (.k (.k (.k (.k (.d (.k (.d (.d (.d (.d (.d .nil))))))))))))))
              replace hs := hs.pick (.k (.k (.k (.c (.k (.k (.k (.k .nil))))))))
              replace hs := hs.pick (.k (.k (.k (.c (.k (.k (.k (.k .nil))))))))
              replace hs := hs.pick (.k (.k (.k (.c (.k (.k (.k (.k .nil))))))))
              replace hs := hs.pick (.k (.k (.k (.c (.k (.k (.k (.k .nil))))))))
              replace hs := hs.pick (.k (.k (.k (.k (.k (.k (.c (.k .nil))))))))
              replace hs := hs.pick (.k (.k (.k (.k (.k (.k (.c (.k .nil))))))))
              replace hs := hs.pick (.k (.k (.k (.k (.k (.k (.c (.k .nil))))))))
              replace hs := hs.pick (.k (.k (.k (.k (.k (.k (.k (.c .nil))))))))
              have e81 := some_eq H; subst e81
              exact hJ81 _ _ ⟨hf.sub ⟨rfl, rfl, rfl, rfl, rfl, rfl, rfl, rfl, rfl, trivial⟩, hs⟩
          · -- not s58.2 = 0
            refine region_k (fun K87 hK87 => ?_)
            refine stq hf rfl rfl rfl (ex_move hf rfl) (fun a hf => ?_)
            refine stq hf rfl rfl rfl (ex_neq hf rfl rfl) (fun a hf => ?_)
            refine stq hf rfl rfl rfl (ex_move hf rfl) (fun a hf => ?_)
            replace hf := hf.castB (t := 77) rfl (ndec_f hc82)
            replace hf := hf.castB (t := 78) rfl (ndec_f hc82)
            refine stq hf rfl rfl rfl (ex_move hf rfl) (fun a hf => ?_)
            refine stq hf rfl rfl rfl (ex_neq hf rfl rfl) (fun a hf => ?_)
            refine stq hf rfl rfl rfl (ex_pickF hf rfl rfl) (fun a hf => ?_)
            refine stq hf rfl rfl rfl (ex_move hf rfl) (fun a hf => ?_)
            replace hf := hf.castB (t := 80) rfl (ndec_t hc83)
            replace hf := hf.castB (t := 81) rfl (ndec_t hc83)
            replace hf := hf.castB (t := 82) rfl (ndec_t hc83)
            refine stepN hf rfl rfl rfl (fun a hf => ?_)
            refine stepN hf rfl rfl rfl (fun a hf => ?_)
            refine stq hf rfl rfl rfl (ex_pickT hf rfl rfl) (fun a hf => ?_)
            refine stq hf rfl rfl rfl (ex_move hf rfl) (fun a hf => ?_)
            refine stepN hf rfl rfl rfl (fun a hf => ?_)
            refine stepN hf rfl rfl rfl (fun a hf => ?_)
            refine stq hf rfl rfl rfl (ex_pickT hf rfl rfl) (fun a hf => ?_)
            refine stq hf rfl rfl rfl (ex_move hf rfl) (fun a hf => ?_)
            refine stepN hf rfl rfl rfl (fun a hf => ?_)
            refine stepN hf rfl rfl rfl (fun a hf => ?_)
            refine stq hf rfl rfl rfl (ex_pickT hf rfl rfl) (fun a hf => ?_)
            refine stq hf rfl rfl rfl (ex_move hf rfl) (fun a hf => ?_)
            refine stepN hf rfl rfl rfl (fun a hf => ?_)
            refine stepN hf rfl rfl rfl (fun a hf => ?_)
            refine stq hf rfl rfl rfl (ex_pickT hf rfl rfl) (fun a hf => ?_)
            refine hK87 _ _ ?_
            replace hs := hs.keep (.k (.k (.k (.k (.k (.k (.k (.d (.k (.d (.d (.d (.d (.d .nil))))))))))))))
            replace hs := hs.pick (.k (.k (.k (.c (.k (.k (.k (.k .nil))))))))
            replace hs := hs.pick (.k (.k (.k (.c (.k (.k (.k (.k .nil))))))))
            replace hs := hs.pick (.k (.k (.k (.c (.k (.k (.k (.k .nil))))))))
            replace hs := hs.pick (.k (.k (.k (.c (.k (.k (.k (.k .nil))))))))
            replace hs := hs.pick (.k (.k (.k (.k (.k (.k (.c (.k .nil))))))))
            replace hs := hs.pick (.k (.k (.k (.k (.k (.k (.c (.k .nil))))))))
            replace hs := hs.pick (.k (.k (.k (.k (.k (.k (.c (.k .nil))))))))
            replace hs := hs.pick (.k (.k (.k (.k (.k (.k (.k (.c .nil))))))))
            have e81 := some_eq H; subst e81
            exact hJ81 _ _ ⟨hf.sub ⟨rfl, rfl, rfl, rfl, rfl, rfl, rfl, rfl, rfl, trivial⟩, hs⟩
        · -- not s17.2 = 0
          refine region_k (fun K88 hK88 => ?_)
          refine stq hf rfl rfl rfl (ex_move hf rfl) (fun a hf => ?_)
          refine stq hf rfl rfl rfl (ex_neq hf rfl rfl) (fun a hf => ?_)
          refine stq hf rfl rfl rfl (ex_move hf rfl) (fun a hf => ?_)
          replace hf := hf.castB (t := 77) rfl (ndec_t hc82)
          replace hf := hf.castB (t := 78) rfl (ndec_t hc82)
          refine stepN hf rfl rfl rfl (fun a hf => ?_)
          refine stepN hf rfl rfl rfl (fun a hf => ?_)
          refine stq hf rfl rfl rfl (ex_pickT hf rfl rfl) (fun a hf => ?_)
          refine stq hf rfl rfl rfl (ex_move hf rfl) (fun a hf => ?_)
          refine stepN hf rfl rfl rfl (fun a hf => ?_)
          refine stepN hf rfl rfl rfl (fun a hf => ?_)
          refine stq hf rfl rfl rfl (ex_pickT hf rfl rfl) (fun a hf => ?_)
          refine stq hf rfl rfl rfl (ex_move hf rfl) (fun a hf => ?_)
          refine stepN hf rfl rfl rfl (fun a hf => ?_)
          refine stepN hf rfl rfl rfl (fun a hf => ?_)
          refine stq hf rfl rfl rfl (ex_pickT hf rfl rfl) (fun a hf => ?_)
          refine stq hf rfl rfl rfl (ex_move hf rfl) (fun a hf => ?_)
          refine stepN hf rfl rfl rfl (fun a hf => ?_)
          refine stepN hf rfl rfl rfl (fun a hf => ?_)
          refine stq hf rfl rfl rfl (ex_pickT hf rfl rfl) (fun a hf => ?_)
          refine stq hf rfl rfl rfl (ex_move hf rfl) (fun a hf => ?_)
          refine stepN hf rfl rfl rfl (fun a hf => ?_)
          refine stepN hf rfl rfl rfl (fun a hf => ?_)
          refine stq hf rfl rfl rfl (ex_pickT hf rfl rfl) (fun a hf => ?_)
          refine hK88 _ _ ?_
          replace hs := hs.keep (.k (.k (.k (.k (.k (.k (.k (.d (.k (.d (.d (.d (.d (.d .nil))))))))))))))
          replace hs := hs.pick (.k (.k (.k (.c (.k (.k (.k (.k .nil))))))))
          replace hs := hs.pick (.k (.k (.k (.c (.k (.k (.k (.k .nil))))))))
          replace hs := hs.pick (.k (.k (.k (.c (.k (.k (.k (.k .nil))))))))
          replace hs := hs.pick (.k (.k (.k (.c (.k (.k (.k (.k .nil))))))))
          replace hs := hs.pick (.k (.k (.k (.k (.k (.k (.c (.k .nil))))))))
          replace hs := hs.pick (.k (.k (.k (.k (.k (.k (.c (.k .nil))))))))
          replace hs := hs.pick (.k (.k (.k (.k (.k (.k (.c (.k .nil))))))))
          replace hs := hs.pick (.k (.k (.k (.k (.k (.k (.k (.c .nil))))))))
          have e81 := some_eq H; subst e81
          exact hJ81 _ _ ⟨hf.sub ⟨rfl, rfl, rfl, rfl, rfl, rfl, rfl, rfl, rfl, trivial⟩, hs⟩
      · obtain ⟨hf, hs⟩ := hJ
        replace H := HO81
        clear HO81
        refine itt H (fun hc89 H => ?_) (fun hc89 H => ?_)
        · -- x81 = true
          replace hf := hf.castB (t := 97) rfl hc89
          refine cond_T hf rfl ?_
          refine seq_reg (fun K90 hK90 => ?_)
          refine stq hf rfl rfl rfl (ex_assign hf rfl) (fun a hf => ?_)
          refine hK90 _ _ ?_
          refine wp_ret ?_
          refine hR80 _ _ ?_
          have eR := some_eq H; subst eR
          replace hs := hs.keep (.d (.d (.d (.d (.d (.d (.d (.d .nil))))))))
          exact ret1 Try.results5 hf rfl ⟨_, rfl, ⟨rfl, hs⟩⟩
        · -- not x81 = true
          replace hf := hf.castB (t := 97) rfl (bool_f hc89)
          refine cond_F hf rfl ?_
          refine wp_skip ?_
          refine hN80 _ _ ?_
          refine seq_reg (fun K91 hK91 => ?_)
          refine stq hf rfl rfl rfl (ex_move hf rfl) (fun a hf => ?_)
          refine stq hf rfl rfl rfl (ex_move hf rfl) (fun a hf => ?_)
          refine stq hf rfl rfl rfl (ex_rem hf rfl rfl (by decide)) (fun a hf => ?_)
          refine stq hf rfl rfl rfl (ex_conv Try.underlying49 Try.underlying2 hf rfl) (fun a hf => ?_)
          refine stq hf rfl rfl rfl (ex_add hf rfl rfl) (fun a hf => ?_)
          refine stq hf rfl rfl rfl (ex_assign hf rfl) (fun a hf => ?_)
          refine hK91 _ _ ?_
          refine ck_some H (fun hc92 H => ?_)
          refine seq_reg (fun K93 hK93 => ?_)
          refine stq hf rfl rfl rfl (ex_move hf rfl) (fun a hf => ?_)
          refine stq hf rfl rfl rfl (ex_move hf rfl) (fun a hf => ?_)
          refine stq hf rfl rfl rfl (ex_add hf rfl rfl) (fun a hf => ?_)
          refine stq hf rfl rfl rfl (ex_move hf rfl) (fun a hf => ?_)
          refine stq hf rfl rfl rfl (ex_mul hf rfl rfl) (fun a hf => ?_)
          refine stq hf rfl rfl rfl (ex_fieldAddrB fa_33_1 rfl hf rfl) (fun a hf => ?_)
          refine stq hf rfl rfl rfl (ex_load sc_2 hf rfl (bx_cell (hs.get (i := 0) rfl) _ rfl)) (fun a hf => ?_)
          refine stq hf rfl rfl rfl (ex_add hf rfl rfl) (fun a hf => ?_)
          refine stq hf rfl rfl rfl (ex_fieldAddrB fa_33_0 rfl hf rfl) (fun a hf => ?_)
          refine stq hf rfl rfl rfl (ex_load sc_2 hf rfl (bx_cell (hs.get (i := 0) rfl) _ rfl)) (fun a hf => ?_)
          refine stq hf rfl rfl rfl (ex_quo hf rfl rfl hc92) (fun a hf => ?_)
          refine stq hf rfl rfl rfl (ex_add hf rfl rfl) (fun a hf => ?_)
          refine stq hf rfl rfl rfl (ex_add hf rfl rfl) (fun a hf => ?_)
          refine stq hf rfl rfl rfl (ex_assign hf rfl) (fun a hf => ?_)
          refine hK93 _ _ ?_
          refine seq_reg (fun K94 hK94 => ?_)
          refine stq hf rfl rfl rfl (ex_assign hf rfl) (fun a hf => ?_)
          refine hK94 _ _ ?_
          refine bnd H (fun x95 H95 HO95 => ?_)
          clear H
          refine seq_cut (fun a w => ∃ (x95s : Unit), x95 = .go x95s ∧ Fr a 176 [] ∧ St M w0 w []) (fun Q95 hJ95 hR95 hX95 => ?_) (fun a w hJ => ?_)
          · replace H := H95
            refine bnd H (fun s96 hs96 H => ?_)
            refine seq_reg (fun K97 hK97 => ?_)
            refine stq hf rfl rfl rfl (ex_move hf rfl) (fun a hf => ?_)
            refine stepF hf rfl rfl rfl (ex_call cf_18 hf rfl) (help_Mod.calls k a6 200 (hs.enter (.k (.k (.k (.k (.k (.k (.k (.k .nil))))))))) (Sr.nil _ _) hs96) (fun v w hR a hf => ?_)
            obtain ⟨rfl, hs'⟩ := hR
            replace hs := hs.step (.k (.k (.k (.k (.k (.k (.k (.k .nil)))))))) hs'
            clear hs'
            refine stq hf rfl rfl rfl (ex_move hf rfl) (fun a hf => ?_)
            refine hK97 _ _ ?_
            refine block_k (fun Q98 hN98 hR98 hX98 hY98 => ?_)
            refine loop_k (fun n a w => ∃ (y101 : (List Bool)) (y102 : Int) (y103 : (List Int)) (y104 : Int) (y105 : Int) (y106 : Int) (v99 : Value) (v100 : Value), Fr a 176 [(18, .int .i64 (IntKind.i64.wrap (1 + s13))), (19, .pointer (some ⟨b53, 0, none⟩)), (21, .pointer (some ⟨b73, 0, none⟩)), (23, .int .i64 s78.1), (25, .int .i64 (IntKind.i64.wrap (s78.1 + (IntKind.i64.wrap (Int.tmod a3 500))))), (26, .int .i64 (IntKind.i64.wrap ((IntKind.i64.wrap ((IntKind.i64.wrap (s4.2.2 + (IntKind.i64.wrap (Int.tmod a2 60)))) + (IntKind.i64.wrap (Int.tdiv (IntKind.i64.wrap ((IntKind.i64.wrap ((IntKind.i64.wrap ((IntKind.i64.wrap (1 + s13)) + 1)) * (IntKind.i64.wrap (s78.1 + (IntKind.i64.wrap (Int.tmod a3 500)))))) + ((gd HeatDomain.zero s4.1 0).Ambient))) ((gd HeatDomain.zero s4.1 0).Capacity))))) + 1))), (27, .int .i64 y105), (117, .int .i64 s96), (118, .int .i64 y106)] ∧ St M w0 w [bx b53 95 [v54, v99, .int .i64 c18.2.2.1, .int .i64 y102], osl K_api_Trip v54 c18.1, osl K_bool v99 y101, bx b73 89 [v74, v75, .int .i64 c59.2.2.1, v100, .int .i64 y104], osl K_api_HeatDomain v74 c59.1, osl K_api_HeatLink v75 c59.2.1, osl K_int64 v100 y103] ∧ law39_ThermalOvershootIsBounded.l1 n s96 s13 s78 a3 c59 s4 a2 c18 y101 y102 y103 y104 y105 y106 = some x95) k ?_ (fun n108 a w hI Q108 hL108 hR108 hX108 => ?_)
            · -- at the start
              replace hs := hs.keep (.d (.k (.k (.k (.k (.k (.k (.k .nil))))))))
              exact ⟨c18.2.1, c18.2.2.2, c59.2.2.2.1, c59.2.2.2.2, 0, 0, v55, v76, hf.sub ⟨rfl, rfl, rfl, rfl, rfl, rfl, rfl, rfl, rfl, trivial⟩, hs, H⟩
            · obtain ⟨y101, y102, y103, y104, y105, y106, v99, v100, hf, hs, H⟩ := hI
              cases n108 with
              | zero => exact absurd H (by rw [law39_ThermalOvershootIsBounded.l1.eq_1]; intro h; cases h)
              | succ k108 =>
                replace H := (law39_ThermalOvershootIsBounded.l1.eq_2 ..).symm.trans H
                refine seq_reg (fun K109 hK109 => ?_)
                refine stq hf rfl rfl rfl (ex_lss hf rfl rfl) (fun a hf => ?_)
                refine hK109 _ _ ?_
                refine seq_n (fun Q110 hN110 hR110 hX110 => ?_)
                refine itt H (fun hc111 H => ?_) (fun hc111 H => ?_)
                · -- y106 < s96
                  replace hf := hf.castB (t := 119) rfl (dec_t hc111)
                  refine cond_T hf rfl ?_
                  refine wp_skip ?_
                  refine hN110 _ _ ?_
                  refine seq_n (fun Q112 hN112 hR112 hX112 => ?_)
                  refine block_k (fun Q113 hN113 hR113 hX113 hY113 => ?_)
                  refine ck_some H (fun hc114 H => ?_)
                  refine seq_reg (fun K115 hK115 => ?_)
                  refine stq hf rfl rfl rfl (ex_move hf rfl) (fun a hf => ?_)
                  refine stq hf rfl rfl rfl (ex_move hf rfl) (fun a hf => ?_)
                  refine stq hf rfl rfl rfl (ex_move hf rfl) (fun a hf => ?_)
                  refine stq hf rfl rfl rfl (ex_sub hf rfl rfl) (fun a hf => ?_)
                  refine stq hf rfl rfl rfl (ex_move hf rfl) (fun a hf => ?_)
                  refine stq hf rfl rfl rfl (ex_mul hf rfl rfl) (fun a hf => ?_)
                  refine stq hf rfl rfl rfl (ex_move hf rfl) (fun a hf => ?_)
                  refine stq hf rfl rfl rfl (ex_quo hf rfl rfl hc114) (fun a hf => ?_)
                  refine stq hf rfl rfl rfl (ex_sub hf rfl rfl) (fun a hf => ?_)
                  refine stq hf rfl rfl rfl (ex_assign hf rfl) (fun a hf => ?_)
                  refine hK115 _ _ ?_
                  refine bnd H (fun x116 H116 HO116 => ?_)
                  clear H
                  refine seq_cut (fun a w => Fr a 176 [(18, .int .i64 (IntKind.i64.wrap (1 + s13))), (19, .pointer (some ⟨b53, 0, none⟩)), (21, .pointer (some ⟨b73, 0, none⟩)), (23, .int .i64 s78.1), (25, .int .i64 (IntKind.i64.wrap (s78.1 + (IntKind.i64.wrap (Int.tmod a3 500))))), (26, .int .i64 (IntKind.i64.wrap ((IntKind.i64.wrap ((IntKind.i64.wrap (s4.2.2 + (IntKind.i64.wrap (Int.tmod a2 60)))) + (IntKind.i64.wrap (Int.tdiv (IntKind.i64.wrap ((IntKind.i64.wrap ((IntKind.i64.wrap ((IntKind.i64.wrap (1 + s13)) + 1)) * (IntKind.i64.wrap (s78.1 + (IntKind.i64.wrap (Int.tmod a3 500)))))) + ((gd HeatDomain.zero s4.1 0).Ambient))) ((gd HeatDomain.zero s4.1 0).Capacity))))) + 1))), (28, .int .i64 x116), (117, .int .i64 s96), (118, .int .i64 y106)] ∧ St M w0 w [bx b53 95 [v54, v99, .int .i64 c18.2.2.1, .int .i64 y102], osl K_api_Trip v54 c18.1, osl K_bool v99 y101, bx b73 89 [v74, v75, .int .i64 c59.2.2.1, v100, .int .i64 y104], osl K_api_HeatDomain v74 c59.1, osl K_api_HeatLink v75 c59.2.1, osl K_int64 v100 y103]) (fun Q116 hJ116 hR116 hX116 => ?_) (fun a w hJ => ?_)
                  · replace H := H116
                    refine seq_reg (fun K117 hK117 => ?_)
                    refine stq hf rfl rfl rfl (ex_move hf rfl) (fun a hf => ?_)
                    refine stq hf rfl rfl rfl (ex_move hf rfl) (fun a hf => ?_)
                    refine stq hf rfl rfl rfl (ex_eql hf rfl rfl) (fun a hf => ?_)
                    refine hK117 _ _ ?_
                    refine itt H (fun hc118 H => ?_) (fun hc118 H => ?_)
                    · -- y105 = (IntKind.i64.wrap (1 + s13))
                      replace hf := hf.castB (t := 131) rfl (dec_t hc118)
                      refine cond_T hf rfl ?_
                      refine region_k (fun K119 hK119 => ?_)
                      refine stq hf rfl rfl rfl (ex_move hf rfl) (fun a hf => ?_)
                      refine stq hf rfl rfl rfl (ex_assign hf rfl) (fun a hf => ?_)
                      refine hK119 _ _ ?_
                      have e116 := some_eq H; subst e116
                      exact hJ116 _ _ ⟨hf.sub ⟨rfl, rfl, rfl, rfl, rfl, rfl, rfl, rfl, rfl, trivial⟩, hs⟩
                    · -- not y105 = (IntKind.i64.wrap (1 + s13))
                      replace hf := hf.castB (t := 131) rfl (dec_f hc118)
                      refine cond_F hf rfl ?_
                      refine wp_skip ?_
                      have e116 := some_eq H; subst e116
                      exact hJ116 _ _ ⟨hf.sub ⟨rfl, rfl, rfl, rfl, rfl, rfl, rfl, rfl, rfl, trivial⟩, hs⟩
                  · obtain ⟨hf, hs⟩ := hJ
                    replace H := HO116
                    clear HO116
                    refine bnd H (fun s121 hs121 H => ?_)
                    refine seq_reg (fun K124 hK124 => ?_)
                    refine stq hf rfl rfl rfl (ex_move hf rfl) (fun a hf => ?_)
                    refine stq hf rfl rfl rfl (ex_move hf rfl) (fun a hf => ?_)
                    refine stepV hf rfl rfl rfl (er_buildSlice (K := K_int64) (xs := [x116]) hs Try.underlying34 ep_2 rfl rfl hf rfl (.cons rfl .nil) rfl rfl) (fun v120 w hs a hf => ?_)
                    refine stepF hf rfl rfl rfl (ex_call cf_17 hf rfl) (heat_Model_Step.calls k108 c59.1 c59.2.1 c59.2.2.1 y103 y104 [x116] b73 v74 v75 v100 v120 (hs.enter (.k (.k (.k (.k (.c (.k (.k (.c .nil))))))))) (Sr.own hs (.k (.k (.k (.k (.c (.k (.k (.c .nil)))))))) (i := 4) rfl osl_rsl (fun _ h => h.1) (Sr.own hs (.k (.k (.k (.k (.c (.k (.k (.c .nil)))))))) (i := 5) rfl osl_rsl (fun _ h => h.1) (Sr.own hs (.k (.k (.k (.k (.c (.k (.k (.c .nil)))))))) (i := 0) rfl osl_rsl (fun _ h => h.1) (Sr.nil _ _)))) hs121) (fun v w hR a hf => ?_)
                    obtain ⟨v122, v123, rfl, hs'⟩ := hR
                    replace hs := hs.step (.k (.k (.k (.k (.c (.k (.k (.c .nil)))))))) hs'
                    clear hs'
                    refine stq hf rfl rfl rfl (ex_move hf rfl) (fun a hf => ?_)
                    refine stq hf rfl rfl rfl (ex_extract hf rfl rfl) (fun a hf => ?_)
                    refine stq hf rfl rfl rfl (ex_extract hf rfl rfl) (fun a hf => ?_)
                    refine stq hf rfl rfl rfl (ex_assign hf rfl) (fun a hf => ?_)
                    refine stq hf rfl rfl rfl (ex_assign hf rfl) (fun a hf => ?_)
                    refine hK124 _ _ ?_
                    refine seq_n (fun Q125 hN125 hR125 hX125 => ?_)
                    refine bnd H (fun x126 H126 HO126 => ?_)
                    clear H
                    refine seq_cut (fun a w => Fr a 176 [(18, .int .i64 (IntKind.i64.wrap (1 + s13))), (19, .pointer (some ⟨b53, 0, none⟩)), (21, .pointer (some ⟨b73, 0, none⟩)), (23, .int .i64 s78.1), (25, .int .i64 (IntKind.i64.wrap (s78.1 + (IntKind.i64.wrap (Int.tmod a3 500))))), (26, .int .i64 (IntKind.i64.wrap ((IntKind.i64.wrap ((IntKind.i64.wrap (s4.2.2 + (IntKind.i64.wrap (Int.tmod a2 60)))) + (IntKind.i64.wrap (Int.tdiv (IntKind.i64.wrap ((IntKind.i64.wrap ((IntKind.i64.wrap ((IntKind.i64.wrap (1 + s13)) + 1)) * (IntKind.i64.wrap (s78.1 + (IntKind.i64.wrap (Int.tmod a3 500)))))) + ((gd HeatDomain.zero s4.1 0).Ambient))) ((gd HeatDomain.zero s4.1 0).Capacity))))) + 1))), (29, v123), (117, .int .i64 s96), (118, .int .i64 y106), (153, .bool x126)] ∧ St M w0 w [bx b53 95 [v54, v99, .int .i64 c18.2.2.1, .int .i64 y102], osl K_api_Trip v54 c18.1, osl K_bool v99 y101, bx b73 89 [v74, v75, .int .i64 c59.2.2.1, v122, .int .i64 s121.1], osl K_api_HeatDomain v74 c59.1, osl K_api_HeatLink v75 c59.2.1, osl K_int64 v122 s121.2.1, osl K_int64 v123 s121.2.2.1]) (fun Q126 hJ126 hR126 hX126 => ?_) (fun a w hJ => ?_)
                    · replace H := H126
                      refine itt H (fun hc127 H => ?_) (fun hc127 H => ?_)
                      · -- s121.2.2.2 = 0
                        refine itt H (fun hc128 H => ?_) (fun hc128 H => ?_)
                        · -- (s121.2.2.1.length : Int) = 1
                          refine ck_some H (fun hc129 H => ?_)
                          refine region_k (fun K130 hK130 => ?_)
                          refine stq hf rfl rfl rfl (ex_move hf rfl) (fun a hf => ?_)
                          refine stq hf rfl rfl rfl (ex_neq hf rfl rfl) (fun a hf => ?_)
                          refine stq hf rfl rfl rfl (ex_move hf rfl) (fun a hf => ?_)
                          replace hf := hf.castB (t := 141) rfl (ndec_f hc127)
                          replace hf := hf.castB (t := 142) rfl (ndec_f hc127)
                          refine stq hf rfl rfl rfl (ex_move hf rfl) (fun a hf => ?_)
                          refine stq hf rfl rfl rfl (ex_lenS Try.underlying34 (rsl_isSl (osl_rsl _ (hs.get (i := 2) rfl))) hf rfl) (fun a hf => ?_)
                          refine stq hf rfl rfl rfl (ex_neq hf rfl rfl) (fun a hf => ?_)
                          refine stq hf rfl rfl rfl (ex_pickF hf rfl rfl) (fun a hf => ?_)
                          refine stq hf rfl rfl rfl (ex_move hf rfl) (fun a hf => ?_)
                          replace hf := hf.castB (t := 145) rfl (ndec_f hc128)
                          replace hf := hf.castB (t := 146) rfl (ndec_f hc128)
                          replace hf := hf.castB (t := 147) rfl (ndec_f hc128)
                          refine stq hf rfl rfl rfl (ex_move hf rfl) (fun a hf => ?_)
                          refine stq hf rfl rfl rfl (ex_indexAddr sa_34 (rsl_isSl (osl_rsl _ (hs.get (i := 2) rfl))) hc129.1 hc129.2 hf rfl rfl) (fun a hf => ?_)
                          refine stq hf rfl rfl rfl (ex_load sc_2 hf rfl (el_cell (K := K_int64) (f := 0) (rsl_rd (osl_rsl _ (hs.get (i := 2) rfl))) hc129.1 hc129.2 rfl)) (fun a hf => ?_)
                          refine stq hf rfl rfl rfl (ex_move hf rfl) (fun a hf => ?_)
                          refine stq hf rfl rfl rfl (ex_gtr hf rfl rfl) (fun a hf => ?_)
                          refine stq hf rfl rfl rfl (ex_pickF hf rfl rfl) (fun a hf => ?_)
                          refine hK130 _ _ ?_
                          replace hs := hs.keep (.k (.k (.k (.d (.k (.k (.k (.k (.k .nil)))))))))
                          replace hs := hs.pick (.k (.k (.c (.k (.k (.k (.k (.k .nil))))))))
                          replace hs := hs.pick (.k (.k (.c (.k (.k (.k (.k (.k .nil))))))))
                          replace hs := hs.pick (.k (.k (.k (.k (.k (.k (.k (.c .nil))))))))
                          replace hs := hs.pick (.k (.k (.k (.k (.k (.k (.k (.c .nil))))))))
                          replace hs := hs.pick (.k (.k (.k (.k (.c (.k (.k (.k .nil))))))))
                          replace hs := hs.pick (.k (.k (.k (.k (.k (.k (.k (.c .nil))))))))
                          replace hs := hs.pick (.k (.k (.k (.k (.k (.k (.k (.c .nil))))))))
                          replace hs := hs.pick (.k (.k (.k (.k (.k (.k (.k (.c .nil))))))))
                          have e126 := some_eq H; subst e126
                          exact hJ126 _ _ ⟨hf.sub ⟨rfl, rfl, rfl, rfl, rfl, rfl, rfl, rfl, rfl, rfl, trivial⟩, hs⟩
                        · -- not (s121.2.2.1.length : Int) = 1
                          refine region_k (fun K131 hK131 => ?_)
                          refine stq hf rfl rfl rfl (ex_move hf rfl) (fun a hf => ?_)
                          refine stq hf rfl rfl rfl (ex_neq hf rfl rfl) (fun a hf => ?_)
                          refine stq hf rfl rfl rfl (ex_move hf rfl) (fun a hf => ?_)
                          replace hf := hf.castB (t := 141) rfl (ndec_f hc127)
                          replace hf := hf.castB (t := 142) rfl (ndec_f hc127)
                          refine stq hf rfl rfl rfl (ex_move hf rfl) (fun a hf => ?_)
                          refine stq hf rfl rfl rfl (ex_lenS Try.underlying34 (rsl_isSl (osl_rsl _ (hs.get (i := 2) rfl))) hf rfl) (fun a hf => ?_)
                          refine stq hf rfl rfl rfl (ex_neq hf rfl rfl) (fun a hf => ?_)
                          refine stq hf rfl rfl rfl (ex_pickF hf rfl rfl) (fun a hf => ?_)
                          refine stq hf rfl rfl rfl (ex_move hf rfl) (fun a hf => ?_)
                          replace hf := hf.castB (t := 145) rfl (ndec_t hc128)
                          replace hf := hf.castB (t := 146) rfl (ndec_t hc128)
                          replace hf := hf.castB (t := 147) rfl (ndec_t hc128)
                          refine stepN hf rfl rfl rfl (fun a hf => ?_)
                          refine stepN hf rfl rfl rfl (fun a hf => ?_)
                          refine stepN hf rfl rfl rfl (fun a hf => ?_)
                          refine stepN hf rfl rfl rfl (fun a hf => ?_)
                          refine stepN hf rfl rfl rfl (fun a hf => ?_)
                          refine stq hf rfl rfl rfl (ex_pickT hf rfl rfl) (fun a hf => ?_)
                          refine hK131 _ _ ?_
                          replace hs := hs.keep (.k (.k (.k (.d (.k (.k (.k (.k (.k .nil)))))))))
                          replace hs := hs.pick (.k (.k (.c (.k (.k (.k (.k (.k .nil))))))))
                          replace hs := hs.pick (.k (.k (.c (.k (.k (.k (.k (.k .nil))))))))
                          replace hs := hs.pick (.k (.k (.k (.k (.k (.k (.k (.c .nil))))))))
                          replace hs := hs.pick (.k (.k (.k (.k (.k (.k (.k (.c .nil))))))))
                          replace hs := hs.pick (.k (.k (.k (.k (.c (.k (.k (.k .nil))))))))
                          replace hs := hs.pick (.k (.k (.k (.k (.k (.k (.k (.c .nil))))))))
                          replace hs := hs.pick (.k (.k (.k (.k (.k (.k (.k (.c .nil))))))))
                          replace hs := hs.pick (.k (.k (.k (.k (.k (.k (.k (.c .nil))))))))
                          have e126 := some_eq H; subst e126
                          exact hJ126 _ _ ⟨hf.sub ⟨rfl, rfl, rfl, rfl, rfl, rfl, rfl, rfl, rfl, rfl, trivial⟩, hs⟩
                      · -- not s121.2.2.2 = 0
                        refine region_k (fun K132 hK132 => ?_)
                        refine stq hf rfl rfl rfl (ex_move hf rfl) (fun a hf => ?_)
                        refine stq hf rfl rfl rfl (ex_neq hf rfl rfl) (fun a hf => ?_)
                        refine stq hf rfl rfl rfl (ex_move hf rfl) (fun a hf => ?_)
                        replace hf := hf.castB (t := 141) rfl (ndec_t hc127)
                        replace hf := hf.castB (t := 142) rfl (ndec_t hc127)
                        refine stepN hf rfl rfl rfl (fun a hf => ?_)
                        refine stepN hf rfl rfl rfl (fun a hf => ?_)
                        refine stepN hf rfl rfl rfl (fun a hf => ?_)
                        refine stq hf rfl rfl rfl (ex_pickT hf rfl rfl) (fun a hf => ?_)
                        refine stq hf rfl rfl rfl (ex_move hf rfl) (fun a hf => ?_)
                        refine stepN hf rfl rfl rfl (fun a hf => ?_)
                        refine stepN hf rfl rfl rfl (fun a hf => ?_)
                        refine stepN hf rfl rfl rfl (fun a hf => ?_)
                        refine stepN hf rfl rfl rfl (fun a hf => ?_)
                        refine stepN hf rfl rfl rfl (fun a hf => ?_)
                        refine stq hf rfl rfl rfl (ex_pickT hf rfl rfl) (fun a hf => ?_)
                        refine hK132 _ _ ?_
                        replace hs := hs.keep (.k (.k (.k (.d (.k (.k (.k (.k (.k .nil)))))))))
                        replace hs := hs.pick (.k (.k (.c (.k (.k (.k (.k (.k .nil))))))))
                        replace hs := hs.pick (.k (.k (.c (.k (.k (.k (.k (.k .nil))))))))
                        replace hs := hs.pick (.k (.k (.k (.k (.k (.k (.k (.c .nil))))))))
                        replace hs := hs.pick (.k (.k (.k (.k (.k (.k (.k (.c .nil))))))))
                        replace hs := hs.pick (.k (.k (.k (.k (.c (.k (.k (.k .nil))))))))
                        replace hs := hs.pick (.k (.k (.k (.k (.k (.k (.k (.c .nil))))))))
                        replace hs := hs.pick (.k (.k (.k (.k (.k (.k (.k (.c .nil))))))))
                        replace hs := hs.pick (.k (.k (.k (.k (.k (.k (.k (.c .nil))))))))
                        have e126 := some_eq H; subst e126
                        exact hJ126 _ _ ⟨hf.sub ⟨rfl, rfl, rfl, rfl, rfl, rfl, rfl, rfl, rfl, rfl, trivial⟩, hs⟩
                    · obtain ⟨hf, hs⟩ := hJ
                      replace H := HO126
                      clear HO126
                      refine itt H (fun hc133 H => ?_) (fun hc133 H => ?_)
                      · -- x126 = true
                        replace hf := hf.castB (t := 153) rfl hc133
                        refine cond_T hf rfl ?_
                        refine seq_reg (fun K134 hK134 => ?_)
                        refine stq hf rfl rfl rfl (ex_assign hf rfl) (fun a hf => ?_)
                        refine hK134 _ _ ?_
                        refine wp_ret ?_
                        refine hR125 _ _ ?_
                        refine hR113 _ _ ?_
                        refine hR112 _ _ ?_
                        refine hR108 _ _ ?_
                        refine hR98 _ _ ?_
                        have e95 := some_eq H; subst e95; replace H := el_rt HO95
                        refine hR95 _ _ ?_
                        have eR := some_eq H; subst eR
                        replace hs := hs.keep (.d (.d (.d (.d (.d (.d (.d (.d .nil))))))))
                        exact ret1 Try.results5 hf rfl ⟨_, rfl, ⟨rfl, hs⟩⟩
                      · -- not x126 = true
                        replace hf := hf.castB (t := 153) rfl (bool_f hc133)
                        refine cond_F hf rfl ?_
                        refine wp_skip ?_
                        refine hN125 _ _ ?_
                        refine seq_reg (fun K135 hK135 => ?_)
                        refine stq hf rfl rfl rfl (ex_assign hf rfl) (fun a hf => ?_)
                        refine hK135 _ _ ?_
                        refine ck_some H (fun hc136 H => ?_)
                        refine bnd H (fun s137 hs137 H => ?_)
                        refine seq_reg (fun K139 hK139 => ?_)
                        refine stq hf rfl rfl rfl (ex_move hf rfl) (fun a hf => ?_)
                        refine stq hf rfl rfl rfl (ex_move hf rfl) (fun a hf => ?_)
                        refine stq hf rfl rfl rfl (ex_indexAddr sa_34 (rsl_isSl (osl_rsl _ (hs.get (i := 7) rfl))) hc136.1 hc136.2 hf rfl rfl) (fun a hf => ?_)
                        refine stq hf rfl rfl rfl (ex_load sc_2 hf rfl (el_cell (K := K_int64) (f := 0) (rsl_rd (osl_rsl _ (hs.get (i := 7) rfl))) hc136.1 hc136.2 rfl)) (fun a hf => ?_)
                        refine stepF hf rfl rfl rfl (ex_call cf_20 hf rfl) (thermal_Zone_Update.calls k108 c18.1 y101 c18.2.2.1 y102 (gd 0 s121.2.2.1 0) b53 v54 v99 (hs.enter (.c (.k (.c (.k (.k (.k (.k (.k .nil))))))))) (Sr.own hs (.c (.k (.c (.k (.k (.k (.k (.k .nil)))))))) (i := 0) rfl osl_rsl (fun _ h => h.1) (Sr.nil _ _)) hs137) (fun v w hR a hf => ?_)
                        obtain ⟨v138, rfl, hs'⟩ := hR
                        replace hs := hs.step (.c (.k (.c (.k (.k (.k (.k (.k .nil)))))))) hs'
                        clear hs'
                        refine stq hf rfl rfl rfl (ex_move hf rfl) (fun a hf => ?_)
                        refine stq hf rfl rfl rfl (ex_extract hf rfl rfl) (fun a hf => ?_)
                        refine stq hf rfl rfl rfl (ex_extract hf rfl rfl) (fun a hf => ?_)
                        refine stq hf rfl rfl rfl (ex_extract hf rfl rfl) (fun a hf => ?_)
                        refine stq hf rfl rfl rfl (ex_assign hf rfl) (fun a hf => ?_)
                        refine stq hf rfl rfl rfl (ex_assign hf rfl) (fun a hf => ?_)
                        refine hK139 _ _ ?_
                        refine bnd H (fun x140 H140 HO140 => ?_)
                        clear H
                        refine seq_cut (fun a w => Fr a 176 [(18, .int .i64 (IntKind.i64.wrap (1 + s13))), (19, .pointer (some ⟨b53, 0, none⟩)), (21, .pointer (some ⟨b73, 0, none⟩)), (23, .int .i64 s78.1), (25, .int .i64 (IntKind.i64.wrap (s78.1 + (IntKind.i64.wrap (Int.tmod a3 500))))), (26, .int .i64 (IntKind.i64.wrap ((IntKind.i64.wrap ((IntKind.i64.wrap (s4.2.2 + (IntKind.i64.wrap (Int.tmod a2 60)))) + (IntKind.i64.wrap (Int.tdiv (IntKind.i64.wrap ((IntKind.i64.wrap ((IntKind.i64.wrap ((IntKind.i64.wrap (1 + s13)) + 1)) * (IntKind.i64.wrap (s78.1 + (IntKind.i64.wrap (Int.tmod a3 500)))))) + ((gd HeatDomain.zero s4.1 0).Ambient))) ((gd HeatDomain.zero s4.1 0).Capacity))))) + 1))), (27, .int .i64 s137.2.2.1), (117, .int .i64 s96), (118, .int .i64 y106), (173, .bool x140)] ∧ St M w0 w [bx b53 95 [v54, v138, .int .i64 c18.2.2.1, .int .i64 s137.1], osl K_api_Trip v54 c18.1, osl K_bool v138 s137.2.1, bx b73 89 [v74, v75, .int .i64 c59.2.2.1, v122, .int .i64 s121.1], osl K_api_HeatDomain v74 c59.1, osl K_api_HeatLink v75 c59.2.1, osl K_int64 v122 s121.2.1]) (fun Q140 hJ140 hR140 hX140 => ?_) (fun a w hJ => ?_)
                        · replace H := H140
                          refine itt H (fun hc141 H => ?_) (fun hc141 H => ?_)
                          · -- s137.2.2.2.2 = 0
                            refine itt H (fun hc142 H => ?_) (fun hc142 H => ?_)
                            · -- s137.2.2.1 < 0
                              refine region_k (fun K143 hK143 => ?_)
                              refine stq hf rfl rfl rfl (ex_move hf rfl) (fun a hf => ?_)
                              refine stq hf rfl rfl rfl (ex_neq hf rfl rfl) (fun a hf => ?_)
                              refine stq hf rfl rfl rfl (ex_move hf rfl) (fun a hf => ?_)
                              replace hf := hf.castB (t := 164) rfl (ndec_f hc141)
                              replace hf := hf.castB (t := 165) rfl (ndec_f hc141)
                              refine stq hf rfl rfl rfl (ex_move hf rfl) (fun a hf => ?_)
                              refine stq hf rfl rfl rfl (ex_lss hf rfl rfl) (fun a hf => ?_)
                              refine stq hf rfl rfl rfl (ex_pickF hf rfl rfl) (fun a hf => ?_)
                              refine stq hf rfl rfl rfl (ex_move hf rfl) (fun a hf => ?_)
                              replace hf := hf.castB (t := 167) rfl (dec_t hc142)
                              replace hf := hf.castB (t := 168) rfl (dec_t hc142)
                              replace hf := hf.castB (t := 169) rfl (dec_t hc142)
                              refine stepN hf rfl rfl rfl (fun a hf => ?_)
                              refine stepN hf rfl rfl rfl (fun a hf => ?_)
                              refine stepN hf rfl rfl rfl (fun a hf => ?_)
                              refine stq hf rfl rfl rfl (ex_pickT hf rfl rfl) (fun a hf => ?_)
                              refine hK143 _ _ ?_
                              replace hs := hs.keep (.k (.k (.k (.k (.k (.k (.k (.d .nil))))))))
                              replace hs := hs.pick (.k (.k (.k (.k (.k (.k (.c .nil)))))))
                              replace hs := hs.pick (.k (.k (.k (.k (.k (.k (.c .nil)))))))
                              replace hs := hs.pick (.k (.k (.k (.k (.k (.k (.c .nil)))))))
                              replace hs := hs.pick (.k (.k (.k (.k (.k (.k (.c .nil)))))))
                              replace hs := hs.pick (.k (.k (.k (.k (.k (.c (.k .nil)))))))
                              replace hs := hs.pick (.k (.k (.k (.k (.k (.k (.c .nil)))))))
                              replace hs := hs.pick (.k (.k (.k (.k (.k (.k (.c .nil)))))))
                              have e140 := some_eq H; subst e140
                              exact hJ140 _ _ ⟨hf.sub ⟨rfl, rfl, rfl, rfl, rfl, rfl, rfl, rfl, rfl, rfl, trivial⟩, hs⟩
                            · -- not s137.2.2.1 < 0
                              refine region_k (fun K144 hK144 => ?_)
                              refine stq hf rfl rfl rfl (ex_move hf rfl) (fun a hf => ?_)
                              refine stq hf rfl rfl rfl (ex_neq hf rfl rfl) (fun a hf => ?_)
                              refine stq hf rfl rfl rfl (ex_move hf rfl) (fun a hf => ?_)
                              replace hf := hf.castB (t := 164) rfl (ndec_f hc141)
                              replace hf := hf.castB (t := 165) rfl (ndec_f hc141)
                              refine stq hf rfl rfl rfl (ex_move hf rfl) (fun a hf => ?_)
                              refine stq hf rfl rfl rfl (ex_lss hf rfl rfl) (fun a hf => ?_)
                              refine stq hf rfl rfl rfl (ex_pickF hf rfl rfl) (fun a hf => ?_)
                              refine stq hf rfl rfl rfl (ex_move hf rfl) (fun a hf => ?_)
                              replace hf := hf.castB (t := 167) rfl (dec_f hc142)
                              replace hf := hf.castB (t := 168) rfl (dec_f hc142)
                              replace hf := hf.castB (t := 169) rfl (dec_f hc142)
                              refine stq hf rfl rfl rfl (ex_move hf rfl) (fun a hf => ?_)
                              refine stq hf rfl rfl rfl (ex_move hf rfl) (fun a hf => ?_)
                              refine stq hf rfl rfl rfl (ex_gtr hf rfl rfl) (fun a hf => ?_)
                              refine stq hf rfl rfl rfl (ex_pickF hf rfl rfl) (fun a hf => ?_)
                              refine hK144 _ _ ?_
                              replace hs := hs.keep (.k (.k (.k (.k (.k (.k (.k (.d .nil))))))))
                              replace hs := hs.pick (.k (.k (.k (.k (.k (.k (.c .nil)))))))
                              replace hs := hs.pick (.k (.k (.k (.k (.k (.k (.c .nil)))))))
                              replace hs := hs.pick (.k (.k (.k (.k (.k (.k (.c .nil)))))))
                              replace hs := hs.pick (.k (.k (.k (.k (.k (.k (.c .nil)))))))
                              replace hs := hs.pick (.k (.k (.k (.k (.k (.c (.k .nil)))))))
                              replace hs := hs.pick (.k (.k (.k (.k (.k (.k (.c .nil)))))))
                              replace hs := hs.pick (.k (.k (.k (.k (.k (.k (.c .nil)))))))
                              have e140 := some_eq H; subst e140
                              exact hJ140 _ _ ⟨hf.sub ⟨rfl, rfl, rfl, rfl, rfl, rfl, rfl, rfl, rfl, rfl, trivial⟩, hs⟩
                          · -- not s137.2.2.2.2 = 0
                            refine region_k (fun K145 hK145 => ?_)
                            refine stq hf rfl rfl rfl (ex_move hf rfl) (fun a hf => ?_)
                            refine stq hf rfl rfl rfl (ex_neq hf rfl rfl) (fun a hf => ?_)
                            refine stq hf rfl rfl rfl (ex_move hf rfl) (fun a hf => ?_)
                            replace hf := hf.castB (t := 164) rfl (ndec_t hc141)
                            replace hf := hf.castB (t := 165) rfl (ndec_t hc141)
                            refine stepN hf rfl rfl rfl (fun a hf => ?_)
                            refine stepN hf rfl rfl rfl (fun a hf => ?_)
                            refine stq hf rfl rfl rfl (ex_pickT hf rfl rfl) (fun a hf => ?_)
                            refine stq hf rfl rfl rfl (ex_move hf rfl) (fun a hf => ?_)
                            refine stepN hf rfl rfl rfl (fun a hf => ?_)
                            refine stepN hf rfl rfl rfl (fun a hf => ?_)
                            refine stepN hf rfl rfl rfl (fun a hf => ?_)
                            refine stq hf rfl rfl rfl (ex_pickT hf rfl rfl) (fun a hf => ?_)
                            refine hK145 _ _ ?_
                            replace hs := hs.keep (.k (.k (.k (.k (.k (.k (.k (.d .nil))))))))
                            replace hs := hs.pick (.k (.k (.k (.k (.k (.k (.c .nil)))))))
                            replace hs := hs.pick (.k (.k (.k (.k (.k (.k (.c .nil)))))))
                            replace hs := hs.pick (.k (.k (.k (.k (.k (.k (.c .nil)))))))
                            replace hs := hs.pick (.k (.k (.k (.k (.k (.k (.c .nil)))))))
                            replace hs := hs.pick (.k (.k (.k (.k (.k (.c (.k .nil)))))))
                            replace hs := hs.pick (.k (.k (.k (.k (.k (.k (.c .nil)))))))
                            replace hs := hs.pick (.k (.k (.k (.k (.k (.k (.c .nil)))))))
                            have e140 := some_eq H; subst e140
                            exact hJ140 _ _ ⟨hf.sub ⟨rfl, rfl, rfl, rfl, rfl, rfl, rfl, rfl, rfl, rfl, trivial⟩, hs⟩
                        · obtain ⟨hf, hs⟩ := hJ
                          replace H := HO140
                          clear HO140
                          refine itt H (fun hc146 H => ?_) (fun hc146 H => ?_)
                          · -- x140 = true
                            replace hf := hf.castB (t := 173) rfl hc146
                            refine cond_T hf rfl ?_
                            refine seq_reg (fun K147 hK147 => ?_)
                            refine stq hf rfl rfl rfl (ex_assign hf rfl) (fun a hf => ?_)
                            refine hK147 _ _ ?_
                            refine wp_ret ?_
                            refine hR113 _ _ ?_
                            refine hR112 _ _ ?_
                            refine hR108 _ _ ?_
                            refine hR98 _ _ ?_
                            have e95 := some_eq H; subst e95; replace H := el_rt HO95
                            refine hR95 _ _ ?_
                            have eR := some_eq H; subst eR
                            replace hs := hs.keep (.d (.d (.d (.d (.d (.d (.d .nil)))))))
                            exact ret1 Try.results5 hf rfl ⟨_, rfl, ⟨rfl, hs⟩⟩
                          · -- not x140 = true
                            replace hf := hf.castB (t := 173) rfl (bool_f hc146)
                            refine cond_F hf rfl ?_
                            refine wp_skip ?_
                            refine hN113 _ _ ?_
                            refine hN112 _ _ ?_
                            refine region_k (fun K148 hK148 => ?_)
                            refine stq hf rfl rfl rfl (ex_add hf rfl rfl) (fun a hf => ?_)
                            refine stq hf rfl rfl rfl (ex_move hf rfl) (fun a hf => ?_)
                            refine hK148 _ _ ?_
                            exact hL108 k108 _ _ (Nat.lt_succ_self _) ⟨s137.2.1, s137.1, s121.2.1, s121.1, s137.2.2.1, (IntKind.i64.wrap (y106 + 1)), v138, v122, hf.sub ⟨rfl, rfl, rfl, rfl, rfl, rfl, rfl, rfl, rfl, trivial⟩, hs, H⟩
                · -- not y106 < s96
                  replace hf := hf.castB (t := 119) rfl (dec_f hc111)
                  refine cond_F hf rfl ?_
                  refine wp_exit ?_
                  refine hX110 0 _ _ ?_
                  refine hX108 0 _ _ ?_
                  refine hX98 _ _ ?_
                  replace hs := hs.keep (.d (.d (.d (.d (.d (.d (.d .nil)))))))
                  have e95 := some_eq H; subst e95
                  exact hJ95 _ _ ⟨_, rfl, hf.sub trivial, hs⟩
          · obtain ⟨x95s, rfl, hf, hs⟩ := hJ
            replace H := el_go HO95
            clear HO95
            refine bnd H (fun s149 hs149 H => ?_)
            refine seq_reg (fun K150 hK150 => ?_)
            refine stepF hf rfl rfl rfl (ex_call cf_9 hf rfl) (law39_awake.calls k (hs.enter .nil) (Sr.nil _ _) hs149) (fun v w hR a hf => ?_)
            obtain ⟨rfl, hs'⟩ := hR
            replace hs := hs.step .nil hs'
            clear hs'
            refine stq hf rfl rfl rfl (ex_assign hf rfl) (fun a hf => ?_)
            refine hK150 _ _ ?_
            refine wp_ret ?_
            have eR := some_eq H; subst eR
            exact ret1 Try.results5 hf rfl ⟨_, rfl, ⟨rfl, hs⟩⟩

end Go.Proofs.Ytannodkbindlbaa.X
