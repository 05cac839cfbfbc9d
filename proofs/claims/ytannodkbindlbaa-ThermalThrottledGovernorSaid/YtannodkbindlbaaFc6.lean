/- Each function of the machine comes to what its pure function says. -/
import Derived.Test.YtannodkbindlbaaFc2
import Derived.Test.YtannodkbindlbaaFc5
import Derived.Test.YtannodkbindlbaaFb
namespace Go.Proofs.Ytannodkbindlbaa.X
open Go Go.RowKit Go.Sx
set_option linter.unusedVariables false

set_option maxRecDepth 100000 in
theorem heat_Model_Step.calls {M : Nat → Prop} {w0 : World} (k : Nat) (a0_domains : (List HeatDomain)) (a0_links : (List HeatLink)) (a0_ambient : Int) (a0_energy : (List Int)) (a0_released : Int) (a1 : (List Int)) (b0 : Nat) (v0_domains : Value) (v0_links : Value) (v0_energy : Value) (v1 : Value) {r : Int × (List Int) × (List Int) × Int} (hs : St M w0 w0 [bx b0 89 [v0_domains, v0_links, .int .i64 a0_ambient, v0_energy, .int .i64 a0_released], osl K_int64 v0_energy a0_energy]) (hr : Sr M w0 [rsl K_api_HeatDomain v0_domains a0_domains, rsl K_api_HeatLink v0_links a0_links, rsl K_int64 v1 a1])
    (h : heat_Model_Step.f k a0_domains a0_links a0_ambient a0_energy a0_released a1 = some r) : Calls Try.prog 17 #[.pointer (some ⟨b0, 0, none⟩), v1] w0 fun e w => ∃ v, e = .returned v ∧ (∃ (g0 : Value) (g1 : Value), .tuple #[g1, .int .i64 r.2.2.2] = v ∧ St M w0 w [bx b0 89 [v0_domains, v0_links, .int .i64 a0_ambient, g0, .int .i64 r.1], osl K_int64 g0 r.2.1, osl K_int64 g1 r.2.2.1]) := by
  have H := (heat_Model_Step.f.eq_1 ..).symm.trans h
  clear h
  refine enter Try.func17 rfl Try.ntmps17 rfl (fun a hf => ?_)
  refine seq_reg (fun K1 hK1 => ?_)
  refine stq hf rfl rfl rfl (ex_assign hf rfl) (fun a hf => ?_)
  refine stq hf rfl rfl rfl (ex_assign hf rfl) (fun a hf => ?_)
  refine hK1 _ _ ?_
  refine seq_n (fun Q2 hN2 hR2 hX2 => ?_)
  refine bnd H (fun s3 hs3 H => ?_)
  refine seq_reg (fun K4 hK4 => ?_)
  refine stq hf rfl rfl rfl (ex_move hf rfl) (fun a hf => ?_)
  refine stq hf rfl rfl rfl (ex_nilCheck hf rfl) (fun a hf => ?_)
  refine stq hf rfl rfl rfl (ex_fieldAddrB fa_89_0 rfl hf rfl) (fun a hf => ?_)
  refine stq hf rfl rfl rfl (ex_load sc_35 hf rfl (bx_cell (hs.get (i := 0) rfl) _ rfl)) (fun a hf => ?_)
  refine stq hf rfl rfl rfl (ex_lenS Try.underlying35 (rsl_isSl (hr.now hs (i := 0) rfl)) hf rfl) (fun a hf => ?_)
  refine stq hf rfl rfl rfl (ex_move hf rfl) (fun a hf => ?_)
  refine stepF hf rfl rfl rfl (ex_call cf_33 hf rfl) (heat_validPower.calls k (a0_domains.length : Int) a1 v1 (hs.enter (.k (.k .nil))) (Sr.old hr hs (.k (.k .nil)) (i := 2) rfl (fun _ h => h) (fun _ h => h) (Sr.nil _ _)) hs3) (fun v w hR a hf => ?_)
  obtain ⟨rfl, hs'⟩ := hR
  replace hs := hs.step (.k (.k .nil)) hs'
  clear hs'
  refine stq hf rfl rfl rfl (ex_not hf rfl) (fun a hf => ?_)
  refine hK4 _ _ ?_
  refine itt H (fun hc5 H => ?_) (fun hc5 H => ?_)
  · -- s3 = true
    replace hf := hf.castB (t := 19) rfl hc5
    replace hf := hf.castB (t := 20) rfl (nbool_f hc5)
    refine cond_F hf rfl ?_
    refine wp_skip ?_
    refine hN2 _ _ ?_
    refine bnd H (fun s6 hs6 H => ?_)
    refine seq_reg (fun K8 hK8 => ?_)
    refine stq hf rfl rfl rfl (ex_move hf rfl) (fun a hf => ?_)
    refine stepF hf rfl rfl rfl (ex_call cf_34 hf rfl) (heat_Model_temperatures.calls k a0_domains a0_links a0_ambient a0_energy a0_released b0 v0_domains v0_links v0_energy (hs.enter (.k (.k .nil))) (Sr.own hs (.k (.k .nil)) (i := 0) rfl (fun _ h => h) (fun _ h => h) (Sr.old hr hs (.k (.k .nil)) (i := 0) rfl (fun _ h => h) (fun _ h => h) (Sr.old hr hs (.k (.k .nil)) (i := 1) rfl (fun _ h => h) (fun _ h => h) (Sr.own hs (.k (.k .nil)) (i := 1) rfl osl_rsl (fun _ h => h.1) (Sr.nil _ _))))) hs6) (fun v w hR a hf => ?_)
    obtain ⟨v7, rfl, hs'⟩ := hR
    replace hs := hs.step (.k (.k .nil)) hs'
    clear hs'
    refine stq hf rfl rfl rfl (ex_assign hf rfl) (fun a hf => ?_)
    refine hK8 _ _ ?_
    refine bnd H (fun x9 H9 HO9 => ?_)
    clear H
    refine seq_cut (fun a w => Fr a 117 [(0, .pointer (some ⟨b0, 0, none⟩)), (6, v7)] ∧ St M w0 w [bx b0 89 [v0_domains, v0_links, .int .i64 a0_ambient, v0_energy, .int .i64 x9.2], osl K_int64 v0_energy x9.1, osl K_int64 v7 s6]) (fun Q9 hJ9 hR9 hX9 => ?_) (fun a w hJ => ?_)
    · replace H := H9
      refine seq_reg (fun K10 hK10 => ?_)
      refine stq hf rfl rfl rfl (ex_move hf rfl) (fun a hf => ?_)
      refine stq hf rfl rfl rfl (ex_nilCheck hf rfl) (fun a hf => ?_)
      refine stq hf rfl rfl rfl (ex_fieldAddrB fa_89_0 rfl hf rfl) (fun a hf => ?_)
      refine stq hf rfl rfl rfl (ex_load sc_35 hf rfl (bx_cell (hs.get (i := 1) rfl) _ rfl)) (fun a hf => ?_)
      refine stq hf rfl rfl rfl (ex_lenS Try.underlying35 (rsl_isSl (hr.now hs (i := 0) rfl)) hf rfl) (fun a hf => ?_)
      refine stq hf rfl rfl rfl (ex_move hf rfl) (fun a hf => ?_)
      refine hK10 _ _ ?_
      refine block_k (fun Q11 hN11 hR11 hX11 hY11 => ?_)
      refine loop_k (fun n a w => ∃ (y12 : (List Int)) (y13 : Int) (y14 : Int), Fr a 117 [(0, .pointer (some ⟨b0, 0, none⟩)), (1, v1), (6, v7), (26, v0_domains), (27, .int .i64 (a0_domains.length : Int)), (28, .int .i64 y14)] ∧ St M w0 w [bx b0 89 [v0_domains, v0_links, .int .i64 a0_ambient, v0_energy, .int .i64 y13], osl K_int64 v0_energy y12, osl K_int64 v7 s6] ∧ heat_Model_Step.l1 n a0_domains s6 a1 a0_ambient y12 y13 y14 = some x9) k ?_ (fun n16 a w hI Q16 hL16 hR16 hX16 => ?_)
      · -- at the start
        replace hs := hs.pick (.k (.k (.c .nil)))
        replace hs := hs.pick (.k (.k (.c .nil)))
        exact ⟨a0_energy, a0_released, 0, hf.sub ⟨rfl, rfl, rfl, rfl, rfl, rfl, trivial⟩, hs, H⟩
      · obtain ⟨y12, y13, y14, hf, hs, H⟩ := hI
        cases n16 with
        | zero => exact absurd H (by rw [heat_Model_Step.l1.eq_1]; intro h; cases h)
        | succ k16 =>
          replace H := (heat_Model_Step.l1.eq_2 ..).symm.trans H
          refine seq_reg (fun K17 hK17 => ?_)
          refine stq hf rfl rfl rfl (ex_lss hf rfl rfl) (fun a hf => ?_)
          refine hK17 _ _ ?_
          refine seq_n (fun Q18 hN18 hR18 hX18 => ?_)
          refine itt H (fun hc19 H => ?_) (fun hc19 H => ?_)
          · -- y14 < (a0_domains.length : Int)
            replace hf := hf.castB (t := 29) rfl (dec_t hc19)
            refine cond_T hf rfl ?_
            refine wp_skip ?_
            refine hN18 _ _ ?_
            refine seq_n (fun Q20 hN20 hR20 hX20 => ?_)
            refine block_k (fun Q21 hN21 hR21 hX21 hY21 => ?_)
            refine ck_some H (fun hc22 H => ?_)
            refine seq_reg (fun K24 hK24 => ?_)
            refine stq hf rfl rfl rfl (ex_move hf rfl) (fun a hf => ?_)
            refine stq hf rfl rfl rfl (ex_indexAddr sa_35 (rsl_isSl (hr.now hs (i := 0) rfl)) hc22.1 hc22.2 hf rfl rfl) (fun a hf => ?_)
            refine stq hf rfl rfl rfl (ex_loadA (cs := [.int .i64 ((gd HeatDomain.zero a0_domains y14).Capacity), .int .i64 ((gd HeatDomain.zero a0_domains y14).Ambient)]) ag_33 hf rfl (el_cells (K := K_api_HeatDomain) (rsl_rd (hr.now hs (i := 0) rfl)) hc22.1 hc22.2 rfl)) (fun a hf => ?_)
            refine stepV hf rfl rfl rfl (er_alloc hs ti_33 (cs := [.int .i64 0, .int .i64 0]) rfl) (fun v w hR a hf => ?_)
            obtain ⟨b23, rfl, hs⟩ := hR
            refine stq hf rfl rfl rfl (ex_assign hf rfl) (fun a hf => ?_)
            refine stepS hf rfl rfl (er_storeAB (vs := [.int .i64 ((gd HeatDomain.zero a0_domains y14).Capacity), .int .i64 ((gd HeatDomain.zero a0_domains y14).Ambient)]) (cs' := [.int .i64 ((gd HeatDomain.zero a0_domains y14).Capacity), .int .i64 ((gd HeatDomain.zero a0_domains y14).Ambient)]) hs (.c (.k (.k (.k .nil)))) sz_33 hf rfl rfl (all1 rfl (all1 rfl (all1_nil))) rfl rfl) (fun w hs => ?_)
            refine hK24 _ _ ?_
            refine seq_n (fun Q25 hN25 hR25 hX25 => ?_)
            refine ck_some H (fun hc26 H => ?_)
            refine region_d fol 12 [(0, .pointer (some ⟨b0, 0, none⟩)), (1, v1), (6, v7), (7, .int .i64 y14), (8, .pointer (some ⟨b23, 0, none⟩)), (26, v0_domains), (27, .int .i64 (a0_domains.length : Int)), (28, .int .i64 y14)] [(0, .pointer (some ⟨b23, 1, none⟩)), (1, .int .i64 ((gd HeatDomain.zero a0_domains y14).Ambient)), (2, v7), (3, .int .i64 y14), (4, .pointer (some (sla v7 (y14.toNat * 1)))), (5, .int .i64 (gd 0 s6 y14)), (6, .pointer (some ⟨b0, 0, none⟩)), (7, .pointer (some ⟨b0, 0, none⟩)), (8, .pointer (some ⟨b0, 2, none⟩)), (9, .int .i64 a0_ambient), (10, .int .i64 (IntKind.i64.wrap ((gd 0 s6 y14) - a0_ambient))), (11, .int .i64 (IntKind.i64.wrap (((gd HeatDomain.zero a0_domains y14).Ambient) * (IntKind.i64.wrap ((gd 0 s6 y14) - a0_ambient)))))] [] (fun w => (bx b23 33 [.int .i64 ((gd HeatDomain.zero a0_domains y14).Capacity), .int .i64 ((gd HeatDomain.zero a0_domains y14).Ambient)]).ok w ∧ (osl K_int64 v7 s6).ok w ∧ (bx b0 89 [v0_domains, v0_links, .int .i64 a0_ambient, v0_energy, .int .i64 y13]).ok w ∧ True) (fun w => St M w0 w [bx b23 33 [.int .i64 ((gd HeatDomain.zero a0_domains y14).Capacity), .int .i64 ((gd HeatDomain.zero a0_domains y14).Ambient)], bx b0 89 [v0_domains, v0_links, .int .i64 a0_ambient, v0_energy, .int .i64 y13], osl K_int64 v0_energy y12, osl K_int64 v7 s6]) hf ⟨rfl, rfl, rfl, rfl, rfl, rfl, rfl, rfl, trivial⟩ (by kernel_rfl) (by kernel_rfl) rfl (by decide) ⟨hs.drew.get (i := 0) rfl, hs.drew.get (i := 3) rfl, hs.drew.get (i := 1) rfl, trivial⟩ hs.drew (.cons (⟨_, _, rfl, rfl, rfl, rfl, fun a w hR hf => .inl ⟨wanted_yes hf rfl, ex_fieldAddrB fa_33_1 rfl hf rfl⟩⟩) (.cons (⟨_, _, rfl, rfl, rfl, rfl, fun a w hR hf => .inl ⟨wanted_yes hf rfl, ex_load sc_2 hf rfl (bx_cell (hR.1) _ rfl)⟩⟩) (.cons (⟨_, _, rfl, rfl, rfl, rfl, fun a w hR hf => .inl ⟨wanted_yes hf rfl, ex_move hf rfl⟩⟩) (.cons (⟨_, _, rfl, rfl, rfl, rfl, fun a w hR hf => .inl ⟨wanted_yes hf rfl, ex_move hf rfl⟩⟩) (.cons (⟨_, _, rfl, rfl, rfl, rfl, fun a w hR hf => .inl ⟨wanted_yes hf rfl, ex_indexAddr sa_34 (rsl_isSl (osl_rsl _ hR.2.1)) hc26.1 hc26.2 hf rfl rfl⟩⟩) (.cons (⟨_, _, rfl, rfl, rfl, rfl, fun a w hR hf => .inl ⟨wanted_yes hf rfl, ex_load sc_2 hf rfl (el_cell (K := K_int64) (f := 0) (rsl_rd (osl_rsl _ hR.2.1)) hc26.1 hc26.2 rfl)⟩⟩) (.cons (⟨_, _, rfl, rfl, rfl, rfl, fun a w hR hf => .inl ⟨wanted_yes hf rfl, ex_move hf rfl⟩⟩) (.cons (⟨_, _, rfl, rfl, rfl, rfl, fun a w hR hf => .inl ⟨wanted_yes hf rfl, ex_nilCheck hf rfl⟩⟩) (.cons (⟨_, _, rfl, rfl, rfl, rfl, fun a w hR hf => .inl ⟨wanted_yes hf rfl, ex_fieldAddrB fa_89_2 rfl hf rfl⟩⟩) (.cons (⟨_, _, rfl, rfl, rfl, rfl, fun a w hR hf => .inl ⟨wanted_yes hf rfl, ex_load sc_2 hf rfl (bx_cell (hR.2.2.1) _ rfl)⟩⟩) (.cons (⟨_, _, rfl, rfl, rfl, rfl, fun a w hR hf => .inl ⟨wanted_yes hf rfl, ex_sub hf rfl rfl⟩⟩) (.cons (⟨_, _, rfl, rfl, rfl, rfl, fun a w hR hf => .inl ⟨wanted_yes hf rfl, ex_mul hf rfl rfl⟩⟩) (.nil))))))))))))) (fun K27 hK27 => ?_)
            refine RW.zero (by kernel_rfl) (by kernel_rfl) [(0, .pointer (some ⟨b0, 0, none⟩)), (1, v1), (6, v7), (7, .int .i64 y14), (26, v0_domains), (27, .int .i64 (a0_domains.length : Int)), (28, .int .i64 y14), (44, .int .i64 (IntKind.i64.wrap (((gd HeatDomain.zero a0_domains y14).Ambient) * (IntKind.i64.wrap ((gd 0 s6 y14) - a0_ambient)))))] ⟨rfl, rfl, rfl, rfl, rfl, rfl, rfl, rfl, trivial⟩ (fun a w hR hs hf => ?_)
            refine stq hf rfl rfl rfl (ex_assign hf rfl) (fun a hf => ?_)
            refine hK27 _ _ ?_
            refine hN25 _ _ ?_
            refine seq_n (fun Q28 hN28 hR28 hX28 => ?_)
            refine ck_some H (fun hc29 H => ?_)
            refine ck_some H (fun hc30 H => ?_)
            refine region_d fol 14 [(0, .pointer (some ⟨b0, 0, none⟩)), (1, v1), (6, v7), (7, .int .i64 y14), (9, .int .i64 (IntKind.i64.wrap (((gd HeatDomain.zero a0_domains y14).Ambient) * (IntKind.i64.wrap ((gd 0 s6 y14) - a0_ambient))))), (26, v0_domains), (27, .int .i64 (a0_domains.length : Int)), (28, .int .i64 y14)] [(0, .pointer (some ⟨b0, 0, none⟩)), (1, .pointer (some ⟨b0, 0, none⟩)), (2, .pointer (some ⟨b0, 3, none⟩)), (3, v0_energy), (4, .int .i64 y14), (5, .pointer (some (sla v0_energy (y14.toNat * 1)))), (6, .int .i64 (gd 0 y12 y14)), (7, v1), (8, .int .i64 y14), (9, .pointer (some (sla v1 (y14.toNat * 1)))), (10, .int .i64 (gd 0 a1 y14)), (11, .int .i64 (IntKind.i64.wrap (((gd HeatDomain.zero a0_domains y14).Ambient) * (IntKind.i64.wrap ((gd 0 s6 y14) - a0_ambient))))), (12, .int .i64 (IntKind.i64.wrap ((gd 0 a1 y14) - (IntKind.i64.wrap (((gd HeatDomain.zero a0_domains y14).Ambient) * (IntKind.i64.wrap ((gd 0 s6 y14) - a0_ambient))))))), (13, .int .i64 (IntKind.i64.wrap ((gd 0 y12 y14) + (IntKind.i64.wrap ((gd 0 a1 y14) - (IntKind.i64.wrap (((gd HeatDomain.zero a0_domains y14).Ambient) * (IntKind.i64.wrap ((gd 0 s6 y14) - a0_ambient)))))))))] [] (fun w => (bx b0 89 [v0_domains, v0_links, .int .i64 a0_ambient, v0_energy, .int .i64 y13]).ok w ∧ (osl K_int64 v0_energy y12).ok w ∧ (rsl K_int64 v1 a1).ok w ∧ True) (fun w => St M w0 w [bx b23 33 [.int .i64 ((gd HeatDomain.zero a0_domains y14).Capacity), .int .i64 ((gd HeatDomain.zero a0_domains y14).Ambient)], bx b0 89 [v0_domains, v0_links, .int .i64 a0_ambient, v0_energy, .int .i64 y13], osl K_int64 v0_energy y12, osl K_int64 v7 s6]) hf ⟨rfl, rfl, rfl, rfl, rfl, rfl, rfl, rfl, trivial⟩ (by kernel_rfl) (by kernel_rfl) rfl (by decide) ⟨hs.drew.get (i := 1) rfl, hs.drew.get (i := 2) rfl, hr.now hs.drew (i := 2) rfl, trivial⟩ hs.drew (.cons (⟨_, _, rfl, rfl, rfl, rfl, fun a w hR hf => .inl ⟨wanted_yes hf rfl, ex_move hf rfl⟩⟩) (.cons (⟨_, _, rfl, rfl, rfl, rfl, fun a w hR hf => .inl ⟨wanted_yes hf rfl, ex_nilCheck hf rfl⟩⟩) (.cons (⟨_, _, rfl, rfl, rfl, rfl, fun a w hR hf => .inl ⟨wanted_yes hf rfl, ex_fieldAddrB fa_89_3 rfl hf rfl⟩⟩) (.cons (⟨_, _, rfl, rfl, rfl, rfl, fun a w hR hf => .inl ⟨wanted_yes hf rfl, ex_load sc_34 hf rfl (bx_cell (hR.1) _ rfl)⟩⟩) (.cons (⟨_, _, rfl, rfl, rfl, rfl, fun a w hR hf => .inl ⟨wanted_yes hf rfl, ex_move hf rfl⟩⟩) (.cons (⟨_, _, rfl, rfl, rfl, rfl, fun a w hR hf => .inl ⟨wanted_yes hf rfl, ex_indexAddr sa_34 (rsl_isSl (osl_rsl _ hR.2.1)) hc29.1 hc29.2 hf rfl rfl⟩⟩) (.cons (⟨_, _, rfl, rfl, rfl, rfl, fun a w hR hf => .inl ⟨wanted_yes hf rfl, ex_load sc_2 hf rfl (el_cell (K := K_int64) (f := 0) (rsl_rd (osl_rsl _ hR.2.1)) hc29.1 hc29.2 rfl)⟩⟩) (.cons (⟨_, _, rfl, rfl, rfl, rfl, fun a w hR hf => .inl ⟨wanted_yes hf rfl, ex_move hf rfl⟩⟩) (.cons (⟨_, _, rfl, rfl, rfl, rfl, fun a w hR hf => .inl ⟨wanted_yes hf rfl, ex_move hf rfl⟩⟩) (.cons (⟨_, _, rfl, rfl, rfl, rfl, fun a w hR hf => .inl ⟨wanted_yes hf rfl, ex_indexAddr sa_34 (rsl_isSl hR.2.2.1) hc30.1 hc30.2 hf rfl rfl⟩⟩) (.cons (⟨_, _, rfl, rfl, rfl, rfl, fun a w hR hf => .inl ⟨wanted_yes hf rfl, ex_load sc_2 hf rfl (el_cell (K := K_int64) (f := 0) (rsl_rd hR.2.2.1) hc30.1 hc30.2 rfl)⟩⟩) (.cons (⟨_, _, rfl, rfl, rfl, rfl, fun a w hR hf => .inl ⟨wanted_yes hf rfl, ex_move hf rfl⟩⟩) (.cons (⟨_, _, rfl, rfl, rfl, rfl, fun a w hR hf => .inl ⟨wanted_yes hf rfl, ex_sub hf rfl rfl⟩⟩) (.cons (⟨_, _, rfl, rfl, rfl, rfl, fun a w hR hf => .inl ⟨wanted_yes hf rfl, ex_add hf rfl rfl⟩⟩) (.nil))))))))))))))) (fun K31 hK31 => ?_)
            refine RW.zero (by kernel_rfl) (by kernel_rfl) [(0, .pointer (some ⟨b0, 0, none⟩)), (1, v1), (6, v7), (9, .int .i64 (IntKind.i64.wrap (((gd HeatDomain.zero a0_domains y14).Ambient) * (IntKind.i64.wrap ((gd 0 s6 y14) - a0_ambient))))), (26, v0_domains), (27, .int .i64 (a0_domains.length : Int)), (28, .int .i64 y14), (48, v0_energy), (49, .int .i64 y14), (58, .int .i64 (IntKind.i64.wrap ((gd 0 y12 y14) + (IntKind.i64.wrap ((gd 0 a1 y14) - (IntKind.i64.wrap (((gd HeatDomain.zero a0_domains y14).Ambient) * (IntKind.i64.wrap ((gd 0 s6 y14) - a0_ambient)))))))))] ⟨rfl, rfl, rfl, rfl, rfl, rfl, rfl, rfl, rfl, rfl, trivial⟩ (fun a w hR hs hf => ?_)
            refine stq hf rfl rfl rfl (ex_indexAddr sa_34 (rsl_isSl (osl_rsl _ (hs.get (i := 2) rfl))) hc29.1 hc29.2 hf rfl rfl) (fun a hf => ?_)
            refine stepS hf rfl rfl (er_storeE (K := K_int64) (f := 0) (x' := (IntKind.i64.wrap ((gd 0 y12 y14) + (IntKind.i64.wrap ((gd 0 a1 y14) - (IntKind.i64.wrap (((gd HeatDomain.zero a0_domains y14).Ambient) * (IntKind.i64.wrap ((gd 0 s6 y14) - a0_ambient))))))))) hs (.k (.k (.c (.k .nil)))) hc29.1 hc29.2 hf rfl rfl rfl sz_2 rfl rfl) (fun w hs => ?_)
            refine hK31 _ _ ?_
            refine hN28 _ _ ?_
            refine region_k (fun K32 hK32 => ?_)
            refine stq hf rfl rfl rfl (ex_move hf rfl) (fun a hf => ?_)
            refine stq hf rfl rfl rfl (ex_nilCheck hf rfl) (fun a hf => ?_)
            refine stq hf rfl rfl rfl (ex_fieldAddrB fa_89_4 rfl hf rfl) (fun a hf => ?_)
            refine stq hf rfl rfl rfl (ex_load sc_2 hf rfl (bx_cell (hs.get (i := 2) rfl) _ rfl)) (fun a hf => ?_)
            refine stq hf rfl rfl rfl (ex_move hf rfl) (fun a hf => ?_)
            refine stq hf rfl rfl rfl (ex_add hf rfl rfl) (fun a hf => ?_)
            refine stq hf rfl rfl rfl (ex_nilCheck hf rfl) (fun a hf => ?_)
            refine stq hf rfl rfl rfl (ex_fieldAddrB fa_89_4 rfl hf rfl) (fun a hf => ?_)
            refine stepS hf rfl rfl (er_storeB hs (.k (.k (.c (.k .nil)))) hf rfl rfl rfl sz_2 rfl) (fun w hs => ?_)
            refine hK32 _ _ ?_
            refine hN21 _ _ ?_
            refine hN20 _ _ ?_
            refine region_k (fun K33 hK33 => ?_)
            refine stq hf rfl rfl rfl (ex_add hf rfl rfl) (fun a hf => ?_)
            refine stq hf rfl rfl rfl (ex_move hf rfl) (fun a hf => ?_)
            refine hK33 _ _ ?_
            replace hs := hs.keep (.k (.k (.d (.k .nil))))
            exact hL16 k16 _ _ (Nat.lt_succ_self _) ⟨(y12.set y14.toNat (IntKind.i64.wrap ((gd 0 y12 y14) + (IntKind.i64.wrap ((gd 0 a1 y14) - (IntKind.i64.wrap (((gd HeatDomain.zero a0_domains y14).Ambient) * (IntKind.i64.wrap ((gd 0 s6 y14) - a0_ambient))))))))), (IntKind.i64.wrap (y13 + (IntKind.i64.wrap (((gd HeatDomain.zero a0_domains y14).Ambient) * (IntKind.i64.wrap ((gd 0 s6 y14) - a0_ambient)))))), (IntKind.i64.wrap (y14 + 1)), hf.sub ⟨rfl, rfl, rfl, rfl, rfl, rfl, trivial⟩, hs, H⟩
          · -- not y14 < (a0_domains.length : Int)
            replace hf := hf.castB (t := 29) rfl (dec_f hc19)
            refine cond_F hf rfl ?_
            refine wp_exit ?_
            refine hX18 0 _ _ ?_
            refine hX16 0 _ _ ?_
            refine hX11 _ _ ?_
            have e9 := some_eq H; subst e9
            exact hJ9 _ _ ⟨hf.sub ⟨rfl, rfl, trivial⟩, hs⟩
    · obtain ⟨hf, hs⟩ := hJ
      replace H := HO9
      clear HO9
      refine bnd H (fun x34 H34 HO34 => ?_)
      clear H
      refine seq_cut (fun a w => Fr a 117 [(0, .pointer (some ⟨b0, 0, none⟩))] ∧ St M w0 w [bx b0 89 [v0_domains, v0_links, .int .i64 a0_ambient, v0_energy, .int .i64 x9.2], osl K_int64 v0_energy x34]) (fun Q34 hJ34 hR34 hX34 => ?_) (fun a w hJ => ?_)
      · replace H := H34
        refine seq_reg (fun K35 hK35 => ?_)
        refine stq hf rfl rfl rfl (ex_move hf rfl) (fun a hf => ?_)
        refine stq hf rfl rfl rfl (ex_nilCheck hf rfl) (fun a hf => ?_)
        refine stq hf rfl rfl rfl (ex_fieldAddrB fa_89_1 rfl hf rfl) (fun a hf => ?_)
        refine stq hf rfl rfl rfl (ex_load sc_36 hf rfl (bx_cell (hs.get (i := 0) rfl) _ rfl)) (fun a hf => ?_)
        refine stq hf rfl rfl rfl (ex_lenS Try.underlying36 (rsl_isSl (hr.now hs (i := 1) rfl)) hf rfl) (fun a hf => ?_)
        refine stq hf rfl rfl rfl (ex_move hf rfl) (fun a hf => ?_)
        refine hK35 _ _ ?_
        refine block_k (fun Q36 hN36 hR36 hX36 hY36 => ?_)
        refine loop_k (fun n a w => ∃ (y37 : (List Int)) (y38 : Int), Fr a 117 [(0, .pointer (some ⟨b0, 0, none⟩)), (6, v7), (72, v0_links), (73, .int .i64 (a0_links.length : Int)), (74, .int .i64 y38)] ∧ St M w0 w [bx b0 89 [v0_domains, v0_links, .int .i64 a0_ambient, v0_energy, .int .i64 x9.2], osl K_int64 v0_energy y37, osl K_int64 v7 s6] ∧ heat_Model_Step.l2 n a0_links s6 y37 y38 = some x34) k ?_ (fun n40 a w hI Q40 hL40 hR40 hX40 => ?_)
        · -- at the start
          exact ⟨x9.1, 0, hf.sub ⟨rfl, rfl, rfl, rfl, rfl, trivial⟩, hs, H⟩
        · obtain ⟨y37, y38, hf, hs, H⟩ := hI
          cases n40 with
          | zero => exact absurd H (by rw [heat_Model_Step.l2.eq_1]; intro h; cases h)
          | succ k40 =>
            replace H := (heat_Model_Step.l2.eq_2 ..).symm.trans H
            refine seq_reg (fun K41 hK41 => ?_)
            refine stq hf rfl rfl rfl (ex_lss hf rfl rfl) (fun a hf => ?_)
            refine hK41 _ _ ?_
            refine seq_n (fun Q42 hN42 hR42 hX42 => ?_)
            refine itt H (fun hc43 H => ?_) (fun hc43 H => ?_)
            · -- y38 < (a0_links.length : Int)
              replace hf := hf.castB (t := 75) rfl (dec_t hc43)
              refine cond_T hf rfl ?_
              refine wp_skip ?_
              refine hN42 _ _ ?_
              refine seq_n (fun Q44 hN44 hR44 hX44 => ?_)
              refine block_k (fun Q45 hN45 hR45 hX45 hY45 => ?_)
              refine ck_some H (fun hc46 H => ?_)
              refine seq_reg (fun K48 hK48 => ?_)
              refine stq hf rfl rfl rfl (ex_indexAddr sa_36 (rsl_isSl (hr.now hs (i := 1) rfl)) hc46.1 hc46.2 hf rfl rfl) (fun a hf => ?_)
              refine stq hf rfl rfl rfl (ex_loadA (cs := [.int .i64 ((gd HeatLink.zero a0_links y38).A), .int .i64 ((gd HeatLink.zero a0_links y38).B), .int .i64 ((gd HeatLink.zero a0_links y38).Conductance)]) ag_84 hf rfl (el_cells (K := K_api_HeatLink) (rsl_rd (hr.now hs (i := 1) rfl)) hc46.1 hc46.2 rfl)) (fun a hf => ?_)
              refine stepV hf rfl rfl rfl (er_alloc hs ti_84 (cs := [.int .i64 0, .int .i64 0, .int .i64 0]) rfl) (fun v w hR a hf => ?_)
              obtain ⟨b47, rfl, hs⟩ := hR
              refine stepS hf rfl rfl (er_storeAB (vs := [.int .i64 ((gd HeatLink.zero a0_links y38).A), .int .i64 ((gd HeatLink.zero a0_links y38).B), .int .i64 ((gd HeatLink.zero a0_links y38).Conductance)]) (cs' := [.int .i64 ((gd HeatLink.zero a0_links y38).A), .int .i64 ((gd HeatLink.zero a0_links y38).B), .int .i64 ((gd HeatLink.zero a0_links y38).Conductance)]) hs (.c (.k (.k (.k .nil)))) sz_84 hf rfl rfl (all1 rfl (all1 rfl (all1 rfl (all1_nil)))) rfl rfl) (fun w hs => ?_)
              refine hK48 _ _ ?_
              refine seq_n (fun Q49 hN49 hR49 hX49 => ?_)
              refine ck_some H (fun hc50 H => ?_)
              refine ck_some H (fun hc51 H => ?_)
              refine region_d fol 14 [(0, .pointer (some ⟨b0, 0, none⟩)), (6, v7), (11, .pointer (some ⟨b47, 0, none⟩)), (72, v0_links), (73, .int .i64 (a0_links.length : Int)), (74, .int .i64 y38)] [(0, .pointer (some ⟨b47, 2, none⟩)), (1, .int .i64 ((gd HeatLink.zero a0_links y38).Conductance)), (2, v7), (3, .pointer (some ⟨b47, 0, none⟩)), (4, .int .i64 ((gd HeatLink.zero a0_links y38).A)), (5, .pointer (some (sla v7 (((gd HeatLink.zero a0_links y38).A).toNat * 1)))), (6, .int .i64 (gd 0 s6 ((gd HeatLink.zero a0_links y38).A))), (7, v7), (8, .pointer (some ⟨b47, 1, none⟩)), (9, .int .i64 ((gd HeatLink.zero a0_links y38).B)), (10, .pointer (some (sla v7 (((gd HeatLink.zero a0_links y38).B).toNat * 1)))), (11, .int .i64 (gd 0 s6 ((gd HeatLink.zero a0_links y38).B))), (12, .int .i64 (IntKind.i64.wrap ((gd 0 s6 ((gd HeatLink.zero a0_links y38).A)) - (gd 0 s6 ((gd HeatLink.zero a0_links y38).B))))), (13, .int .i64 (IntKind.i64.wrap (((gd HeatLink.zero a0_links y38).Conductance) * (IntKind.i64.wrap ((gd 0 s6 ((gd HeatLink.zero a0_links y38).A)) - (gd 0 s6 ((gd HeatLink.zero a0_links y38).B)))))))] [] (fun w => (bx b47 84 [.int .i64 ((gd HeatLink.zero a0_links y38).A), .int .i64 ((gd HeatLink.zero a0_links y38).B), .int .i64 ((gd HeatLink.zero a0_links y38).Conductance)]).ok w ∧ (osl K_int64 v7 s6).ok w ∧ True) (fun w => St M w0 w [bx b47 84 [.int .i64 ((gd HeatLink.zero a0_links y38).A), .int .i64 ((gd HeatLink.zero a0_links y38).B), .int .i64 ((gd HeatLink.zero a0_links y38).Conductance)], bx b0 89 [v0_domains, v0_links, .int .i64 a0_ambient, v0_energy, .int .i64 x9.2], osl K_int64 v0_energy y37, osl K_int64 v7 s6]) hf ⟨rfl, rfl, rfl, rfl, rfl, rfl, trivial⟩ (by kernel_rfl) (by kernel_rfl) rfl (by decide) ⟨hs.drew.get (i := 0) rfl, hs.drew.get (i := 3) rfl, trivial⟩ hs.drew (.cons (⟨_, _, rfl, rfl, rfl, rfl, fun a w hR hf => .inl ⟨wanted_yes hf rfl, ex_fieldAddrB fa_84_2 rfl hf rfl⟩⟩) (.cons (⟨_, _, rfl, rfl, rfl, rfl, fun a w hR hf => .inl ⟨wanted_yes hf rfl, ex_load sc_2 hf rfl (bx_cell (hR.1) _ rfl)⟩⟩) (.cons (⟨_, _, rfl, rfl, rfl, rfl, fun a w hR hf => .inl ⟨wanted_yes hf rfl, ex_move hf rfl⟩⟩) (.cons (⟨_, _, rfl, rfl, rfl, rfl, fun a w hR hf => .inl ⟨wanted_yes hf rfl, ex_fieldAddrB fa_84_0 rfl hf rfl⟩⟩) (.cons (⟨_, _, rfl, rfl, rfl, rfl, fun a w hR hf => .inl ⟨wanted_yes hf rfl, ex_load sc_3 hf rfl (bx_cell (hR.1) _ rfl)⟩⟩) (.cons (⟨_, _, rfl, rfl, rfl, rfl, fun a w hR hf => .inl ⟨wanted_yes hf rfl, ex_indexAddr sa_34 (rsl_isSl (osl_rsl _ hR.2.1)) hc50.1 hc50.2 hf rfl rfl⟩⟩) (.cons (⟨_, _, rfl, rfl, rfl, rfl, fun a w hR hf => .inl ⟨wanted_yes hf rfl, ex_load sc_2 hf rfl (el_cell (K := K_int64) (f := 0) (rsl_rd (osl_rsl _ hR.2.1)) hc50.1 hc50.2 rfl)⟩⟩) (.cons (⟨_, _, rfl, rfl, rfl, rfl, fun a w hR hf => .inl ⟨wanted_yes hf rfl, ex_move hf rfl⟩⟩) (.cons (⟨_, _, rfl, rfl, rfl, rfl, fun a w hR hf => .inl ⟨wanted_yes hf rfl, ex_fieldAddrB fa_84_1 rfl hf rfl⟩⟩) (.cons (⟨_, _, rfl, rfl, rfl, rfl, fun a w hR hf => .inl ⟨wanted_yes hf rfl, ex_load sc_3 hf rfl (bx_cell (hR.1) _ rfl)⟩⟩) (.cons (⟨_, _, rfl, rfl, rfl, rfl, fun a w hR hf => .inl ⟨wanted_yes hf rfl, ex_indexAddr sa_34 (rsl_isSl (osl_rsl _ hR.2.1)) hc51.1 hc51.2 hf rfl rfl⟩⟩) (.cons (⟨_, _, rfl, rfl, rfl, rfl, fun a w hR hf => .inl ⟨wanted_yes hf rfl, ex_load sc_2 hf rfl (el_cell (K := K_int64) (f := 0) (rsl_rd (osl_rsl _ hR.2.1)) hc51.1 hc51.2 rfl)⟩⟩) (.cons (⟨_, _, rfl, rfl, rfl, rfl, fun a w hR hf => .inl ⟨wanted_yes hf rfl, ex_sub hf rfl rfl⟩⟩) (.cons (⟨_, _, rfl, rfl, rfl, rfl, fun a w hR hf => .inl ⟨wanted_yes hf rfl, ex_mul hf rfl rfl⟩⟩) (.nil))))))))))))))) (fun K52 hK52 => ?_)
              refine RW.zero (by kernel_rfl) (by kernel_rfl) [(0, .pointer (some ⟨b0, 0, none⟩)), (6, v7), (11, .pointer (some ⟨b47, 0, none⟩)), (72, v0_links), (73, .int .i64 (a0_links.length : Int)), (74, .int .i64 y38), (91, .int .i64 (IntKind.i64.wrap (((gd HeatLink.zero a0_links y38).Conductance) * (IntKind.i64.wrap ((gd 0 s6 ((gd HeatLink.zero a0_links y38).A)) - (gd 0 s6 ((gd HeatLink.zero a0_links y38).B)))))))] ⟨rfl, rfl, rfl, rfl, rfl, rfl, rfl, trivial⟩ (fun a w hR hs hf => ?_)
              refine stq hf rfl rfl rfl (ex_assign hf rfl) (fun a hf => ?_)
              refine hK52 _ _ ?_
              refine hN49 _ _ ?_
              refine seq_n (fun Q53 hN53 hR53 hX53 => ?_)
              refine ck_some H (fun hc54 H => ?_)
              refine region_d fol 10 [(0, .pointer (some ⟨b0, 0, none⟩)), (6, v7), (11, .pointer (some ⟨b47, 0, none⟩)), (12, .int .i64 (IntKind.i64.wrap (((gd HeatLink.zero a0_links y38).Conductance) * (IntKind.i64.wrap ((gd 0 s6 ((gd HeatLink.zero a0_links y38).A)) - (gd 0 s6 ((gd HeatLink.zero a0_links y38).B))))))), (72, v0_links), (73, .int .i64 (a0_links.length : Int)), (74, .int .i64 y38)] [(0, .pointer (some ⟨b0, 0, none⟩)), (1, .pointer (some ⟨b0, 0, none⟩)), (2, .pointer (some ⟨b0, 3, none⟩)), (3, v0_energy), (4, .pointer (some ⟨b47, 0, none⟩)), (5, .int .i64 ((gd HeatLink.zero a0_links y38).A)), (6, .pointer (some (sla v0_energy (((gd HeatLink.zero a0_links y38).A).toNat * 1)))), (7, .int .i64 (gd 0 y37 ((gd HeatLink.zero a0_links y38).A))), (8, .int .i64 (IntKind.i64.wrap (((gd HeatLink.zero a0_links y38).Conductance) * (IntKind.i64.wrap ((gd 0 s6 ((gd HeatLink.zero a0_links y38).A)) - (gd 0 s6 ((gd HeatLink.zero a0_links y38).B))))))), (9, .int .i64 (IntKind.i64.wrap ((gd 0 y37 ((gd HeatLink.zero a0_links y38).A)) - (IntKind.i64.wrap (((gd HeatLink.zero a0_links y38).Conductance) * (IntKind.i64.wrap ((gd 0 s6 ((gd HeatLink.zero a0_links y38).A)) - (gd 0 s6 ((gd HeatLink.zero a0_links y38).B)))))))))] [] (fun w => (bx b0 89 [v0_domains, v0_links, .int .i64 a0_ambient, v0_energy, .int .i64 x9.2]).ok w ∧ (bx b47 84 [.int .i64 ((gd HeatLink.zero a0_links y38).A), .int .i64 ((gd HeatLink.zero a0_links y38).B), .int .i64 ((gd HeatLink.zero a0_links y38).Conductance)]).ok w ∧ (osl K_int64 v0_energy y37).ok w ∧ True) (fun w => St M w0 w [bx b47 84 [.int .i64 ((gd HeatLink.zero a0_links y38).A), .int .i64 ((gd HeatLink.zero a0_links y38).B), .int .i64 ((gd HeatLink.zero a0_links y38).Conductance)], bx b0 89 [v0_domains, v0_links, .int .i64 a0_ambient, v0_energy, .int .i64 x9.2], osl K_int64 v0_energy y37, osl K_int64 v7 s6]) hf ⟨rfl, rfl, rfl, rfl, rfl, rfl, rfl, trivial⟩ (by kernel_rfl) (by kernel_rfl) rfl (by decide) ⟨hs.drew.get (i := 1) rfl, hs.drew.get (i := 0) rfl, hs.drew.get (i := 2) rfl, trivial⟩ hs.drew (.cons (⟨_, _, rfl, rfl, rfl, rfl, fun a w hR hf => .inl ⟨wanted_yes hf rfl, ex_move hf rfl⟩⟩) (.cons (⟨_, _, rfl, rfl, rfl, rfl, fun a w hR hf => .inl ⟨wanted_yes hf rfl, ex_nilCheck hf rfl⟩⟩) (.cons (⟨_, _, rfl, rfl, rfl, rfl, fun a w hR hf => .inl ⟨wanted_yes hf rfl, ex_fieldAddrB fa_89_3 rfl hf rfl⟩⟩) (.cons (⟨_, _, rfl, rfl, rfl, rfl, fun a w hR hf => .inl ⟨wanted_yes hf rfl, ex_load sc_34 hf rfl (bx_cell (hR.1) _ rfl)⟩⟩) (.cons (⟨_, _, rfl, rfl, rfl, rfl, fun a w hR hf => .inl ⟨wanted_yes hf rfl, ex_fieldAddrB fa_84_0 rfl hf rfl⟩⟩) (.cons (⟨_, _, rfl, rfl, rfl, rfl, fun a w hR hf => .inl ⟨wanted_yes hf rfl, ex_load sc_3 hf rfl (bx_cell (hR.2.1) _ rfl)⟩⟩) (.cons (⟨_, _, rfl, rfl, rfl, rfl, fun a w hR hf => .inl ⟨wanted_yes hf rfl, ex_indexAddr sa_34 (rsl_isSl (osl_rsl _ hR.2.2.1)) hc54.1 hc54.2 hf rfl rfl⟩⟩) (.cons (⟨_, _, rfl, rfl, rfl, rfl, fun a w hR hf => .inl ⟨wanted_yes hf rfl, ex_load sc_2 hf rfl (el_cell (K := K_int64) (f := 0) (rsl_rd (osl_rsl _ hR.2.2.1)) hc54.1 hc54.2 rfl)⟩⟩) (.cons (⟨_, _, rfl, rfl, rfl, rfl, fun a w hR hf => .inl ⟨wanted_yes hf rfl, ex_move hf rfl⟩⟩) (.cons (⟨_, _, rfl, rfl, rfl, rfl, fun a w hR hf => .inl ⟨wanted_yes hf rfl, ex_sub hf rfl rfl⟩⟩) (.nil))))))))))) (fun K55 hK55 => ?_)
              refine RW.zero (by kernel_rfl) (by kernel_rfl) [(0, .pointer (some ⟨b0, 0, none⟩)), (6, v7), (11, .pointer (some ⟨b47, 0, none⟩)), (12, .int .i64 (IntKind.i64.wrap (((gd HeatLink.zero a0_links y38).Conductance) * (IntKind.i64.wrap ((gd 0 s6 ((gd HeatLink.zero a0_links y38).A)) - (gd 0 s6 ((gd HeatLink.zero a0_links y38).B))))))), (72, v0_links), (73, .int .i64 (a0_links.length : Int)), (74, .int .i64 y38), (95, v0_energy), (97, .int .i64 ((gd HeatLink.zero a0_links y38).A)), (101, .int .i64 (IntKind.i64.wrap ((gd 0 y37 ((gd HeatLink.zero a0_links y38).A)) - (IntKind.i64.wrap (((gd HeatLink.zero a0_links y38).Conductance) * (IntKind.i64.wrap ((gd 0 s6 ((gd HeatLink.zero a0_links y38).A)) - (gd 0 s6 ((gd HeatLink.zero a0_links y38).B)))))))))] ⟨rfl, rfl, rfl, rfl, rfl, rfl, rfl, rfl, rfl, rfl, trivial⟩ (fun a w hR hs hf => ?_)
              refine stq hf rfl rfl rfl (ex_indexAddr sa_34 (rsl_isSl (osl_rsl _ (hs.get (i := 2) rfl))) hc54.1 hc54.2 hf rfl rfl) (fun a hf => ?_)
              refine stepS hf rfl rfl (er_storeE (K := K_int64) (f := 0) (x' := (IntKind.i64.wrap ((gd 0 y37 ((gd HeatLink.zero a0_links y38).A)) - (IntKind.i64.wrap (((gd HeatLink.zero a0_links y38).Conductance) * (IntKind.i64.wrap ((gd 0 s6 ((gd HeatLink.zero a0_links y38).A)) - (gd 0 s6 ((gd HeatLink.zero a0_links y38).B))))))))) hs (.k (.k (.c (.k .nil)))) hc54.1 hc54.2 hf rfl rfl rfl sz_2 rfl rfl) (fun w hs => ?_)
              refine hK55 _ _ ?_
              refine hN53 _ _ ?_
              refine ck_some H (fun hc56 H => ?_)
              refine region_d fol 10 [(0, .pointer (some ⟨b0, 0, none⟩)), (6, v7), (11, .pointer (some ⟨b47, 0, none⟩)), (12, .int .i64 (IntKind.i64.wrap (((gd HeatLink.zero a0_links y38).Conductance) * (IntKind.i64.wrap ((gd 0 s6 ((gd HeatLink.zero a0_links y38).A)) - (gd 0 s6 ((gd HeatLink.zero a0_links y38).B))))))), (72, v0_links), (73, .int .i64 (a0_links.length : Int)), (74, .int .i64 y38)] [(0, .pointer (some ⟨b0, 0, none⟩)), (1, .pointer (some ⟨b0, 0, none⟩)), (2, .pointer (some ⟨b0, 3, none⟩)), (3, v0_energy), (4, .pointer (some ⟨b47, 1, none⟩)), (5, .int .i64 ((gd HeatLink.zero a0_links y38).B)), (6, .pointer (some (sla v0_energy (((gd HeatLink.zero a0_links y38).B).toNat * 1)))), (7, .int .i64 (gd 0 (y37.set ((gd HeatLink.zero a0_links y38).A).toNat (IntKind.i64.wrap ((gd 0 y37 ((gd HeatLink.zero a0_links y38).A)) - (IntKind.i64.wrap (((gd HeatLink.zero a0_links y38).Conductance) * (IntKind.i64.wrap ((gd 0 s6 ((gd HeatLink.zero a0_links y38).A)) - (gd 0 s6 ((gd HeatLink.zero a0_links y38).B))))))))) ((gd HeatLink.zero a0_links y38).B))), (8, .int .i64 (IntKind.i64.wrap (((gd HeatLink.zero a0_links y38).Conductance) * (IntKind.i64.wrap ((gd 0 s6 ((gd HeatLink.zero a0_links y38).A)) - (gd 0 s6 ((gd HeatLink.zero a0_links y38).B))))))), (9, .int .i64 (IntKind.i64.wrap ((gd 0 (y37.set ((gd HeatLink.zero a0_links y38).A).toNat (IntKind.i64.wrap ((gd 0 y37 ((gd HeatLink.zero a0_links y38).A)) - (IntKind.i64.wrap (((gd HeatLink.zero a0_links y38).Conductance) * (IntKind.i64.wrap ((gd 0 s6 ((gd HeatLink.zero a0_links y38).A)) - (gd 0 s6 ((gd HeatLink.zero a0_links y38).B))))))))) ((gd HeatLink.zero a0_links y38).B)) + (IntKind.i64.wrap (((gd HeatLink.zero a0_links y38).Conductance) * (IntKind.i64.wrap ((gd 0 s6 ((gd HeatLink.zero a0_links y38).A)) - (gd 0 s6 ((gd HeatLink.zero a0_links y38).B)))))))))] [] (fun w => (bx b0 89 [v0_domains, v0_links, .int .i64 a0_ambient, v0_energy, .int .i64 x9.2]).ok w ∧ (bx b47 84 [.int .i64 ((gd HeatLink.zero a0_links y38).A), .int .i64 ((gd HeatLink.zero a0_links y38).B), .int .i64 ((gd HeatLink.zero a0_links y38).Conductance)]).ok w ∧ (osl K_int64 v0_energy (y37.set ((gd HeatLink.zero a0_links y38).A).toNat (IntKind.i64.wrap ((gd 0 y37 ((gd HeatLink.zero a0_links y38).A)) - (IntKind.i64.wrap (((gd HeatLink.zero a0_links y38).Conductance) * (IntKind.i64.wrap ((gd 0 s6 ((gd HeatLink.zero a0_links y38).A)) - (gd 0 s6 ((gd HeatLink.zero a0_links y38).B)))))))))).ok w ∧ True) (fun w => St M w0 w [osl K_int64 v0_energy (y37.set ((gd HeatLink.zero a0_links y38).A).toNat (IntKind.i64.wrap ((gd 0 y37 ((gd HeatLink.zero a0_links y38).A)) - (IntKind.i64.wrap (((gd HeatLink.zero a0_links y38).Conductance) * (IntKind.i64.wrap ((gd 0 s6 ((gd HeatLink.zero a0_links y38).A)) - (gd 0 s6 ((gd HeatLink.zero a0_links y38).B))))))))), bx b47 84 [.int .i64 ((gd HeatLink.zero a0_links y38).A), .int .i64 ((gd HeatLink.zero a0_links y38).B), .int .i64 ((gd HeatLink.zero a0_links y38).Conductance)], bx b0 89 [v0_domains, v0_links, .int .i64 a0_ambient, v0_energy, .int .i64 x9.2], osl K_int64 v7 s6]) hf ⟨rfl, rfl, rfl, rfl, rfl, rfl, rfl, trivial⟩ (by kernel_rfl) (by kernel_rfl) rfl (by decide) ⟨hs.drew.get (i := 2) rfl, hs.drew.get (i := 1) rfl, hs.drew.get (i := 0) rfl, trivial⟩ hs.drew (.cons (⟨_, _, rfl, rfl, rfl, rfl, fun a w hR hf => .inl ⟨wanted_yes hf rfl, ex_move hf rfl⟩⟩) (.cons (⟨_, _, rfl, rfl, rfl, rfl, fun a w hR hf => .inl ⟨wanted_yes hf rfl, ex_nilCheck hf rfl⟩⟩) (.cons (⟨_, _, rfl, rfl, rfl, rfl, fun a w hR hf => .inl ⟨wanted_yes hf rfl, ex_fieldAddrB fa_89_3 rfl hf rfl⟩⟩) (.cons (⟨_, _, rfl, rfl, rfl, rfl, fun a w hR hf => .inl ⟨wanted_yes hf rfl, ex_load sc_34 hf rfl (bx_cell (hR.1) _ rfl)⟩⟩) (.cons (⟨_, _, rfl, rfl, rfl, rfl, fun a w hR hf => .inl ⟨wanted_yes hf rfl, ex_fieldAddrB fa_84_1 rfl hf rfl⟩⟩) (.cons (⟨_, _, rfl, rfl, rfl, rfl, fun a w hR hf => .inl ⟨wanted_yes hf rfl, ex_load sc_3 hf rfl (bx_cell (hR.2.1) _ rfl)⟩⟩) (.cons (⟨_, _, rfl, rfl, rfl, rfl, fun a w hR hf => .inl ⟨wanted_yes hf rfl, ex_indexAddr sa_34 (rsl_isSl (osl_rsl _ hR.2.2.1)) hc56.1 hc56.2 hf rfl rfl⟩⟩) (.cons (⟨_, _, rfl, rfl, rfl, rfl, fun a w hR hf => .inl ⟨wanted_yes hf rfl, ex_load sc_2 hf rfl (el_cell (K := K_int64) (f := 0) (rsl_rd (osl_rsl _ hR.2.2.1)) hc56.1 hc56.2 rfl)⟩⟩) (.cons (⟨_, _, rfl, rfl, rfl, rfl, fun a w hR hf => .inl ⟨wanted_yes hf rfl, ex_move hf rfl⟩⟩) (.cons (⟨_, _, rfl, rfl, rfl, rfl, fun a w hR hf => .inl ⟨wanted_yes hf rfl, ex_add hf rfl rfl⟩⟩) (.nil))))))))))) (fun K57 hK57 => ?_)
              refine RW.zero (by kernel_rfl) (by kernel_rfl) [(0, .pointer (some ⟨b0, 0, none⟩)), (6, v7), (72, v0_links), (73, .int .i64 (a0_links.length : Int)), (74, .int .i64 y38), (106, v0_energy), (108, .int .i64 ((gd HeatLink.zero a0_links y38).B)), (112, .int .i64 (IntKind.i64.wrap ((gd 0 (y37.set ((gd HeatLink.zero a0_links y38).A).toNat (IntKind.i64.wrap ((gd 0 y37 ((gd HeatLink.zero a0_links y38).A)) - (IntKind.i64.wrap (((gd HeatLink.zero a0_links y38).Conductance) * (IntKind.i64.wrap ((gd 0 s6 ((gd HeatLink.zero a0_links y38).A)) - (gd 0 s6 ((gd HeatLink.zero a0_links y38).B))))))))) ((gd HeatLink.zero a0_links y38).B)) + (IntKind.i64.wrap (((gd HeatLink.zero a0_links y38).Conductance) * (IntKind.i64.wrap ((gd 0 s6 ((gd HeatLink.zero a0_links y38).A)) - (gd 0 s6 ((gd HeatLink.zero a0_links y38).B)))))))))] ⟨rfl, rfl, rfl, rfl, rfl, rfl, rfl, rfl, trivial⟩ (fun a w hR hs hf => ?_)
              refine stq hf rfl rfl rfl (ex_indexAddr sa_34 (rsl_isSl (osl_rsl _ (hs.get (i := 0) rfl))) hc56.1 hc56.2 hf rfl rfl) (fun a hf => ?_)
              refine stepS hf rfl rfl (er_storeE (K := K_int64) (f := 0) (x' := (IntKind.i64.wrap ((gd 0 (y37.set ((gd HeatLink.zero a0_links y38).A).toNat (IntKind.i64.wrap ((gd 0 y37 ((gd HeatLink.zero a0_links y38).A)) - (IntKind.i64.wrap (((gd HeatLink.zero a0_links y38).Conductance) * (IntKind.i64.wrap ((gd 0 s6 ((gd HeatLink.zero a0_links y38).A)) - (gd 0 s6 ((gd HeatLink.zero a0_links y38).B))))))))) ((gd HeatLink.zero a0_links y38).B)) + (IntKind.i64.wrap (((gd HeatLink.zero a0_links y38).Conductance) * (IntKind.i64.wrap ((gd 0 s6 ((gd HeatLink.zero a0_links y38).A)) - (gd 0 s6 ((gd HeatLink.zero a0_links y38).B))))))))) hs (.c (.k (.k (.k .nil)))) hc56.1 hc56.2 hf rfl rfl rfl sz_2 rfl rfl) (fun w hs => ?_)
              refine hK57 _ _ ?_
              refine hN45 _ _ ?_
              refine hN44 _ _ ?_
              refine region_k (fun K58 hK58 => ?_)
              refine stq hf rfl rfl rfl (ex_add hf rfl rfl) (fun a hf => ?_)
              refine stq hf rfl rfl rfl (ex_move hf rfl) (fun a hf => ?_)
              refine hK58 _ _ ?_
              replace hs := hs.keep (.k (.d (.k (.k .nil))))
              replace hs := hs.pick (.k (.k (.c .nil)))
              replace hs := hs.pick (.k (.c (.k .nil)))
              replace hs := hs.pick (.k (.k (.c .nil)))
              exact hL40 k40 _ _ (Nat.lt_succ_self _) ⟨((y37.set ((gd HeatLink.zero a0_links y38).A).toNat (IntKind.i64.wrap ((gd 0 y37 ((gd HeatLink.zero a0_links y38).A)) - (IntKind.i64.wrap (((gd HeatLink.zero a0_links y38).Conductance) * (IntKind.i64.wrap ((gd 0 s6 ((gd HeatLink.zero a0_links y38).A)) - (gd 0 s6 ((gd HeatLink.zero a0_links y38).B))))))))).set ((gd HeatLink.zero a0_links y38).B).toNat (IntKind.i64.wrap ((gd 0 (y37.set ((gd HeatLink.zero a0_links y38).A).toNat (IntKind.i64.wrap ((gd 0 y37 ((gd HeatLink.zero a0_links y38).A)) - (IntKind.i64.wrap (((gd HeatLink.zero a0_links y38).Conductance) * (IntKind.i64.wrap ((gd 0 s6 ((gd HeatLink.zero a0_links y38).A)) - (gd 0 s6 ((gd HeatLink.zero a0_links y38).B))))))))) ((gd HeatLink.zero a0_links y38).B)) + (IntKind.i64.wrap (((gd HeatLink.zero a0_links y38).Conductance) * (IntKind.i64.wrap ((gd 0 s6 ((gd HeatLink.zero a0_links y38).A)) - (gd 0 s6 ((gd HeatLink.zero a0_links y38).B))))))))), (IntKind.i64.wrap (y38 + 1)), hf.sub ⟨rfl, rfl, rfl, rfl, rfl, trivial⟩, hs, H⟩
            · -- not y38 < (a0_links.length : Int)
              replace hf := hf.castB (t := 75) rfl (dec_f hc43)
              refine cond_F hf rfl ?_
              refine wp_exit ?_
              refine hX42 2 _ _ ?_
              refine hX40 2 _ _ ?_
              refine hX36 _ _ ?_
              replace hs := hs.keep (.k (.k (.d .nil)))
              have e34 := some_eq H; subst e34
              exact hJ34 _ _ ⟨hf.sub ⟨rfl, trivial⟩, hs⟩
      · obtain ⟨hf, hs⟩ := hJ
        replace H := HO34
        clear HO34
        refine bnd H (fun s59 hs59 H => ?_)
        refine seq_reg (fun K61 hK61 => ?_)
        refine stq hf rfl rfl rfl (ex_move hf rfl) (fun a hf => ?_)
        refine stepF hf rfl rfl rfl (ex_call cf_34 hf rfl) (heat_Model_temperatures.calls k a0_domains a0_links a0_ambient x34 x9.2 b0 v0_domains v0_links v0_energy (hs.enter (.k (.k .nil))) (Sr.own hs (.k (.k .nil)) (i := 0) rfl (fun _ h => h) (fun _ h => h) (Sr.old hr hs (.k (.k .nil)) (i := 0) rfl (fun _ h => h) (fun _ h => h) (Sr.old hr hs (.k (.k .nil)) (i := 1) rfl (fun _ h => h) (fun _ h => h) (Sr.own hs (.k (.k .nil)) (i := 1) rfl osl_rsl (fun _ h => h.1) (Sr.nil _ _))))) hs59) (fun v w hR a hf => ?_)
        obtain ⟨v60, rfl, hs'⟩ := hR
        replace hs := hs.step (.k (.k .nil)) hs'
        clear hs'
        refine stq hf rfl rfl rfl (ex_assign hf rfl) (fun a hf => ?_)
        refine stq hf rfl rfl rfl (ex_assign hf rfl) (fun a hf => ?_)
        refine hK61 _ _ ?_
        refine wp_ret ?_
        have eR := some_eq H; subst eR
        replace hs := hs.pick (.k (.k (.c .nil)))
        replace hs := hs.pick (.k (.k (.c .nil)))
        exact ret2 Try.results17 hf rfl rfl ⟨_, rfl, ⟨v0_energy, v60, rfl, hs⟩⟩
  · -- not s3 = true
    replace hf := hf.castB (t := 19) rfl (bool_f hc5)
    replace hf := hf.castB (t := 20) rfl (nbool_t hc5)
    refine cond_T hf rfl ?_
    refine seq_reg (fun K62 hK62 => ?_)
    refine stq hf rfl rfl rfl (ex_assign hf rfl) (fun a hf => ?_)
    refine stq hf rfl rfl rfl (ex_assign hf rfl) (fun a hf => ?_)
    refine hK62 _ _ ?_
    refine wp_ret ?_
    refine hR2 _ _ ?_
    have eR := some_eq H; subst eR
    replace hs := hs.nilS K_int64
    replace hs := hs.pick (.k (.k (.c .nil)))
    replace hs := hs.pick (.k (.k (.c .nil)))
    exact ret2 Try.results17 hf rfl rfl ⟨_, rfl, ⟨v0_energy, (.slice none 0 0), rfl, hs⟩⟩

set_option maxRecDepth 100000 in
theorem law39_Actors.calls {M : Nat → Prop} {w0 : World} (k : Nat) (a0 : (List Actor)) (v0 : Value) {r : (List Actor)} (hs : St M w0 w0 []) (hr : Sr M w0 [rsl K_api_Actor v0 a0])
    (h : law39_Actors.f k a0 = some r) : Calls Try.prog 21 #[v0] w0 fun e w => ∃ v, e = .returned v ∧ (∃ (g0 : Value), g0 = v ∧ St M w0 w [osl K_api_Actor g0 r]) := by
  have H := (law39_Actors.f.eq_1 ..).symm.trans h
  clear h
  refine enter Try.func21 rfl Try.ntmps21 rfl (fun a hf => ?_)
  refine seq_reg (fun K1 hK1 => ?_)
  refine stq hf rfl rfl rfl (ex_assign hf rfl) (fun a hf => ?_)
  refine hK1 _ _ ?_
  refine seq_reg (fun K2 hK2 => ?_)
  refine stq hf rfl rfl rfl (ex_assign hf rfl) (fun a hf => ?_)
  refine hK2 _ _ ?_
  refine bnd H (fun x3 H3 HO3 => ?_)
  clear H
  refine seq_cut (fun a w => ∃ (v4 : Value), Fr a 42 [(3, v4)] ∧ St M w0 w [osl K_api_Actor v4 x3]) (fun Q3 hJ3 hR3 hX3 => ?_) (fun a w hJ => ?_)
  · replace H := H3
    refine seq_reg (fun K5 hK5 => ?_)
    refine stq hf rfl rfl rfl (ex_assign hf rfl) (fun a hf => ?_)
    refine hK5 _ _ ?_
    refine block_k (fun Q6 hN6 hR6 hX6 hY6 => ?_)
    refine loop_k (fun n a w => ∃ (y8 : (List Actor)) (y9 : Int) (v7 : Value), Fr a 42 [(0, v0), (3, v7), (4, .int .i64 y9)] ∧ St M w0 w [osl K_api_Actor v7 y8] ∧ law39_Actors.l1 n a0 y8 y9 = some x3) k ?_ (fun n11 a w hI Q11 hL11 hR11 hX11 => ?_)
    · -- at the start
      replace hs := hs.nilS K_api_Actor
      exact ⟨[], 0, (.slice none 0 0), hf.sub ⟨rfl, rfl, rfl, trivial⟩, hs, H⟩
    · obtain ⟨y8, y9, v7, hf, hs, H⟩ := hI
      cases n11 with
      | zero => exact absurd H (by rw [law39_Actors.l1.eq_1]; intro h; cases h)
      | succ k11 =>
        replace H := (law39_Actors.l1.eq_2 ..).symm.trans H
        refine seq_n (fun Q12 hN12 hR12 hX12 => ?_)
        refine bnd H (fun x13 H13 HO13 => ?_)
        clear H
        refine seq_cut (fun a w => Fr a 42 [(0, v0), (3, v7), (4, .int .i64 y9), (13, .bool x13)] ∧ St M w0 w [osl K_api_Actor v7 y8]) (fun Q13 hJ13 hR13 hX13 => ?_) (fun a w hJ => ?_)
        · replace H := H13
          refine itt H (fun hc14 H => ?_) (fun hc14 H => ?_)
          · -- y9 < (a0.length : Int)
            refine region_k (fun K15 hK15 => ?_)
            refine stq hf rfl rfl rfl (ex_move hf rfl) (fun a hf => ?_)
            refine stq hf rfl rfl rfl (ex_move hf rfl) (fun a hf => ?_)
            refine stq hf rfl rfl rfl (ex_lenS Try.underlying60 (rsl_isSl (hr.now hs (i := 0) rfl)) hf rfl) (fun a hf => ?_)
            refine stq hf rfl rfl rfl (ex_lss hf rfl rfl) (fun a hf => ?_)
            refine stq hf rfl rfl rfl (ex_move hf rfl) (fun a hf => ?_)
            replace hf := hf.castB (t := 9) rfl (dec_t hc14)
            replace hf := hf.castB (t := 10) rfl (dec_t hc14)
            refine stq hf rfl rfl rfl (ex_move hf rfl) (fun a hf => ?_)
            refine stq hf rfl rfl rfl (ex_lss hf rfl rfl) (fun a hf => ?_)
            refine stq hf rfl rfl rfl (ex_pickT hf rfl rfl) (fun a hf => ?_)
            refine hK15 _ _ ?_
            have e13 := some_eq H; subst e13
            exact hJ13 _ _ ⟨hf.sub ⟨rfl, rfl, rfl, rfl, trivial⟩, hs⟩
          · -- not y9 < (a0.length : Int)
            refine region_k (fun K16 hK16 => ?_)
            refine stq hf rfl rfl rfl (ex_move hf rfl) (fun a hf => ?_)
            refine stq hf rfl rfl rfl (ex_move hf rfl) (fun a hf => ?_)
            refine stq hf rfl rfl rfl (ex_lenS Try.underlying60 (rsl_isSl (hr.now hs (i := 0) rfl)) hf rfl) (fun a hf => ?_)
            refine stq hf rfl rfl rfl (ex_lss hf rfl rfl) (fun a hf => ?_)
            refine stq hf rfl rfl rfl (ex_move hf rfl) (fun a hf => ?_)
            replace hf := hf.castB (t := 9) rfl (dec_f hc14)
            replace hf := hf.castB (t := 10) rfl (dec_f hc14)
            refine stepN hf rfl rfl rfl (fun a hf => ?_)
            refine stepN hf rfl rfl rfl (fun a hf => ?_)
            refine stq hf rfl rfl rfl (ex_pickF hf rfl rfl) (fun a hf => ?_)
            refine hK16 _ _ ?_
            have e13 := some_eq H; subst e13
            exact hJ13 _ _ ⟨hf.sub ⟨rfl, rfl, rfl, rfl, trivial⟩, hs⟩
        · obtain ⟨hf, hs⟩ := hJ
          replace H := HO13
          clear HO13
          refine itt H (fun hc17 H => ?_) (fun hc17 H => ?_)
          · -- x13 = true
            replace hf := hf.castB (t := 13) rfl hc17
            refine cond_T hf rfl ?_
            refine wp_skip ?_
            refine hN12 _ _ ?_
            refine seq_n (fun Q18 hN18 hR18 hX18 => ?_)
            refine block_k (fun Q19 hN19 hR19 hX19 hY19 => ?_)
            refine ck_some H (fun hc20 H => ?_)
            refine seq_reg (fun K21 hK21 => ?_)
            refine stq hf rfl rfl rfl (ex_move hf rfl) (fun a hf => ?_)
            refine stq hf rfl rfl rfl (ex_move hf rfl) (fun a hf => ?_)
            refine stq hf rfl rfl rfl (ex_indexAddr sa_60 (rsl_isSl (hr.now hs (i := 0) rfl)) hc20.1 hc20.2 hf rfl rfl) (fun a hf => ?_)
            refine stq hf rfl rfl rfl (ex_fieldAddrS fa_69_1 rfl hf rfl) (fun a hf => ?_)
            refine stq hf rfl rfl rfl (ex_load sc_23 hf rfl (el_cell (K := K_api_Actor) (f := 1) (rsl_rd (hr.now hs (i := 0) rfl)) hc20.1 hc20.2 rfl)) (fun a hf => ?_)
            refine stq hf rfl rfl rfl (ex_rem hf rfl rfl (by decide)) (fun a hf => ?_)
            refine stq hf rfl rfl rfl (ex_assign hf rfl) (fun a hf => ?_)
            refine hK21 _ _ ?_
            refine ck_some H (fun hc23 H => ?_)
            refine region_d fol 19 [(0, v0), (3, v7), (4, .int .i64 y9), (5, .int .u64 (Int.tmod ((gd Actor.zero a0 y9).Min) 10))] [(0, v7), (1, v0), (2, .int .i64 y9), (3, .pointer (some (sla v0 (y9.toNat * 3)))), (4, .pointer (some (sla v0 (y9.toNat * 3 + 0)))), (5, .int .u64 ((gd Actor.zero a0 y9).Request)), (6, .int .u64 (Int.tmod ((gd Actor.zero a0 y9).Request) 40)), (7, .int .u64 (Int.tmod ((gd Actor.zero a0 y9).Min) 10)), (8, .int .u64 (Int.tmod ((gd Actor.zero a0 y9).Min) 10)), (9, v0), (10, .int .i64 y9), (11, .pointer (some (sla v0 (y9.toNat * 3)))), (12, .pointer (some (sla v0 (y9.toNat * 3 + 2)))), (13, .int .u64 ((gd Actor.zero a0 y9).Max)), (14, .int .u64 (Int.tmod ((gd Actor.zero a0 y9).Max) 30)), (15, .int .u64 (IntKind.u64.wrap ((Int.tmod ((gd Actor.zero a0 y9).Min) 10) + (Int.tmod ((gd Actor.zero a0 y9).Max) 30)))), (16, .agg #[.int .u64 (Int.tmod ((gd Actor.zero a0 y9).Request) 40), .int .u64 (Int.tmod ((gd Actor.zero a0 y9).Min) 10), .int .u64 (IntKind.u64.wrap ((Int.tmod ((gd Actor.zero a0 y9).Min) 10) + (Int.tmod ((gd Actor.zero a0 y9).Max) 30)))])] [17, 18] (fun w => (rsl K_api_Actor v0 a0).ok w ∧ True) (fun w => St M w0 w [osl K_api_Actor v7 y8]) hf ⟨rfl, rfl, rfl, rfl, trivial⟩ (by kernel_rfl) (by kernel_rfl) rfl (by decide) ⟨hr.now hs.drew (i := 0) rfl, trivial⟩ hs.drew (.cons (⟨_, _, rfl, rfl, rfl, rfl, fun a w hR hf => .inl ⟨wanted_yes hf rfl, ex_move hf rfl⟩⟩) (.cons (⟨_, _, rfl, rfl, rfl, rfl, fun a w hR hf => .inl ⟨wanted_yes hf rfl, ex_move hf rfl⟩⟩) (.cons (⟨_, _, rfl, rfl, rfl, rfl, fun a w hR hf => .inl ⟨wanted_yes hf rfl, ex_move hf rfl⟩⟩) (.cons (⟨_, _, rfl, rfl, rfl, rfl, fun a w hR hf => .inl ⟨wanted_yes hf rfl, ex_indexAddr sa_60 (rsl_isSl hR.1) hc20.1 hc20.2 hf rfl rfl⟩⟩) (.cons (⟨_, _, rfl, rfl, rfl, rfl, fun a w hR hf => .inl ⟨wanted_yes hf rfl, ex_fieldAddrS fa_69_0 rfl hf rfl⟩⟩) (.cons (⟨_, _, rfl, rfl, rfl, rfl, fun a w hR hf => .inl ⟨wanted_yes hf rfl, ex_load sc_23 hf rfl (el_cell (K := K_api_Actor) (f := 0) (rsl_rd hR.1) hc20.1 hc20.2 rfl)⟩⟩) (.cons (⟨_, _, rfl, rfl, rfl, rfl, fun a w hR hf => .inl ⟨wanted_yes hf rfl, ex_rem hf rfl rfl (by decide)⟩⟩) (.cons (⟨_, _, rfl, rfl, rfl, rfl, fun a w hR hf => .inl ⟨wanted_yes hf rfl, ex_move hf rfl⟩⟩) (.cons (⟨_, _, rfl, rfl, rfl, rfl, fun a w hR hf => .inl ⟨wanted_yes hf rfl, ex_move hf rfl⟩⟩) (.cons (⟨_, _, rfl, rfl, rfl, rfl, fun a w hR hf => .inl ⟨wanted_yes hf rfl, ex_move hf rfl⟩⟩) (.cons (⟨_, _, rfl, rfl, rfl, rfl, fun a w hR hf => .inl ⟨wanted_yes hf rfl, ex_move hf rfl⟩⟩) (.cons (⟨_, _, rfl, rfl, rfl, rfl, fun a w hR hf => .inl ⟨wanted_yes hf rfl, ex_indexAddr sa_60 (rsl_isSl hR.1) hc20.1 hc20.2 hf rfl rfl⟩⟩) (.cons (⟨_, _, rfl, rfl, rfl, rfl, fun a w hR hf => .inl ⟨wanted_yes hf rfl, ex_fieldAddrS fa_69_2 rfl hf rfl⟩⟩) (.cons (⟨_, _, rfl, rfl, rfl, rfl, fun a w hR hf => .inl ⟨wanted_yes hf rfl, ex_load sc_23 hf rfl (el_cell (K := K_api_Actor) (f := 2) (rsl_rd hR.1) hc20.1 hc20.2 rfl)⟩⟩) (.cons (⟨_, _, rfl, rfl, rfl, rfl, fun a w hR hf => .inl ⟨wanted_yes hf rfl, ex_rem hf rfl rfl (by decide)⟩⟩) (.cons (⟨_, _, rfl, rfl, rfl, rfl, fun a w hR hf => .inl ⟨wanted_yes hf rfl, ex_add hf rfl rfl⟩⟩) (.cons (⟨_, _, rfl, rfl, rfl, rfl, fun a w hR hf => .inl ⟨wanted_yes hf rfl, ex_build (cs := [.int .u64 (Int.tmod ((gd Actor.zero a0 y9).Request) 40), .int .u64 (Int.tmod ((gd Actor.zero a0 y9).Min) 10), .int .u64 (IntKind.u64.wrap ((Int.tmod ((gd Actor.zero a0 y9).Min) 10) + (Int.tmod ((gd Actor.zero a0 y9).Max) 30)))]) bt_69 hf rfl (.cons rfl (.cons rfl (.cons rfl .nil))) rfl⟩⟩) (.nil)))))))))))))))))) (fun K25 hK25 => ?_)
            refine RW.one 17 (by kernel_rfl) (by kernel_rfl) rfl (fun d hd => by cases hd; rfl) [(38, .agg #[.int .u64 (Int.tmod ((gd Actor.zero a0 y9).Request) 40), .int .u64 (Int.tmod ((gd Actor.zero a0 y9).Min) 10), .int .u64 (IntKind.u64.wrap ((Int.tmod ((gd Actor.zero a0 y9).Min) 10) + (Int.tmod ((gd Actor.zero a0 y9).Max) 30)))])] ⟨rfl, trivial⟩ (fun a w hR hs hf => ⟨wanted_yes hf rfl, ?_⟩)
            refine estep_v (er_buildSlice (K := K_api_Actor) (xs := [(⟨(Int.tmod ((gd Actor.zero a0 y9).Request) 40), (Int.tmod ((gd Actor.zero a0 y9).Min) 10), (IntKind.u64.wrap ((Int.tmod ((gd Actor.zero a0 y9).Min) 10) + (Int.tmod ((gd Actor.zero a0 y9).Max) 30)))⟩ : Actor)]) hs Try.underlying60 ep_69 rfl rfl hf rfl (.cons rfl .nil) rfl rfl) (fun v22 w hs => ?_)
            refine ⟨[], [(17, v22), (0, v7), (1, v0), (2, .int .i64 y9), (3, .pointer (some (sla v0 (y9.toNat * 3)))), (4, .pointer (some (sla v0 (y9.toNat * 3 + 0)))), (5, .int .u64 ((gd Actor.zero a0 y9).Request)), (6, .int .u64 (Int.tmod ((gd Actor.zero a0 y9).Request) 40)), (7, .int .u64 (Int.tmod ((gd Actor.zero a0 y9).Min) 10)), (8, .int .u64 (Int.tmod ((gd Actor.zero a0 y9).Min) 10)), (9, v0), (10, .int .i64 y9), (11, .pointer (some (sla v0 (y9.toNat * 3)))), (12, .pointer (some (sla v0 (y9.toNat * 3 + 2)))), (13, .int .u64 ((gd Actor.zero a0 y9).Max)), (14, .int .u64 (Int.tmod ((gd Actor.zero a0 y9).Max) 30)), (15, .int .u64 (IntKind.u64.wrap ((Int.tmod ((gd Actor.zero a0 y9).Min) 10) + (Int.tmod ((gd Actor.zero a0 y9).Max) 30)))), (16, .agg #[.int .u64 (Int.tmod ((gd Actor.zero a0 y9).Request) 40), .int .u64 (Int.tmod ((gd Actor.zero a0 y9).Min) 10), .int .u64 (IntKind.u64.wrap ((Int.tmod ((gd Actor.zero a0 y9).Min) 10) + (Int.tmod ((gd Actor.zero a0 y9).Max) 30)))])], [18], (fun _ => True), (fun w => St M w0 w [osl K_api_Actor v22 [(⟨(Int.tmod ((gd Actor.zero a0 y9).Request) 40), (Int.tmod ((gd Actor.zero a0 y9).Min) 10), (IntKind.u64.wrap ((Int.tmod ((gd Actor.zero a0 y9).Min) 10) + (Int.tmod ((gd Actor.zero a0 y9).Max) 30)))⟩ : Actor)], osl K_api_Actor v7 y8]), rfl, rfl, ⟨hr.now hs (i := 0) rfl, trivial⟩, trivial, hs, (by kernel_rfl), .nil, ?_⟩
            refine RW.one 18 (by kernel_rfl) (by kernel_rfl) rfl (fun d hd => by cases hd; rfl) [(22, v7), (39, v22)] ⟨rfl, rfl, trivial⟩ (fun a w hR hs hf => ⟨wanted_yes hf rfl, ?_⟩)
            refine estep_v (er_append (K := K_api_Actor) hs (.k (.c .nil)) (osl_rsl _ (hs.get (i := 0) rfl)) rfl Try.underlying60 ep_69 hc23 rfl hf rfl rfl) (fun v24 w hs => ?_)
            refine ⟨[], [(18, v24), (17, v22), (0, v7), (1, v0), (2, .int .i64 y9), (3, .pointer (some (sla v0 (y9.toNat * 3)))), (4, .pointer (some (sla v0 (y9.toNat * 3 + 0)))), (5, .int .u64 ((gd Actor.zero a0 y9).Request)), (6, .int .u64 (Int.tmod ((gd Actor.zero a0 y9).Request) 40)), (7, .int .u64 (Int.tmod ((gd Actor.zero a0 y9).Min) 10)), (8, .int .u64 (Int.tmod ((gd Actor.zero a0 y9).Min) 10)), (9, v0), (10, .int .i64 y9), (11, .pointer (some (sla v0 (y9.toNat * 3)))), (12, .pointer (some (sla v0 (y9.toNat * 3 + 2)))), (13, .int .u64 ((gd Actor.zero a0 y9).Max)), (14, .int .u64 (Int.tmod ((gd Actor.zero a0 y9).Max) 30)), (15, .int .u64 (IntKind.u64.wrap ((Int.tmod ((gd Actor.zero a0 y9).Min) 10) + (Int.tmod ((gd Actor.zero a0 y9).Max) 30)))), (16, .agg #[.int .u64 (Int.tmod ((gd Actor.zero a0 y9).Request) 40), .int .u64 (Int.tmod ((gd Actor.zero a0 y9).Min) 10), .int .u64 (IntKind.u64.wrap ((Int.tmod ((gd Actor.zero a0 y9).Min) 10) + (Int.tmod ((gd Actor.zero a0 y9).Max) 30)))])], [], (fun _ => True), (fun w => St M w0 w [osl K_api_Actor v24 (y8 ++ [(⟨(Int.tmod ((gd Actor.zero a0 y9).Request) 40), (Int.tmod ((gd Actor.zero a0 y9).Min) 10), (IntKind.u64.wrap ((Int.tmod ((gd Actor.zero a0 y9).Min) 10) + (Int.tmod ((gd Actor.zero a0 y9).Max) 30)))⟩ : Actor)]), osl K_api_Actor v22 [(⟨(Int.tmod ((gd Actor.zero a0 y9).Request) 40), (Int.tmod ((gd Actor.zero a0 y9).Min) 10), (IntKind.u64.wrap ((Int.tmod ((gd Actor.zero a0 y9).Min) 10) + (Int.tmod ((gd Actor.zero a0 y9).Max) 30)))⟩ : Actor)]]), rfl, rfl, ⟨⟨hr.now hs (i := 0) rfl, trivial⟩, trivial⟩, trivial, hs, (by kernel_rfl), .nil, ?_⟩
            refine RW.zero (by kernel_rfl) (by kernel_rfl) [(0, v0), (3, v7), (4, .int .i64 y9), (40, v24)] ⟨rfl, rfl, rfl, rfl, trivial⟩ (fun a w hR hs hf => ?_)
            refine stq hf rfl rfl rfl (ex_assign hf rfl) (fun a hf => ?_)
            refine hK25 _ _ ?_
            refine hN19 _ _ ?_
            refine hN18 _ _ ?_
            refine region_k (fun K26 hK26 => ?_)
            refine stq hf rfl rfl rfl (ex_move hf rfl) (fun a hf => ?_)
            refine stq hf rfl rfl rfl (ex_add hf rfl rfl) (fun a hf => ?_)
            refine stq hf rfl rfl rfl (ex_assign hf rfl) (fun a hf => ?_)
            refine hK26 _ _ ?_
            replace hs := hs.keep (.k (.d .nil))
            exact hL11 k11 _ _ (Nat.lt_succ_self _) ⟨(y8 ++ [(⟨(Int.tmod ((gd Actor.zero a0 y9).Request) 40), (Int.tmod ((gd Actor.zero a0 y9).Min) 10), (IntKind.u64.wrap ((Int.tmod ((gd Actor.zero a0 y9).Min) 10) + (Int.tmod ((gd Actor.zero a0 y9).Max) 30)))⟩ : Actor)]), (IntKind.i64.wrap (y9 + 1)), v24, hf.sub ⟨rfl, rfl, rfl, trivial⟩, hs, H⟩
          · -- not x13 = true
            replace hf := hf.castB (t := 13) rfl (bool_f hc17)
            refine cond_F hf rfl ?_
            refine wp_exit ?_
            refine hX12 0 _ _ ?_
            refine hX11 0 _ _ ?_
            refine hX6 _ _ ?_
            have e3 := some_eq H; subst e3
            exact hJ3 _ _ ⟨v7, hf.sub ⟨rfl, trivial⟩, hs⟩
  · obtain ⟨v4, hf, hs⟩ := hJ
    replace H := HO3
    clear HO3
    refine seq_reg (fun K27 hK27 => ?_)
    refine stq hf rfl rfl rfl (ex_move hf rfl) (fun a hf => ?_)
    refine stq hf rfl rfl rfl (ex_assign hf rfl) (fun a hf => ?_)
    refine hK27 _ _ ?_
    refine wp_ret ?_
    have eR := some_eq H; subst eR
    exact ret1 Try.results21 hf rfl ⟨_, rfl, ⟨v4, rfl, hs⟩⟩

set_option maxRecDepth 100000 in
theorem slices_Clone_api_OperatingPoint_api_OperatingPoint.calls {M : Nat → Prop} {w0 : World} (k : Nat) (a0 : (List OperatingPoint)) (v0 : Value) {r : (List OperatingPoint)} (hs : St M w0 w0 []) (hr : Sr M w0 [rsl K_api_OperatingPoint v0 a0])
    (h : slices_Clone_api_OperatingPoint_api_OperatingPoint.f k a0 = some r) : Calls Try.prog 41 #[v0] w0 fun e w => ∃ v, e = .returned v ∧ (∃ (g0 : Value), g0 = v ∧ St M w0 w [osl K_api_OperatingPoint g0 r]) := by
  have H := (slices_Clone_api_OperatingPoint_api_OperatingPoint.f.eq_1 ..).symm.trans h
  clear h
  refine enter Try.func41 rfl Try.ntmps41 rfl (fun a hf => ?_)
  refine seq_reg (fun K1 hK1 => ?_)
  refine stq hf rfl rfl rfl (ex_assign hf rfl) (fun a hf => ?_)
  refine hK1 _ _ ?_
  refine seq_n (fun Q2 hN2 hR2 hX2 => ?_)
  refine seq_reg (fun K3 hK3 => ?_)
  refine stq hf rfl rfl rfl (ex_move hf rfl) (fun a hf => ?_)
  refine stq hf rfl rfl rfl (ex_eqnil Try.underlying22 (rsl_isSl (hr.now hs (i := 0) rfl)) hf rfl rfl) (fun a hf => ?_)
  refine hK3 _ _ ?_
  by_cases hc4 : (isNil v0) = true
  · -- nil
    have hz5 : a0 = [] := isNil_nil (rsl_isSl (hr.now hs (i := 0) rfl)) hc4
    replace H : (some ([] : List OperatingPoint)) = some r := by simpa [ck, hz5] using H
    replace hf := hf.castB (t := 4) rfl hc4
    refine cond_T hf rfl ?_
    refine seq_reg (fun K6 hK6 => ?_)
    refine stq hf rfl rfl rfl (ex_assign hf rfl) (fun a hf => ?_)
    refine hK6 _ _ ?_
    refine wp_ret ?_
    refine hR2 _ _ ?_
    have eR := some_eq H; subst eR
    replace hs := hs.nilS K_api_OperatingPoint
    exact ret1 Try.results41 hf rfl ⟨_, rfl, ⟨(.slice none 0 0), rfl, hs⟩⟩
  · -- not nil
    replace hf := hf.castB (t := 4) rfl (bool_f hc4)
    refine cond_F hf rfl ?_
    refine wp_skip ?_
    refine hN2 _ _ ?_
    refine ck_some H (fun hc8 H => ?_)
    refine seq_reg (fun K10 hK10 => ?_)
    refine stepV hf rfl rfl rfl (er_buildSlice (K := K_api_OperatingPoint) (xs := ([] : List OperatingPoint)) hs Try.underlying22 ep_30 rfl rfl hf rfl .nil rfl rfl) (fun v7 w hs a hf => ?_)
    refine stq hf rfl rfl rfl (ex_move hf rfl) (fun a hf => ?_)
    refine stepV hf rfl rfl rfl (er_append (K := K_api_OperatingPoint) hs (.c .nil) (hr.now hs (i := 0) rfl) rfl Try.underlying22 ep_30 hc8 rfl hf rfl rfl) (fun v9 w hs a hf => ?_)
    refine stq hf rfl rfl rfl (ex_assign hf rfl) (fun a hf => ?_)
    refine hK10 _ _ ?_
    refine wp_ret ?_
    have eR := some_eq H; subst eR
    exact ret1 Try.results41 hf rfl ⟨_, rfl, ⟨v9, rfl, hs⟩⟩

set_option maxRecDepth 100000 in
theorem perf_New.calls {M : Nat → Prop} {w0 : World} (k : Nat) (a0 : (List OperatingPoint)) (a1 : GovernorParams) (v0 : Value) {r : (Option ((List OperatingPoint) × Int × Int × Int × Int × Int × Int × Int)) × Int} (hs : St M w0 w0 []) (hr : Sr M w0 [rsl K_api_OperatingPoint v0 a0])
    (h : perf_New.f k a0 a1 = some r) : Calls Try.prog 23 #[v0, .agg #[.int .i64 a1.Up, .int .i64 a1.Down, .int .i64 a1.Samples]] w0 fun e w => ∃ v, e = .returned v ∧ ((r.1 = none ∧ .tuple #[.pointer none, .int .i64 r.2] = v ∧ St M w0 w []) ∨ (∃ c, r.1 = some c ∧ ∃ (g0 : Nat) (g1 : Value), .tuple #[.pointer (some ⟨g0, 0, none⟩), .int .i64 r.2] = v ∧ St M w0 w [bx g0 102 [g1, .int .i64 c.2.1, .int .i64 c.2.2.1, .int .i64 c.2.2.2.1, .int .i64 c.2.2.2.2.1, .int .i64 c.2.2.2.2.2.1, .int .i64 c.2.2.2.2.2.2.1, .int .i64 c.2.2.2.2.2.2.2], osl K_api_OperatingPoint g1 c.1])) := by
  have H := (perf_New.f.eq_1 ..).symm.trans h
  clear h
  refine enter Try.func23 rfl Try.ntmps23 rfl (fun a hf => ?_)
  refine seq_reg (fun K2 hK2 => ?_)
  refine stepV hf rfl rfl rfl (er_box (cs := [.int .i64 a1.Up, .int .i64 a1.Down, .int .i64 a1.Samples]) hs hf rfl rfl) (fun v w hR a hf => ?_)
  obtain ⟨b1, rfl, hs⟩ := hR
  refine stq hf rfl rfl rfl (ex_assign hf rfl) (fun a hf => ?_)
  refine stq hf rfl rfl rfl (ex_assign hf rfl) (fun a hf => ?_)
  refine hK2 _ _ ?_
  refine seq_n (fun Q3 hN3 hR3 hX3 => ?_)
  refine bnd H (fun s4 hs4 H => ?_)
  refine seq_reg (fun K5 hK5 => ?_)
  refine stq hf rfl rfl rfl (ex_move hf rfl) (fun a hf => ?_)
  refine stepF hf rfl rfl rfl (ex_call cf_28 hf rfl) (perf_Check.calls k a0 v0 (hs.enter (.k .nil)) (Sr.old hr hs (.k .nil) (i := 0) rfl (fun _ h => h) (fun _ h => h) (Sr.nil _ _)) hs4) (fun v w hR a hf => ?_)
  obtain ⟨rfl, hs'⟩ := hR
  replace hs := hs.step (.k .nil) hs'
  clear hs'
  refine stq hf rfl rfl rfl (ex_assign hf rfl) (fun a hf => ?_)
  refine hK5 _ _ ?_
  refine seq_reg (fun K6 hK6 => ?_)
  refine stq hf rfl rfl rfl (ex_move hf rfl) (fun a hf => ?_)
  refine stq hf rfl rfl rfl (ex_neq hf rfl rfl) (fun a hf => ?_)
  refine hK6 _ _ ?_
  refine itt H (fun hc7 H => ?_) (fun hc7 H => ?_)
  · -- s4 = 0
    replace hf := hf.castB (t := 10) rfl (ndec_f hc7)
    refine cond_F hf rfl ?_
    refine wp_skip ?_
    refine hN3 _ _ ?_
    refine seq_n (fun Q8 hN8 hR8 hX8 => ?_)
    refine bnd H (fun x9 H9 HO9 => ?_)
    clear H
    refine seq_cut (fun a w => Fr a 50 [(0, v0), (3, .pointer (some ⟨b1, 0, none⟩)), (41, .bool x9)] ∧ St M w0 w [bx b1 76 [.int .i64 a1.Up, .int .i64 a1.Down, .int .i64 a1.Samples]]) (fun Q9 hJ9 hR9 hX9 => ?_) (fun a w hJ => ?_)
    · replace H := H9
      refine itt H (fun hc10 H => ?_) (fun hc10 H => ?_)
      · -- a1.Up < 1
        refine region_k (fun K11 hK11 => ?_)
        refine stq hf rfl rfl rfl (ex_fieldAddrB fa_76_0 rfl hf rfl) (fun a hf => ?_)
        refine stq hf rfl rfl rfl (ex_load sc_3 hf rfl (bx_cell (hs.get (i := 0) rfl) _ rfl)) (fun a hf => ?_)
        refine stq hf rfl rfl rfl (ex_lss hf rfl rfl) (fun a hf => ?_)
        refine stq hf rfl rfl rfl (ex_move hf rfl) (fun a hf => ?_)
        replace hf := hf.castB (t := 14) rfl (dec_t hc10)
        replace hf := hf.castB (t := 15) rfl (dec_t hc10)
        refine stepN hf rfl rfl rfl (fun a hf => ?_)
        refine stepN hf rfl rfl rfl (fun a hf => ?_)
        refine stepN hf rfl rfl rfl (fun a hf => ?_)
        refine stq hf rfl rfl rfl (ex_pickT hf rfl rfl) (fun a hf => ?_)
        refine stq hf rfl rfl rfl (ex_move hf rfl) (fun a hf => ?_)
        refine stepN hf rfl rfl rfl (fun a hf => ?_)
        refine stepN hf rfl rfl rfl (fun a hf => ?_)
        refine stepN hf rfl rfl rfl (fun a hf => ?_)
        refine stq hf rfl rfl rfl (ex_pickT hf rfl rfl) (fun a hf => ?_)
        refine stq hf rfl rfl rfl (ex_move hf rfl) (fun a hf => ?_)
        refine stepN hf rfl rfl rfl (fun a hf => ?_)
        refine stepN hf rfl rfl rfl (fun a hf => ?_)
        refine stepN hf rfl rfl rfl (fun a hf => ?_)
        refine stepN hf rfl rfl rfl (fun a hf => ?_)
        refine stepN hf rfl rfl rfl (fun a hf => ?_)
        refine stq hf rfl rfl rfl (ex_pickT hf rfl rfl) (fun a hf => ?_)
        refine stq hf rfl rfl rfl (ex_move hf rfl) (fun a hf => ?_)
        refine stepN hf rfl rfl rfl (fun a hf => ?_)
        refine stepN hf rfl rfl rfl (fun a hf => ?_)
        refine stepN hf rfl rfl rfl (fun a hf => ?_)
        refine stq hf rfl rfl rfl (ex_pickT hf rfl rfl) (fun a hf => ?_)
        refine stq hf rfl rfl rfl (ex_move hf rfl) (fun a hf => ?_)
        refine stepN hf rfl rfl rfl (fun a hf => ?_)
        refine stepN hf rfl rfl rfl (fun a hf => ?_)
        refine stepN hf rfl rfl rfl (fun a hf => ?_)
        refine stq hf rfl rfl rfl (ex_pickT hf rfl rfl) (fun a hf => ?_)
        refine hK11 _ _ ?_
        have e9 := some_eq H; subst e9
        exact hJ9 _ _ ⟨hf.sub ⟨rfl, rfl, rfl, trivial⟩, hs⟩
      · -- not a1.Up < 1
        refine itt H (fun hc12 H => ?_) (fun hc12 H => ?_)
        · -- 100 < a1.Up
          refine region_k (fun K13 hK13 => ?_)
          refine stq hf rfl rfl rfl (ex_fieldAddrB fa_76_0 rfl hf rfl) (fun a hf => ?_)
          refine stq hf rfl rfl rfl (ex_load sc_3 hf rfl (bx_cell (hs.get (i := 0) rfl) _ rfl)) (fun a hf => ?_)
          refine stq hf rfl rfl rfl (ex_lss hf rfl rfl) (fun a hf => ?_)
          refine stq hf rfl rfl rfl (ex_move hf rfl) (fun a hf => ?_)
          replace hf := hf.castB (t := 14) rfl (dec_f hc10)
          replace hf := hf.castB (t := 15) rfl (dec_f hc10)
          refine stq hf rfl rfl rfl (ex_fieldAddrB fa_76_0 rfl hf rfl) (fun a hf => ?_)
          refine stq hf rfl rfl rfl (ex_load sc_3 hf rfl (bx_cell (hs.get (i := 0) rfl) _ rfl)) (fun a hf => ?_)
          refine stq hf rfl rfl rfl (ex_gtr hf rfl rfl) (fun a hf => ?_)
          refine stq hf rfl rfl rfl (ex_pickF hf rfl rfl) (fun a hf => ?_)
          refine stq hf rfl rfl rfl (ex_move hf rfl) (fun a hf => ?_)
          replace hf := hf.castB (t := 18) rfl (dec_t hc12)
          replace hf := hf.castB (t := 19) rfl (dec_t hc12)
          replace hf := hf.castB (t := 20) rfl (dec_t hc12)
          refine stepN hf rfl rfl rfl (fun a hf => ?_)
          refine stepN hf rfl rfl rfl (fun a hf => ?_)
          refine stepN hf rfl rfl rfl (fun a hf => ?_)
          refine stq hf rfl rfl rfl (ex_pickT hf rfl rfl) (fun a hf => ?_)
          refine stq hf rfl rfl rfl (ex_move hf rfl) (fun a hf => ?_)
          refine stepN hf rfl rfl rfl (fun a hf => ?_)
          refine stepN hf rfl rfl rfl (fun a hf => ?_)
          refine stepN hf rfl rfl rfl (fun a hf => ?_)
          refine stepN hf rfl rfl rfl (fun a hf => ?_)
          refine stepN hf rfl rfl rfl (fun a hf => ?_)
          refine stq hf rfl rfl rfl (ex_pickT hf rfl rfl) (fun a hf => ?_)
          refine stq hf rfl rfl rfl (ex_move hf rfl) (fun a hf => ?_)
          refine stepN hf rfl rfl rfl (fun a hf => ?_)
          refine stepN hf rfl rfl rfl (fun a hf => ?_)
          refine stepN hf rfl rfl rfl (fun a hf => ?_)
          refine stq hf rfl rfl rfl (ex_pickT hf rfl rfl) (fun a hf => ?_)
          refine stq hf rfl rfl rfl (ex_move hf rfl) (fun a hf => ?_)
          refine stepN hf rfl rfl rfl (fun a hf => ?_)
          refine stepN hf rfl rfl rfl (fun a hf => ?_)
          refine stepN hf rfl rfl rfl (fun a hf => ?_)
          refine stq hf rfl rfl rfl (ex_pickT hf rfl rfl) (fun a hf => ?_)
          refine hK13 _ _ ?_
          have e9 := some_eq H; subst e9
          exact hJ9 _ _ ⟨hf.sub ⟨rfl, rfl, rfl, trivial⟩, hs⟩
        · -- not 100 < a1.Up
          refine itt H (fun hc14 H => ?_) (fun hc14 H => ?_)
          · -- a1.Down < 0
            refine region_k (fun K15 hK15 => ?_)
            refine stq hf rfl rfl rfl (ex_fieldAddrB fa_76_0 rfl hf rfl) (fun a hf => ?_)
            refine stq hf rfl rfl rfl (ex_load sc_3 hf rfl (bx_cell (hs.get (i := 0) rfl) _ rfl)) (fun a hf => ?_)
            refine stq hf rfl rfl rfl (ex_lss hf rfl rfl) (fun a hf => ?_)
            refine stq hf rfl rfl rfl (ex_move hf rfl) (fun a hf => ?_)
            replace hf := hf.castB (t := 14) rfl (dec_f hc10)
            replace hf := hf.castB (t := 15) rfl (dec_f hc10)
            refine stq hf rfl rfl rfl (ex_fieldAddrB fa_76_0 rfl hf rfl) (fun a hf => ?_)
            refine stq hf rfl rfl rfl (ex_load sc_3 hf rfl (bx_cell (hs.get (i := 0) rfl) _ rfl)) (fun a hf => ?_)
            refine stq hf rfl rfl rfl (ex_gtr hf rfl rfl) (fun a hf => ?_)
            refine stq hf rfl rfl rfl (ex_pickF hf rfl rfl) (fun a hf => ?_)
            refine stq hf rfl rfl rfl (ex_move hf rfl) (fun a hf => ?_)
            replace hf := hf.castB (t := 18) rfl (dec_f hc12)
            replace hf := hf.castB (t := 19) rfl (dec_f hc12)
            replace hf := hf.castB (t := 20) rfl (dec_f hc12)
            refine stq hf rfl rfl rfl (ex_fieldAddrB fa_76_1 rfl hf rfl) (fun a hf => ?_)
            refine stq hf rfl rfl rfl (ex_load sc_3 hf rfl (bx_cell (hs.get (i := 0) rfl) _ rfl)) (fun a hf => ?_)
            refine stq hf rfl rfl rfl (ex_lss hf rfl rfl) (fun a hf => ?_)
            refine stq hf rfl rfl rfl (ex_pickF hf rfl rfl) (fun a hf => ?_)
            refine stq hf rfl rfl rfl (ex_move hf rfl) (fun a hf => ?_)
            replace hf := hf.castB (t := 23) rfl (dec_t hc14)
            replace hf := hf.castB (t := 24) rfl (dec_t hc14)
            replace hf := hf.castB (t := 25) rfl (dec_t hc14)
            refine stepN hf rfl rfl rfl (fun a hf => ?_)
            refine stepN hf rfl rfl rfl (fun a hf => ?_)
            refine stepN hf rfl rfl rfl (fun a hf => ?_)
            refine stepN hf rfl rfl rfl (fun a hf => ?_)
            refine stepN hf rfl rfl rfl (fun a hf => ?_)
            refine stq hf rfl rfl rfl (ex_pickT hf rfl rfl) (fun a hf => ?_)
            refine stq hf rfl rfl rfl (ex_move hf rfl) (fun a hf => ?_)
            refine stepN hf rfl rfl rfl (fun a hf => ?_)
            refine stepN hf rfl rfl rfl (fun a hf => ?_)
            refine stepN hf rfl rfl rfl (fun a hf => ?_)
            refine stq hf rfl rfl rfl (ex_pickT hf rfl rfl) (fun a hf => ?_)
            refine stq hf rfl rfl rfl (ex_move hf rfl) (fun a hf => ?_)
            refine stepN hf rfl rfl rfl (fun a hf => ?_)
            refine stepN hf rfl rfl rfl (fun a hf => ?_)
            refine stepN hf rfl rfl rfl (fun a hf => ?_)
            refine stq hf rfl rfl rfl (ex_pickT hf rfl rfl) (fun a hf => ?_)
            refine hK15 _ _ ?_
            have e9 := some_eq H; subst e9
            exact hJ9 _ _ ⟨hf.sub ⟨rfl, rfl, rfl, trivial⟩, hs⟩
          · -- not a1.Down < 0
            refine itt H (fun hc16 H => ?_) (fun hc16 H => ?_)
            · -- a1.Up ≤ a1.Down
              refine region_k (fun K17 hK17 => ?_)
              refine stq hf rfl rfl rfl (ex_fieldAddrB fa_76_0 rfl hf rfl) (fun a hf => ?_)
              refine stq hf rfl rfl rfl (ex_load sc_3 hf rfl (bx_cell (hs.get (i := 0) rfl) _ rfl)) (fun a hf => ?_)
              refine stq hf rfl rfl rfl (ex_lss hf rfl rfl) (fun a hf => ?_)
              refine stq hf rfl rfl rfl (ex_move hf rfl) (fun a hf => ?_)
              replace hf := hf.castB (t := 14) rfl (dec_f hc10)
              replace hf := hf.castB (t := 15) rfl (dec_f hc10)
              refine stq hf rfl rfl rfl (ex_fieldAddrB fa_76_0 rfl hf rfl) (fun a hf => ?_)
              refine stq hf rfl rfl rfl (ex_load sc_3 hf rfl (bx_cell (hs.get (i := 0) rfl) _ rfl)) (fun a hf => ?_)
              refine stq hf rfl rfl rfl (ex_gtr hf rfl rfl) (fun a hf => ?_)
              refine stq hf rfl rfl rfl (ex_pickF hf rfl rfl) (fun a hf => ?_)
              refine stq hf rfl rfl rfl (ex_move hf rfl) (fun a hf => ?_)
              replace hf := hf.castB (t := 18) rfl (dec_f hc12)
              replace hf := hf.castB (t := 19) rfl (dec_f hc12)
              replace hf := hf.castB (t := 20) rfl (dec_f hc12)
              refine stq hf rfl rfl rfl (ex_fieldAddrB fa_76_1 rfl hf rfl) (fun a hf => ?_)
              refine stq hf rfl rfl rfl (ex_load sc_3 hf rfl (bx_cell (hs.get (i := 0) rfl) _ rfl)) (fun a hf => ?_)
              refine stq hf rfl rfl rfl (ex_lss hf rfl rfl) (fun a hf => ?_)
              refine stq hf rfl rfl rfl (ex_pickF hf rfl rfl) (fun a hf => ?_)
              refine stq hf rfl rfl rfl (ex_move hf rfl) (fun a hf => ?_)
              replace hf := hf.castB (t := 23) rfl (dec_f hc14)
              replace hf := hf.castB (t := 24) rfl (dec_f hc14)
              replace hf := hf.castB (t := 25) rfl (dec_f hc14)
              refine stq hf rfl rfl rfl (ex_fieldAddrB fa_76_1 rfl hf rfl) (fun a hf => ?_)
              refine stq hf rfl rfl rfl (ex_load sc_3 hf rfl (bx_cell (hs.get (i := 0) rfl) _ rfl)) (fun a hf => ?_)
              refine stq hf rfl rfl rfl (ex_fieldAddrB fa_76_0 rfl hf rfl) (fun a hf => ?_)
              refine stq hf rfl rfl rfl (ex_load sc_3 hf rfl (bx_cell (hs.get (i := 0) rfl) _ rfl)) (fun a hf => ?_)
              refine stq hf rfl rfl rfl (ex_geq hf rfl rfl) (fun a hf => ?_)
              refine stq hf rfl rfl rfl (ex_pickF hf rfl rfl) (fun a hf => ?_)
              refine stq hf rfl rfl rfl (ex_move hf rfl) (fun a hf => ?_)
              replace hf := hf.castB (t := 30) rfl (dec_t hc16)
              replace hf := hf.castB (t := 31) rfl (dec_t hc16)
              replace hf := hf.castB (t := 32) rfl (dec_t hc16)
              refine stepN hf rfl rfl rfl (fun a hf => ?_)
              refine stepN hf rfl rfl rfl (fun a hf => ?_)
              refine stepN hf rfl rfl rfl (fun a hf => ?_)
              refine stq hf rfl rfl rfl (ex_pickT hf rfl rfl) (fun a hf => ?_)
              refine stq hf rfl rfl rfl (ex_move hf rfl) (fun a hf => ?_)
              refine stepN hf rfl rfl rfl (fun a hf => ?_)
              refine stepN hf rfl rfl rfl (fun a hf => ?_)
              refine stepN hf rfl rfl rfl (fun a hf => ?_)
              refine stq hf rfl rfl rfl (ex_pickT hf rfl rfl) (fun a hf => ?_)
              refine hK17 _ _ ?_
              have e9 := some_eq H; subst e9
              exact hJ9 _ _ ⟨hf.sub ⟨rfl, rfl, rfl, trivial⟩, hs⟩
            · -- not a1.Up ≤ a1.Down
              refine itt H (fun hc18 H => ?_) (fun hc18 H => ?_)
              · -- a1.Samples < 1
                refine region_k (fun K19 hK19 => ?_)
                refine stq hf rfl rfl rfl (ex_fieldAddrB fa_76_0 rfl hf rfl) (fun a hf => ?_)
                refine stq hf rfl rfl rfl (ex_load sc_3 hf rfl (bx_cell (hs.get (i := 0) rfl) _ rfl)) (fun a hf => ?_)
                refine stq hf rfl rfl rfl (ex_lss hf rfl rfl) (fun a hf => ?_)
                refine stq hf rfl rfl rfl (ex_move hf rfl) (fun a hf => ?_)
                replace hf := hf.castB (t := 14) rfl (dec_f hc10)
                replace hf := hf.castB (t := 15) rfl (dec_f hc10)
                refine stq hf rfl rfl rfl (ex_fieldAddrB fa_76_0 rfl hf rfl) (fun a hf => ?_)
                refine stq hf rfl rfl rfl (ex_load sc_3 hf rfl (bx_cell (hs.get (i := 0) rfl) _ rfl)) (fun a hf => ?_)
                refine stq hf rfl rfl rfl (ex_gtr hf rfl rfl) (fun a hf => ?_)
                refine stq hf rfl rfl rfl (ex_pickF hf rfl rfl) (fun a hf => ?_)
                refine stq hf rfl rfl rfl (ex_move hf rfl) (fun a hf => ?_)
                replace hf := hf.castB (t := 18) rfl (dec_f hc12)
                replace hf := hf.castB (t := 19) rfl (dec_f hc12)
                replace hf := hf.castB (t := 20) rfl (dec_f hc12)
                refine stq hf rfl rfl rfl (ex_fieldAddrB fa_76_1 rfl hf rfl) (fun a hf => ?_)
                refine stq hf rfl rfl rfl (ex_load sc_3 hf rfl (bx_cell (hs.get (i := 0) rfl) _ rfl)) (fun a hf => ?_)
                refine stq hf rfl rfl rfl (ex_lss hf rfl rfl) (fun a hf => ?_)
                refine stq hf rfl rfl rfl (ex_pickF hf rfl rfl) (fun a hf => ?_)
                refine stq hf rfl rfl rfl (ex_move hf rfl) (fun a hf => ?_)
                replace hf := hf.castB (t := 23) rfl (dec_f hc14)
                replace hf := hf.castB (t := 24) rfl (dec_f hc14)
                replace hf := hf.castB (t := 25) rfl (dec_f hc14)
                refine stq hf rfl rfl rfl (ex_fieldAddrB fa_76_1 rfl hf rfl) (fun a hf => ?_)
                refine stq hf rfl rfl rfl (ex_load sc_3 hf rfl (bx_cell (hs.get (i := 0) rfl) _ rfl)) (fun a hf => ?_)
                refine stq hf rfl rfl rfl (ex_fieldAddrB fa_76_0 rfl hf rfl) (fun a hf => ?_)
                refine stq hf rfl rfl rfl (ex_load sc_3 hf rfl (bx_cell (hs.get (i := 0) rfl) _ rfl)) (fun a hf => ?_)
                refine stq hf rfl rfl rfl (ex_geq hf rfl rfl) (fun a hf => ?_)
                refine stq hf rfl rfl rfl (ex_pickF hf rfl rfl) (fun a hf => ?_)
                refine stq hf rfl rfl rfl (ex_move hf rfl) (fun a hf => ?_)
                replace hf := hf.castB (t := 30) rfl (dec_f hc16)
                replace hf := hf.castB (t := 31) rfl (dec_f hc16)
                replace hf := hf.castB (t := 32) rfl (dec_f hc16)
                refine stq hf rfl rfl rfl (ex_fieldAddrB fa_76_2 rfl hf rfl) (fun a hf => ?_)
                refine stq hf rfl rfl rfl (ex_load sc_3 hf rfl (bx_cell (hs.get (i := 0) rfl) _ rfl)) (fun a hf => ?_)
                refine stq hf rfl rfl rfl (ex_lss hf rfl rfl) (fun a hf => ?_)
                refine stq hf rfl rfl rfl (ex_pickF hf rfl rfl) (fun a hf => ?_)
                refine stq hf rfl rfl rfl (ex_move hf rfl) (fun a hf => ?_)
                replace hf := hf.castB (t := 35) rfl (dec_t hc18)
                replace hf := hf.castB (t := 36) rfl (dec_t hc18)
                replace hf := hf.castB (t := 37) rfl (dec_t hc18)
                refine stepN hf rfl rfl rfl (fun a hf => ?_)
                refine stepN hf rfl rfl rfl (fun a hf => ?_)
                refine stepN hf rfl rfl rfl (fun a hf => ?_)
                refine stq hf rfl rfl rfl (ex_pickT hf rfl rfl) (fun a hf => ?_)
                refine hK19 _ _ ?_
                have e9 := some_eq H; subst e9
                exact hJ9 _ _ ⟨hf.sub ⟨rfl, rfl, rfl, trivial⟩, hs⟩
              · -- not a1.Samples < 1
                refine region_k (fun K20 hK20 => ?_)
                refine stq hf rfl rfl rfl (ex_fieldAddrB fa_76_0 rfl hf rfl) (fun a hf => ?_)
                refine stq hf rfl rfl rfl (ex_load sc_3 hf rfl (bx_cell (hs.get (i := 0) rfl) _ rfl)) (fun a hf => ?_)
                refine stq hf rfl rfl rfl (ex_lss hf rfl rfl) (fun a hf => ?_)
                refine stq hf rfl rfl rfl (ex_move hf rfl) (fun a hf => ?_)
                replace hf := hf.castB (t := 14) rfl (dec_f hc10)
                replace hf := hf.castB (t := 15) rfl (dec_f hc10)
                refine stq hf rfl rfl rfl (ex_fieldAddrB fa_76_0 rfl hf rfl) (fun a hf => ?_)
                refine stq hf rfl rfl rfl (ex_load sc_3 hf rfl (bx_cell (hs.get (i := 0) rfl) _ rfl)) (fun a hf => ?_)
                refine stq hf rfl rfl rfl (ex_gtr hf rfl rfl) (fun a hf => ?_)
                refine stq hf rfl rfl rfl (ex_pickF hf rfl rfl) (fun a hf => ?_)
                refine stq hf rfl rfl rfl (ex_move hf rfl) (fun a hf => ?_)
                replace hf := hf.castB (t := 18) rfl (dec_f hc12)
                replace hf := hf.castB (t := 19) rfl (dec_f hc12)
                replace hf := hf.castB (t := 20) rfl (dec_f hc12)
                refine stq hf rfl rfl rfl (ex_fieldAddrB fa_76_1 rfl hf rfl) (fun a hf => ?_)
                refine stq hf rfl rfl rfl (ex_load sc_3 hf rfl (bx_cell (hs.get (i := 0) rfl) _ rfl)) (fun a hf => ?_)
                refine stq hf rfl rfl rfl (ex_lss hf rfl rfl) (fun a hf => ?_)
                refine stq hf rfl rfl rfl (ex_pickF hf rfl rfl) (fun a hf => ?_)
                refine stq hf rfl rfl rfl (ex_move hf rfl) (fun a hf => ?_)
                replace hf := hf.castB (t := 23) rfl (dec_f hc14)
                replace hf := hf.castB (t := 24) rfl (dec_f hc14)
                replace hf := hf.castB (t := 25) rfl (dec_f hc14)
                refine stq hf rfl rfl rfl (ex_fieldAddrB fa_76_1 rfl hf rfl) (fun a hf => ?_)
                refine stq hf rfl rfl rfl (ex_load sc_3 hf rfl (bx_cell (hs.get (i := 0) rfl) _ rfl)) (fun a hf => ?_)
                refine stq hf rfl rfl rfl (ex_fieldAddrB fa_76_0 rfl hf rfl) (fun a hf => ?_)
                refine stq hf rfl rfl rfl (ex_load sc_3 hf rfl (bx_cell (hs.get (i := 0) rfl) _ rfl)) (fun a hf => ?_)
                refine stq hf rfl rfl rfl (ex_geq hf rfl rfl) (fun a hf => ?_)
                refine stq hf rfl rfl rfl (ex_pickF hf rfl rfl) (fun a hf => ?_)
                refine stq hf rfl rfl rfl (ex_move hf rfl) (fun a hf => ?_)
                replace hf := hf.castB (t := 30) rfl (dec_f hc16)
                replace hf := hf.castB (t := 31) rfl (dec_f hc16)
                replace hf := hf.castB (t := 32) rfl (dec_f hc16)
                refine stq hf rfl rfl rfl (ex_fieldAddrB fa_76_2 rfl hf rfl) (fun a hf => ?_)
                refine stq hf rfl rfl rfl (ex_load sc_3 hf rfl (bx_cell (hs.get (i := 0) rfl) _ rfl)) (fun a hf => ?_)
                refine stq hf rfl rfl rfl (ex_lss hf rfl rfl) (fun a hf => ?_)
                refine stq hf rfl rfl rfl (ex_pickF hf rfl rfl) (fun a hf => ?_)
                refine stq hf rfl rfl rfl (ex_move hf rfl) (fun a hf => ?_)
                replace hf := hf.castB (t := 35) rfl (dec_f hc18)
                replace hf := hf.castB (t := 36) rfl (dec_f hc18)
                replace hf := hf.castB (t := 37) rfl (dec_f hc18)
                refine stq hf rfl rfl rfl (ex_fieldAddrB fa_76_2 rfl hf rfl) (fun a hf => ?_)
                refine stq hf rfl rfl rfl (ex_load sc_3 hf rfl (bx_cell (hs.get (i := 0) rfl) _ rfl)) (fun a hf => ?_)
                refine stq hf rfl rfl rfl (ex_gtr hf rfl rfl) (fun a hf => ?_)
                refine stq hf rfl rfl rfl (ex_pickF hf rfl rfl) (fun a hf => ?_)
                refine hK20 _ _ ?_
                have e9 := some_eq H; subst e9
                exact hJ9 _ _ ⟨hf.sub ⟨rfl, rfl, rfl, trivial⟩, hs⟩
    · obtain ⟨hf, hs⟩ := hJ
      replace H := HO9
      clear HO9
      refine itt H (fun hc21 H => ?_) (fun hc21 H => ?_)
      · -- x9 = true
        replace hf := hf.castB (t := 41) rfl hc21
        refine cond_T hf rfl ?_
        refine seq_reg (fun K22 hK22 => ?_)
        refine stq hf rfl rfl rfl (ex_assign hf rfl) (fun a hf => ?_)
        refine stq hf rfl rfl rfl (ex_assign hf rfl) (fun a hf => ?_)
        refine hK22 _ _ ?_
        refine wp_ret ?_
        refine hR8 _ _ ?_
        have eR := some_eq H; subst eR
        replace hs := hs.keep (.d .nil)
        exact ret2 Try.results23 hf rfl rfl ⟨_, rfl, .inl ⟨rfl, rfl, hs⟩⟩
      · -- not x9 = true
        replace hf := hf.castB (t := 41) rfl (bool_f hc21)
        refine cond_F hf rfl ?_
        refine wp_skip ?_
        refine hN8 _ _ ?_
        refine seq_n (fun Q23 hN23 hR23 hX23 => ?_)
        refine bnd H (fun s24 hs24 H => ?_)
        refine region_d fol 8 [(0, v0), (3, .pointer (some ⟨b1, 0, none⟩))] [(0, v0), (2, .agg #[.int .i64 a1.Up, .int .i64 a1.Down, .int .i64 a1.Samples]), (3, v0), (4, .int .i64 (a0.length : Int)), (5, .int .i64 (IntKind.i64.wrap ((a0.length : Int) - 1)))] [1, 7] (fun w => (bx b1 76 [.int .i64 a1.Up, .int .i64 a1.Down, .int .i64 a1.Samples]).ok w ∧ (rsl K_api_OperatingPoint v0 a0).ok w ∧ True) (fun w => St M w0 w [bx b1 76 [.int .i64 a1.Up, .int .i64 a1.Down, .int .i64 a1.Samples]]) hf ⟨rfl, rfl, trivial⟩ (by kernel_rfl) (by kernel_rfl) rfl (by decide) ⟨hs.drew.get (i := 0) rfl, hr.now hs.drew (i := 0) rfl, trivial⟩ hs.drew (.cons (⟨_, _, rfl, rfl, rfl, rfl, fun a w hR hf => .inl ⟨wanted_yes hf rfl, ex_move hf rfl⟩⟩) (.cons (⟨_, _, rfl, rfl, rfl, rfl, fun a w hR hf => .inl ⟨wanted_yes hf rfl, ex_loadA (cs := [.int .i64 a1.Up, .int .i64 a1.Down, .int .i64 a1.Samples]) ag_76 hf rfl (bx_cells (hR.1) rfl)⟩⟩) (.cons (⟨_, _, rfl, rfl, rfl, rfl, fun a w hR hf => .inl ⟨wanted_yes hf rfl, ex_move hf rfl⟩⟩) (.cons (⟨_, _, rfl, rfl, rfl, rfl, fun a w hR hf => .inl ⟨wanted_yes hf rfl, ex_lenS Try.underlying22 (rsl_isSl hR.2.1) hf rfl⟩⟩) (.cons (⟨_, _, rfl, rfl, rfl, rfl, fun a w hR hf => .inl ⟨wanted_yes hf rfl, ex_sub hf rfl rfl⟩⟩) (.nil)))))) (fun K27 hK27 => ?_)
        refine RW.one 1 (by kernel_rfl) (by kernel_rfl) rfl (fun d hd => by cases hd; rfl) [(42, v0)] ⟨rfl, trivial⟩ (fun a w hR hs hf => ⟨wanted_yes hf rfl, ?_⟩)
        refine estep_f (ex_call cf_41 hf rfl) (slices_Clone_api_OperatingPoint_api_OperatingPoint.calls k a0 v0 (hs.enter (.k .nil)) (Sr.old hr hs (.k .nil) (i := 0) rfl (fun _ h => h) (fun _ h => h) (Sr.nil _ _)) hs24) (fun v w hR => ?_)
        obtain ⟨v25, rfl, hs'⟩ := hR
        replace hs := hs.step (.k .nil) hs'
        clear hs'
        refine ⟨[(6, .agg #[v25, .int .i64 a1.Up, .int .i64 a1.Down, .int .i64 a1.Samples, .int .i64 0, .int .i64 (IntKind.i64.wrap ((a0.length : Int) - 1)), .int .i64 0, .int .i64 0])], [(6, .agg #[v25, .int .i64 a1.Up, .int .i64 a1.Down, .int .i64 a1.Samples, .int .i64 0, .int .i64 (IntKind.i64.wrap ((a0.length : Int) - 1)), .int .i64 0, .int .i64 0]), (1, v25), (0, v0), (2, .agg #[.int .i64 a1.Up, .int .i64 a1.Down, .int .i64 a1.Samples]), (3, v0), (4, .int .i64 (a0.length : Int)), (5, .int .i64 (IntKind.i64.wrap ((a0.length : Int) - 1)))], [7], (fun w => (osl K_api_OperatingPoint v25 s24).ok w ∧ True), (fun w => St M w0 w [osl K_api_OperatingPoint v25 s24, bx b1 76 [.int .i64 a1.Up, .int .i64 a1.Down, .int .i64 a1.Samples]]), rfl, rfl, ⟨hs.get (i := 1) rfl, hr.now hs (i := 0) rfl, trivial⟩, ⟨hs.get (i := 0) rfl, trivial⟩, hs, (by kernel_rfl), .cons (⟨_, _, rfl, rfl, rfl, rfl, fun a w hR hf => .inl ⟨wanted_yes hf rfl, ex_build (cs := [v25, .int .i64 a1.Up, .int .i64 a1.Down, .int .i64 a1.Samples, .int .i64 0, .int .i64 (IntKind.i64.wrap ((a0.length : Int) - 1)), .int .i64 0, .int .i64 0]) bt_102 hf rfl (.cons (CL.one (IsSl.one (rsl_isSl (osl_rsl _ hR.2.1)))) (.cons rfl (.cons rfl .nil))) rfl⟩⟩) (.nil), ?_⟩
        refine RW.one 7 (by kernel_rfl) (by kernel_rfl) rfl (fun d hd => by cases hd; rfl) [(48, .agg #[v25, .int .i64 a1.Up, .int .i64 a1.Down, .int .i64 a1.Samples, .int .i64 0, .int .i64 (IntKind.i64.wrap ((a0.length : Int) - 1)), .int .i64 0, .int .i64 0])] ⟨rfl, trivial⟩ (fun a w hR hs hf => ⟨wanted_yes hf rfl, ?_⟩)
        refine estep_v (er_box (cs := [v25, .int .i64 a1.Up, .int .i64 a1.Down, .int .i64 a1.Samples, .int .i64 0, .int .i64 (IntKind.i64.wrap ((a0.length : Int) - 1)), .int .i64 0, .int .i64 0]) hs hf rfl rfl) (fun v w hR => ?_)
        obtain ⟨b26, rfl, hs⟩ := hR
        refine ⟨[], [(7, .pointer (some ⟨b26, 0, none⟩)), (6, .agg #[v25, .int .i64 a1.Up, .int .i64 a1.Down, .int .i64 a1.Samples, .int .i64 0, .int .i64 (IntKind.i64.wrap ((a0.length : Int) - 1)), .int .i64 0, .int .i64 0]), (1, v25), (0, v0), (2, .agg #[.int .i64 a1.Up, .int .i64 a1.Down, .int .i64 a1.Samples]), (3, v0), (4, .int .i64 (a0.length : Int)), (5, .int .i64 (IntKind.i64.wrap ((a0.length : Int) - 1)))], [], (fun _ => True), (fun w => St M w0 w [bx b26 102 [v25, .int .i64 a1.Up, .int .i64 a1.Down, .int .i64 a1.Samples, .int .i64 0, .int .i64 (IntKind.i64.wrap ((a0.length : Int) - 1)), .int .i64 0, .int .i64 0], osl K_api_OperatingPoint v25 s24, bx b1 76 [.int .i64 a1.Up, .int .i64 a1.Down, .int .i64 a1.Samples]]), rfl, rfl, ⟨⟨hs.get (i := 2) rfl, hr.now hs (i := 0) rfl, trivial⟩, ⟨hs.get (i := 1) rfl, trivial⟩⟩, trivial, hs, (by kernel_rfl), .nil, ?_⟩
        refine RW.zero (by kernel_rfl) (by kernel_rfl) [(49, .pointer (some ⟨b26, 0, none⟩))] ⟨rfl, trivial⟩ (fun a w hR hs hf => ?_)
        refine stq hf rfl rfl rfl (ex_assign hf rfl) (fun a hf => ?_)
        refine stq hf rfl rfl rfl (ex_assign hf rfl) (fun a hf => ?_)
        refine hK27 _ _ ?_
        refine hN23 _ _ ?_
        refine wp_ret ?_
        have eR := some_eq H; subst eR
        replace hs := hs.keep (.k (.k (.d .nil)))
        exact ret2 Try.results23 hf rfl rfl ⟨_, rfl, .inr ⟨_, rfl, b26, v25, rfl, hs⟩⟩
  · -- not s4 = 0
    replace hf := hf.castB (t := 10) rfl (ndec_t hc7)
    refine cond_T hf rfl ?_
    refine seq_reg (fun K28 hK28 => ?_)
    refine stq hf rfl rfl rfl (ex_move hf rfl) (fun a hf => ?_)
    refine stq hf rfl rfl rfl (ex_assign hf rfl) (fun a hf => ?_)
    refine stq hf rfl rfl rfl (ex_assign hf rfl) (fun a hf => ?_)
    refine hK28 _ _ ?_
    refine wp_ret ?_
    refine hR3 _ _ ?_
    have eR := some_eq H; subst eR
    replace hs := hs.keep (.d .nil)
    exact ret2 Try.results23 hf rfl rfl ⟨_, rfl, .inl ⟨rfl, rfl, hs⟩⟩

set_option maxRecDepth 100000 in
theorem perf_has.calls {M : Nat → Prop} {w0 : World} (k : Nat) (a0 : (List OperatingPoint)) (a1 : Int) (v0 : Value) {r : Bool} (hs : St M w0 w0 []) (hr : Sr M w0 [rsl K_api_OperatingPoint v0 a0])
    (h : perf_has.f k a0 a1 = some r) : Calls Try.prog 42 #[v0, .int .i64 a1] w0 fun e w => ∃ v, e = .returned v ∧ (.bool r = v ∧ St M w0 w []) := by
  have H := (perf_has.f.eq_1 ..).symm.trans h
  clear h
  refine enter Try.func42 rfl Try.ntmps42 rfl (fun a hf => ?_)
  refine seq_reg (fun K1 hK1 => ?_)
  refine stq hf rfl rfl rfl (ex_assign hf rfl) (fun a hf => ?_)
  refine hK1 _ _ ?_
  refine itt H (fun hc2 H => ?_) (fun hc2 H => ?_)
  · -- 0 ≤ a1
    refine seq_reg (fun K3 hK3 => ?_)
    refine stq hf rfl rfl rfl (ex_move hf rfl) (fun a hf => ?_)
    refine stq hf rfl rfl rfl (ex_geq hf rfl rfl) (fun a hf => ?_)
    refine stq hf rfl rfl rfl (ex_move hf rfl) (fun a hf => ?_)
    replace hf := hf.castB (t := 6) rfl (dec_t hc2)
    replace hf := hf.castB (t := 7) rfl (dec_t hc2)
    refine stq hf rfl rfl rfl (ex_move hf rfl) (fun a hf => ?_)
    refine stq hf rfl rfl rfl (ex_move hf rfl) (fun a hf => ?_)
    refine stq hf rfl rfl rfl (ex_lenS Try.underlying22 (rsl_isSl (hr.now hs (i := 0) rfl)) hf rfl) (fun a hf => ?_)
    refine stq hf rfl rfl rfl (ex_lss hf rfl rfl) (fun a hf => ?_)
    refine stq hf rfl rfl rfl (ex_pickT hf rfl rfl) (fun a hf => ?_)
    refine stq hf rfl rfl rfl (ex_assign hf rfl) (fun a hf => ?_)
    refine hK3 _ _ ?_
    refine wp_ret ?_
    have eR := some_eq H; subst eR
    exact ret1 Try.results42 hf rfl ⟨_, rfl, ⟨rfl, hs⟩⟩
  · -- not 0 ≤ a1
    refine seq_reg (fun K4 hK4 => ?_)
    refine stq hf rfl rfl rfl (ex_move hf rfl) (fun a hf => ?_)
    refine stq hf rfl rfl rfl (ex_geq hf rfl rfl) (fun a hf => ?_)
    refine stq hf rfl rfl rfl (ex_move hf rfl) (fun a hf => ?_)
    replace hf := hf.castB (t := 6) rfl (dec_f hc2)
    replace hf := hf.castB (t := 7) rfl (dec_f hc2)
    refine stepN hf rfl rfl rfl (fun a hf => ?_)
    refine stepN hf rfl rfl rfl (fun a hf => ?_)
    refine stepN hf rfl rfl rfl (fun a hf => ?_)
    refine stepN hf rfl rfl rfl (fun a hf => ?_)
    refine stq hf rfl rfl rfl (ex_pickF hf rfl rfl) (fun a hf => ?_)
    refine stq hf rfl rfl rfl (ex_assign hf rfl) (fun a hf => ?_)
    refine hK4 _ _ ?_
    refine wp_ret ?_
    have eR := some_eq H; subst eR
    exact ret1 Try.results42 hf rfl ⟨_, rfl, ⟨rfl, hs⟩⟩

set_option maxRecDepth 100000 in
theorem perf_Governor_Limit.calls {M : Nat → Prop} {w0 : World} (k : Nat) (a0_table : (List OperatingPoint)) (a0_params_Up : Int) (a0_params_Down : Int) (a0_params_Samples : Int) (a0_low : Int) (a0_high : Int) (a0_current : Int) (a0_quiet : Int) (a1 : Int) (a2 : Int) (b0 : Nat) (v0_table : Value) {r : Int × Int × Int × Int × Int} (hs : St M w0 w0 [bx b0 102 [v0_table, .int .i64 a0_params_Up, .int .i64 a0_params_Down, .int .i64 a0_params_Samples, .int .i64 a0_low, .int .i64 a0_high, .int .i64 a0_current, .int .i64 a0_quiet]]) (hr : Sr M w0 [rsl K_api_OperatingPoint v0_table a0_table])
    (h : perf_Governor_Limit.f k a0_table a0_params_Up a0_params_Down a0_params_Samples a0_low a0_high a0_current a0_quiet a1 a2 = some r) : Calls Try.prog 24 #[.pointer (some ⟨b0, 0, none⟩), .int .i64 a1, .int .i64 a2] w0 fun e w => ∃ v, e = .returned v ∧ (.int .i64 r.2.2.2.2 = v ∧ St M w0 w [bx b0 102 [v0_table, .int .i64 a0_params_Up, .int .i64 a0_params_Down, .int .i64 a0_params_Samples, .int .i64 r.1, .int .i64 r.2.1, .int .i64 r.2.2.1, .int .i64 r.2.2.2.1]]) := by
  have H := (perf_Governor_Limit.f.eq_1 ..).symm.trans h
  clear h
  refine enter Try.func24 rfl Try.ntmps24 rfl (fun a hf => ?_)
  refine seq_reg (fun K1 hK1 => ?_)
  refine stq hf rfl rfl rfl (ex_assign hf rfl) (fun a hf => ?_)
  refine hK1 _ _ ?_
  refine seq_n (fun Q2 hN2 hR2 hX2 => ?_)
  refine bnd H (fun x3 H3 HO3 => ?_)
  clear H
  refine seq_cut (fun a w => Fr a 45 [(0, .pointer (some ⟨b0, 0, none⟩)), (1, .int .i64 a1), (2, .int .i64 a2), (22, .bool x3)] ∧ St M w0 w [bx b0 102 [v0_table, .int .i64 a0_params_Up, .int .i64 a0_params_Down, .int .i64 a0_params_Samples, .int .i64 a0_low, .int .i64 a0_high, .int .i64 a0_current, .int .i64 a0_quiet]]) (fun Q3 hJ3 hR3 hX3 => ?_) (fun a w hJ => ?_)
  · replace H := H3
    refine itt H (fun hc4 H => ?_) (fun hc4 H => ?_)
    · -- a1 < 0
      refine region_k (fun K5 hK5 => ?_)
      refine stq hf rfl rfl rfl (ex_move hf rfl) (fun a hf => ?_)
      refine stq hf rfl rfl rfl (ex_lss hf rfl rfl) (fun a hf => ?_)
      refine stq hf rfl rfl rfl (ex_move hf rfl) (fun a hf => ?_)
      replace hf := hf.castB (t := 8) rfl (dec_t hc4)
      replace hf := hf.castB (t := 9) rfl (dec_t hc4)
      refine stepN hf rfl rfl rfl (fun a hf => ?_)
      refine stepN hf rfl rfl rfl (fun a hf => ?_)
      refine stepN hf rfl rfl rfl (fun a hf => ?_)
      refine stq hf rfl rfl rfl (ex_pickT hf rfl rfl) (fun a hf => ?_)
      refine stq hf rfl rfl rfl (ex_move hf rfl) (fun a hf => ?_)
      refine stepN hf rfl rfl rfl (fun a hf => ?_)
      refine stepN hf rfl rfl rfl (fun a hf => ?_)
      refine stepN hf rfl rfl rfl (fun a hf => ?_)
      refine stepN hf rfl rfl rfl (fun a hf => ?_)
      refine stepN hf rfl rfl rfl (fun a hf => ?_)
      refine stepN hf rfl rfl rfl (fun a hf => ?_)
      refine stepN hf rfl rfl rfl (fun a hf => ?_)
      refine stq hf rfl rfl rfl (ex_pickT hf rfl rfl) (fun a hf => ?_)
      refine hK5 _ _ ?_
      have e3 := some_eq H; subst e3
      exact hJ3 _ _ ⟨hf.sub ⟨rfl, rfl, rfl, rfl, trivial⟩, hs⟩
    · -- not a1 < 0
      refine itt H (fun hc6 H => ?_) (fun hc6 H => ?_)
      · -- a2 < a1
        refine region_k (fun K7 hK7 => ?_)
        refine stq hf rfl rfl rfl (ex_move hf rfl) (fun a hf => ?_)
        refine stq hf rfl rfl rfl (ex_lss hf rfl rfl) (fun a hf => ?_)
        refine stq hf rfl rfl rfl (ex_move hf rfl) (fun a hf => ?_)
        replace hf := hf.castB (t := 8) rfl (dec_f hc4)
        replace hf := hf.castB (t := 9) rfl (dec_f hc4)
        refine stq hf rfl rfl rfl (ex_move hf rfl) (fun a hf => ?_)
        refine stq hf rfl rfl rfl (ex_move hf rfl) (fun a hf => ?_)
        refine stq hf rfl rfl rfl (ex_gtr hf rfl rfl) (fun a hf => ?_)
        refine stq hf rfl rfl rfl (ex_pickF hf rfl rfl) (fun a hf => ?_)
        refine stq hf rfl rfl rfl (ex_move hf rfl) (fun a hf => ?_)
        replace hf := hf.castB (t := 12) rfl (dec_t hc6)
        replace hf := hf.castB (t := 13) rfl (dec_t hc6)
        replace hf := hf.castB (t := 14) rfl (dec_t hc6)
        refine stepN hf rfl rfl rfl (fun a hf => ?_)
        refine stepN hf rfl rfl rfl (fun a hf => ?_)
        refine stepN hf rfl rfl rfl (fun a hf => ?_)
        refine stepN hf rfl rfl rfl (fun a hf => ?_)
        refine stepN hf rfl rfl rfl (fun a hf => ?_)
        refine stepN hf rfl rfl rfl (fun a hf => ?_)
        refine stepN hf rfl rfl rfl (fun a hf => ?_)
        refine stq hf rfl rfl rfl (ex_pickT hf rfl rfl) (fun a hf => ?_)
        refine hK7 _ _ ?_
        have e3 := some_eq H; subst e3
        exact hJ3 _ _ ⟨hf.sub ⟨rfl, rfl, rfl, rfl, trivial⟩, hs⟩
      · -- not a2 < a1
        refine bnd H (fun s8 hs8 H => ?_)
        refine region_k (fun K9 hK9 => ?_)
        refine stq hf rfl rfl rfl (ex_move hf rfl) (fun a hf => ?_)
        refine stq hf rfl rfl rfl (ex_lss hf rfl rfl) (fun a hf => ?_)
        refine stq hf rfl rfl rfl (ex_move hf rfl) (fun a hf => ?_)
        replace hf := hf.castB (t := 8) rfl (dec_f hc4)
        replace hf := hf.castB (t := 9) rfl (dec_f hc4)
        refine stq hf rfl rfl rfl (ex_move hf rfl) (fun a hf => ?_)
        refine stq hf rfl rfl rfl (ex_move hf rfl) (fun a hf => ?_)
        refine stq hf rfl rfl rfl (ex_gtr hf rfl rfl) (fun a hf => ?_)
        refine stq hf rfl rfl rfl (ex_pickF hf rfl rfl) (fun a hf => ?_)
        refine stq hf rfl rfl rfl (ex_move hf rfl) (fun a hf => ?_)
        replace hf := hf.castB (t := 12) rfl (dec_f hc6)
        replace hf := hf.castB (t := 13) rfl (dec_f hc6)
        replace hf := hf.castB (t := 14) rfl (dec_f hc6)
        refine stq hf rfl rfl rfl (ex_move hf rfl) (fun a hf => ?_)
        refine stq hf rfl rfl rfl (ex_nilCheck hf rfl) (fun a hf => ?_)
        refine stq hf rfl rfl rfl (ex_fieldAddrB fa_102_0 rfl hf rfl) (fun a hf => ?_)
        refine stq hf rfl rfl rfl (ex_load sc_22 hf rfl (bx_cell (hs.get (i := 0) rfl) _ rfl)) (fun a hf => ?_)
        refine stq hf rfl rfl rfl (ex_move hf rfl) (fun a hf => ?_)
        refine stepF hf rfl rfl rfl (ex_call cf_42 hf rfl) (perf_has.calls k a0_table a2 v0_table (hs.enter (.k .nil)) (Sr.old hr hs (.k .nil) (i := 0) rfl (fun _ h => h) (fun _ h => h) (Sr.nil _ _)) hs8) (fun v w hR a hf => ?_)
        obtain ⟨rfl, hs'⟩ := hR
        replace hs := hs.step (.k .nil) hs'
        clear hs'
        refine stq hf rfl rfl rfl (ex_not hf rfl) (fun a hf => ?_)
        refine stq hf rfl rfl rfl (ex_pickF hf rfl rfl) (fun a hf => ?_)
        refine hK9 _ _ ?_
        have e3 := some_eq H; subst e3
        exact hJ3 _ _ ⟨hf.sub ⟨rfl, rfl, rfl, rfl, trivial⟩, hs⟩
  · obtain ⟨hf, hs⟩ := hJ
    replace H := HO3
    clear HO3
    refine itt H (fun hc10 H => ?_) (fun hc10 H => ?_)
    · -- x3 = true
      replace hf := hf.castB (t := 22) rfl hc10
      refine cond_T hf rfl ?_
      refine seq_reg (fun K11 hK11 => ?_)
      refine stq hf rfl rfl rfl (ex_assign hf rfl) (fun a hf => ?_)
      refine hK11 _ _ ?_
      refine wp_ret ?_
      refine hR2 _ _ ?_
      have eR := some_eq H; subst eR
      exact ret1 Try.results24 hf rfl ⟨_, rfl, ⟨rfl, hs⟩⟩
    · -- not x3 = true
      replace hf := hf.castB (t := 22) rfl (bool_f hc10)
      refine cond_F hf rfl ?_
      refine wp_skip ?_
      refine hN2 _ _ ?_
      refine seq_reg (fun K12 hK12 => ?_)
      refine stq hf rfl rfl rfl (ex_move hf rfl) (fun a hf => ?_)
      refine stq hf rfl rfl rfl (ex_move hf rfl) (fun a hf => ?_)
      refine stq hf rfl rfl rfl (ex_move hf rfl) (fun a hf => ?_)
      refine stq hf rfl rfl rfl (ex_move hf rfl) (fun a hf => ?_)
      refine stq hf rfl rfl rfl (ex_move hf rfl) (fun a hf => ?_)
      refine stq hf rfl rfl rfl (ex_nilCheck hf rfl) (fun a hf => ?_)
      refine stq hf rfl rfl rfl (ex_fieldAddrB fa_102_2 rfl hf rfl) (fun a hf => ?_)
      refine stepS hf rfl rfl (er_storeB hs (.c .nil) hf rfl rfl rfl sz_3 rfl) (fun w hs => ?_)
      refine stq hf rfl rfl rfl (ex_nilCheck hf rfl) (fun a hf => ?_)
      refine stq hf rfl rfl rfl (ex_fieldAddrB fa_102_3 rfl hf rfl) (fun a hf => ?_)
      refine stepS hf rfl rfl (er_storeB hs (.c .nil) hf rfl rfl rfl sz_3 rfl) (fun w hs => ?_)
      refine stq hf rfl rfl rfl (ex_nilCheck hf rfl) (fun a hf => ?_)
      refine stq hf rfl rfl rfl (ex_fieldAddrB fa_102_5 rfl hf rfl) (fun a hf => ?_)
      refine stepS hf rfl rfl (er_storeB hs (.c .nil) hf rfl rfl rfl sz_3 rfl) (fun w hs => ?_)
      refine hK12 _ _ ?_
      refine seq_reg (fun K13 hK13 => ?_)
      refine stq hf rfl rfl rfl (ex_move hf rfl) (fun a hf => ?_)
      refine stq hf rfl rfl rfl (ex_move hf rfl) (fun a hf => ?_)
      refine stq hf rfl rfl rfl (ex_nilCheck hf rfl) (fun a hf => ?_)
      refine stq hf rfl rfl rfl (ex_fieldAddrB fa_102_4 rfl hf rfl) (fun a hf => ?_)
      refine stq hf rfl rfl rfl (ex_load sc_3 hf rfl (bx_cell (hs.get (i := 0) rfl) _ rfl)) (fun a hf => ?_)
      refine stq hf rfl rfl rfl (ex_move hf rfl) (fun a hf => ?_)
      refine stq hf rfl rfl rfl (ex_max hf rfl rfl) (fun a hf => ?_)
      refine stq hf rfl rfl rfl (ex_move hf rfl) (fun a hf => ?_)
      refine stq hf rfl rfl rfl (ex_min hf rfl rfl) (fun a hf => ?_)
      refine stq hf rfl rfl rfl (ex_nilCheck hf rfl) (fun a hf => ?_)
      refine stq hf rfl rfl rfl (ex_fieldAddrB fa_102_4 rfl hf rfl) (fun a hf => ?_)
      refine stepS hf rfl rfl (er_storeB hs (.c .nil) hf rfl rfl rfl sz_3 rfl) (fun w hs => ?_)
      refine hK13 _ _ ?_
      refine seq_reg (fun K14 hK14 => ?_)
      refine stq hf rfl rfl rfl (ex_assign hf rfl) (fun a hf => ?_)
      refine hK14 _ _ ?_
      refine wp_ret ?_
      have eR := some_eq H; subst eR
      exact ret1 Try.results24 hf rfl ⟨_, rfl, ⟨rfl, hs⟩⟩

set_option maxRecDepth 100000 in
theorem perf_Governor_lowest.calls {M : Nat → Prop} {w0 : World} (k : Nat) (a0_table : (List OperatingPoint)) (a0_params_Up : Int) (a0_params_Down : Int) (a0_params_Samples : Int) (a0_low : Int) (a0_high : Int) (a0_current : Int) (a0_quiet : Int) (a1 : Int) (b0 : Nat) (v0_table : Value) {r : Int} (hs : St M w0 w0 []) (hr : Sr M w0 [bx b0 102 [v0_table, .int .i64 a0_params_Up, .int .i64 a0_params_Down, .int .i64 a0_params_Samples, .int .i64 a0_low, .int .i64 a0_high, .int .i64 a0_current, .int .i64 a0_quiet], rsl K_api_OperatingPoint v0_table a0_table])
    (h : perf_Governor_lowest.f k a0_table a0_params_Up a0_params_Down a0_params_Samples a0_low a0_high a0_current a0_quiet a1 = some r) : Calls Try.prog 43 #[.pointer (some ⟨b0, 0, none⟩), .int .u64 a1] w0 fun e w => ∃ v, e = .returned v ∧ (.int .i64 r = v ∧ St M w0 w []) := by
  have H := (perf_Governor_lowest.f.eq_1 ..).symm.trans h
  clear h
  refine enter Try.func43 rfl Try.ntmps43 rfl (fun a hf => ?_)
  refine seq_reg (fun K1 hK1 => ?_)
  refine stq hf rfl rfl rfl (ex_assign hf rfl) (fun a hf => ?_)
  refine hK1 _ _ ?_
  refine seq_reg (fun K2 hK2 => ?_)
  refine stq hf rfl rfl rfl (ex_move hf rfl) (fun a hf => ?_)
  refine stq hf rfl rfl rfl (ex_nilCheck hf rfl) (fun a hf => ?_)
  refine stq hf rfl rfl rfl (ex_fieldAddrB fa_102_2 rfl hf rfl) (fun a hf => ?_)
  refine stq hf rfl rfl rfl (ex_load sc_3 hf rfl (bx_cell (hr.now hs (i := 0) rfl) _ rfl)) (fun a hf => ?_)
  refine stq hf rfl rfl rfl (ex_assign hf rfl) (fun a hf => ?_)
  refine hK2 _ _ ?_
  refine bnd H (fun x3 H3 HO3 => ?_)
  clear H
  refine seq_cut (fun a w => Fr a 50 [(5, .int .i64 x3)] ∧ St M w0 w []) (fun Q3 hJ3 hR3 hX3 => ?_) (fun a w hJ => ?_)
  · replace H := H3
    refine block_k (fun Q4 hN4 hR4 hX4 hY4 => ?_)
    refine loop_k (fun n a w => ∃ (y5 : Int), Fr a 50 [(0, .pointer (some ⟨b0, 0, none⟩)), (1, .int .u64 a1), (5, .int .i64 y5)] ∧ St M w0 w [] ∧ perf_Governor_lowest.l1 n a0_current a0_table a0_params_Up a1 y5 = some x3) k ?_ (fun n7 a w hI Q7 hL7 hR7 hX7 => ?_)
    · -- at the start
      exact ⟨a0_low, hf.sub ⟨rfl, rfl, rfl, trivial⟩, hs, H⟩
    · obtain ⟨y5, hf, hs, H⟩ := hI
      cases n7 with
      | zero => exact absurd H (by rw [perf_Governor_lowest.l1.eq_1]; intro h; cases h)
      | succ k7 =>
        replace H := (perf_Governor_lowest.l1.eq_2 ..).symm.trans H
        refine seq_n (fun Q8 hN8 hR8 hX8 => ?_)
        refine bnd H (fun x9 H9 HO9 => ?_)
        clear H
        refine seq_cut (fun a w => Fr a 50 [(0, .pointer (some ⟨b0, 0, none⟩)), (1, .int .u64 a1), (5, .int .i64 y5), (46, .bool x9)] ∧ St M w0 w []) (fun Q9 hJ9 hR9 hX9 => ?_) (fun a w hJ => ?_)
        · replace H := H9
          refine itt H (fun hc10 H => ?_) (fun hc10 H => ?_)
          · -- y5 < a0_current
            refine ck_some H (fun hc11 H => ?_)
            refine ck_some H (fun hc12 H => ?_)
            refine region_d fol 37 [(0, .pointer (some ⟨b0, 0, none⟩)), (1, .int .u64 a1), (5, .int .i64 y5)] [(0, .int .i64 y5), (1, .pointer (some ⟨b0, 0, none⟩)), (2, .pointer (some ⟨b0, 0, none⟩)), (3, .pointer (some ⟨b0, 6, none⟩)), (4, .int .i64 a0_current), (5, .bool true), (6, .bool true), (7, .int .u64 a1), (8, .pointer (some ⟨b0, 0, none⟩)), (9, .pointer (some ⟨b0, 0, none⟩)), (10, .pointer (some ⟨b0, 0, none⟩)), (11, v0_table), (12, .pointer (some ⟨b0, 0, none⟩)), (13, .pointer (some ⟨b0, 0, none⟩)), (14, .pointer (some ⟨b0, 6, none⟩)), (15, .int .i64 a0_current), (16, .pointer (some (sla v0_table (a0_current.toNat * 3)))), (17, .pointer (some (sla v0_table (a0_current.toNat * 3 + 0)))), (18, .int .u64 ((gd OperatingPoint.zero a0_table a0_current).Frequency)), (19, .int .u64 (IntKind.u64.wrap (a1 * ((gd OperatingPoint.zero a0_table a0_current).Frequency)))), (20, .pointer (some ⟨b0, 0, none⟩)), (21, .pointer (some ⟨b0, 0, none⟩)), (22, .pointer (some ⟨b0, 1, none⟩)), (23, .pointer (some ⟨b0, 1, none⟩)), (24, .int .i64 a0_params_Up), (25, .int .u64 (IntKind.u64.wrap a0_params_Up)), (26, .pointer (some ⟨b0, 0, none⟩)), (27, .pointer (some ⟨b0, 0, none⟩)), (28, .pointer (some ⟨b0, 0, none⟩)), (29, v0_table), (30, .int .i64 y5), (31, .pointer (some (sla v0_table (y5.toNat * 3)))), (32, .pointer (some (sla v0_table (y5.toNat * 3 + 0)))), (33, .int .u64 ((gd OperatingPoint.zero a0_table y5).Frequency)), (34, .int .u64 (IntKind.u64.wrap ((IntKind.u64.wrap a0_params_Up) * ((gd OperatingPoint.zero a0_table y5).Frequency)))), (35, .bool (decide ((IntKind.u64.wrap ((IntKind.u64.wrap a0_params_Up) * ((gd OperatingPoint.zero a0_table y5).Frequency))) < (IntKind.u64.wrap (a1 * ((gd OperatingPoint.zero a0_table a0_current).Frequency)))))), (36, .bool (decide ((IntKind.u64.wrap ((IntKind.u64.wrap a0_params_Up) * ((gd OperatingPoint.zero a0_table y5).Frequency))) < (IntKind.u64.wrap (a1 * ((gd OperatingPoint.zero a0_table a0_current).Frequency))))))] [] (fun w => (bx b0 102 [v0_table, .int .i64 a0_params_Up, .int .i64 a0_params_Down, .int .i64 a0_params_Samples, .int .i64 a0_low, .int .i64 a0_high, .int .i64 a0_current, .int .i64 a0_quiet]).ok w ∧ (rsl K_api_OperatingPoint v0_table a0_table).ok w ∧ True) (fun w => St M w0 w []) hf ⟨rfl, rfl, rfl, trivial⟩ (by kernel_rfl) (by kernel_rfl) rfl (by decide) ⟨hr.now hs.drew (i := 0) rfl, hr.now hs.drew (i := 1) rfl, trivial⟩ hs.drew (.cons (⟨_, _, rfl, rfl, rfl, rfl, fun a w hR hf => .inl ⟨wanted_yes hf rfl, ex_move hf rfl⟩⟩) (.cons (⟨_, _, rfl, rfl, rfl, rfl, fun a w hR hf => .inl ⟨wanted_yes hf rfl, ex_move hf rfl⟩⟩) (.cons (⟨_, _, rfl, rfl, rfl, rfl, fun a w hR hf => .inl ⟨wanted_yes hf rfl, ex_nilCheck hf rfl⟩⟩) (.cons (⟨_, _, rfl, rfl, rfl, rfl, fun a w hR hf => .inl ⟨wanted_yes hf rfl, ex_fieldAddrB fa_102_4 rfl hf rfl⟩⟩) (.cons (⟨_, _, rfl, rfl, rfl, rfl, fun a w hR hf => .inl ⟨wanted_yes hf rfl, ex_load sc_3 hf rfl (bx_cell (hR.1) _ rfl)⟩⟩) (.cons (⟨_, _, rfl, rfl, rfl, rfl, fun a w hR hf => .inl ⟨wanted_yes hf rfl, ex_castB (ex_lss hf rfl rfl) (dec_t hc10)⟩⟩) (.cons (⟨_, _, rfl, rfl, rfl, rfl, fun a w hR hf => .inl ⟨wanted_yes hf rfl, ex_move hf rfl⟩⟩) (.cons (⟨_, _, rfl, rfl, rfl, rfl, fun a w hR hf => .inl ⟨wanted_yes hf rfl, ex_move hf rfl⟩⟩) (.cons (⟨_, _, rfl, rfl, rfl, rfl, fun a w hR hf => .inl ⟨wanted_yes hf rfl, ex_move hf rfl⟩⟩) (.cons (⟨_, _, rfl, rfl, rfl, rfl, fun a w hR hf => .inl ⟨wanted_yes hf rfl, ex_nilCheck hf rfl⟩⟩) (.cons (⟨_, _, rfl, rfl, rfl, rfl, fun a w hR hf => .inl ⟨wanted_yes hf rfl, ex_fieldAddrB fa_102_0 rfl hf rfl⟩⟩) (.cons (⟨_, _, rfl, rfl, rfl, rfl, fun a w hR hf => .inl ⟨wanted_yes hf rfl, ex_load sc_22 hf rfl (bx_cell (hR.1) _ rfl)⟩⟩) (.cons (⟨_, _, rfl, rfl, rfl, rfl, fun a w hR hf => .inl ⟨wanted_yes hf rfl, ex_move hf rfl⟩⟩) (.cons (⟨_, _, rfl, rfl, rfl, rfl, fun a w hR hf => .inl ⟨wanted_yes hf rfl, ex_nilCheck hf rfl⟩⟩) (.cons (⟨_, _, rfl, rfl, rfl, rfl, fun a w hR hf => .inl ⟨wanted_yes hf rfl, ex_fieldAddrB fa_102_4 rfl hf rfl⟩⟩) (.cons (⟨_, _, rfl, rfl, rfl, rfl, fun a w hR hf => .inl ⟨wanted_yes hf rfl, ex_load sc_3 hf rfl (bx_cell (hR.1) _ rfl)⟩⟩) (.cons (⟨_, _, rfl, rfl, rfl, rfl, fun a w hR hf => .inl ⟨wanted_yes hf rfl, ex_indexAddr sa_22 (rsl_isSl hR.2.1) hc11.1 hc11.2 hf rfl rfl⟩⟩) (.cons (⟨_, _, rfl, rfl, rfl, rfl, fun a w hR hf => .inl ⟨wanted_yes hf rfl, ex_fieldAddrS fa_30_0 rfl hf rfl⟩⟩) (.cons (⟨_, _, rfl, rfl, rfl, rfl, fun a w hR hf => .inl ⟨wanted_yes hf rfl, ex_load sc_23 hf rfl (el_cell (K := K_api_OperatingPoint) (f := 0) (rsl_rd hR.2.1) hc11.1 hc11.2 rfl)⟩⟩) (.cons (⟨_, _, rfl, rfl, rfl, rfl, fun a w hR hf => .inl ⟨wanted_yes hf rfl, ex_mul hf rfl rfl⟩⟩) (.cons (⟨_, _, rfl, rfl, rfl, rfl, fun a w hR hf => .inl ⟨wanted_yes hf rfl, ex_move hf rfl⟩⟩) (.cons (⟨_, _, rfl, rfl, rfl, rfl, fun a w hR hf => .inl ⟨wanted_yes hf rfl, ex_nilCheck hf rfl⟩⟩) (.cons (⟨_, _, rfl, rfl, rfl, rfl, fun a w hR hf => .inl ⟨wanted_yes hf rfl, ex_fieldAddrB fa_102_1 rfl hf rfl⟩⟩) (.cons (⟨_, _, rfl, rfl, rfl, rfl, fun a w hR hf => .inl ⟨wanted_yes hf rfl, ex_fieldAddrB fa_76_0 rfl hf rfl⟩⟩) (.cons (⟨_, _, rfl, rfl, rfl, rfl, fun a w hR hf => .inl ⟨wanted_yes hf rfl, ex_load sc_3 hf rfl (bx_cell (hR.1) _ rfl)⟩⟩) (.cons (⟨_, _, rfl, rfl, rfl, rfl, fun a w hR hf => .inl ⟨wanted_yes hf rfl, ex_conv Try.underlying3 Try.underlying23 hf rfl⟩⟩) (.cons (⟨_, _, rfl, rfl, rfl, rfl, fun a w hR hf => .inl ⟨wanted_yes hf rfl, ex_move hf rfl⟩⟩) (.cons (⟨_, _, rfl, rfl, rfl, rfl, fun a w hR hf => .inl ⟨wanted_yes hf rfl, ex_nilCheck hf rfl⟩⟩) (.cons (⟨_, _, rfl, rfl, rfl, rfl, fun a w hR hf => .inl ⟨wanted_yes hf rfl, ex_fieldAddrB fa_102_0 rfl hf rfl⟩⟩) (.cons (⟨_, _, rfl, rfl, rfl, rfl, fun a w hR hf => .inl ⟨wanted_yes hf rfl, ex_load sc_22 hf rfl (bx_cell (hR.1) _ rfl)⟩⟩) (.cons (⟨_, _, rfl, rfl, rfl, rfl, fun a w hR hf => .inl ⟨wanted_yes hf rfl, ex_move hf rfl⟩⟩) (.cons (⟨_, _, rfl, rfl, rfl, rfl, fun a w hR hf => .inl ⟨wanted_yes hf rfl, ex_indexAddr sa_22 (rsl_isSl hR.2.1) hc12.1 hc12.2 hf rfl rfl⟩⟩) (.cons (⟨_, _, rfl, rfl, rfl, rfl, fun a w hR hf => .inl ⟨wanted_yes hf rfl, ex_fieldAddrS fa_30_0 rfl hf rfl⟩⟩) (.cons (⟨_, _, rfl, rfl, rfl, rfl, fun a w hR hf => .inl ⟨wanted_yes hf rfl, ex_load sc_23 hf rfl (el_cell (K := K_api_OperatingPoint) (f := 0) (rsl_rd hR.2.1) hc12.1 hc12.2 rfl)⟩⟩) (.cons (⟨_, _, rfl, rfl, rfl, rfl, fun a w hR hf => .inl ⟨wanted_yes hf rfl, ex_mul hf rfl rfl⟩⟩) (.cons (⟨_, _, rfl, rfl, rfl, rfl, fun a w hR hf => .inl ⟨wanted_yes hf rfl, ex_gtr hf rfl rfl⟩⟩) (.cons (⟨_, _, rfl, rfl, rfl, rfl, fun a w hR hf => .inl ⟨wanted_yes hf rfl, ex_pickT hf rfl rfl⟩⟩) (.nil)))))))))))))))))))))))))))))))))))))) (fun K13 hK13 => ?_)
            refine RW.zero (by kernel_rfl) (by kernel_rfl) [(0, .pointer (some ⟨b0, 0, none⟩)), (1, .int .u64 a1), (5, .int .i64 y5), (46, .bool (decide ((IntKind.u64.wrap ((IntKind.u64.wrap a0_params_Up) * ((gd OperatingPoint.zero a0_table y5).Frequency))) < (IntKind.u64.wrap (a1 * ((gd OperatingPoint.zero a0_table a0_current).Frequency))))))] ⟨rfl, rfl, rfl, rfl, trivial⟩ (fun a w hR hs hf => ?_)
            refine hK13 _ _ ?_
            have e9 := some_eq H; subst e9
            exact hJ9 _ _ ⟨hf.sub ⟨rfl, rfl, rfl, rfl, trivial⟩, hs⟩
          · -- not y5 < a0_current
            refine region_d fol 37 [(0, .pointer (some ⟨b0, 0, none⟩)), (1, .int .u64 a1), (5, .int .i64 y5)] [(0, .int .i64 y5), (1, .pointer (some ⟨b0, 0, none⟩)), (2, .pointer (some ⟨b0, 0, none⟩)), (3, .pointer (some ⟨b0, 6, none⟩)), (4, .int .i64 a0_current), (5, .bool false), (6, .bool false), (7, undef), (8, undef), (9, undef), (10, undef), (11, undef), (12, undef), (13, undef), (14, undef), (15, undef), (16, undef), (17, undef), (18, undef), (19, undef), (20, undef), (21, undef), (22, undef), (23, undef), (24, undef), (25, undef), (26, undef), (27, undef), (28, undef), (29, undef), (30, undef), (31, undef), (32, undef), (33, undef), (34, undef), (35, undef), (36, .bool false)] [] (fun w => (bx b0 102 [v0_table, .int .i64 a0_params_Up, .int .i64 a0_params_Down, .int .i64 a0_params_Samples, .int .i64 a0_low, .int .i64 a0_high, .int .i64 a0_current, .int .i64 a0_quiet]).ok w ∧ (rsl K_api_OperatingPoint v0_table a0_table).ok w ∧ True) (fun w => St M w0 w []) hf ⟨rfl, rfl, rfl, trivial⟩ (by kernel_rfl) (by kernel_rfl) rfl (by decide) ⟨hr.now hs.drew (i := 0) rfl, hr.now hs.drew (i := 1) rfl, trivial⟩ hs.drew (.cons (⟨_, _, rfl, rfl, rfl, rfl, fun a w hR hf => .inl ⟨wanted_yes hf rfl, ex_move hf rfl⟩⟩) (.cons (⟨_, _, rfl, rfl, rfl, rfl, fun a w hR hf => .inl ⟨wanted_yes hf rfl, ex_move hf rfl⟩⟩) (.cons (⟨_, _, rfl, rfl, rfl, rfl, fun a w hR hf => .inl ⟨wanted_yes hf rfl, ex_nilCheck hf rfl⟩⟩) (.cons (⟨_, _, rfl, rfl, rfl, rfl, fun a w hR hf => .inl ⟨wanted_yes hf rfl, ex_fieldAddrB fa_102_4 rfl hf rfl⟩⟩) (.cons (⟨_, _, rfl, rfl, rfl, rfl, fun a w hR hf => .inl ⟨wanted_yes hf rfl, ex_load sc_3 hf rfl (bx_cell (hR.1) _ rfl)⟩⟩) (.cons (⟨_, _, rfl, rfl, rfl, rfl, fun a w hR hf => .inl ⟨wanted_yes hf rfl, ex_castB (ex_lss hf rfl rfl) (dec_f hc10)⟩⟩) (.cons (⟨_, _, rfl, rfl, rfl, rfl, fun a w hR hf => .inl ⟨wanted_yes hf rfl, ex_move hf rfl⟩⟩) (.cons (⟨_, _, rfl, rfl, rfl, rfl, fun a w hR hf => .inr ⟨wanted_no hf rfl, rfl⟩⟩) (.cons (⟨_, _, rfl, rfl, rfl, rfl, fun a w hR hf => .inr ⟨wanted_no hf rfl, rfl⟩⟩) (.cons (⟨_, _, rfl, rfl, rfl, rfl, fun a w hR hf => .inr ⟨wanted_no hf rfl, rfl⟩⟩) (.cons (⟨_, _, rfl, rfl, rfl, rfl, fun a w hR hf => .inr ⟨wanted_no hf rfl, rfl⟩⟩) (.cons (⟨_, _, rfl, rfl, rfl, rfl, fun a w hR hf => .inr ⟨wanted_no hf rfl, rfl⟩⟩) (.cons (⟨_, _, rfl, rfl, rfl, rfl, fun a w hR hf => .inr ⟨wanted_no hf rfl, rfl⟩⟩) (.cons (⟨_, _, rfl, rfl, rfl, rfl, fun a w hR hf => .inr ⟨wanted_no hf rfl, rfl⟩⟩) (.cons (⟨_, _, rfl, rfl, rfl, rfl, fun a w hR hf => .inr ⟨wanted_no hf rfl, rfl⟩⟩) (.cons (⟨_, _, rfl, rfl, rfl, rfl, fun a w hR hf => .inr ⟨wanted_no hf rfl, rfl⟩⟩) (.cons (⟨_, _, rfl, rfl, rfl, rfl, fun a w hR hf => .inr ⟨wanted_no hf rfl, rfl⟩⟩) (.cons (⟨_, _, rfl, rfl, rfl, rfl, fun a w hR hf => .inr ⟨wanted_no hf rfl, rfl⟩⟩) (.cons (⟨_, _, rfl, rfl, rfl, rfl, fun a w hR hf => .inr ⟨wanted_no hf rfl, rfl⟩⟩) (.cons (⟨_, _, rfl, rfl, rfl, rfl, fun a w hR hf => .inr ⟨wanted_no hf rfl, rfl⟩⟩) (.cons (⟨_, _, rfl, rfl, rfl, rfl, fun a w hR hf => .inr ⟨wanted_no hf rfl, rfl⟩⟩) (.cons (⟨_, _, rfl, rfl, rfl, rfl, fun a w hR hf => .inr ⟨wanted_no hf rfl, rfl⟩⟩) (.cons (⟨_, _, rfl, rfl, rfl, rfl, fun a w hR hf => .inr ⟨wanted_no hf rfl, rfl⟩⟩) (.cons (⟨_, _, rfl, rfl, rfl, rfl, fun a w hR hf => .inr ⟨wanted_no hf rfl, rfl⟩⟩) (.cons (⟨_, _, rfl, rfl, rfl, rfl, fun a w hR hf => .inr ⟨wanted_no hf rfl, rfl⟩⟩) (.cons (⟨_, _, rfl, rfl, rfl, rfl, fun a w hR hf => .inr ⟨wanted_no hf rfl, rfl⟩⟩) (.cons (⟨_, _, rfl, rfl, rfl, rfl, fun a w hR hf => .inr ⟨wanted_no hf rfl, rfl⟩⟩) (.cons (⟨_, _, rfl, rfl, rfl, rfl, fun a w hR hf => .inr ⟨wanted_no hf rfl, rfl⟩⟩) (.cons (⟨_, _, rfl, rfl, rfl, rfl, fun a w hR hf => .inr ⟨wanted_no hf rfl, rfl⟩⟩) (.cons (⟨_, _, rfl, rfl, rfl, rfl, fun a w hR hf => .inr ⟨wanted_no hf rfl, rfl⟩⟩) (.cons (⟨_, _, rfl, rfl, rfl, rfl, fun a w hR hf => .inr ⟨wanted_no hf rfl, rfl⟩⟩) (.cons (⟨_, _, rfl, rfl, rfl, rfl, fun a w hR hf => .inr ⟨wanted_no hf rfl, rfl⟩⟩) (.cons (⟨_, _, rfl, rfl, rfl, rfl, fun a w hR hf => .inr ⟨wanted_no hf rfl, rfl⟩⟩) (.cons (⟨_, _, rfl, rfl, rfl, rfl, fun a w hR hf => .inr ⟨wanted_no hf rfl, rfl⟩⟩) (.cons (⟨_, _, rfl, rfl, rfl, rfl, fun a w hR hf => .inr ⟨wanted_no hf rfl, rfl⟩⟩) (.cons (⟨_, _, rfl, rfl, rfl, rfl, fun a w hR hf => .inr ⟨wanted_no hf rfl, rfl⟩⟩) (.cons (⟨_, _, rfl, rfl, rfl, rfl, fun a w hR hf => .inl ⟨wanted_yes hf rfl, ex_pickF hf rfl rfl⟩⟩) (.nil)))))))))))))))))))))))))))))))))))))) (fun K14 hK14 => ?_)
            refine RW.zero (by kernel_rfl) (by kernel_rfl) [(0, .pointer (some ⟨b0, 0, none⟩)), (1, .int .u64 a1), (5, .int .i64 y5), (46, .bool false)] ⟨rfl, rfl, rfl, rfl, trivial⟩ (fun a w hR hs hf => ?_)
            refine hK14 _ _ ?_
            have e9 := some_eq H; subst e9
            exact hJ9 _ _ ⟨hf.sub ⟨rfl, rfl, rfl, rfl, trivial⟩, hs⟩
        · obtain ⟨hf, hs⟩ := hJ
          replace H := HO9
          clear HO9
          refine itt H (fun hc15 H => ?_) (fun hc15 H => ?_)
          · -- x9 = true
            replace hf := hf.castB (t := 46) rfl hc15
            refine cond_T hf rfl ?_
            refine wp_skip ?_
            refine hN8 _ _ ?_
            refine block_k (fun Q16 hN16 hR16 hX16 hY16 => ?_)
            refine region_k (fun K17 hK17 => ?_)
            refine stq hf rfl rfl rfl (ex_move hf rfl) (fun a hf => ?_)
            refine stq hf rfl rfl rfl (ex_add hf rfl rfl) (fun a hf => ?_)
            refine stq hf rfl rfl rfl (ex_assign hf rfl) (fun a hf => ?_)
            refine hK17 _ _ ?_
            refine hN16 _ _ ?_
            exact hL7 k7 _ _ (Nat.lt_succ_self _) ⟨(IntKind.i64.wrap (y5 + 1)), hf.sub ⟨rfl, rfl, rfl, trivial⟩, hs, H⟩
          · -- not x9 = true
            replace hf := hf.castB (t := 46) rfl (bool_f hc15)
            refine cond_F hf rfl ?_
            refine wp_exit ?_
            refine hX8 0 _ _ ?_
            refine hX7 0 _ _ ?_
            refine hX4 _ _ ?_
            have e3 := some_eq H; subst e3
            exact hJ3 _ _ ⟨hf.sub ⟨rfl, trivial⟩, hs⟩
  · obtain ⟨hf, hs⟩ := hJ
    replace H := HO3
    clear HO3
    refine seq_reg (fun K18 hK18 => ?_)
    refine stq hf rfl rfl rfl (ex_move hf rfl) (fun a hf => ?_)
    refine stq hf rfl rfl rfl (ex_assign hf rfl) (fun a hf => ?_)
    refine hK18 _ _ ?_
    refine wp_ret ?_
    have eR := some_eq H; subst eR
    exact ret1 Try.results43 hf rfl ⟨_, rfl, ⟨rfl, hs⟩⟩

set_option maxRecDepth 100000 in
theorem perf_Governor_Sample.calls {M : Nat → Prop} {w0 : World} (k : Nat) (a0_table : (List OperatingPoint)) (a0_params_Up : Int) (a0_params_Down : Int) (a0_params_Samples : Int) (a0_low : Int) (a0_high : Int) (a0_current : Int) (a0_quiet : Int) (a1 : Int) (b0 : Nat) (v0_table : Value) {r : Int × Int × Int × Int} (hs : St M w0 w0 [bx b0 102 [v0_table, .int .i64 a0_params_Up, .int .i64 a0_params_Down, .int .i64 a0_params_Samples, .int .i64 a0_low, .int .i64 a0_high, .int .i64 a0_current, .int .i64 a0_quiet]]) (hr : Sr M w0 [rsl K_api_OperatingPoint v0_table a0_table])
    (h : perf_Governor_Sample.f k a0_table a0_params_Up a0_params_Down a0_params_Samples a0_low a0_high a0_current a0_quiet a1 = some r) : Calls Try.prog 25 #[.pointer (some ⟨b0, 0, none⟩), .int .i64 a1] w0 fun e w => ∃ v, e = .returned v ∧ (.tuple #[.int .i64 r.2.2.1, .int .i64 r.2.2.2] = v ∧ St M w0 w [bx b0 102 [v0_table, .int .i64 a0_params_Up, .int .i64 a0_params_Down, .int .i64 a0_params_Samples, .int .i64 a0_low, .int .i64 a0_high, .int .i64 r.1, .int .i64 r.2.1]]) := by
  have H := (perf_Governor_Sample.f.eq_1 ..).symm.trans h
  clear h
  refine enter Try.func25 rfl Try.ntmps25 rfl (fun a hf => ?_)
  refine seq_reg (fun K1 hK1 => ?_)
  refine stq hf rfl rfl rfl (ex_assign hf rfl) (fun a hf => ?_)
  refine stq hf rfl rfl rfl (ex_assign hf rfl) (fun a hf => ?_)
  refine hK1 _ _ ?_
  refine seq_n (fun Q2 hN2 hR2 hX2 => ?_)
  refine bnd H (fun x3 H3 HO3 => ?_)
  clear H
  refine seq_cut (fun a w => Fr a 74 [(0, .pointer (some ⟨b0, 0, none⟩)), (1, .int .i64 a1), (11, .bool x3)] ∧ St M w0 w [bx b0 102 [v0_table, .int .i64 a0_params_Up, .int .i64 a0_params_Down, .int .i64 a0_params_Samples, .int .i64 a0_low, .int .i64 a0_high, .int .i64 a0_current, .int .i64 a0_quiet]]) (fun Q3 hJ3 hR3 hX3 => ?_) (fun a w hJ => ?_)
  · replace H := H3
    refine itt H (fun hc4 H => ?_) (fun hc4 H => ?_)
    · -- a1 < 0
      refine region_k (fun K5 hK5 => ?_)
      refine stq hf rfl rfl rfl (ex_move hf rfl) (fun a hf => ?_)
      refine stq hf rfl rfl rfl (ex_lss hf rfl rfl) (fun a hf => ?_)
      refine stq hf rfl rfl rfl (ex_move hf rfl) (fun a hf => ?_)
      replace hf := hf.castB (t := 7) rfl (dec_t hc4)
      replace hf := hf.castB (t := 8) rfl (dec_t hc4)
      refine stepN hf rfl rfl rfl (fun a hf => ?_)
      refine stepN hf rfl rfl rfl (fun a hf => ?_)
      refine stq hf rfl rfl rfl (ex_pickT hf rfl rfl) (fun a hf => ?_)
      refine hK5 _ _ ?_
      have e3 := some_eq H; subst e3
      exact hJ3 _ _ ⟨hf.sub ⟨rfl, rfl, rfl, trivial⟩, hs⟩
    · -- not a1 < 0
      refine region_k (fun K6 hK6 => ?_)
      refine stq hf rfl rfl rfl (ex_move hf rfl) (fun a hf => ?_)
      refine stq hf rfl rfl rfl (ex_lss hf rfl rfl) (fun a hf => ?_)
      refine stq hf rfl rfl rfl (ex_move hf rfl) (fun a hf => ?_)
      replace hf := hf.castB (t := 7) rfl (dec_f hc4)
      replace hf := hf.castB (t := 8) rfl (dec_f hc4)
      refine stq hf rfl rfl rfl (ex_move hf rfl) (fun a hf => ?_)
      refine stq hf rfl rfl rfl (ex_gtr hf rfl rfl) (fun a hf => ?_)
      refine stq hf rfl rfl rfl (ex_pickF hf rfl rfl) (fun a hf => ?_)
      refine hK6 _ _ ?_
      have e3 := some_eq H; subst e3
      exact hJ3 _ _ ⟨hf.sub ⟨rfl, rfl, rfl, trivial⟩, hs⟩
  · obtain ⟨hf, hs⟩ := hJ
    replace H := HO3
    clear HO3
    refine itt H (fun hc7 H => ?_) (fun hc7 H => ?_)
    · -- x3 = true
      replace hf := hf.castB (t := 11) rfl hc7
      refine cond_T hf rfl ?_
      refine seq_reg (fun K8 hK8 => ?_)
      refine stq hf rfl rfl rfl (ex_assign hf rfl) (fun a hf => ?_)
      refine stq hf rfl rfl rfl (ex_assign hf rfl) (fun a hf => ?_)
      refine hK8 _ _ ?_
      refine wp_ret ?_
      refine hR2 _ _ ?_
      have eR := some_eq H; subst eR
      exact ret2 Try.results25 hf rfl rfl ⟨_, rfl, ⟨rfl, hs⟩⟩
    · -- not x3 = true
      replace hf := hf.castB (t := 11) rfl (bool_f hc7)
      refine cond_F hf rfl ?_
      refine wp_skip ?_
      refine hN2 _ _ ?_
      refine bnd H (fun x9 H9 HO9 => ?_)
      clear H
      refine seq_cut (fun a w => Fr a 74 [(0, .pointer (some ⟨b0, 0, none⟩))] ∧ St M w0 w [bx b0 102 [v0_table, .int .i64 a0_params_Up, .int .i64 a0_params_Down, .int .i64 a0_params_Samples, .int .i64 a0_low, .int .i64 a0_high, .int .i64 x9.1, .int .i64 x9.2]]) (fun Q9 hJ9 hR9 hX9 => ?_) (fun a w hJ => ?_)
      · replace H := H9
        refine block_k (fun Q10 hN10 hR10 hX10 hY10 => ?_)
        refine seq_reg (fun K11 hK11 => ?_)
        refine stq hf rfl rfl rfl (ex_move hf rfl) (fun a hf => ?_)
        refine stq hf rfl rfl rfl (ex_move hf rfl) (fun a hf => ?_)
        refine stq hf rfl rfl rfl (ex_nilCheck hf rfl) (fun a hf => ?_)
        refine stq hf rfl rfl rfl (ex_fieldAddrB fa_102_1 rfl hf rfl) (fun a hf => ?_)
        refine stq hf rfl rfl rfl (ex_fieldAddrB fa_76_0 rfl hf rfl) (fun a hf => ?_)
        refine stq hf rfl rfl rfl (ex_load sc_3 hf rfl (bx_cell (hs.get (i := 0) rfl) _ rfl)) (fun a hf => ?_)
        refine stq hf rfl rfl rfl (ex_gtr hf rfl rfl) (fun a hf => ?_)
        refine stq hf rfl rfl rfl (ex_assign hf rfl) (fun a hf => ?_)
        refine hK11 _ _ ?_
        refine itt H (fun hc12 H => ?_) (fun hc12 H => ?_)
        · -- a0_params_Up < a1
          replace hf := hf.castB (t := 29) rfl (dec_t hc12)
          replace hf := hf.castB (t := 22) rfl (dec_t hc12)
          refine cond_T hf rfl ?_
          refine region_k (fun K13 hK13 => ?_)
          refine stq hf rfl rfl rfl (ex_move hf rfl) (fun a hf => ?_)
          refine stq hf rfl rfl rfl (ex_move hf rfl) (fun a hf => ?_)
          refine stq hf rfl rfl rfl (ex_move hf rfl) (fun a hf => ?_)
          refine stq hf rfl rfl rfl (ex_nilCheck hf rfl) (fun a hf => ?_)
          refine stq hf rfl rfl rfl (ex_fieldAddrB fa_102_3 rfl hf rfl) (fun a hf => ?_)
          refine stq hf rfl rfl rfl (ex_load sc_3 hf rfl (bx_cell (hs.get (i := 0) rfl) _ rfl)) (fun a hf => ?_)
          refine stq hf rfl rfl rfl (ex_nilCheck hf rfl) (fun a hf => ?_)
          refine stq hf rfl rfl rfl (ex_fieldAddrB fa_102_4 rfl hf rfl) (fun a hf => ?_)
          refine stepS hf rfl rfl (er_storeB hs (.c .nil) hf rfl rfl rfl sz_3 rfl) (fun w hs => ?_)
          refine stq hf rfl rfl rfl (ex_nilCheck hf rfl) (fun a hf => ?_)
          refine stq hf rfl rfl rfl (ex_fieldAddrB fa_102_5 rfl hf rfl) (fun a hf => ?_)
          refine stepS hf rfl rfl (er_storeB hs (.c .nil) hf rfl rfl rfl sz_3 rfl) (fun w hs => ?_)
          refine hK13 _ _ ?_
          refine hN10 _ _ ?_
          have e9 := some_eq H; subst e9
          exact hJ9 _ _ ⟨hf.sub ⟨rfl, trivial⟩, hs⟩
        · -- not a0_params_Up < a1
          replace hf := hf.castB (t := 29) rfl (dec_f hc12)
          replace hf := hf.castB (t := 22) rfl (dec_f hc12)
          refine cond_F hf rfl ?_
          refine seq_reg (fun K14 hK14 => ?_)
          refine stq hf rfl rfl rfl (ex_move hf rfl) (fun a hf => ?_)
          refine stq hf rfl rfl rfl (ex_move hf rfl) (fun a hf => ?_)
          refine stq hf rfl rfl rfl (ex_nilCheck hf rfl) (fun a hf => ?_)
          refine stq hf rfl rfl rfl (ex_fieldAddrB fa_102_1 rfl hf rfl) (fun a hf => ?_)
          refine stq hf rfl rfl rfl (ex_fieldAddrB fa_76_1 rfl hf rfl) (fun a hf => ?_)
          refine stq hf rfl rfl rfl (ex_load sc_3 hf rfl (bx_cell (hs.get (i := 0) rfl) _ rfl)) (fun a hf => ?_)
          refine stq hf rfl rfl rfl (ex_geq hf rfl rfl) (fun a hf => ?_)
          refine stq hf rfl rfl rfl (ex_assign hf rfl) (fun a hf => ?_)
          refine hK14 _ _ ?_
          refine itt H (fun hc15 H => ?_) (fun hc15 H => ?_)
          · -- a0_params_Down ≤ a1
            replace hf := hf.castB (t := 47) rfl (dec_t hc15)
            replace hf := hf.castB (t := 40) rfl (dec_t hc15)
            refine cond_T hf rfl ?_
            refine region_k (fun K16 hK16 => ?_)
            refine stq hf rfl rfl rfl (ex_move hf rfl) (fun a hf => ?_)
            refine stq hf rfl rfl rfl (ex_nilCheck hf rfl) (fun a hf => ?_)
            refine stq hf rfl rfl rfl (ex_fieldAddrB fa_102_5 rfl hf rfl) (fun a hf => ?_)
            refine stepS hf rfl rfl (er_storeB hs (.c .nil) hf rfl rfl rfl sz_3 rfl) (fun w hs => ?_)
            refine hK16 _ _ ?_
            refine hN10 _ _ ?_
            have e9 := some_eq H; subst e9
            exact hJ9 _ _ ⟨hf.sub ⟨rfl, trivial⟩, hs⟩
          · -- not a0_params_Down ≤ a1
            replace hf := hf.castB (t := 47) rfl (dec_f hc15)
            replace hf := hf.castB (t := 40) rfl (dec_f hc15)
            refine cond_F hf rfl ?_
            refine seq_n (fun Q17 hN17 hR17 hX17 => ?_)
            refine region_d fol 12 [(0, .pointer (some ⟨b0, 0, none⟩)), (1, .int .i64 a1)] [(0, .pointer (some ⟨b0, 0, none⟩)), (1, .pointer (some ⟨b0, 0, none⟩)), (2, .pointer (some ⟨b0, 7, none⟩)), (3, .int .i64 a0_quiet), (4, .int .i64 (IntKind.i64.wrap (a0_quiet + 1))), (5, .pointer (some ⟨b0, 0, none⟩)), (6, .pointer (some ⟨b0, 0, none⟩)), (7, .pointer (some ⟨b0, 1, none⟩)), (8, .pointer (some ⟨b0, 3, none⟩)), (9, .int .i64 a0_params_Samples), (10, .bool (decide ((IntKind.i64.wrap (a0_quiet + 1)) < a0_params_Samples))), (11, .bool (decide ((IntKind.i64.wrap (a0_quiet + 1)) < a0_params_Samples)))] [] (fun w => (bx b0 102 [v0_table, .int .i64 a0_params_Up, .int .i64 a0_params_Down, .int .i64 a0_params_Samples, .int .i64 a0_low, .int .i64 a0_high, .int .i64 a0_current, .int .i64 a0_quiet]).ok w ∧ True) (fun w => St M w0 w [bx b0 102 [v0_table, .int .i64 a0_params_Up, .int .i64 a0_params_Down, .int .i64 a0_params_Samples, .int .i64 a0_low, .int .i64 a0_high, .int .i64 a0_current, .int .i64 a0_quiet]]) hf ⟨rfl, rfl, trivial⟩ (by kernel_rfl) (by kernel_rfl) rfl (by decide) ⟨hs.drew.get (i := 0) rfl, trivial⟩ hs.drew (.cons (⟨_, _, rfl, rfl, rfl, rfl, fun a w hR hf => .inl ⟨wanted_yes hf rfl, ex_move hf rfl⟩⟩) (.cons (⟨_, _, rfl, rfl, rfl, rfl, fun a w hR hf => .inl ⟨wanted_yes hf rfl, ex_nilCheck hf rfl⟩⟩) (.cons (⟨_, _, rfl, rfl, rfl, rfl, fun a w hR hf => .inl ⟨wanted_yes hf rfl, ex_fieldAddrB fa_102_5 rfl hf rfl⟩⟩) (.cons (⟨_, _, rfl, rfl, rfl, rfl, fun a w hR hf => .inl ⟨wanted_yes hf rfl, ex_load sc_3 hf rfl (bx_cell (hR.1) _ rfl)⟩⟩) (.cons (⟨_, _, rfl, rfl, rfl, rfl, fun a w hR hf => .inl ⟨wanted_yes hf rfl, ex_add hf rfl rfl⟩⟩) (.cons (⟨_, _, rfl, rfl, rfl, rfl, fun a w hR hf => .inl ⟨wanted_yes hf rfl, ex_move hf rfl⟩⟩) (.cons (⟨_, _, rfl, rfl, rfl, rfl, fun a w hR hf => .inl ⟨wanted_yes hf rfl, ex_nilCheck hf rfl⟩⟩) (.cons (⟨_, _, rfl, rfl, rfl, rfl, fun a w hR hf => .inl ⟨wanted_yes hf rfl, ex_fieldAddrB fa_102_1 rfl hf rfl⟩⟩) (.cons (⟨_, _, rfl, rfl, rfl, rfl, fun a w hR hf => .inl ⟨wanted_yes hf rfl, ex_fieldAddrB fa_76_2 rfl hf rfl⟩⟩) (.cons (⟨_, _, rfl, rfl, rfl, rfl, fun a w hR hf => .inl ⟨wanted_yes hf rfl, ex_load sc_3 hf rfl (bx_cell (hR.1) _ rfl)⟩⟩) (.cons (⟨_, _, rfl, rfl, rfl, rfl, fun a w hR hf => .inl ⟨wanted_yes hf rfl, ex_lss hf rfl rfl⟩⟩) (.cons (⟨_, _, rfl, rfl, rfl, rfl, fun a w hR hf => .inl ⟨wanted_yes hf rfl, ex_assign hf rfl⟩⟩) (.nil))))))))))))) (fun K18 hK18 => ?_)
            refine RW.zero (by kernel_rfl) (by kernel_rfl) [(0, .pointer (some ⟨b0, 0, none⟩)), (1, .int .i64 a1), (51, .bool (decide ((IntKind.i64.wrap (a0_quiet + 1)) < a0_params_Samples)))] ⟨rfl, rfl, rfl, trivial⟩ (fun a w hR hs hf => ?_)
            refine hK18 _ _ ?_
            refine hN17 _ _ ?_
            refine itt H (fun hc19 H => ?_) (fun hc19 H => ?_)
            · -- (IntKind.i64.wrap (a0_quiet + 1)) < a0_params_Samples
              replace hf := hf.castB (t := 51) rfl (dec_t hc19)
              refine cond_T hf rfl ?_
              refine region_k (fun K20 hK20 => ?_)
              refine stq hf rfl rfl rfl (ex_move hf rfl) (fun a hf => ?_)
              refine stq hf rfl rfl rfl (ex_nilCheck hf rfl) (fun a hf => ?_)
              refine stq hf rfl rfl rfl (ex_fieldAddrB fa_102_5 rfl hf rfl) (fun a hf => ?_)
              refine stq hf rfl rfl rfl (ex_load sc_3 hf rfl (bx_cell (hs.get (i := 0) rfl) _ rfl)) (fun a hf => ?_)
              refine stq hf rfl rfl rfl (ex_add hf rfl rfl) (fun a hf => ?_)
              refine stq hf rfl rfl rfl (ex_nilCheck hf rfl) (fun a hf => ?_)
              refine stq hf rfl rfl rfl (ex_fieldAddrB fa_102_5 rfl hf rfl) (fun a hf => ?_)
              refine stepS hf rfl rfl (er_storeB hs (.c .nil) hf rfl rfl rfl sz_3 rfl) (fun w hs => ?_)
              refine hK20 _ _ ?_
              refine hN10 _ _ ?_
              have e9 := some_eq H; subst e9
              exact hJ9 _ _ ⟨hf.sub ⟨rfl, trivial⟩, hs⟩
            · -- not (IntKind.i64.wrap (a0_quiet + 1)) < a0_params_Samples
              replace hf := hf.castB (t := 51) rfl (dec_f hc19)
              refine cond_F hf rfl ?_
              refine seq_reg (fun K21 hK21 => ?_)
              refine stq hf rfl rfl rfl (ex_move hf rfl) (fun a hf => ?_)
              refine stq hf rfl rfl rfl (ex_nilCheck hf rfl) (fun a hf => ?_)
              refine stq hf rfl rfl rfl (ex_fieldAddrB fa_102_5 rfl hf rfl) (fun a hf => ?_)
              refine stepS hf rfl rfl (er_storeB hs (.c .nil) hf rfl rfl rfl sz_3 rfl) (fun w hs => ?_)
              refine hK21 _ _ ?_
              refine bnd H (fun s22 hs22 H => ?_)
              refine region_k (fun K23 hK23 => ?_)
              refine stq hf rfl rfl rfl (ex_move hf rfl) (fun a hf => ?_)
              refine stq hf rfl rfl rfl (ex_move hf rfl) (fun a hf => ?_)
              refine stq hf rfl rfl rfl (ex_move hf rfl) (fun a hf => ?_)
              refine stq hf rfl rfl rfl (ex_conv Try.underlying3 Try.underlying23 hf rfl) (fun a hf => ?_)
              refine stepF hf rfl rfl rfl (ex_call cf_43 hf rfl) (perf_Governor_lowest.calls k a0_table a0_params_Up a0_params_Down a0_params_Samples a0_low a0_high a0_current 0 (IntKind.u64.wrap a1) b0 v0_table (hs.enter (.k .nil)) (Sr.own hs (.k .nil) (i := 0) rfl (fun _ h => h) (fun _ h => h) (Sr.old hr hs (.k .nil) (i := 0) rfl (fun _ h => h) (fun _ h => h) (Sr.nil _ _))) hs22) (fun v w hR a hf => ?_)
              obtain ⟨rfl, hs'⟩ := hR
              replace hs := hs.step (.k .nil) hs'
              clear hs'
              refine stq hf rfl rfl rfl (ex_nilCheck hf rfl) (fun a hf => ?_)
              refine stq hf rfl rfl rfl (ex_fieldAddrB fa_102_4 rfl hf rfl) (fun a hf => ?_)
              refine stepS hf rfl rfl (er_storeB hs (.c .nil) hf rfl rfl rfl sz_3 rfl) (fun w hs => ?_)
              refine hK23 _ _ ?_
              refine hN10 _ _ ?_
              have e9 := some_eq H; subst e9
              exact hJ9 _ _ ⟨hf.sub ⟨rfl, trivial⟩, hs⟩
      · obtain ⟨hf, hs⟩ := hJ
        replace H := HO9
        clear HO9
        refine seq_reg (fun K24 hK24 => ?_)
        refine stq hf rfl rfl rfl (ex_move hf rfl) (fun a hf => ?_)
        refine stq hf rfl rfl rfl (ex_nilCheck hf rfl) (fun a hf => ?_)
        refine stq hf rfl rfl rfl (ex_fieldAddrB fa_102_4 rfl hf rfl) (fun a hf => ?_)
        refine stq hf rfl rfl rfl (ex_load sc_3 hf rfl (bx_cell (hs.get (i := 0) rfl) _ rfl)) (fun a hf => ?_)
        refine stq hf rfl rfl rfl (ex_assign hf rfl) (fun a hf => ?_)
        refine stq hf rfl rfl rfl (ex_assign hf rfl) (fun a hf => ?_)
        refine hK24 _ _ ?_
        refine wp_ret ?_
        have eR := some_eq H; subst eR
        exact ret2 Try.results25 hf rfl rfl ⟨_, rfl, ⟨rfl, hs⟩⟩

end Go.Proofs.Ytannodkbindlbaa.X
