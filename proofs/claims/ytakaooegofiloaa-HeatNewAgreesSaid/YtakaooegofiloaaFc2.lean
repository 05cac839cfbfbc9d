/- Each function of the machine comes to what its pure function says. -/
import Derived.Test.YtakaooegofiloaaFc1
import Derived.Test.YtakaooegofiloaaFb
namespace Go.Proofs.Ytakaooegofiloaa.X
open Go Go.RowKit Go.Sx
set_option linter.unusedVariables false

set_option maxRecDepth 100000 in
theorem heat_Model_Step.calls {M : Nat → Prop} {w0 : World} (k : Nat) (a0_domains : (List HeatDomain)) (a0_links : (List HeatLink)) (a0_ambient : Int) (a0_energy : (List Int)) (a0_released : Int) (a1 : (List Int)) (b0 : Nat) (v0_domains : Value) (v0_links : Value) (v0_energy : Value) (v1 : Value) {r : Int × (List Int) × (List Int) × Int} (hs : St M w0 w0 [bx b0 64 [v0_domains, v0_links, .int .i64 a0_ambient, v0_energy, .int .i64 a0_released], osl K_int64 v0_energy a0_energy]) (hr : Sr M w0 [rsl K_api_HeatDomain v0_domains a0_domains, rsl K_api_HeatLink v0_links a0_links, rsl K_int64 v1 a1])
    (h : heat_Model_Step.f k a0_domains a0_links a0_ambient a0_energy a0_released a1 = some r) : Calls Try.prog 15 #[.pointer (some ⟨b0, 0, none⟩), v1] w0 fun e w => ∃ v, e = .returned v ∧ (∃ (g0 : Value) (g1 : Value), .tuple #[g1, .int .i64 r.2.2.2] = v ∧ St M w0 w [bx b0 64 [v0_domains, v0_links, .int .i64 a0_ambient, g0, .int .i64 r.1], osl K_int64 g0 r.2.1, osl K_int64 g1 r.2.2.1]) := by
  have H := (heat_Model_Step.f.eq_1 ..).symm.trans h
  clear h
  refine enter Try.func15 rfl Try.ntmps15 rfl (fun a hf => ?_)
  refine seq_reg (fun K1 hK1 => ?_)
  refine stq hf rfl rfl rfl (ex_assign hf rfl) (fun a hf => ?_)
  refine stq hf rfl rfl rfl (ex_assign hf rfl) (fun a hf => ?_)
  refine hK1 _ _ ?_
  refine seq_n (fun Q2 hN2 hR2 hX2 => ?_)
  refine bnd H (fun s3 hs3 H => ?_)
  refine seq_reg (fun K4 hK4 => ?_)
  refine stq hf rfl rfl rfl (ex_move hf rfl) (fun a hf => ?_)
  refine stq hf rfl rfl rfl (ex_nilCheck hf rfl) (fun a hf => ?_)
  refine stq hf rfl rfl rfl (ex_fieldAddrB fa_64_0 rfl hf rfl) (fun a hf => ?_)
  refine stq hf rfl rfl rfl (ex_load sc_22 hf rfl (bx_cell (hs.get (i := 0) rfl) _ rfl)) (fun a hf => ?_)
  refine stq hf rfl rfl rfl (ex_lenS Try.underlying22 (rsl_isSl (hr.now hs (i := 0) rfl)) hf rfl) (fun a hf => ?_)
  refine stq hf rfl rfl rfl (ex_move hf rfl) (fun a hf => ?_)
  refine stepF hf rfl rfl rfl (ex_call cf_32 hf rfl) (heat_validPower.calls k (a0_domains.length : Int) a1 v1 (hs.enter (.k (.k .nil))) (Sr.old hr hs (.k (.k .nil)) (i := 2) rfl (fun _ h => h) (fun _ h => h) (Sr.nil _ _)) hs3) (fun v w hR a hf => ?_)
  obtain ⟨rfl, hs'⟩ := hR
  replace hs := hs.step (.k (.k .nil)) hs'
  clear hs'
  refine stq hf rfl rfl rfl (ex_not hf rfl) (fun a hf => ?_)
  refine hK4 _ _ ?_
  refine itt H (fun hc5 H => ?_) (fun hc5 H => ?_)
  · -- s3 = true
    replace hf := hf.castB (t := 19) rfl hc5
    replace hf := hf.castB (t := 20) rfl (nbool_f hc5)
    refine cond_F hf rfl ?_
    refine wp_skip ?_
    refine hN2 _ _ ?_
    refine bnd H (fun s6 hs6 H => ?_)
    refine seq_reg (fun K8 hK8 => ?_)
    refine stq hf rfl rfl rfl (ex_move hf rfl) (fun a hf => ?_)
    refine stepF hf rfl rfl rfl (ex_call cf_33 hf rfl) (heat_Model_temperatures.calls k a0_domains a0_links a0_ambient a0_energy a0_released b0 v0_domains v0_links v0_energy (hs.enter (.k (.k .nil))) (Sr.own hs (.k (.k .nil)) (i := 0) rfl (fun _ h => h) (fun _ h => h) (Sr.old hr hs (.k (.k .nil)) (i := 0) rfl (fun _ h => h) (fun _ h => h) (Sr.old hr hs (.k (.k .nil)) (i := 1) rfl (fun _ h => h) (fun _ h => h) (Sr.own hs (.k (.k .nil)) (i := 1) rfl osl_rsl (fun _ h => h.1) (Sr.nil _ _))))) hs6) (fun v w hR a hf => ?_)
    obtain ⟨v7, rfl, hs'⟩ := hR
    replace hs := hs.step (.k (.k .nil)) hs'
    clear hs'
    refine stq hf rfl rfl rfl (ex_assign hf rfl) (fun a hf => ?_)
    refine hK8 _ _ ?_
    refine bnd H (fun x9 H9 HO9 => ?_)
    clear H
    refine seq_cut (fun a w => Fr a 117 [(0, .pointer (some ⟨b0, 0, none⟩)), (6, v7)] ∧ St M w0 w [bx b0 64 [v0_domains, v0_links, .int .i64 a0_ambient, v0_energy, .int .i64 x9.2], osl K_int64 v0_energy x9.1, osl K_int64 v7 s6]) (fun Q9 hJ9 hR9 hX9 => ?_) (fun a w hJ => ?_)
    · replace H := H9
      refine seq_reg (fun K10 hK10 => ?_)
      refine stq hf rfl rfl rfl (ex_move hf rfl) (fun a hf => ?_)
      refine stq hf rfl rfl rfl (ex_nilCheck hf rfl) (fun a hf => ?_)
      refine stq hf rfl rfl rfl (ex_fieldAddrB fa_64_0 rfl hf rfl) (fun a hf => ?_)
      refine stq hf rfl rfl rfl (ex_load sc_22 hf rfl (bx_cell (hs.get (i := 1) rfl) _ rfl)) (fun a hf => ?_)
      refine stq hf rfl rfl rfl (ex_lenS Try.underlying22 (rsl_isSl (hr.now hs (i := 0) rfl)) hf rfl) (fun a hf => ?_)
      refine stq hf rfl rfl rfl (ex_move hf rfl) (fun a hf => ?_)
      refine hK10 _ _ ?_
      refine block_k (fun Q11 hN11 hR11 hX11 hY11 => ?_)
      refine loop_k (fun n a w => ∃ (y12 : (List Int)) (y13 : Int) (y14 : Int), Fr a 117 [(0, .pointer (some ⟨b0, 0, none⟩)), (1, v1), (6, v7), (26, v0_domains), (27, .int .i64 (a0_domains.length : Int)), (28, .int .i64 y14)] ∧ St M w0 w [bx b0 64 [v0_domains, v0_links, .int .i64 a0_ambient, v0_energy, .int .i64 y13], osl K_int64 v0_energy y12, osl K_int64 v7 s6] ∧ heat_Model_Step.l1 n a0_domains s6 a1 a0_ambient y12 y13 y14 = some x9) k ?_ (fun n16 a w hI Q16 hL16 hR16 hX16 => ?_)
      · -- at the start
        replace hs := hs.pick (.k (.k (.c .nil)))
        replace hs := hs.pick (.k (.k (.c .nil)))
        exact ⟨a0_energy, a0_released, 0, hf.sub ⟨rfl, rfl, rfl, rfl, rfl, rfl, trivial⟩, hs, H⟩
      · obtain ⟨y12, y13, y14, hf, hs, H⟩ := hI
        cases n16 with
        | zero => exact absurd H (by rw [heat_Model_Step.l1.eq_1]; intro h; cases h)
        | succ k16 =>
          replace H := (heat_Model_Step.l1.eq_2 ..).symm.trans H
          refine seq_reg (fun K17 hK17 => ?_)
          refine stq hf rfl rfl rfl (ex_lss hf rfl rfl) (fun a hf => ?_)
          refine hK17 _ _ ?_
          refine seq_n (fun Q18 hN18 hR18 hX18 => ?_)
          refine itt H (fun hc19 H => ?_) (fun hc19 H => ?_)
          · -- y14 < (a0_domains.length : Int)
            replace hf := hf.castB (t := 29) rfl (dec_t hc19)
            refine cond_T hf rfl ?_
            refine wp_skip ?_
            refine hN18 _ _ ?_
            refine seq_n (fun Q20 hN20 hR20 hX20 => ?_)
            refine block_k (fun Q21 hN21 hR21 hX21 hY21 => ?_)
            refine ck_some H (fun hc22 H => ?_)
            refine seq_reg (fun K24 hK24 => ?_)
            refine stq hf rfl rfl rfl (ex_move hf rfl) (fun a hf => ?_)
            refine stq hf rfl rfl rfl (ex_indexAddr sa_22 (rsl_isSl (hr.now hs (i := 0) rfl)) hc22.1 hc22.2 hf rfl rfl) (fun a hf => ?_)
            refine stq hf rfl rfl rfl (ex_loadA (cs := [.int .i64 ((gd HeatDomain.zero a0_domains y14).Capacity), .int .i64 ((gd HeatDomain.zero a0_domains y14).Ambient)]) ag_34 hf rfl (el_cells (K := K_api_HeatDomain) (rsl_rd (hr.now hs (i := 0) rfl)) hc22.1 hc22.2 rfl)) (fun a hf => ?_)
            refine stepV hf rfl rfl rfl (er_alloc hs ti_34 (cs := [.int .i64 0, .int .i64 0]) rfl) (fun v w hR a hf => ?_)
            obtain ⟨b23, rfl, hs⟩ := hR
            refine stq hf rfl rfl rfl (ex_assign hf rfl) (fun a hf => ?_)
            refine stepS hf rfl rfl (er_storeAB (vs := [.int .i64 ((gd HeatDomain.zero a0_domains y14).Capacity), .int .i64 ((gd HeatDomain.zero a0_domains y14).Ambient)]) (cs' := [.int .i64 ((gd HeatDomain.zero a0_domains y14).Capacity), .int .i64 ((gd HeatDomain.zero a0_domains y14).Ambient)]) hs (.c (.k (.k (.k .nil)))) sz_34 hf rfl rfl (all1 rfl (all1 rfl (all1_nil))) rfl rfl) (fun w hs => ?_)
            refine hK24 _ _ ?_
            refine seq_n (fun Q25 hN25 hR25 hX25 => ?_)
            refine ck_some H (fun hc26 H => ?_)
            refine region_d fol 12 [(0, .pointer (some ⟨b0, 0, none⟩)), (1, v1), (6, v7), (7, .int .i64 y14), (8, .pointer (some ⟨b23, 0, none⟩)), (26, v0_domains), (27, .int .i64 (a0_domains.length : Int)), (28, .int .i64 y14)] [(0, .pointer (some ⟨b23, 1, none⟩)), (1, .int .i64 ((gd HeatDomain.zero a0_domains y14).Ambient)), (2, v7), (3, .int .i64 y14), (4, .pointer (some (sla v7 (y14.toNat * 1)))), (5, .int .i64 (gd 0 s6 y14)), (6, .pointer (some ⟨b0, 0, none⟩)), (7, .pointer (some ⟨b0, 0, none⟩)), (8, .pointer (some ⟨b0, 2, none⟩)), (9, .int .i64 a0_ambient), (10, .int .i64 (IntKind.i64.wrap ((gd 0 s6 y14) - a0_ambient))), (11, .int .i64 (IntKind.i64.wrap (((gd HeatDomain.zero a0_domains y14).Ambient) * (IntKind.i64.wrap ((gd 0 s6 y14) - a0_ambient)))))] [] (fun w => (bx b23 34 [.int .i64 ((gd HeatDomain.zero a0_domains y14).Capacity), .int .i64 ((gd HeatDomain.zero a0_domains y14).Ambient)]).ok w ∧ (osl K_int64 v7 s6).ok w ∧ (bx b0 64 [v0_domains, v0_links, .int .i64 a0_ambient, v0_energy, .int .i64 y13]).ok w ∧ True) (fun w => St M w0 w [bx b23 34 [.int .i64 ((gd HeatDomain.zero a0_domains y14).Capacity), .int .i64 ((gd HeatDomain.zero a0_domains y14).Ambient)], bx b0 64 [v0_domains, v0_links, .int .i64 a0_ambient, v0_energy, .int .i64 y13], osl K_int64 v0_energy y12, osl K_int64 v7 s6]) hf ⟨rfl, rfl, rfl, rfl, rfl, rfl, rfl, rfl, trivial⟩ (by kernel_rfl) (by kernel_rfl) rfl (by decide) ⟨hs.drew.get (i := 0) rfl, hs.drew.get (i := 3) rfl, hs.drew.get (i := 1) rfl, trivial⟩ hs.drew (.cons (⟨_, _, rfl, rfl, rfl, rfl, fun a w hR hf => .inl ⟨wanted_yes hf rfl, ex_fieldAddrB fa_34_1 rfl hf rfl⟩⟩) (.cons (⟨_, _, rfl, rfl, rfl, rfl, fun a w hR hf => .inl ⟨wanted_yes hf rfl, ex_load sc_2 hf rfl (bx_cell (hR.1) _ rfl)⟩⟩) (.cons (⟨_, _, rfl, rfl, rfl, rfl, fun a w hR hf => .inl ⟨wanted_yes hf rfl, ex_move hf rfl⟩⟩) (.cons (⟨_, _, rfl, rfl, rfl, rfl, fun a w hR hf => .inl ⟨wanted_yes hf rfl, ex_move hf rfl⟩⟩) (.cons (⟨_, _, rfl, rfl, rfl, rfl, fun a w hR hf => .inl ⟨wanted_yes hf rfl, ex_indexAddr sa_35 (rsl_isSl (osl_rsl _ hR.2.1)) hc26.1 hc26.2 hf rfl rfl⟩⟩) (.cons (⟨_, _, rfl, rfl, rfl, rfl, fun a w hR hf => .inl ⟨wanted_yes hf rfl, ex_load sc_2 hf rfl (el_cell (K := K_int64) (f := 0) (rsl_rd (osl_rsl _ hR.2.1)) hc26.1 hc26.2 rfl)⟩⟩) (.cons (⟨_, _, rfl, rfl, rfl, rfl, fun a w hR hf => .inl ⟨wanted_yes hf rfl, ex_move hf rfl⟩⟩) (.cons (⟨_, _, rfl, rfl, rfl, rfl, fun a w hR hf => .inl ⟨wanted_yes hf rfl, ex_nilCheck hf rfl⟩⟩) (.cons (⟨_, _, rfl, rfl, rfl, rfl, fun a w hR hf => .inl ⟨wanted_yes hf rfl, ex_fieldAddrB fa_64_2 rfl hf rfl⟩⟩) (.cons (⟨_, _, rfl, rfl, rfl, rfl, fun a w hR hf => .inl ⟨wanted_yes hf rfl, ex_load sc_2 hf rfl (bx_cell (hR.2.2.1) _ rfl)⟩⟩) (.cons (⟨_, _, rfl, rfl, rfl, rfl, fun a w hR hf => .inl ⟨wanted_yes hf rfl, ex_sub hf rfl rfl⟩⟩) (.cons (⟨_, _, rfl, rfl, rfl, rfl, fun a w hR hf => .inl ⟨wanted_yes hf rfl, ex_mul hf rfl rfl⟩⟩) (.nil))))))))))))) (fun K27 hK27 => ?_)
            refine RW.zero (by kernel_rfl) (by kernel_rfl) [(0, .pointer (some ⟨b0, 0, none⟩)), (1, v1), (6, v7), (7, .int .i64 y14), (26, v0_domains), (27, .int .i64 (a0_domains.length : Int)), (28, .int .i64 y14), (44, .int .i64 (IntKind.i64.wrap (((gd HeatDomain.zero a0_domains y14).Ambient) * (IntKind.i64.wrap ((gd 0 s6 y14) - a0_ambient)))))] ⟨rfl, rfl, rfl, rfl, rfl, rfl, rfl, rfl, trivial⟩ (fun a w hR hs hf => ?_)
            refine stq hf rfl rfl rfl (ex_assign hf rfl) (fun a hf => ?_)
            refine hK27 _ _ ?_
            refine hN25 _ _ ?_
            refine seq_n (fun Q28 hN28 hR28 hX28 => ?_)
            refine ck_some H (fun hc29 H => ?_)
            refine ck_some H (fun hc30 H => ?_)
            refine region_d fol 14 [(0, .pointer (some ⟨b0, 0, none⟩)), (1, v1), (6, v7), (7, .int .i64 y14), (9, .int .i64 (IntKind.i64.wrap (((gd HeatDomain.zero a0_domains y14).Ambient) * (IntKind.i64.wrap ((gd 0 s6 y14) - a0_ambient))))), (26, v0_domains), (27, .int .i64 (a0_domains.length : Int)), (28, .int .i64 y14)] [(0, .pointer (some ⟨b0, 0, none⟩)), (1, .pointer (some ⟨b0, 0, none⟩)), (2, .pointer (some ⟨b0, 3, none⟩)), (3, v0_energy), (4, .int .i64 y14), (5, .pointer (some (sla v0_energy (y14.toNat * 1)))), (6, .int .i64 (gd 0 y12 y14)), (7, v1), (8, .int .i64 y14), (9, .pointer (some (sla v1 (y14.toNat * 1)))), (10, .int .i64 (gd 0 a1 y14)), (11, .int .i64 (IntKind.i64.wrap (((gd HeatDomain.zero a0_domains y14).Ambient) * (IntKind.i64.wrap ((gd 0 s6 y14) - a0_ambient))))), (12, .int .i64 (IntKind.i64.wrap ((gd 0 a1 y14) - (IntKind.i64.wrap (((gd HeatDomain.zero a0_domains y14).Ambient) * (IntKind.i64.wrap ((gd 0 s6 y14) - a0_ambient))))))), (13, .int .i64 (IntKind.i64.wrap ((gd 0 y12 y14) + (IntKind.i64.wrap ((gd 0 a1 y14) - (IntKind.i64.wrap (((gd HeatDomain.zero a0_domains y14).Ambient) * (IntKind.i64.wrap ((gd 0 s6 y14) - a0_ambient)))))))))] [] (fun w => (bx b0 64 [v0_domains, v0_links, .int .i64 a0_ambient, v0_energy, .int .i64 y13]).ok w ∧ (osl K_int64 v0_energy y12).ok w ∧ (rsl K_int64 v1 a1).ok w ∧ True) (fun w => St M w0 w [bx b23 34 [.int .i64 ((gd HeatDomain.zero a0_domains y14).Capacity), .int .i64 ((gd HeatDomain.zero a0_domains y14).Ambient)], bx b0 64 [v0_domains, v0_links, .int .i64 a0_ambient, v0_energy, .int .i64 y13], osl K_int64 v0_energy y12, osl K_int64 v7 s6]) hf ⟨rfl, rfl, rfl, rfl, rfl, rfl, rfl, rfl, trivial⟩ (by kernel_rfl) (by kernel_rfl) rfl (by decide) ⟨hs.drew.get (i := 1) rfl, hs.drew.get (i := 2) rfl, hr.now hs.drew (i := 2) rfl, trivial⟩ hs.drew (.cons (⟨_, _, rfl, rfl, rfl, rfl, fun a w hR hf => .inl ⟨wanted_yes hf rfl, ex_move hf rfl⟩⟩) (.cons (⟨_, _, rfl, rfl, rfl, rfl, fun a w hR hf => .inl ⟨wanted_yes hf rfl, ex_nilCheck hf rfl⟩⟩) (.cons (⟨_, _, rfl, rfl, rfl, rfl, fun a w hR hf => .inl ⟨wanted_yes hf rfl, ex_fieldAddrB fa_64_3 rfl hf rfl⟩⟩) (.cons (⟨_, _, rfl, rfl, rfl, rfl, fun a w hR hf => .inl ⟨wanted_yes hf rfl, ex_load sc_35 hf rfl (bx_cell (hR.1) _ rfl)⟩⟩) (.cons (⟨_, _, rfl, rfl, rfl, rfl, fun a w hR hf => .inl ⟨wanted_yes hf rfl, ex_move hf rfl⟩⟩) (.cons (⟨_, _, rfl, rfl, rfl, rfl, fun a w hR hf => .inl ⟨wanted_yes hf rfl, ex_indexAddr sa_35 (rsl_isSl (osl_rsl _ hR.2.1)) hc29.1 hc29.2 hf rfl rfl⟩⟩) (.cons (⟨_, _, rfl, rfl, rfl, rfl, fun a w hR hf => .inl ⟨wanted_yes hf rfl, ex_load sc_2 hf rfl (el_cell (K := K_int64) (f := 0) (rsl_rd (osl_rsl _ hR.2.1)) hc29.1 hc29.2 rfl)⟩⟩) (.cons (⟨_, _, rfl, rfl, rfl, rfl, fun a w hR hf => .inl ⟨wanted_yes hf rfl, ex_move hf rfl⟩⟩) (.cons (⟨_, _, rfl, rfl, rfl, rfl, fun a w hR hf => .inl ⟨wanted_yes hf rfl, ex_move hf rfl⟩⟩) (.cons (⟨_, _, rfl, rfl, rfl, rfl, fun a w hR hf => .inl ⟨wanted_yes hf rfl, ex_indexAddr sa_35 (rsl_isSl hR.2.2.1) hc30.1 hc30.2 hf rfl rfl⟩⟩) (.cons (⟨_, _, rfl, rfl, rfl, rfl, fun a w hR hf => .inl ⟨wanted_yes hf rfl, ex_load sc_2 hf rfl (el_cell (K := K_int64) (f := 0) (rsl_rd hR.2.2.1) hc30.1 hc30.2 rfl)⟩⟩) (.cons (⟨_, _, rfl, rfl, rfl, rfl, fun a w hR hf => .inl ⟨wanted_yes hf rfl, ex_move hf rfl⟩⟩) (.cons (⟨_, _, rfl, rfl, rfl, rfl, fun a w hR hf => .inl ⟨wanted_yes hf rfl, ex_sub hf rfl rfl⟩⟩) (.cons (⟨_, _, rfl, rfl, rfl, rfl, fun a w hR hf => .inl ⟨wanted_yes hf rfl, ex_add hf rfl rfl⟩⟩) (.nil))))))))))))))) (fun K31 hK31 => ?_)
            refine RW.zero (by kernel_rfl) (by kernel_rfl) [(0, .pointer (some ⟨b0, 0, none⟩)), (1, v1), (6, v7), (9, .int .i64 (IntKind.i64.wrap (((gd HeatDomain.zero a0_domains y14).Ambient) * (IntKind.i64.wrap ((gd 0 s6 y14) - a0_ambient))))), (26, v0_domains), (27, .int .i64 (a0_domains.length : Int)), (28, .int .i64 y14), (48, v0_energy), (49, .int .i64 y14), (58, .int .i64 (IntKind.i64.wrap ((gd 0 y12 y14) + (IntKind.i64.wrap ((gd 0 a1 y14) - (IntKind.i64.wrap (((gd HeatDomain.zero a0_domains y14).Ambient) * (IntKind.i64.wrap ((gd 0 s6 y14) - a0_ambient)))))))))] ⟨rfl, rfl, rfl, rfl, rfl, rfl, rfl, rfl, rfl, rfl, trivial⟩ (fun a w hR hs hf => ?_)
            refine stq hf rfl rfl rfl (ex_indexAddr sa_35 (rsl_isSl (osl_rsl _ (hs.get (i := 2) rfl))) hc29.1 hc29.2 hf rfl rfl) (fun a hf => ?_)
            refine stepS hf rfl rfl (er_storeE (K := K_int64) (f := 0) (x' := (IntKind.i64.wrap ((gd 0 y12 y14) + (IntKind.i64.wrap ((gd 0 a1 y14) - (IntKind.i64.wrap (((gd HeatDomain.zero a0_domains y14).Ambient) * (IntKind.i64.wrap ((gd 0 s6 y14) - a0_ambient))))))))) hs (.k (.k (.c (.k .nil)))) hc29.1 hc29.2 hf rfl rfl rfl sz_2 rfl rfl) (fun w hs => ?_)
            refine hK31 _ _ ?_
            refine hN28 _ _ ?_
            refine region_k (fun K32 hK32 => ?_)
            refine stq hf rfl rfl rfl (ex_move hf rfl) (fun a hf => ?_)
            refine stq hf rfl rfl rfl (ex_nilCheck hf rfl) (fun a hf => ?_)
            refine stq hf rfl rfl rfl (ex_fieldAddrB fa_64_4 rfl hf rfl) (fun a hf => ?_)
            refine stq hf rfl rfl rfl (ex_load sc_2 hf rfl (bx_cell (hs.get (i := 2) rfl) _ rfl)) (fun a hf => ?_)
            refine stq hf rfl rfl rfl (ex_move hf rfl) (fun a hf => ?_)
            refine stq hf rfl rfl rfl (ex_add hf rfl rfl) (fun a hf => ?_)
            refine stq hf rfl rfl rfl (ex_nilCheck hf rfl) (fun a hf => ?_)
            refine stq hf rfl rfl rfl (ex_fieldAddrB fa_64_4 rfl hf rfl) (fun a hf => ?_)
            refine stepS hf rfl rfl (er_storeB hs (.k (.k (.c (.k .nil)))) hf rfl rfl rfl sz_2 rfl) (fun w hs => ?_)
            refine hK32 _ _ ?_
            refine hN21 _ _ ?_
            refine hN20 _ _ ?_
            refine region_k (fun K33 hK33 => ?_)
            refine stq hf rfl rfl rfl (ex_add hf rfl rfl) (fun a hf => ?_)
            refine stq hf rfl rfl rfl (ex_move hf rfl) (fun a hf => ?_)
            refine hK33 _ _ ?_
            replace hs := hs.keep (.k (.k (.d (.k .nil))))
            exact hL16 k16 _ _ (Nat.lt_succ_self _) ⟨(y12.set y14.toNat (IntKind.i64.wrap ((gd 0 y12 y14) + (IntKind.i64.wrap ((gd 0 a1 y14) - (IntKind.i64.wrap (((gd HeatDomain.zero a0_domains y14).Ambient) * (IntKind.i64.wrap ((gd 0 s6 y14) - a0_ambient))))))))), (IntKind.i64.wrap (y13 + (IntKind.i64.wrap (((gd HeatDomain.zero a0_domains y14).Ambient) * (IntKind.i64.wrap ((gd 0 s6 y14) - a0_ambient)))))), (IntKind.i64.wrap (y14 + 1)), hf.sub ⟨rfl, rfl, rfl, rfl, rfl, rfl, trivial⟩, hs, H⟩
          · -- not y14 < (a0_domains.length : Int)
            replace hf := hf.castB (t := 29) rfl (dec_f hc19)
            refine cond_F hf rfl ?_
            refine wp_exit ?_
            refine hX18 0 _ _ ?_
            refine hX16 0 _ _ ?_
            refine hX11 _ _ ?_
            have e9 := some_eq H; subst e9
            exact hJ9 _ _ ⟨hf.sub ⟨rfl, rfl, trivial⟩, hs⟩
    · obtain ⟨hf, hs⟩ := hJ
      replace H := HO9
      clear HO9
      refine bnd H (fun x34 H34 HO34 => ?_)
      clear H
      refine seq_cut (fun a w => Fr a 117 [(0, .pointer (some ⟨b0, 0, none⟩))] ∧ St M w0 w [bx b0 64 [v0_domains, v0_links, .int .i64 a0_ambient, v0_energy, .int .i64 x9.2], osl K_int64 v0_energy x34]) (fun Q34 hJ34 hR34 hX34 => ?_) (fun a w hJ => ?_)
      · replace H := H34
        refine seq_reg (fun K35 hK35 => ?_)
        refine stq hf rfl rfl rfl (ex_move hf rfl) (fun a hf => ?_)
        refine stq hf rfl rfl rfl (ex_nilCheck hf rfl) (fun a hf => ?_)
        refine stq hf rfl rfl rfl (ex_fieldAddrB fa_64_1 rfl hf rfl) (fun a hf => ?_)
        refine stq hf rfl rfl rfl (ex_load sc_23 hf rfl (bx_cell (hs.get (i := 0) rfl) _ rfl)) (fun a hf => ?_)
        refine stq hf rfl rfl rfl (ex_lenS Try.underlying23 (rsl_isSl (hr.now hs (i := 1) rfl)) hf rfl) (fun a hf => ?_)
        refine stq hf rfl rfl rfl (ex_move hf rfl) (fun a hf => ?_)
        refine hK35 _ _ ?_
        refine block_k (fun Q36 hN36 hR36 hX36 hY36 => ?_)
        refine loop_k (fun n a w => ∃ (y37 : (List Int)) (y38 : Int), Fr a 117 [(0, .pointer (some ⟨b0, 0, none⟩)), (6, v7), (72, v0_links), (73, .int .i64 (a0_links.length : Int)), (74, .int .i64 y38)] ∧ St M w0 w [bx b0 64 [v0_domains, v0_links, .int .i64 a0_ambient, v0_energy, .int .i64 x9.2], osl K_int64 v0_energy y37, osl K_int64 v7 s6] ∧ heat_Model_Step.l2 n a0_links s6 y37 y38 = some x34) k ?_ (fun n40 a w hI Q40 hL40 hR40 hX40 => ?_)
        · -- at the start
          exact ⟨x9.1, 0, hf.sub ⟨rfl, rfl, rfl, rfl, rfl, trivial⟩, hs, H⟩
        · obtain ⟨y37, y38, hf, hs, H⟩ := hI
          cases n40 with
          | zero => exact absurd H (by rw [heat_Model_Step.l2.eq_1]; intro h; cases h)
          | succ k40 =>
            replace H := (heat_Model_Step.l2.eq_2 ..).symm.trans H
            refine seq_reg (fun K41 hK41 => ?_)
            refine stq hf rfl rfl rfl (ex_lss hf rfl rfl) (fun a hf => ?_)
            refine hK41 _ _ ?_
            refine seq_n (fun Q42 hN42 hR42 hX42 => ?_)
            refine itt H (fun hc43 H => ?_) (fun hc43 H => ?_)
            · -- y38 < (a0_links.length : Int)
              replace hf := hf.castB (t := 75) rfl (dec_t hc43)
              refine cond_T hf rfl ?_
              refine wp_skip ?_
              refine hN42 _ _ ?_
              refine seq_n (fun Q44 hN44 hR44 hX44 => ?_)
              refine block_k (fun Q45 hN45 hR45 hX45 hY45 => ?_)
              refine ck_some H (fun hc46 H => ?_)
              refine seq_reg (fun K48 hK48 => ?_)
              refine stq hf rfl rfl rfl (ex_indexAddr sa_23 (rsl_isSl (hr.now hs (i := 1) rfl)) hc46.1 hc46.2 hf rfl rfl) (fun a hf => ?_)
              refine stq hf rfl rfl rfl (ex_loadA (cs := [.int .i64 ((gd HeatLink.zero a0_links y38).A), .int .i64 ((gd HeatLink.zero a0_links y38).B), .int .i64 ((gd HeatLink.zero a0_links y38).Conductance)]) ag_43 hf rfl (el_cells (K := K_api_HeatLink) (rsl_rd (hr.now hs (i := 1) rfl)) hc46.1 hc46.2 rfl)) (fun a hf => ?_)
              refine stepV hf rfl rfl rfl (er_alloc hs ti_43 (cs := [.int .i64 0, .int .i64 0, .int .i64 0]) rfl) (fun v w hR a hf => ?_)
              obtain ⟨b47, rfl, hs⟩ := hR
              refine stepS hf rfl rfl (er_storeAB (vs := [.int .i64 ((gd HeatLink.zero a0_links y38).A), .int .i64 ((gd HeatLink.zero a0_links y38).B), .int .i64 ((gd HeatLink.zero a0_links y38).Conductance)]) (cs' := [.int .i64 ((gd HeatLink.zero a0_links y38).A), .int .i64 ((gd HeatLink.zero a0_links y38).B), .int .i64 ((gd HeatLink.zero a0_links y38).Conductance)]) hs (.c (.k (.k (.k .nil)))) sz_43 hf rfl rfl (all1 rfl (all1 rfl (all1 rfl (all1_nil)))) rfl rfl) (fun w hs => ?_)
              refine hK48 _ _ ?_
              refine seq_n (fun Q49 hN49 hR49 hX49 => ?_)
              refine ck_some H (fun hc50 H => ?_)
              refine ck_some H (fun hc51 H => ?_)
              refine region_d fol 14 [(0, .pointer (some ⟨b0, 0, none⟩)), (6, v7), (11, .pointer (some ⟨b47, 0, none⟩)), (72, v0_links), (73, .int .i64 (a0_links.length : Int)), (74, .int .i64 y38)] [(0, .pointer (some ⟨b47, 2, none⟩)), (1, .int .i64 ((gd HeatLink.zero a0_links y38).Conductance)), (2, v7), (3, .pointer (some ⟨b47, 0, none⟩)), (4, .int .i64 ((gd HeatLink.zero a0_links y38).A)), (5, .pointer (some (sla v7 (((gd HeatLink.zero a0_links y38).A).toNat * 1)))), (6, .int .i64 (gd 0 s6 ((gd HeatLink.zero a0_links y38).A))), (7, v7), (8, .pointer (some ⟨b47, 1, none⟩)), (9, .int .i64 ((gd HeatLink.zero a0_links y38).B)), (10, .pointer (some (sla v7 (((gd HeatLink.zero a0_links y38).B).toNat * 1)))), (11, .int .i64 (gd 0 s6 ((gd HeatLink.zero a0_links y38).B))), (12, .int .i64 (IntKind.i64.wrap ((gd 0 s6 ((gd HeatLink.zero a0_links y38).A)) - (gd 0 s6 ((gd HeatLink.zero a0_links y38).B))))), (13, .int .i64 (IntKind.i64.wrap (((gd HeatLink.zero a0_links y38).Conductance) * (IntKind.i64.wrap ((gd 0 s6 ((gd HeatLink.zero a0_links y38).A)) - (gd 0 s6 ((gd HeatLink.zero a0_links y38).B)))))))] [] (fun w => (bx b47 43 [.int .i64 ((gd HeatLink.zero a0_links y38).A), .int .i64 ((gd HeatLink.zero a0_links y38).B), .int .i64 ((gd HeatLink.zero a0_links y38).Conductance)]).ok w ∧ (osl K_int64 v7 s6).ok w ∧ True) (fun w => St M w0 w [bx b47 43 [.int .i64 ((gd HeatLink.zero a0_links y38).A), .int .i64 ((gd HeatLink.zero a0_links y38).B), .int .i64 ((gd HeatLink.zero a0_links y38).Conductance)], bx b0 64 [v0_domains, v0_links, .int .i64 a0_ambient, v0_energy, .int .i64 x9.2], osl K_int64 v0_energy y37, osl K_int64 v7 s6]) hf ⟨rfl, rfl, rfl, rfl, rfl, rfl, trivial⟩ (by kernel_rfl) (by kernel_rfl) rfl (by decide) ⟨hs.drew.get (i := 0) rfl, hs.drew.get (i := 3) rfl, trivial⟩ hs.drew (.cons (⟨_, _, rfl, rfl, rfl, rfl, fun a w hR hf => .inl ⟨wanted_yes hf rfl, ex_fieldAddrB fa_43_2 rfl hf rfl⟩⟩) (.cons (⟨_, _, rfl, rfl, rfl, rfl, fun a w hR hf => .inl ⟨wanted_yes hf rfl, ex_load sc_2 hf rfl (bx_cell (hR.1) _ rfl)⟩⟩) (.cons (⟨_, _, rfl, rfl, rfl, rfl, fun a w hR hf => .inl ⟨wanted_yes hf rfl, ex_move hf rfl⟩⟩) (.cons (⟨_, _, rfl, rfl, rfl, rfl, fun a w hR hf => .inl ⟨wanted_yes hf rfl, ex_fieldAddrB fa_43_0 rfl hf rfl⟩⟩) (.cons (⟨_, _, rfl, rfl, rfl, rfl, fun a w hR hf => .inl ⟨wanted_yes hf rfl, ex_load sc_3 hf rfl (bx_cell (hR.1) _ rfl)⟩⟩) (.cons (⟨_, _, rfl, rfl, rfl, rfl, fun a w hR hf => .inl ⟨wanted_yes hf rfl, ex_indexAddr sa_35 (rsl_isSl (osl_rsl _ hR.2.1)) hc50.1 hc50.2 hf rfl rfl⟩⟩) (.cons (⟨_, _, rfl, rfl, rfl, rfl, fun a w hR hf => .inl ⟨wanted_yes hf rfl, ex_load sc_2 hf rfl (el_cell (K := K_int64) (f := 0) (rsl_rd (osl_rsl _ hR.2.1)) hc50.1 hc50.2 rfl)⟩⟩) (.cons (⟨_, _, rfl, rfl, rfl, rfl, fun a w hR hf => .inl ⟨wanted_yes hf rfl, ex_move hf rfl⟩⟩) (.cons (⟨_, _, rfl, rfl, rfl, rfl, fun a w hR hf => .inl ⟨wanted_yes hf rfl, ex_fieldAddrB fa_43_1 rfl hf rfl⟩⟩) (.cons (⟨_, _, rfl, rfl, rfl, rfl, fun a w hR hf => .inl ⟨wanted_yes hf rfl, ex_load sc_3 hf rfl (bx_cell (hR.1) _ rfl)⟩⟩) (.cons (⟨_, _, rfl, rfl, rfl, rfl, fun a w hR hf => .inl ⟨wanted_yes hf rfl, ex_indexAddr sa_35 (rsl_isSl (osl_rsl _ hR.2.1)) hc51.1 hc51.2 hf rfl rfl⟩⟩) (.cons (⟨_, _, rfl, rfl, rfl, rfl, fun a w hR hf => .inl ⟨wanted_yes hf rfl, ex_load sc_2 hf rfl (el_cell (K := K_int64) (f := 0) (rsl_rd (osl_rsl _ hR.2.1)) hc51.1 hc51.2 rfl)⟩⟩) (.cons (⟨_, _, rfl, rfl, rfl, rfl, fun a w hR hf => .inl ⟨wanted_yes hf rfl, ex_sub hf rfl rfl⟩⟩) (.cons (⟨_, _, rfl, rfl, rfl, rfl, fun a w hR hf => .inl ⟨wanted_yes hf rfl, ex_mul hf rfl rfl⟩⟩) (.nil))))))))))))))) (fun K52 hK52 => ?_)
              refine RW.zero (by kernel_rfl) (by kernel_rfl) [(0, .pointer (some ⟨b0, 0, none⟩)), (6, v7), (11, .pointer (some ⟨b47, 0, none⟩)), (72, v0_links), (73, .int .i64 (a0_links.length : Int)), (74, .int .i64 y38), (91, .int .i64 (IntKind.i64.wrap (((gd HeatLink.zero a0_links y38).Conductance) * (IntKind.i64.wrap ((gd 0 s6 ((gd HeatLink.zero a0_links y38).A)) - (gd 0 s6 ((gd HeatLink.zero a0_links y38).B)))))))] ⟨rfl, rfl, rfl, rfl, rfl, rfl, rfl, trivial⟩ (fun a w hR hs hf => ?_)
              refine stq hf rfl rfl rfl (ex_assign hf rfl) (fun a hf => ?_)
              refine hK52 _ _ ?_
              refine hN49 _ _ ?_
              refine seq_n (fun Q53 hN53 hR53 hX53 => ?_)
              refine ck_some H (fun hc54 H => ?_)
              refine region_d fol 10 [(0, .pointer (some ⟨b0, 0, none⟩)), (6, v7), (11, .pointer (some ⟨b47, 0, none⟩)), (12, .int .i64 (IntKind.i64.wrap (((gd HeatLink.zero a0_links y38).Conductance) * (IntKind.i64.wrap ((gd 0 s6 ((gd HeatLink.zero a0_links y38).A)) - (gd 0 s6 ((gd HeatLink.zero a0_links y38).B))))))), (72, v0_links), (73, .int .i64 (a0_links.length : Int)), (74, .int .i64 y38)] [(0, .pointer (some ⟨b0, 0, none⟩)), (1, .pointer (some ⟨b0, 0, none⟩)), (2, .pointer (some ⟨b0, 3, none⟩)), (3, v0_energy), (4, .pointer (some ⟨b47, 0, none⟩)), (5, .int .i64 ((gd HeatLink.zero a0_links y38).A)), (6, .pointer (some (sla v0_energy (((gd HeatLink.zero a0_links y38).A).toNat * 1)))), (7, .int .i64 (gd 0 y37 ((gd HeatLink.zero a0_links y38).A))), (8, .int .i64 (IntKind.i64.wrap (((gd HeatLink.zero a0_links y38).Conductance) * (IntKind.i64.wrap ((gd 0 s6 ((gd HeatLink.zero a0_links y38).A)) - (gd 0 s6 ((gd HeatLink.zero a0_links y38).B))))))), (9, .int .i64 (IntKind.i64.wrap ((gd 0 y37 ((gd HeatLink.zero a0_links y38).A)) - (IntKind.i64.wrap (((gd HeatLink.zero a0_links y38).Conductance) * (IntKind.i64.wrap ((gd 0 s6 ((gd HeatLink.zero a0_links y38).A)) - (gd 0 s6 ((gd HeatLink.zero a0_links y38).B)))))))))] [] (fun w => (bx b0 64 [v0_domains, v0_links, .int .i64 a0_ambient, v0_energy, .int .i64 x9.2]).ok w ∧ (bx b47 43 [.int .i64 ((gd HeatLink.zero a0_links y38).A), .int .i64 ((gd HeatLink.zero a0_links y38).B), .int .i64 ((gd HeatLink.zero a0_links y38).Conductance)]).ok w ∧ (osl K_int64 v0_energy y37).ok w ∧ True) (fun w => St M w0 w [bx b47 43 [.int .i64 ((gd HeatLink.zero a0_links y38).A), .int .i64 ((gd HeatLink.zero a0_links y38).B), .int .i64 ((gd HeatLink.zero a0_links y38).Conductance)], bx b0 64 [v0_domains, v0_links, .int .i64 a0_ambient, v0_energy, .int .i64 x9.2], osl K_int64 v0_energy y37, osl K_int64 v7 s6]) hf ⟨rfl, rfl, rfl, rfl, rfl, rfl, rfl, trivial⟩ (by kernel_rfl) (by kernel_rfl) rfl (by decide) ⟨hs.drew.get (i := 1) rfl, hs.drew.get (i := 0) rfl, hs.drew.get (i := 2) rfl, trivial⟩ hs.drew (.cons (⟨_, _, rfl, rfl, rfl, rfl, fun a w hR hf => .inl ⟨wanted_yes hf rfl, ex_move hf rfl⟩⟩) (.cons (⟨_, _, rfl, rfl, rfl, rfl, fun a w hR hf => .inl ⟨wanted_yes hf rfl, ex_nilCheck hf rfl⟩⟩) (.cons (⟨_, _, rfl, rfl, rfl, rfl, fun a w hR hf => .inl ⟨wanted_yes hf rfl, ex_fieldAddrB fa_64_3 rfl hf rfl⟩⟩) (.cons (⟨_, _, rfl, rfl, rfl, rfl, fun a w hR hf => .inl ⟨wanted_yes hf rfl, ex_load sc_35 hf rfl (bx_cell (hR.1) _ rfl)⟩⟩) (.cons (⟨_, _, rfl, rfl, rfl, rfl, fun a w hR hf => .inl ⟨wanted_yes hf rfl, ex_fieldAddrB fa_43_0 rfl hf rfl⟩⟩) (.cons (⟨_, _, rfl, rfl, rfl, rfl, fun a w hR hf => .inl ⟨wanted_yes hf rfl, ex_load sc_3 hf rfl (bx_cell (hR.2.1) _ rfl)⟩⟩) (.cons (⟨_, _, rfl, rfl, rfl, rfl, fun a w hR hf => .inl ⟨wanted_yes hf rfl, ex_indexAddr sa_35 (rsl_isSl (osl_rsl _ hR.2.2.1)) hc54.1 hc54.2 hf rfl rfl⟩⟩) (.cons (⟨_, _, rfl, rfl, rfl, rfl, fun a w hR hf => .inl ⟨wanted_yes hf rfl, ex_load sc_2 hf rfl (el_cell (K := K_int64) (f := 0) (rsl_rd (osl_rsl _ hR.2.2.1)) hc54.1 hc54.2 rfl)⟩⟩) (.cons (⟨_, _, rfl, rfl, rfl, rfl, fun a w hR hf => .inl ⟨wanted_yes hf rfl, ex_move hf rfl⟩⟩) (.cons (⟨_, _, rfl, rfl, rfl, rfl, fun a w hR hf => .inl ⟨wanted_yes hf rfl, ex_sub hf rfl rfl⟩⟩) (.nil))))))))))) (fun K55 hK55 => ?_)
              refine RW.zero (by kernel_rfl) (by kernel_rfl) [(0, .pointer (some ⟨b0, 0, none⟩)), (6, v7), (11, .pointer (some ⟨b47, 0, none⟩)), (12, .int .i64 (IntKind.i64.wrap (((gd HeatLink.zero a0_links y38).Conductance) * (IntKind.i64.wrap ((gd 0 s6 ((gd HeatLink.zero a0_links y38).A)) - (gd 0 s6 ((gd HeatLink.zero a0_links y38).B))))))), (72, v0_links), (73, .int .i64 (a0_links.length : Int)), (74, .int .i64 y38), (95, v0_energy), (97, .int .i64 ((gd HeatLink.zero a0_links y38).A)), (101, .int .i64 (IntKind.i64.wrap ((gd 0 y37 ((gd HeatLink.zero a0_links y38).A)) - (IntKind.i64.wrap (((gd HeatLink.zero a0_links y38).Conductance) * (IntKind.i64.wrap ((gd 0 s6 ((gd HeatLink.zero a0_links y38).A)) - (gd 0 s6 ((gd HeatLink.zero a0_links y38).B)))))))))] ⟨rfl, rfl, rfl, rfl, rfl, rfl, rfl, rfl, rfl, rfl, trivial⟩ (fun a w hR hs hf => ?_)
              refine stq hf rfl rfl rfl (ex_indexAddr sa_35 (rsl_isSl (osl_rsl _ (hs.get (i := 2) rfl))) hc54.1 hc54.2 hf rfl rfl) (fun a hf => ?_)
              refine stepS hf rfl rfl (er_storeE (K := K_int64) (f := 0) (x' := (IntKind.i64.wrap ((gd 0 y37 ((gd HeatLink.zero a0_links y38).A)) - (IntKind.i64.wrap (((gd HeatLink.zero a0_links y38).Conductance) * (IntKind.i64.wrap ((gd 0 s6 ((gd HeatLink.zero a0_links y38).A)) - (gd 0 s6 ((gd HeatLink.zero a0_links y38).B))))))))) hs (.k (.k (.c (.k .nil)))) hc54.1 hc54.2 hf rfl rfl rfl sz_2 rfl rfl) (fun w hs => ?_)
              refine hK55 _ _ ?_
              refine hN53 _ _ ?_
              refine ck_some H (fun hc56 H => ?_)
              refine region_d fol 10 [(0, .pointer (some ⟨b0, 0, none⟩)), (6, v7), (11, .pointer (some ⟨b47, 0, none⟩)), (12, .int .i64 (IntKind.i64.wrap (((gd HeatLink.zero a0_links y38).Conductance) * (IntKind.i64.wrap ((gd 0 s6 ((gd HeatLink.zero a0_links y38).A)) - (gd 0 s6 ((gd HeatLink.zero a0_links y38).B))))))), (72, v0_links), (73, .int .i64 (a0_links.length : Int)), (74, .int .i64 y38)] [(0, .pointer (some ⟨b0, 0, none⟩)), (1, .pointer (some ⟨b0, 0, none⟩)), (2, .pointer (some ⟨b0, 3, none⟩)), (3, v0_energy), (4, .pointer (some ⟨b47, 1, none⟩)), (5, .int .i64 ((gd HeatLink.zero a0_links y38).B)), (6, .pointer (some (sla v0_energy (((gd HeatLink.zero a0_links y38).B).toNat * 1)))), (7, .int .i64 (gd 0 (y37.set ((gd HeatLink.zero a0_links y38).A).toNat (IntKind.i64.wrap ((gd 0 y37 ((gd HeatLink.zero a0_links y38).A)) - (IntKind.i64.wrap (((gd HeatLink.zero a0_links y38).Conductance) * (IntKind.i64.wrap ((gd 0 s6 ((gd HeatLink.zero a0_links y38).A)) - (gd 0 s6 ((gd HeatLink.zero a0_links y38).B))))))))) ((gd HeatLink.zero a0_links y38).B))), (8, .int .i64 (IntKind.i64.wrap (((gd HeatLink.zero a0_links y38).Conductance) * (IntKind.i64.wrap ((gd 0 s6 ((gd HeatLink.zero a0_links y38).A)) - (gd 0 s6 ((gd HeatLink.zero a0_links y38).B))))))), (9, .int .i64 (IntKind.i64.wrap ((gd 0 (y37.set ((gd HeatLink.zero a0_links y38).A).toNat (IntKind.i64.wrap ((gd 0 y37 ((gd HeatLink.zero a0_links y38).A)) - (IntKind.i64.wrap (((gd HeatLink.zero a0_links y38).Conductance) * (IntKind.i64.wrap ((gd 0 s6 ((gd HeatLink.zero a0_links y38).A)) - (gd 0 s6 ((gd HeatLink.zero a0_links y38).B))))))))) ((gd HeatLink.zero a0_links y38).B)) + (IntKind.i64.wrap (((gd HeatLink.zero a0_links y38).Conductance) * (IntKind.i64.wrap ((gd 0 s6 ((gd HeatLink.zero a0_links y38).A)) - (gd 0 s6 ((gd HeatLink.zero a0_links y38).B)))))))))] [] (fun w => (bx b0 64 [v0_domains, v0_links, .int .i64 a0_ambient, v0_energy, .int .i64 x9.2]).ok w ∧ (bx b47 43 [.int .i64 ((gd HeatLink.zero a0_links y38).A), .int .i64 ((gd HeatLink.zero a0_links y38).B), .int .i64 ((gd HeatLink.zero a0_links y38).Conductance)]).ok w ∧ (osl K_int64 v0_energy (y37.set ((gd HeatLink.zero a0_links y38).A).toNat (IntKind.i64.wrap ((gd 0 y37 ((gd HeatLink.zero a0_links y38).A)) - (IntKind.i64.wrap (((gd HeatLink.zero a0_links y38).Conductance) * (IntKind.i64.wrap ((gd 0 s6 ((gd HeatLink.zero a0_links y38).A)) - (gd 0 s6 ((gd HeatLink.zero a0_links y38).B)))))))))).ok w ∧ True) (fun w => St M w0 w [osl K_int64 v0_energy (y37.set ((gd HeatLink.zero a0_links y38).A).toNat (IntKind.i64.wrap ((gd 0 y37 ((gd HeatLink.zero a0_links y38).A)) - (IntKind.i64.wrap (((gd HeatLink.zero a0_links y38).Conductance) * (IntKind.i64.wrap ((gd 0 s6 ((gd HeatLink.zero a0_links y38).A)) - (gd 0 s6 ((gd HeatLink.zero a0_links y38).B))))))))), bx b47 43 [.int .i64 ((gd HeatLink.zero a0_links y38).A), .int .i64 ((gd HeatLink.zero a0_links y38).B), .int .i64 ((gd HeatLink.zero a0_links y38).Conductance)], bx b0 64 [v0_domains, v0_links, .int .i64 a0_ambient, v0_energy, .int .i64 x9.2], osl K_int64 v7 s6]) hf ⟨rfl, rfl, rfl, rfl, rfl, rfl, rfl, trivial⟩ (by kernel_rfl) (by kernel_rfl) rfl (by decide) ⟨hs.drew.get (i := 2) rfl, hs.drew.get (i := 1) rfl, hs.drew.get (i := 0) rfl, trivial⟩ hs.drew (.cons (⟨_, _, rfl, rfl, rfl, rfl, fun a w hR hf => .inl ⟨wanted_yes hf rfl, ex_move hf rfl⟩⟩) (.cons (⟨_, _, rfl, rfl, rfl, rfl, fun a w hR hf => .inl ⟨wanted_yes hf rfl, ex_nilCheck hf rfl⟩⟩) (.cons (⟨_, _, rfl, rfl, rfl, rfl, fun a w hR hf => .inl ⟨wanted_yes hf rfl, ex_fieldAddrB fa_64_3 rfl hf rfl⟩⟩) (.cons (⟨_, _, rfl, rfl, rfl, rfl, fun a w hR hf => .inl ⟨wanted_yes hf rfl, ex_load sc_35 hf rfl (bx_cell (hR.1) _ rfl)⟩⟩) (.cons (⟨_, _, rfl, rfl, rfl, rfl, fun a w hR hf => .inl ⟨wanted_yes hf rfl, ex_fieldAddrB fa_43_1 rfl hf rfl⟩⟩) (.cons (⟨_, _, rfl, rfl, rfl, rfl, fun a w hR hf => .inl ⟨wanted_yes hf rfl, ex_load sc_3 hf rfl (bx_cell (hR.2.1) _ rfl)⟩⟩) (.cons (⟨_, _, rfl, rfl, rfl, rfl, fun a w hR hf => .inl ⟨wanted_yes hf rfl, ex_indexAddr sa_35 (rsl_isSl (osl_rsl _ hR.2.2.1)) hc56.1 hc56.2 hf rfl rfl⟩⟩) (.cons (⟨_, _, rfl, rfl, rfl, rfl, fun a w hR hf => .inl ⟨wanted_yes hf rfl, ex_load sc_2 hf rfl (el_cell (K := K_int64) (f := 0) (rsl_rd (osl_rsl _ hR.2.2.1)) hc56.1 hc56.2 rfl)⟩⟩) (.cons (⟨_, _, rfl, rfl, rfl, rfl, fun a w hR hf => .inl ⟨wanted_yes hf rfl, ex_move hf rfl⟩⟩) (.cons (⟨_, _, rfl, rfl, rfl, rfl, fun a w hR hf => .inl ⟨wanted_yes hf rfl, ex_add hf rfl rfl⟩⟩) (.nil))))))))))) (fun K57 hK57 => ?_)
              refine RW.zero (by kernel_rfl) (by kernel_rfl) [(0, .pointer (some ⟨b0, 0, none⟩)), (6, v7), (72, v0_links), (73, .int .i64 (a0_links.length : Int)), (74, .int .i64 y38), (106, v0_energy), (108, .int .i64 ((gd HeatLink.zero a0_links y38).B)), (112, .int .i64 (IntKind.i64.wrap ((gd 0 (y37.set ((gd HeatLink.zero a0_links y38).A).toNat (IntKind.i64.wrap ((gd 0 y37 ((gd HeatLink.zero a0_links y38).A)) - (IntKind.i64.wrap (((gd HeatLink.zero a0_links y38).Conductance) * (IntKind.i64.wrap ((gd 0 s6 ((gd HeatLink.zero a0_links y38).A)) - (gd 0 s6 ((gd HeatLink.zero a0_links y38).B))))))))) ((gd HeatLink.zero a0_links y38).B)) + (IntKind.i64.wrap (((gd HeatLink.zero a0_links y38).Conductance) * (IntKind.i64.wrap ((gd 0 s6 ((gd HeatLink.zero a0_links y38).A)) - (gd 0 s6 ((gd HeatLink.zero a0_links y38).B)))))))))] ⟨rfl, rfl, rfl, rfl, rfl, rfl, rfl, rfl, trivial⟩ (fun a w hR hs hf => ?_)
              refine stq hf rfl rfl rfl (ex_indexAddr sa_35 (rsl_isSl (osl_rsl _ (hs.get (i := 0) rfl))) hc56.1 hc56.2 hf rfl rfl) (fun a hf => ?_)
              refine stepS hf rfl rfl (er_storeE (K := K_int64) (f := 0) (x' := (IntKind.i64.wrap ((gd 0 (y37.set ((gd HeatLink.zero a0_links y38).A).toNat (IntKind.i64.wrap ((gd 0 y37 ((gd HeatLink.zero a0_links y38).A)) - (IntKind.i64.wrap (((gd HeatLink.zero a0_links y38).Conductance) * (IntKind.i64.wrap ((gd 0 s6 ((gd HeatLink.zero a0_links y38).A)) - (gd 0 s6 ((gd HeatLink.zero a0_links y38).B))))))))) ((gd HeatLink.zero a0_links y38).B)) + (IntKind.i64.wrap (((gd HeatLink.zero a0_links y38).Conductance) * (IntKind.i64.wrap ((gd 0 s6 ((gd HeatLink.zero a0_links y38).A)) - (gd 0 s6 ((gd HeatLink.zero a0_links y38).B))))))))) hs (.c (.k (.k (.k .nil)))) hc56.1 hc56.2 hf rfl rfl rfl sz_2 rfl rfl) (fun w hs => ?_)
              refine hK57 _ _ ?_
              refine hN45 _ _ ?_
              refine hN44 _ _ ?_
              refine region_k (fun K58 hK58 => ?_)
              refine stq hf rfl rfl rfl (ex_add hf rfl rfl) (fun a hf => ?_)
              refine stq hf rfl rfl rfl (ex_move hf rfl) (fun a hf => ?_)
              refine hK58 _ _ ?_
              replace hs := hs.keep (.k (.d (.k (.k .nil))))
              replace hs := hs.pick (.k (.k (.c .nil)))
              replace hs := hs.pick (.k (.c (.k .nil)))
              replace hs := hs.pick (.k (.k (.c .nil)))
              exact hL40 k40 _ _ (Nat.lt_succ_self _) ⟨((y37.set ((gd HeatLink.zero a0_links y38).A).toNat (IntKind.i64.wrap ((gd 0 y37 ((gd HeatLink.zero a0_links y38).A)) - (IntKind.i64.wrap (((gd HeatLink.zero a0_links y38).Conductance) * (IntKind.i64.wrap ((gd 0 s6 ((gd HeatLink.zero a0_links y38).A)) - (gd 0 s6 ((gd HeatLink.zero a0_links y38).B))))))))).set ((gd HeatLink.zero a0_links y38).B).toNat (IntKind.i64.wrap ((gd 0 (y37.set ((gd HeatLink.zero a0_links y38).A).toNat (IntKind.i64.wrap ((gd 0 y37 ((gd HeatLink.zero a0_links y38).A)) - (IntKind.i64.wrap (((gd HeatLink.zero a0_links y38).Conductance) * (IntKind.i64.wrap ((gd 0 s6 ((gd HeatLink.zero a0_links y38).A)) - (gd 0 s6 ((gd HeatLink.zero a0_links y38).B))))))))) ((gd HeatLink.zero a0_links y38).B)) + (IntKind.i64.wrap (((gd HeatLink.zero a0_links y38).Conductance) * (IntKind.i64.wrap ((gd 0 s6 ((gd HeatLink.zero a0_links y38).A)) - (gd 0 s6 ((gd HeatLink.zero a0_links y38).B))))))))), (IntKind.i64.wrap (y38 + 1)), hf.sub ⟨rfl, rfl, rfl, rfl, rfl, trivial⟩, hs, H⟩
            · -- not y38 < (a0_links.length : Int)
              replace hf := hf.castB (t := 75) rfl (dec_f hc43)
              refine cond_F hf rfl ?_
              refine wp_exit ?_
              refine hX42 2 _ _ ?_
              refine hX40 2 _ _ ?_
              refine hX36 _ _ ?_
              replace hs := hs.keep (.k (.k (.d .nil)))
              have e34 := some_eq H; subst e34
              exact hJ34 _ _ ⟨hf.sub ⟨rfl, trivial⟩, hs⟩
      · obtain ⟨hf, hs⟩ := hJ
        replace H := HO34
        clear HO34
        refine bnd H (fun s59 hs59 H => ?_)
        refine seq_reg (fun K61 hK61 => ?_)
        refine stq hf rfl rfl rfl (ex_move hf rfl) (fun a hf => ?_)
        refine stepF hf rfl rfl rfl (ex_call cf_33 hf rfl) (heat_Model_temperatures.calls k a0_domains a0_links a0_ambient x34 x9.2 b0 v0_domains v0_links v0_energy (hs.enter (.k (.k .nil))) (Sr.own hs (.k (.k .nil)) (i := 0) rfl (fun _ h => h) (fun _ h => h) (Sr.old hr hs (.k (.k .nil)) (i := 0) rfl (fun _ h => h) (fun _ h => h) (Sr.old hr hs (.k (.k .nil)) (i := 1) rfl (fun _ h => h) (fun _ h => h) (Sr.own hs (.k (.k .nil)) (i := 1) rfl osl_rsl (fun _ h => h.1) (Sr.nil _ _))))) hs59) (fun v w hR a hf => ?_)
        obtain ⟨v60, rfl, hs'⟩ := hR
        replace hs := hs.step (.k (.k .nil)) hs'
        clear hs'
        refine stq hf rfl rfl rfl (ex_assign hf rfl) (fun a hf => ?_)
        refine stq hf rfl rfl rfl (ex_assign hf rfl) (fun a hf => ?_)
        refine hK61 _ _ ?_
        refine wp_ret ?_
        have eR := some_eq H; subst eR
        replace hs := hs.pick (.k (.k (.c .nil)))
        replace hs := hs.pick (.k (.k (.c .nil)))
        exact ret2 Try.results15 hf rfl rfl ⟨_, rfl, ⟨v0_energy, v60, rfl, hs⟩⟩
  · -- not s3 = true
    replace hf := hf.castB (t := 19) rfl (bool_f hc5)
    replace hf := hf.castB (t := 20) rfl (nbool_t hc5)
    refine cond_T hf rfl ?_
    refine seq_reg (fun K62 hK62 => ?_)
    refine stq hf rfl rfl rfl (ex_assign hf rfl) (fun a hf => ?_)
    refine stq hf rfl rfl rfl (ex_assign hf rfl) (fun a hf => ?_)
    refine hK62 _ _ ?_
    refine wp_ret ?_
    refine hR2 _ _ ?_
    have eR := some_eq H; subst eR
    replace hs := hs.nilS K_int64
    replace hs := hs.pick (.k (.k (.c .nil)))
    replace hs := hs.pick (.k (.k (.c .nil)))
    exact ret2 Try.results15 hf rfl rfl ⟨_, rfl, ⟨v0_energy, (.slice none 0 0), rfl, hs⟩⟩

set_option maxRecDepth 100000 in
theorem heat_Model_Released.calls {M : Nat → Prop} {w0 : World} (k : Nat) (a0_domains : (List HeatDomain)) (a0_links : (List HeatLink)) (a0_ambient : Int) (a0_energy : (List Int)) (a0_released : Int) (b0 : Nat) (v0_domains : Value) (v0_links : Value) (v0_energy : Value) {r : Int} (hs : St M w0 w0 []) (hr : Sr M w0 [bx b0 64 [v0_domains, v0_links, .int .i64 a0_ambient, v0_energy, .int .i64 a0_released], rsl K_api_HeatDomain v0_domains a0_domains, rsl K_api_HeatLink v0_links a0_links, rsl K_int64 v0_energy a0_energy])
    (h : heat_Model_Released.f k a0_domains a0_links a0_ambient a0_energy a0_released = some r) : Calls Try.prog 16 #[.pointer (some ⟨b0, 0, none⟩)] w0 fun e w => ∃ v, e = .returned v ∧ (.int .i64 r = v ∧ St M w0 w []) := by
  have H := (heat_Model_Released.f.eq_1 ..).symm.trans h
  clear h
  refine enter Try.func16 rfl Try.ntmps16 rfl (fun a hf => ?_)
  refine seq_reg (fun K1 hK1 => ?_)
  refine stq hf rfl rfl rfl (ex_assign hf rfl) (fun a hf => ?_)
  refine hK1 _ _ ?_
  refine seq_reg (fun K2 hK2 => ?_)
  refine stq hf rfl rfl rfl (ex_move hf rfl) (fun a hf => ?_)
  refine stq hf rfl rfl rfl (ex_nilCheck hf rfl) (fun a hf => ?_)
  refine stq hf rfl rfl rfl (ex_fieldAddrB fa_64_4 rfl hf rfl) (fun a hf => ?_)
  refine stq hf rfl rfl rfl (ex_load sc_2 hf rfl (bx_cell (hr.now hs (i := 0) rfl) _ rfl)) (fun a hf => ?_)
  refine stq hf rfl rfl rfl (ex_assign hf rfl) (fun a hf => ?_)
  refine hK2 _ _ ?_
  refine wp_ret ?_
  have eR := some_eq H; subst eR
  exact ret1 Try.results16 hf rfl ⟨_, rfl, ⟨rfl, hs⟩⟩

set_option maxRecDepth 100000 in
theorem law38_awake.calls {M : Nat → Prop} {w0 : World} (k : Nat) {r : Bool} (hs : St M w0 w0 []) (hr : Sr M w0 [])
    (h : law38_awake.f k = some r) : Calls Try.prog 11 #[] w0 fun e w => ∃ v, e = .returned v ∧ (.bool r = v ∧ St M w0 w []) := by
  have H := (law38_awake.f.eq_1 ..).symm.trans h
  clear h
  refine enter Try.func11 rfl Try.ntmps11 rfl (fun a hf => ?_)
  refine seq_reg (fun K1 hK1 => ?_)
  refine stq hf rfl rfl rfl (ex_assign hf rfl) (fun a hf => ?_)
  refine hK1 _ _ ?_
  refine seq_n (fun Q2 hN2 hR2 hX2 => ?_)
  refine bnd H (fun s4 hs4 H => ?_)
  cases hps4 : s4.1 with
  | none =>
    replace H := elim_n hps4 H
    refine region_k (fun K6 hK6 => ?_)
    refine stq hf rfl rfl rfl (ex_build (cs := [.int .i64 10, .int .i64 1]) bt_34 hf rfl (.cons rfl (.cons rfl .nil)) rfl) (fun a hf => ?_)
    refine stepV hf rfl rfl rfl (er_buildSlice (K := K_api_HeatDomain) (xs := [(⟨10, 1⟩ : HeatDomain)]) hs Try.underlying22 ep_34 rfl rfl hf rfl (.cons rfl .nil) rfl rfl) (fun v3 w hs a hf => ?_)
    refine stepF hf rfl rfl rfl (ex_call cf_13 hf rfl) (heat_New.calls k [(⟨10, 1⟩ : HeatDomain)] [] 20 v3 (.slice none 0 0) (hs.enter (.k .nil)) (Sr.own hs (.k .nil) (i := 0) rfl osl_rsl (fun _ h => h.1) (Sr.free (nil_rsl _ _) nil_fs (Sr.nil _ _))) hs4) (fun v w hR a hf => ?_)
    obtain ⟨_, rfl, hs'⟩ | ⟨_, hc', _⟩ := hR
    case inr => rw [hps4] at hc'; cases hc'
    replace hs := hs.step (.k .nil) hs'
    clear hs'
    refine stq hf rfl rfl rfl (ex_move hf rfl) (fun a hf => ?_)
    refine stq hf rfl rfl rfl (ex_extract hf rfl rfl) (fun a hf => ?_)
    refine stq hf rfl rfl rfl (ex_extract hf rfl rfl) (fun a hf => ?_)
    refine stq hf rfl rfl rfl (ex_assign hf rfl) (fun a hf => ?_)
    refine stq hf rfl rfl rfl (ex_assign hf rfl) (fun a hf => ?_)
    refine hK6 _ _ ?_
    refine hN2 _ _ ?_
    refine seq_n (fun Q7 hN7 hR7 hX7 => ?_)
    refine bnd H (fun x8 H8 HO8 => ?_)
    clear H
    refine seq_cut (fun a w => Fr a 74 [(1, .pointer none), (23, .bool true)] ∧ St M w0 w []) (fun Q8 hJ8 hR8 hX8 => ?_) (fun a w hJ => ?_)
    · replace H := H8
      refine itt H (fun hc9 H => ?_) (fun hc9 H => ?_)
      · -- s4.2 = 0
        refine region_k (fun K10 hK10 => ?_)
        refine stq hf rfl rfl rfl (ex_move hf rfl) (fun a hf => ?_)
        refine stq hf rfl rfl rfl (ex_neq hf rfl rfl) (fun a hf => ?_)
        refine stq hf rfl rfl rfl (ex_move hf rfl) (fun a hf => ?_)
        replace hf := hf.castB (t := 14) rfl (ndec_f hc9)
        replace hf := hf.castB (t := 15) rfl (ndec_f hc9)
        refine stq hf rfl rfl rfl (ex_move hf rfl) (fun a hf => ?_)
        refine stq hf rfl rfl rfl (ex_eqp Try.underlying29 hf rfl rfl) (fun a hf => ?_)
        refine stq hf rfl rfl rfl (ex_pickF hf rfl rfl) (fun a hf => ?_)
        refine stq hf rfl rfl rfl (ex_move hf rfl) (fun a hf => ?_)
        refine stepN hf rfl rfl rfl (fun a hf => ?_)
        refine stepN hf rfl rfl rfl (fun a hf => ?_)
        refine stepN hf rfl rfl rfl (fun a hf => ?_)
        refine stq hf rfl rfl rfl (ex_pickT hf rfl rfl) (fun a hf => ?_)
        refine hK10 _ _ ?_
        replace hs := hs.keep (.d .nil)
        have e8 := some_eq H; subst e8
        exact hJ8 _ _ ⟨hf.sub ⟨rfl, rfl, trivial⟩, hs⟩
      · -- not s4.2 = 0
        refine region_k (fun K11 hK11 => ?_)
        refine stq hf rfl rfl rfl (ex_move hf rfl) (fun a hf => ?_)
        refine stq hf rfl rfl rfl (ex_neq hf rfl rfl) (fun a hf => ?_)
        refine stq hf rfl rfl rfl (ex_move hf rfl) (fun a hf => ?_)
        replace hf := hf.castB (t := 14) rfl (ndec_t hc9)
        replace hf := hf.castB (t := 15) rfl (ndec_t hc9)
        refine stepN hf rfl rfl rfl (fun a hf => ?_)
        refine stepN hf rfl rfl rfl (fun a hf => ?_)
        refine stq hf rfl rfl rfl (ex_pickT hf rfl rfl) (fun a hf => ?_)
        refine stq hf rfl rfl rfl (ex_move hf rfl) (fun a hf => ?_)
        refine stepN hf rfl rfl rfl (fun a hf => ?_)
        refine stepN hf rfl rfl rfl (fun a hf => ?_)
        refine stepN hf rfl rfl rfl (fun a hf => ?_)
        refine stq hf rfl rfl rfl (ex_pickT hf rfl rfl) (fun a hf => ?_)
        refine hK11 _ _ ?_
        replace hs := hs.keep (.d .nil)
        have e8 := some_eq H; subst e8
        exact hJ8 _ _ ⟨hf.sub ⟨rfl, rfl, trivial⟩, hs⟩
    · obtain ⟨hf, hs⟩ := hJ
      replace H := HO8
      clear HO8
      refine cond_T hf rfl ?_
      refine seq_reg (fun K12 hK12 => ?_)
      refine stq hf rfl rfl rfl (ex_assign hf rfl) (fun a hf => ?_)
      refine hK12 _ _ ?_
      refine wp_ret ?_
      refine hR7 _ _ ?_
      have eR := some_eq H; subst eR
      exact ret1 Try.results11 hf rfl ⟨_, rfl, ⟨rfl, hs⟩⟩
  | some c5 =>
    replace H := elim_s hps4 H
    refine region_k (fun K17 hK17 => ?_)
    refine stq hf rfl rfl rfl (ex_build (cs := [.int .i64 10, .int .i64 1]) bt_34 hf rfl (.cons rfl (.cons rfl .nil)) rfl) (fun a hf => ?_)
    refine stepV hf rfl rfl rfl (er_buildSlice (K := K_api_HeatDomain) (xs := [(⟨10, 1⟩ : HeatDomain)]) hs Try.underlying22 ep_34 rfl rfl hf rfl (.cons rfl .nil) rfl rfl) (fun v3 w hs a hf => ?_)
    refine stepF hf rfl rfl rfl (ex_call cf_13 hf rfl) (heat_New.calls k [(⟨10, 1⟩ : HeatDomain)] [] 20 v3 (.slice none 0 0) (hs.enter (.k .nil)) (Sr.own hs (.k .nil) (i := 0) rfl osl_rsl (fun _ h => h.1) (Sr.free (nil_rsl _ _) nil_fs (Sr.nil _ _))) hs4) (fun v w hR a hf => ?_)
    obtain ⟨hc', _⟩ | ⟨cc, hc', b13, v14, v15, v16, rfl, hs'⟩ := hR
    case inl => rw [hps4] at hc'; cases hc'
    obtain rfl : c5 = cc := by rw [hps4] at hc'; exact Option.some.inj hc'
    replace hs := hs.step (.k .nil) hs'
    clear hs'
    refine stq hf rfl rfl rfl (ex_move hf rfl) (fun a hf => ?_)
    refine stq hf rfl rfl rfl (ex_extract hf rfl rfl) (fun a hf => ?_)
    refine stq hf rfl rfl rfl (ex_extract hf rfl rfl) (fun a hf => ?_)
    refine stq hf rfl rfl rfl (ex_assign hf rfl) (fun a hf => ?_)
    refine stq hf rfl rfl rfl (ex_assign hf rfl) (fun a hf => ?_)
    refine hK17 _ _ ?_
    refine hN2 _ _ ?_
    refine seq_n (fun Q18 hN18 hR18 hX18 => ?_)
    refine bnd H (fun x19 H19 HO19 => ?_)
    clear H
    refine seq_cut (fun a w => Fr a 74 [(1, .pointer (some ⟨b13, 0, none⟩)), (23, .bool x19)] ∧ St M w0 w [bx b13 64 [v14, v15, .int .i64 c5.2.2.1, v16, .int .i64 c5.2.2.2.2], osl K_api_HeatDomain v14 c5.1, osl K_api_HeatLink v15 c5.2.1, osl K_int64 v16 c5.2.2.2.1]) (fun Q19 hJ19 hR19 hX19 => ?_) (fun a w hJ => ?_)
    · replace H := H19
      refine itt H (fun hc20 H => ?_) (fun hc20 H => ?_)
      · -- s4.2 = 0
        refine bnd H (fun s21 hs21 H => ?_)
        refine region_k (fun K22 hK22 => ?_)
        refine stq hf rfl rfl rfl (ex_move hf rfl) (fun a hf => ?_)
        refine stq hf rfl rfl rfl (ex_neq hf rfl rfl) (fun a hf => ?_)
        refine stq hf rfl rfl rfl (ex_move hf rfl) (fun a hf => ?_)
        replace hf := hf.castB (t := 14) rfl (ndec_f hc20)
        replace hf := hf.castB (t := 15) rfl (ndec_f hc20)
        refine stq hf rfl rfl rfl (ex_move hf rfl) (fun a hf => ?_)
        refine stq hf rfl rfl rfl (ex_eqp Try.underlying29 hf rfl rfl) (fun a hf => ?_)
        refine stq hf rfl rfl rfl (ex_pickF hf rfl rfl) (fun a hf => ?_)
        refine stq hf rfl rfl rfl (ex_move hf rfl) (fun a hf => ?_)
        refine stq hf rfl rfl rfl (ex_move hf rfl) (fun a hf => ?_)
        refine stepF hf rfl rfl rfl (ex_call cf_17 hf rfl) (heat_Model_Energy.calls k c5.1 c5.2.1 c5.2.2.1 c5.2.2.2.1 c5.2.2.2.2 0 b13 v14 v15 v16 (hs.enter (.k (.k (.k (.k (.k .nil)))))) (Sr.own hs (.k (.k (.k (.k (.k .nil))))) (i := 0) rfl (fun _ h => h) (fun _ h => h) (Sr.own hs (.k (.k (.k (.k (.k .nil))))) (i := 1) rfl osl_rsl (fun _ h => h.1) (Sr.own hs (.k (.k (.k (.k (.k .nil))))) (i := 2) rfl osl_rsl (fun _ h => h.1) (Sr.own hs (.k (.k (.k (.k (.k .nil))))) (i := 3) rfl osl_rsl (fun _ h => h.1) (Sr.nil _ _))))) hs21) (fun v w hR a hf => ?_)
        obtain ⟨rfl, hs'⟩ := hR
        replace hs := hs.step (.k (.k (.k (.k (.k .nil))))) hs'
        clear hs'
        refine stq hf rfl rfl rfl (ex_neq hf rfl rfl) (fun a hf => ?_)
        refine stq hf rfl rfl rfl (ex_pickF hf rfl rfl) (fun a hf => ?_)
        refine hK22 _ _ ?_
        replace hs := hs.keep (.k (.k (.k (.k (.d .nil)))))
        have e19 := some_eq H; subst e19
        exact hJ19 _ _ ⟨hf.sub ⟨rfl, rfl, trivial⟩, hs⟩
      · -- not s4.2 = 0
        refine region_k (fun K23 hK23 => ?_)
        refine stq hf rfl rfl rfl (ex_move hf rfl) (fun a hf => ?_)
        refine stq hf rfl rfl rfl (ex_neq hf rfl rfl) (fun a hf => ?_)
        refine stq hf rfl rfl rfl (ex_move hf rfl) (fun a hf => ?_)
        replace hf := hf.castB (t := 14) rfl (ndec_t hc20)
        replace hf := hf.castB (t := 15) rfl (ndec_t hc20)
        refine stepN hf rfl rfl rfl (fun a hf => ?_)
        refine stepN hf rfl rfl rfl (fun a hf => ?_)
        refine stq hf rfl rfl rfl (ex_pickT hf rfl rfl) (fun a hf => ?_)
        refine stq hf rfl rfl rfl (ex_move hf rfl) (fun a hf => ?_)
        refine stepN hf rfl rfl rfl (fun a hf => ?_)
        refine stepN hf rfl rfl rfl (fun a hf => ?_)
        refine stepN hf rfl rfl rfl (fun a hf => ?_)
        refine stq hf rfl rfl rfl (ex_pickT hf rfl rfl) (fun a hf => ?_)
        refine hK23 _ _ ?_
        replace hs := hs.keep (.k (.k (.k (.k (.d .nil)))))
        have e19 := some_eq H; subst e19
        exact hJ19 _ _ ⟨hf.sub ⟨rfl, rfl, trivial⟩, hs⟩
    · obtain ⟨hf, hs⟩ := hJ
      replace H := HO19
      clear HO19
      refine itt H (fun hc24 H => ?_) (fun hc24 H => ?_)
      · -- x19 = true
        replace hf := hf.castB (t := 23) rfl hc24
        refine cond_T hf rfl ?_
        refine seq_reg (fun K25 hK25 => ?_)
        refine stq hf rfl rfl rfl (ex_assign hf rfl) (fun a hf => ?_)
        refine hK25 _ _ ?_
        refine wp_ret ?_
        refine hR18 _ _ ?_
        have eR := some_eq H; subst eR
        replace hs := hs.keep (.d (.d (.d (.d .nil))))
        exact ret1 Try.results11 hf rfl ⟨_, rfl, ⟨rfl, hs⟩⟩
      · -- not x19 = true
        replace hf := hf.castB (t := 23) rfl (bool_f hc24)
        refine cond_F hf rfl ?_
        refine wp_skip ?_
        refine hN18 _ _ ?_
        refine bnd H (fun s27 hs27 H => ?_)
        refine seq_reg (fun K30 hK30 => ?_)
        refine stq hf rfl rfl rfl (ex_move hf rfl) (fun a hf => ?_)
        refine stepV hf rfl rfl rfl (er_buildSlice (K := K_int64) (xs := [15]) hs Try.underlying35 ep_2 rfl rfl hf rfl (.cons rfl .nil) rfl rfl) (fun v26 w hs a hf => ?_)
        refine stepF hf rfl rfl rfl (ex_call cf_15 hf rfl) (heat_Model_Step.calls k c5.1 c5.2.1 c5.2.2.1 c5.2.2.2.1 c5.2.2.2.2 [15] b13 v14 v15 v16 v26 (hs.enter (.k (.c (.k (.k (.c .nil)))))) (Sr.own hs (.k (.c (.k (.k (.c .nil))))) (i := 1) rfl osl_rsl (fun _ h => h.1) (Sr.own hs (.k (.c (.k (.k (.c .nil))))) (i := 2) rfl osl_rsl (fun _ h => h.1) (Sr.own hs (.k (.c (.k (.k (.c .nil))))) (i := 0) rfl osl_rsl (fun _ h => h.1) (Sr.nil _ _)))) hs27) (fun v w hR a hf => ?_)
        obtain ⟨v28, v29, rfl, hs'⟩ := hR
        replace hs := hs.step (.k (.c (.k (.k (.c .nil))))) hs'
        clear hs'
        refine stq hf rfl rfl rfl (ex_move hf rfl) (fun a hf => ?_)
        refine stq hf rfl rfl rfl (ex_extract hf rfl rfl) (fun a hf => ?_)
        refine stq hf rfl rfl rfl (ex_extract hf rfl rfl) (fun a hf => ?_)
        refine stq hf rfl rfl rfl (ex_assign hf rfl) (fun a hf => ?_)
        refine stq hf rfl rfl rfl (ex_assign hf rfl) (fun a hf => ?_)
        refine hK30 _ _ ?_
        refine bnd H (fun s32 hs32 H => ?_)
        refine seq_reg (fun K35 hK35 => ?_)
        refine stq hf rfl rfl rfl (ex_move hf rfl) (fun a hf => ?_)
        refine stepV hf rfl rfl rfl (er_buildSlice (K := K_int64) (xs := [15]) hs Try.underlying35 ep_2 rfl rfl hf rfl (.cons rfl .nil) rfl rfl) (fun v31 w hs a hf => ?_)
        refine stepF hf rfl rfl rfl (ex_call cf_15 hf rfl) (heat_Model_Step.calls k c5.1 c5.2.1 c5.2.2.1 s27.2.1 s27.1 [15] b13 v14 v15 v28 v31 (hs.enter (.k (.c (.c (.k (.k (.k (.k .nil)))))))) (Sr.own hs (.k (.c (.c (.k (.k (.k (.k .nil))))))) (i := 3) rfl osl_rsl (fun _ h => h.1) (Sr.own hs (.k (.c (.c (.k (.k (.k (.k .nil))))))) (i := 4) rfl osl_rsl (fun _ h => h.1) (Sr.own hs (.k (.c (.c (.k (.k (.k (.k .nil))))))) (i := 0) rfl osl_rsl (fun _ h => h.1) (Sr.nil _ _)))) hs32) (fun v w hR a hf => ?_)
        obtain ⟨v33, v34, rfl, hs'⟩ := hR
        replace hs := hs.step (.k (.c (.c (.k (.k (.k (.k .nil))))))) hs'
        clear hs'
        refine stq hf rfl rfl rfl (ex_move hf rfl) (fun a hf => ?_)
        refine stq hf rfl rfl rfl (ex_extract hf rfl rfl) (fun a hf => ?_)
        refine stq hf rfl rfl rfl (ex_extract hf rfl rfl) (fun a hf => ?_)
        refine stq hf rfl rfl rfl (ex_assign hf rfl) (fun a hf => ?_)
        refine stq hf rfl rfl rfl (ex_assign hf rfl) (fun a hf => ?_)
        refine hK35 _ _ ?_
        refine itt H (fun hc36 H => ?_) (fun hc36 H => ?_)
        · -- s27.2.2.2 = 0
          refine itt H (fun hc37 H => ?_) (fun hc37 H => ?_)
          · -- s32.2.2.2 = 0
            refine itt H (fun hc38 H => ?_) (fun hc38 H => ?_)
            · -- (s27.2.2.1.length : Int) = 1
              refine itt H (fun hc39 H => ?_) (fun hc39 H => ?_)
              · -- (s32.2.2.1.length : Int) = 1
                refine ck_some H (fun hc40 H => ?_)
                refine itt H (fun hc41 H => ?_) (fun hc41 H => ?_)
                · -- (gd 0 s27.2.2.1 0) = 21
                  refine ck_some H (fun hc42 H => ?_)
                  refine itt H (fun hc43 H => ?_) (fun hc43 H => ?_)
                  · -- (gd 0 s32.2.2.1 0) = 22
                    refine bnd H (fun s44 hs44 H => ?_)
                    refine itt H (fun hc45 H => ?_) (fun hc45 H => ?_)
                    · -- s44 = 229
                      refine bnd H (fun s46 hs46 H => ?_)
                      refine seq_reg (fun K47 hK47 => ?_)
                      refine stq hf rfl rfl rfl (ex_move hf rfl) (fun a hf => ?_)
                      refine stq hf rfl rfl rfl (ex_eql hf rfl rfl) (fun a hf => ?_)
                      refine stq hf rfl rfl rfl (ex_move hf rfl) (fun a hf => ?_)
                      replace hf := hf.castB (t := 37) rfl (dec_t hc36)
                      replace hf := hf.castB (t := 38) rfl (dec_t hc36)
                      refine stq hf rfl rfl rfl (ex_move hf rfl) (fun a hf => ?_)
                      refine stq hf rfl rfl rfl (ex_eql hf rfl rfl) (fun a hf => ?_)
                      refine stq hf rfl rfl rfl (ex_pickT hf rfl rfl) (fun a hf => ?_)
                      refine stq hf rfl rfl rfl (ex_move hf rfl) (fun a hf => ?_)
                      replace hf := hf.castB (t := 40) rfl (dec_t hc37)
                      replace hf := hf.castB (t := 41) rfl (dec_t hc37)
                      replace hf := hf.castB (t := 42) rfl (dec_t hc37)
                      refine stq hf rfl rfl rfl (ex_move hf rfl) (fun a hf => ?_)
                      refine stq hf rfl rfl rfl (ex_lenS Try.underlying35 (rsl_isSl (osl_rsl _ (hs.get (i := 4) rfl))) hf rfl) (fun a hf => ?_)
                      refine stq hf rfl rfl rfl (ex_eql hf rfl rfl) (fun a hf => ?_)
                      refine stq hf rfl rfl rfl (ex_pickT hf rfl rfl) (fun a hf => ?_)
                      refine stq hf rfl rfl rfl (ex_move hf rfl) (fun a hf => ?_)
                      replace hf := hf.castB (t := 45) rfl (dec_t hc38)
                      replace hf := hf.castB (t := 46) rfl (dec_t hc38)
                      replace hf := hf.castB (t := 47) rfl (dec_t hc38)
                      refine stq hf rfl rfl rfl (ex_move hf rfl) (fun a hf => ?_)
                      refine stq hf rfl rfl rfl (ex_lenS Try.underlying35 (rsl_isSl (osl_rsl _ (hs.get (i := 2) rfl))) hf rfl) (fun a hf => ?_)
                      refine stq hf rfl rfl rfl (ex_eql hf rfl rfl) (fun a hf => ?_)
                      refine stq hf rfl rfl rfl (ex_pickT hf rfl rfl) (fun a hf => ?_)
                      refine stq hf rfl rfl rfl (ex_move hf rfl) (fun a hf => ?_)
                      replace hf := hf.castB (t := 50) rfl (dec_t hc39)
                      replace hf := hf.castB (t := 51) rfl (dec_t hc39)
                      replace hf := hf.castB (t := 52) rfl (dec_t hc39)
                      refine stq hf rfl rfl rfl (ex_move hf rfl) (fun a hf => ?_)
                      refine stq hf rfl rfl rfl (ex_indexAddr sa_35 (rsl_isSl (osl_rsl _ (hs.get (i := 4) rfl))) hc40.1 hc40.2 hf rfl rfl) (fun a hf => ?_)
                      refine stq hf rfl rfl rfl (ex_load sc_2 hf rfl (el_cell (K := K_int64) (f := 0) (rsl_rd (osl_rsl _ (hs.get (i := 4) rfl))) hc40.1 hc40.2 rfl)) (fun a hf => ?_)
                      refine stq hf rfl rfl rfl (ex_eql hf rfl rfl) (fun a hf => ?_)
                      refine stq hf rfl rfl rfl (ex_pickT hf rfl rfl) (fun a hf => ?_)
                      refine stq hf rfl rfl rfl (ex_move hf rfl) (fun a hf => ?_)
                      replace hf := hf.castB (t := 56) rfl (dec_t hc41)
                      replace hf := hf.castB (t := 57) rfl (dec_t hc41)
                      replace hf := hf.castB (t := 58) rfl (dec_t hc41)
                      refine stq hf rfl rfl rfl (ex_move hf rfl) (fun a hf => ?_)
                      refine stq hf rfl rfl rfl (ex_indexAddr sa_35 (rsl_isSl (osl_rsl _ (hs.get (i := 2) rfl))) hc42.1 hc42.2 hf rfl rfl) (fun a hf => ?_)
                      refine stq hf rfl rfl rfl (ex_load sc_2 hf rfl (el_cell (K := K_int64) (f := 0) (rsl_rd (osl_rsl _ (hs.get (i := 2) rfl))) hc42.1 hc42.2 rfl)) (fun a hf => ?_)
                      refine stq hf rfl rfl rfl (ex_eql hf rfl rfl) (fun a hf => ?_)
                      refine stq hf rfl rfl rfl (ex_pickT hf rfl rfl) (fun a hf => ?_)
                      refine stq hf rfl rfl rfl (ex_move hf rfl) (fun a hf => ?_)
                      replace hf := hf.castB (t := 62) rfl (dec_t hc43)
                      replace hf := hf.castB (t := 63) rfl (dec_t hc43)
                      replace hf := hf.castB (t := 64) rfl (dec_t hc43)
                      refine stq hf rfl rfl rfl (ex_move hf rfl) (fun a hf => ?_)
                      refine stepF hf rfl rfl rfl (ex_call cf_17 hf rfl) (heat_Model_Energy.calls k c5.1 c5.2.1 c5.2.2.1 s32.2.1 s32.1 0 b13 v14 v15 v33 (hs.enter (.k (.k (.k (.k (.k (.k (.k (.k .nil))))))))) (Sr.own hs (.k (.k (.k (.k (.k (.k (.k (.k .nil)))))))) (i := 0) rfl (fun _ h => h) (fun _ h => h) (Sr.own hs (.k (.k (.k (.k (.k (.k (.k (.k .nil)))))))) (i := 6) rfl osl_rsl (fun _ h => h.1) (Sr.own hs (.k (.k (.k (.k (.k (.k (.k (.k .nil)))))))) (i := 7) rfl osl_rsl (fun _ h => h.1) (Sr.own hs (.k (.k (.k (.k (.k (.k (.k (.k .nil)))))))) (i := 1) rfl osl_rsl (fun _ h => h.1) (Sr.nil _ _))))) hs44) (fun v w hR a hf => ?_)
                      obtain ⟨rfl, hs'⟩ := hR
                      replace hs := hs.step (.k (.k (.k (.k (.k (.k (.k (.k .nil)))))))) hs'
                      clear hs'
                      refine stq hf rfl rfl rfl (ex_eql hf rfl rfl) (fun a hf => ?_)
                      refine stq hf rfl rfl rfl (ex_pickT hf rfl rfl) (fun a hf => ?_)
                      refine stq hf rfl rfl rfl (ex_move hf rfl) (fun a hf => ?_)
                      replace hf := hf.castB (t := 67) rfl (dec_t hc45)
                      replace hf := hf.castB (t := 68) rfl (dec_t hc45)
                      replace hf := hf.castB (t := 69) rfl (dec_t hc45)
                      refine stq hf rfl rfl rfl (ex_move hf rfl) (fun a hf => ?_)
                      refine stepF hf rfl rfl rfl (ex_call cf_16 hf rfl) (heat_Model_Released.calls k c5.1 c5.2.1 c5.2.2.1 s32.2.1 s32.1 b13 v14 v15 v33 (hs.enter (.k (.k (.k (.k (.k (.k (.k (.k .nil))))))))) (Sr.own hs (.k (.k (.k (.k (.k (.k (.k (.k .nil)))))))) (i := 0) rfl (fun _ h => h) (fun _ h => h) (Sr.own hs (.k (.k (.k (.k (.k (.k (.k (.k .nil)))))))) (i := 6) rfl osl_rsl (fun _ h => h.1) (Sr.own hs (.k (.k (.k (.k (.k (.k (.k (.k .nil)))))))) (i := 7) rfl osl_rsl (fun _ h => h.1) (Sr.own hs (.k (.k (.k (.k (.k (.k (.k (.k .nil)))))))) (i := 1) rfl osl_rsl (fun _ h => h.1) (Sr.nil _ _))))) hs46) (fun v w hR a hf => ?_)
                      obtain ⟨rfl, hs'⟩ := hR
                      replace hs := hs.step (.k (.k (.k (.k (.k (.k (.k (.k .nil)))))))) hs'
                      clear hs'
                      refine stq hf rfl rfl rfl (ex_eql hf rfl rfl) (fun a hf => ?_)
                      refine stq hf rfl rfl rfl (ex_pickT hf rfl rfl) (fun a hf => ?_)
                      refine stq hf rfl rfl rfl (ex_assign hf rfl) (fun a hf => ?_)
                      refine hK47 _ _ ?_
                      refine wp_ret ?_
                      have eR := some_eq H; subst eR
                      replace hs := hs.keep (.d (.d (.d (.d (.d (.d (.d (.d .nil))))))))
                      exact ret1 Try.results11 hf rfl ⟨_, rfl, ⟨rfl, hs⟩⟩
                    · -- not s44 = 229
                      refine seq_reg (fun K48 hK48 => ?_)
                      refine stq hf rfl rfl rfl (ex_move hf rfl) (fun a hf => ?_)
                      refine stq hf rfl rfl rfl (ex_eql hf rfl rfl) (fun a hf => ?_)
                      refine stq hf rfl rfl rfl (ex_move hf rfl) (fun a hf => ?_)
                      replace hf := hf.castB (t := 37) rfl (dec_t hc36)
                      replace hf := hf.castB (t := 38) rfl (dec_t hc36)
                      refine stq hf rfl rfl rfl (ex_move hf rfl) (fun a hf => ?_)
                      refine stq hf rfl rfl rfl (ex_eql hf rfl rfl) (fun a hf => ?_)
                      refine stq hf rfl rfl rfl (ex_pickT hf rfl rfl) (fun a hf => ?_)
                      refine stq hf rfl rfl rfl (ex_move hf rfl) (fun a hf => ?_)
                      replace hf := hf.castB (t := 40) rfl (dec_t hc37)
                      replace hf := hf.castB (t := 41) rfl (dec_t hc37)
                      replace hf := hf.castB (t := 42) rfl (dec_t hc37)
                      refine stq hf rfl rfl rfl (ex_move hf rfl) (fun a hf => ?_)
                      refine stq hf rfl rfl rfl (ex_lenS Try.underlying35 (rsl_isSl (osl_rsl _ (hs.get (i := 4) rfl))) hf rfl) (fun a hf => ?_)
                      refine stq hf rfl rfl rfl (ex_eql hf rfl rfl) (fun a hf => ?_)
                      refine stq hf rfl rfl rfl (ex_pickT hf rfl rfl) (fun a hf => ?_)
                      refine stq hf rfl rfl rfl (ex_move hf rfl) (fun a hf => ?_)
                      replace hf := hf.castB (t := 45) rfl (dec_t hc38)
                      replace hf := hf.castB (t := 46) rfl (dec_t hc38)
                      replace hf := hf.castB (t := 47) rfl (dec_t hc38)
                      refine stq hf rfl rfl rfl (ex_move hf rfl) (fun a hf => ?_)
                      refine stq hf rfl rfl rfl (ex_lenS Try.underlying35 (rsl_isSl (osl_rsl _ (hs.get (i := 2) rfl))) hf rfl) (fun a hf => ?_)
                      refine stq hf rfl rfl rfl (ex_eql hf rfl rfl) (fun a hf => ?_)
                      refine stq hf rfl rfl rfl (ex_pickT hf rfl rfl) (fun a hf => ?_)
                      refine stq hf rfl rfl rfl (ex_move hf rfl) (fun a hf => ?_)
                      replace hf := hf.castB (t := 50) rfl (dec_t hc39)
                      replace hf := hf.castB (t := 51) rfl (dec_t hc39)
                      replace hf := hf.castB (t := 52) rfl (dec_t hc39)
                      refine stq hf rfl rfl rfl (ex_move hf rfl) (fun a hf => ?_)
                      refine stq hf rfl rfl rfl (ex_indexAddr sa_35 (rsl_isSl (osl_rsl _ (hs.get (i := 4) rfl))) hc40.1 hc40.2 hf rfl rfl) (fun a hf => ?_)
                      refine stq hf rfl rfl rfl (ex_load sc_2 hf rfl (el_cell (K := K_int64) (f := 0) (rsl_rd (osl_rsl _ (hs.get (i := 4) rfl))) hc40.1 hc40.2 rfl)) (fun a hf => ?_)
                      refine stq hf rfl rfl rfl (ex_eql hf rfl rfl) (fun a hf => ?_)
                      refine stq hf rfl rfl rfl (ex_pickT hf rfl rfl) (fun a hf => ?_)
                      refine stq hf rfl rfl rfl (ex_move hf rfl) (fun a hf => ?_)
                      replace hf := hf.castB (t := 56) rfl (dec_t hc41)
                      replace hf := hf.castB (t := 57) rfl (dec_t hc41)
                      replace hf := hf.castB (t := 58) rfl (dec_t hc41)
                      refine stq hf rfl rfl rfl (ex_move hf rfl) (fun a hf => ?_)
                      refine stq hf rfl rfl rfl (ex_indexAddr sa_35 (rsl_isSl (osl_rsl _ (hs.get (i := 2) rfl))) hc42.1 hc42.2 hf rfl rfl) (fun a hf => ?_)
                      refine stq hf rfl rfl rfl (ex_load sc_2 hf rfl (el_cell (K := K_int64) (f := 0) (rsl_rd (osl_rsl _ (hs.get (i := 2) rfl))) hc42.1 hc42.2 rfl)) (fun a hf => ?_)
                      refine stq hf rfl rfl rfl (ex_eql hf rfl rfl) (fun a hf => ?_)
                      refine stq hf rfl rfl rfl (ex_pickT hf rfl rfl) (fun a hf => ?_)
                      refine stq hf rfl rfl rfl (ex_move hf rfl) (fun a hf => ?_)
                      replace hf := hf.castB (t := 62) rfl (dec_t hc43)
                      replace hf := hf.castB (t := 63) rfl (dec_t hc43)
                      replace hf := hf.castB (t := 64) rfl (dec_t hc43)
                      refine stq hf rfl rfl rfl (ex_move hf rfl) (fun a hf => ?_)
                      refine stepF hf rfl rfl rfl (ex_call cf_17 hf rfl) (heat_Model_Energy.calls k c5.1 c5.2.1 c5.2.2.1 s32.2.1 s32.1 0 b13 v14 v15 v33 (hs.enter (.k (.k (.k (.k (.k (.k (.k (.k .nil))))))))) (Sr.own hs (.k (.k (.k (.k (.k (.k (.k (.k .nil)))))))) (i := 0) rfl (fun _ h => h) (fun _ h => h) (Sr.own hs (.k (.k (.k (.k (.k (.k (.k (.k .nil)))))))) (i := 6) rfl osl_rsl (fun _ h => h.1) (Sr.own hs (.k (.k (.k (.k (.k (.k (.k (.k .nil)))))))) (i := 7) rfl osl_rsl (fun _ h => h.1) (Sr.own hs (.k (.k (.k (.k (.k (.k (.k (.k .nil)))))))) (i := 1) rfl osl_rsl (fun _ h => h.1) (Sr.nil _ _))))) hs44) (fun v w hR a hf => ?_)
                      obtain ⟨rfl, hs'⟩ := hR
                      replace hs := hs.step (.k (.k (.k (.k (.k (.k (.k (.k .nil)))))))) hs'
                      clear hs'
                      refine stq hf rfl rfl rfl (ex_eql hf rfl rfl) (fun a hf => ?_)
                      refine stq hf rfl rfl rfl (ex_pickT hf rfl rfl) (fun a hf => ?_)
                      refine stq hf rfl rfl rfl (ex_move hf rfl) (fun a hf => ?_)
                      replace hf := hf.castB (t := 67) rfl (dec_f hc45)
                      replace hf := hf.castB (t := 68) rfl (dec_f hc45)
                      replace hf := hf.castB (t := 69) rfl (dec_f hc45)
                      refine stepN hf rfl rfl rfl (fun a hf => ?_)
                      refine stepN hf rfl rfl rfl (fun a hf => ?_)
                      refine stepN hf rfl rfl rfl (fun a hf => ?_)
                      refine stq hf rfl rfl rfl (ex_pickF hf rfl rfl) (fun a hf => ?_)
                      refine stq hf rfl rfl rfl (ex_assign hf rfl) (fun a hf => ?_)
                      refine hK48 _ _ ?_
                      refine wp_ret ?_
                      have eR := some_eq H; subst eR
                      replace hs := hs.keep (.d (.d (.d (.d (.d (.d (.d (.d .nil))))))))
                      exact ret1 Try.results11 hf rfl ⟨_, rfl, ⟨rfl, hs⟩⟩
                  · -- not (gd 0 s32.2.2.1 0) = 22
                    refine seq_reg (fun K49 hK49 => ?_)
                    refine stq hf rfl rfl rfl (ex_move hf rfl) (fun a hf => ?_)
                    refine stq hf rfl rfl rfl (ex_eql hf rfl rfl) (fun a hf => ?_)
                    refine stq hf rfl rfl rfl (ex_move hf rfl) (fun a hf => ?_)
                    replace hf := hf.castB (t := 37) rfl (dec_t hc36)
                    replace hf := hf.castB (t := 38) rfl (dec_t hc36)
                    refine stq hf rfl rfl rfl (ex_move hf rfl) (fun a hf => ?_)
                    refine stq hf rfl rfl rfl (ex_eql hf rfl rfl) (fun a hf => ?_)
                    refine stq hf rfl rfl rfl (ex_pickT hf rfl rfl) (fun a hf => ?_)
                    refine stq hf rfl rfl rfl (ex_move hf rfl) (fun a hf => ?_)
                    replace hf := hf.castB (t := 40) rfl (dec_t hc37)
                    replace hf := hf.castB (t := 41) rfl (dec_t hc37)
                    replace hf := hf.castB (t := 42) rfl (dec_t hc37)
                    refine stq hf rfl rfl rfl (ex_move hf rfl) (fun a hf => ?_)
                    refine stq hf rfl rfl rfl (ex_lenS Try.underlying35 (rsl_isSl (osl_rsl _ (hs.get (i := 4) rfl))) hf rfl) (fun a hf => ?_)
                    refine stq hf rfl rfl rfl (ex_eql hf rfl rfl) (fun a hf => ?_)
                    refine stq hf rfl rfl rfl (ex_pickT hf rfl rfl) (fun a hf => ?_)
                    refine stq hf rfl rfl rfl (ex_move hf rfl) (fun a hf => ?_)
                    replace hf := hf.castB (t := 45) rfl (dec_t hc38)
                    replace hf := hf.castB (t := 46) rfl (dec_t hc38)
                    replace hf := hf.castB (t := 47) rfl (dec_t hc38)
                    refine stq hf rfl rfl rfl (ex_move hf rfl) (fun a hf => ?_)
                    refine stq hf rfl rfl rfl (ex_lenS Try.underlying35 (rsl_isSl (osl_rsl _ (hs.get (i := 2) rfl))) hf rfl) (fun a hf => ?_)
                    refine stq hf rfl rfl rfl (ex_eql hf rfl rfl) (fun a hf => ?_)
                    refine stq hf rfl rfl rfl (ex_pickT hf rfl rfl) (fun a hf => ?_)
                    refine stq hf rfl rfl rfl (ex_move hf rfl) (fun a hf => ?_)
                    replace hf := hf.castB (t := 50) rfl (dec_t hc39)
                    replace hf := hf.castB (t := 51) rfl (dec_t hc39)
                    replace hf := hf.castB (t := 52) rfl (dec_t hc39)
                    refine stq hf rfl rfl rfl (ex_move hf rfl) (fun a hf => ?_)
                    refine stq hf rfl rfl rfl (ex_indexAddr sa_35 (rsl_isSl (osl_rsl _ (hs.get (i := 4) rfl))) hc40.1 hc40.2 hf rfl rfl) (fun a hf => ?_)
                    refine stq hf rfl rfl rfl (ex_load sc_2 hf rfl (el_cell (K := K_int64) (f := 0) (rsl_rd (osl_rsl _ (hs.get (i := 4) rfl))) hc40.1 hc40.2 rfl)) (fun a hf => ?_)
                    refine stq hf rfl rfl rfl (ex_eql hf rfl rfl) (fun a hf => ?_)
                    refine stq hf rfl rfl rfl (ex_pickT hf rfl rfl) (fun a hf => ?_)
                    refine stq hf rfl rfl rfl (ex_move hf rfl) (fun a hf => ?_)
                    replace hf := hf.castB (t := 56) rfl (dec_t hc41)
                    replace hf := hf.castB (t := 57) rfl (dec_t hc41)
                    replace hf := hf.castB (t := 58) rfl (dec_t hc41)
                    refine stq hf rfl rfl rfl (ex_move hf rfl) (fun a hf => ?_)
                    refine stq hf rfl rfl rfl (ex_indexAddr sa_35 (rsl_isSl (osl_rsl _ (hs.get (i := 2) rfl))) hc42.1 hc42.2 hf rfl rfl) (fun a hf => ?_)
                    refine stq hf rfl rfl rfl (ex_load sc_2 hf rfl (el_cell (K := K_int64) (f := 0) (rsl_rd (osl_rsl _ (hs.get (i := 2) rfl))) hc42.1 hc42.2 rfl)) (fun a hf => ?_)
                    refine stq hf rfl rfl rfl (ex_eql hf rfl rfl) (fun a hf => ?_)
                    refine stq hf rfl rfl rfl (ex_pickT hf rfl rfl) (fun a hf => ?_)
                    refine stq hf rfl rfl rfl (ex_move hf rfl) (fun a hf => ?_)
                    replace hf := hf.castB (t := 62) rfl (dec_f hc43)
                    replace hf := hf.castB (t := 63) rfl (dec_f hc43)
                    replace hf := hf.castB (t := 64) rfl (dec_f hc43)
                    refine stepN hf rfl rfl rfl (fun a hf => ?_)
                    refine stepN hf rfl rfl rfl (fun a hf => ?_)
                    refine stepN hf rfl rfl rfl (fun a hf => ?_)
                    refine stq hf rfl rfl rfl (ex_pickF hf rfl rfl) (fun a hf => ?_)
                    refine stq hf rfl rfl rfl (ex_move hf rfl) (fun a hf => ?_)
                    refine stepN hf rfl rfl rfl (fun a hf => ?_)
                    refine stepN hf rfl rfl rfl (fun a hf => ?_)
                    refine stepN hf rfl rfl rfl (fun a hf => ?_)
                    refine stq hf rfl rfl rfl (ex_pickF hf rfl rfl) (fun a hf => ?_)
                    refine stq hf rfl rfl rfl (ex_assign hf rfl) (fun a hf => ?_)
                    refine hK49 _ _ ?_
                    refine wp_ret ?_
                    have eR := some_eq H; subst eR
                    replace hs := hs.keep (.d (.d (.d (.d (.d (.d (.d (.d .nil))))))))
                    exact ret1 Try.results11 hf rfl ⟨_, rfl, ⟨rfl, hs⟩⟩
                · -- not (gd 0 s27.2.2.1 0) = 21
                  refine seq_reg (fun K50 hK50 => ?_)
                  refine stq hf rfl rfl rfl (ex_move hf rfl) (fun a hf => ?_)
                  refine stq hf rfl rfl rfl (ex_eql hf rfl rfl) (fun a hf => ?_)
                  refine stq hf rfl rfl rfl (ex_move hf rfl) (fun a hf => ?_)
                  replace hf := hf.castB (t := 37) rfl (dec_t hc36)
                  replace hf := hf.castB (t := 38) rfl (dec_t hc36)
                  refine stq hf rfl rfl rfl (ex_move hf rfl) (fun a hf => ?_)
                  refine stq hf rfl rfl rfl (ex_eql hf rfl rfl) (fun a hf => ?_)
                  refine stq hf rfl rfl rfl (ex_pickT hf rfl rfl) (fun a hf => ?_)
                  refine stq hf rfl rfl rfl (ex_move hf rfl) (fun a hf => ?_)
                  replace hf := hf.castB (t := 40) rfl (dec_t hc37)
                  replace hf := hf.castB (t := 41) rfl (dec_t hc37)
                  replace hf := hf.castB (t := 42) rfl (dec_t hc37)
                  refine stq hf rfl rfl rfl (ex_move hf rfl) (fun a hf => ?_)
                  refine stq hf rfl rfl rfl (ex_lenS Try.underlying35 (rsl_isSl (osl_rsl _ (hs.get (i := 4) rfl))) hf rfl) (fun a hf => ?_)
                  refine stq hf rfl rfl rfl (ex_eql hf rfl rfl) (fun a hf => ?_)
                  refine stq hf rfl rfl rfl (ex_pickT hf rfl rfl) (fun a hf => ?_)
                  refine stq hf rfl rfl rfl (ex_move hf rfl) (fun a hf => ?_)
                  replace hf := hf.castB (t := 45) rfl (dec_t hc38)
                  replace hf := hf.castB (t := 46) rfl (dec_t hc38)
                  replace hf := hf.castB (t := 47) rfl (dec_t hc38)
                  refine stq hf rfl rfl rfl (ex_move hf rfl) (fun a hf => ?_)
                  refine stq hf rfl rfl rfl (ex_lenS Try.underlying35 (rsl_isSl (osl_rsl _ (hs.get (i := 2) rfl))) hf rfl) (fun a hf => ?_)
                  refine stq hf rfl rfl rfl (ex_eql hf rfl rfl) (fun a hf => ?_)
                  refine stq hf rfl rfl rfl (ex_pickT hf rfl rfl) (fun a hf => ?_)
                  refine stq hf rfl rfl rfl (ex_move hf rfl) (fun a hf => ?_)
                  replace hf := hf.castB (t := 50) rfl (dec_t hc39)
                  replace hf := hf.castB (t := 51) rfl (dec_t hc39)
                  replace hf := hf.castB (t := 52) rfl (dec_t hc39)
                  refine stq hf rfl rfl rfl (ex_move hf rfl) (fun a hf => ?_)
                  refine stq hf rfl rfl rfl (ex_indexAddr sa_35 (rsl_isSl (osl_rsl _ (hs.get (i := 4) rfl))) hc40.1 hc40.2 hf rfl rfl) (fun a hf => ?_)
                  refine stq hf rfl rfl rfl (ex_load sc_2 hf rfl (el_cell (K := K_int64) (f := 0) (rsl_rd (osl_rsl _ (hs.get (i := 4) rfl))) hc40.1 hc40.2 rfl)) (fun a hf => ?_)
                  refine stq hf rfl rfl rfl (ex_eql hf rfl rfl) (fun a hf => ?_)
                  refine stq hf rfl rfl rfl (ex_pickT hf rfl rfl) (fun a hf => ?_)
                  refine stq hf rfl rfl rfl (ex_move hf rfl) (fun a hf => ?_)
                  replace hf := hf.castB (t := 56) rfl (dec_f hc41)
                  replace hf := hf.castB (t := 57) rfl (dec_f hc41)
                  replace hf := hf.castB (t := 58) rfl (dec_f hc41)
                  refine stepN hf rfl rfl rfl (fun a hf => ?_)
                  refine stepN hf rfl rfl rfl (fun a hf => ?_)
                  refine stepN hf rfl rfl rfl (fun a hf => ?_)
                  refine stepN hf rfl rfl rfl (fun a hf => ?_)
                  refine stq hf rfl rfl rfl (ex_pickF hf rfl rfl) (fun a hf => ?_)
                  refine stq hf rfl rfl rfl (ex_move hf rfl) (fun a hf => ?_)
                  refine stepN hf rfl rfl rfl (fun a hf => ?_)
                  refine stepN hf rfl rfl rfl (fun a hf => ?_)
                  refine stepN hf rfl rfl rfl (fun a hf => ?_)
                  refine stq hf rfl rfl rfl (ex_pickF hf rfl rfl) (fun a hf => ?_)
                  refine stq hf rfl rfl rfl (ex_move hf rfl) (fun a hf => ?_)
                  refine stepN hf rfl rfl rfl (fun a hf => ?_)
                  refine stepN hf rfl rfl rfl (fun a hf => ?_)
                  refine stepN hf rfl rfl rfl (fun a hf => ?_)
                  refine stq hf rfl rfl rfl (ex_pickF hf rfl rfl) (fun a hf => ?_)
                  refine stq hf rfl rfl rfl (ex_assign hf rfl) (fun a hf => ?_)
                  refine hK50 _ _ ?_
                  refine wp_ret ?_
                  have eR := some_eq H; subst eR
                  replace hs := hs.keep (.d (.d (.d (.d (.d (.d (.d (.d .nil))))))))
                  exact ret1 Try.results11 hf rfl ⟨_, rfl, ⟨rfl, hs⟩⟩
              · -- not (s32.2.2.1.length : Int) = 1
                refine seq_reg (fun K51 hK51 => ?_)
                refine stq hf rfl rfl rfl (ex_move hf rfl) (fun a hf => ?_)
                refine stq hf rfl rfl rfl (ex_eql hf rfl rfl) (fun a hf => ?_)
                refine stq hf rfl rfl rfl (ex_move hf rfl) (fun a hf => ?_)
                replace hf := hf.castB (t := 37) rfl (dec_t hc36)
                replace hf := hf.castB (t := 38) rfl (dec_t hc36)
                refine stq hf rfl rfl rfl (ex_move hf rfl) (fun a hf => ?_)
                refine stq hf rfl rfl rfl (ex_eql hf rfl rfl) (fun a hf => ?_)
                refine stq hf rfl rfl rfl (ex_pickT hf rfl rfl) (fun a hf => ?_)
                refine stq hf rfl rfl rfl (ex_move hf rfl) (fun a hf => ?_)
                replace hf := hf.castB (t := 40) rfl (dec_t hc37)
                replace hf := hf.castB (t := 41) rfl (dec_t hc37)
                replace hf := hf.castB (t := 42) rfl (dec_t hc37)
                refine stq hf rfl rfl rfl (ex_move hf rfl) (fun a hf => ?_)
                refine stq hf rfl rfl rfl (ex_lenS Try.underlying35 (rsl_isSl (osl_rsl _ (hs.get (i := 4) rfl))) hf rfl) (fun a hf => ?_)
                refine stq hf rfl rfl rfl (ex_eql hf rfl rfl) (fun a hf => ?_)
                refine stq hf rfl rfl rfl (ex_pickT hf rfl rfl) (fun a hf => ?_)
                refine stq hf rfl rfl rfl (ex_move hf rfl) (fun a hf => ?_)
                replace hf := hf.castB (t := 45) rfl (dec_t hc38)
                replace hf := hf.castB (t := 46) rfl (dec_t hc38)
                replace hf := hf.castB (t := 47) rfl (dec_t hc38)
                refine stq hf rfl rfl rfl (ex_move hf rfl) (fun a hf => ?_)
                refine stq hf rfl rfl rfl (ex_lenS Try.underlying35 (rsl_isSl (osl_rsl _ (hs.get (i := 2) rfl))) hf rfl) (fun a hf => ?_)
                refine stq hf rfl rfl rfl (ex_eql hf rfl rfl) (fun a hf => ?_)
                refine stq hf rfl rfl rfl (ex_pickT hf rfl rfl) (fun a hf => ?_)
                refine stq hf rfl rfl rfl (ex_move hf rfl) (fun a hf => ?_)
                replace hf := hf.castB (t := 50) rfl (dec_f hc39)
                replace hf := hf.castB (t := 51) rfl (dec_f hc39)
                replace hf := hf.castB (t := 52) rfl (dec_f hc39)
                refine stepN hf rfl rfl rfl (fun a hf => ?_)
                refine stepN hf rfl rfl rfl (fun a hf => ?_)
                refine stepN hf rfl rfl rfl (fun a hf => ?_)
                refine stepN hf rfl rfl rfl (fun a hf => ?_)
                refine stq hf rfl rfl rfl (ex_pickF hf rfl rfl) (fun a hf => ?_)
                refine stq hf rfl rfl rfl (ex_move hf rfl) (fun a hf => ?_)
                refine stepN hf rfl rfl rfl (fun a hf => ?_)
                refine stepN hf rfl rfl rfl (fun a hf => ?_)
                refine stepN hf rfl rfl rfl (fun a hf => ?_)
                refine stepN hf rfl rfl rfl (fun a hf => ?_)
                refine stq hf rfl rfl rfl (ex_pickF hf rfl rfl) (fun a hf => ?_)
                refine stq hf rfl rfl rfl (ex_move hf rfl) (fun a hf => ?_)
                refine stepN hf rfl rfl rfl (fun a hf => ?_)
                refine stepN hf rfl rfl rfl (fun a hf => ?_)
                refine stepN hf rfl rfl rfl (fun a hf => ?_)
                refine stq hf rfl rfl rfl (ex_pickF hf rfl rfl) (fun a hf => ?_)
                refine stq hf rfl rfl rfl (ex_move hf rfl) (fun a hf => ?_)
                refine stepN hf rfl rfl rfl (fun a hf => ?_)
                refine stepN hf rfl rfl rfl (fun a hf => ?_)
                refine stepN hf rfl rfl rfl (fun a hf => ?_)
                refine stq hf rfl rfl rfl (ex_pickF hf rfl rfl) (fun a hf => ?_)
                refine stq hf rfl rfl rfl (ex_assign hf rfl) (fun a hf => ?_)
                refine hK51 _ _ ?_
                refine wp_ret ?_
                have eR := some_eq H; subst eR
                replace hs := hs.keep (.d (.d (.d (.d (.d (.d (.d (.d .nil))))))))
                exact ret1 Try.results11 hf rfl ⟨_, rfl, ⟨rfl, hs⟩⟩
            · -- not (s27.2.2.1.length : Int) = 1
              refine seq_reg (fun K52 hK52 => ?_)
              refine stq hf rfl rfl rfl (ex_move hf rfl) (fun a hf => ?_)
              refine stq hf rfl rfl rfl (ex_eql hf rfl rfl) (fun a hf => ?_)
              refine stq hf rfl rfl rfl (ex_move hf rfl) (fun a hf => ?_)
              replace hf := hf.castB (t := 37) rfl (dec_t hc36)
              replace hf := hf.castB (t := 38) rfl (dec_t hc36)
              refine stq hf rfl rfl rfl (ex_move hf rfl) (fun a hf => ?_)
              refine stq hf rfl rfl rfl (ex_eql hf rfl rfl) (fun a hf => ?_)
              refine stq hf rfl rfl rfl (ex_pickT hf rfl rfl) (fun a hf => ?_)
              refine stq hf rfl rfl rfl (ex_move hf rfl) (fun a hf => ?_)
              replace hf := hf.castB (t := 40) rfl (dec_t hc37)
              replace hf := hf.castB (t := 41) rfl (dec_t hc37)
              replace hf := hf.castB (t := 42) rfl (dec_t hc37)
              refine stq hf rfl rfl rfl (ex_move hf rfl) (fun a hf => ?_)
              refine stq hf rfl rfl rfl (ex_lenS Try.underlying35 (rsl_isSl (osl_rsl _ (hs.get (i := 4) rfl))) hf rfl) (fun a hf => ?_)
              refine stq hf rfl rfl rfl (ex_eql hf rfl rfl) (fun a hf => ?_)
              refine stq hf rfl rfl rfl (ex_pickT hf rfl rfl) (fun a hf => ?_)
              refine stq hf rfl rfl rfl (ex_move hf rfl) (fun a hf => ?_)
              replace hf := hf.castB (t := 45) rfl (dec_f hc38)
              replace hf := hf.castB (t := 46) rfl (dec_f hc38)
              replace hf := hf.castB (t := 47) rfl (dec_f hc38)
              refine stepN hf rfl rfl rfl (fun a hf => ?_)
              refine stepN hf rfl rfl rfl (fun a hf => ?_)
              refine stepN hf rfl rfl rfl (fun a hf => ?_)
              refine stq hf rfl rfl rfl (ex_pickF hf rfl rfl) (fun a hf => ?_)
              refine stq hf rfl rfl rfl (ex_move hf rfl) (fun a hf => ?_)
              refine stepN hf rfl rfl rfl (fun a hf => ?_)
              refine stepN hf rfl rfl rfl (fun a hf => ?_)
              refine stepN hf rfl rfl rfl (fun a hf => ?_)
              refine stepN hf rfl rfl rfl (fun a hf => ?_)
              refine stq hf rfl rfl rfl (ex_pickF hf rfl rfl) (fun a hf => ?_)
              refine stq hf rfl rfl rfl (ex_move hf rfl) (fun a hf => ?_)
              refine stepN hf rfl rfl rfl (fun a hf => ?_)
              refine stepN hf rfl rfl rfl (fun a hf => ?_)
              refine stepN hf rfl rfl rfl (fun a hf => ?_)
              refine stepN hf rfl rfl rfl (fun a hf => ?_)
              refine stq hf rfl rfl rfl (ex_pickF hf rfl rfl) (fun a hf => ?_)
              refine stq hf rfl rfl rfl (ex_move hf rfl) (fun a hf => ?_)
              refine stepN hf rfl rfl rfl (fun a hf => ?_)
              refine stepN hf rfl rfl rfl (fun a hf => ?_)
              refine stepN hf rfl rfl rfl (fun a hf => ?_)
              refine stq hf rfl rfl rfl (ex_pickF hf rfl rfl) (fun a hf => ?_)
              refine stq hf rfl rfl rfl (ex_move hf rfl) (fun a hf => ?_)
              refine stepN hf rfl rfl rfl (fun a hf => ?_)
              refine stepN hf rfl rfl rfl (fun a hf => ?_)
              refine stepN hf rfl rfl rfl (fun a hf => ?_)
              refine stq hf rfl rfl rfl (ex_pickF hf rfl rfl) (fun a hf => ?_)
              refine stq hf rfl rfl rfl (ex_assign hf rfl) (fun a hf => ?_)
              refine hK52 _ _ ?_
              refine wp_ret ?_
              have eR := some_eq H; subst eR
              replace hs := hs.keep (.d (.d (.d (.d (.d (.d (.d (.d .nil))))))))
              exact ret1 Try.results11 hf rfl ⟨_, rfl, ⟨rfl, hs⟩⟩
          · -- not s32.2.2.2 = 0
            refine seq_reg (fun K53 hK53 => ?_)
            refine stq hf rfl rfl rfl (ex_move hf rfl) (fun a hf => ?_)
            refine stq hf rfl rfl rfl (ex_eql hf rfl rfl) (fun a hf => ?_)
            refine stq hf rfl rfl rfl (ex_move hf rfl) (fun a hf => ?_)
            replace hf := hf.castB (t := 37) rfl (dec_t hc36)
            replace hf := hf.castB (t := 38) rfl (dec_t hc36)
            refine stq hf rfl rfl rfl (ex_move hf rfl) (fun a hf => ?_)
            refine stq hf rfl rfl rfl (ex_eql hf rfl rfl) (fun a hf => ?_)
            refine stq hf rfl rfl rfl (ex_pickT hf rfl rfl) (fun a hf => ?_)
            refine stq hf rfl rfl rfl (ex_move hf rfl) (fun a hf => ?_)
            replace hf := hf.castB (t := 40) rfl (dec_f hc37)
            replace hf := hf.castB (t := 41) rfl (dec_f hc37)
            replace hf := hf.castB (t := 42) rfl (dec_f hc37)
            refine stepN hf rfl rfl rfl (fun a hf => ?_)
            refine stepN hf rfl rfl rfl (fun a hf => ?_)
            refine stepN hf rfl rfl rfl (fun a hf => ?_)
            refine stq hf rfl rfl rfl (ex_pickF hf rfl rfl) (fun a hf => ?_)
            refine stq hf rfl rfl rfl (ex_move hf rfl) (fun a hf => ?_)
            refine stepN hf rfl rfl rfl (fun a hf => ?_)
            refine stepN hf rfl rfl rfl (fun a hf => ?_)
            refine stepN hf rfl rfl rfl (fun a hf => ?_)
            refine stq hf rfl rfl rfl (ex_pickF hf rfl rfl) (fun a hf => ?_)
            refine stq hf rfl rfl rfl (ex_move hf rfl) (fun a hf => ?_)
            refine stepN hf rfl rfl rfl (fun a hf => ?_)
            refine stepN hf rfl rfl rfl (fun a hf => ?_)
            refine stepN hf rfl rfl rfl (fun a hf => ?_)
            refine stepN hf rfl rfl rfl (fun a hf => ?_)
            refine stq hf rfl rfl rfl (ex_pickF hf rfl rfl) (fun a hf => ?_)
            refine stq hf rfl rfl rfl (ex_move hf rfl) (fun a hf => ?_)
            refine stepN hf rfl rfl rfl (fun a hf => ?_)
            refine stepN hf rfl rfl rfl (fun a hf => ?_)
            refine stepN hf rfl rfl rfl (fun a hf => ?_)
            refine stepN hf rfl rfl rfl (fun a hf => ?_)
            refine stq hf rfl rfl rfl (ex_pickF hf rfl rfl) (fun a hf => ?_)
            refine stq hf rfl rfl rfl (ex_move hf rfl) (fun a hf => ?_)
            refine stepN hf rfl rfl rfl (fun a hf => ?_)
            refine stepN hf rfl rfl rfl (fun a hf => ?_)
            refine stepN hf rfl rfl rfl (fun a hf => ?_)
            refine stq hf rfl rfl rfl (ex_pickF hf rfl rfl) (fun a hf => ?_)
            refine stq hf rfl rfl rfl (ex_move hf rfl) (fun a hf => ?_)
            refine stepN hf rfl rfl rfl (fun a hf => ?_)
            refine stepN hf rfl rfl rfl (fun a hf => ?_)
            refine stepN hf rfl rfl rfl (fun a hf => ?_)
            refine stq hf rfl rfl rfl (ex_pickF hf rfl rfl) (fun a hf => ?_)
            refine stq hf rfl rfl rfl (ex_assign hf rfl) (fun a hf => ?_)
            refine hK53 _ _ ?_
            refine wp_ret ?_
            have eR := some_eq H; subst eR
            replace hs := hs.keep (.d (.d (.d (.d (.d (.d (.d (.d .nil))))))))
            exact ret1 Try.results11 hf rfl ⟨_, rfl, ⟨rfl, hs⟩⟩
        · -- not s27.2.2.2 = 0
          refine seq_reg (fun K54 hK54 => ?_)
          refine stq hf rfl rfl rfl (ex_move hf rfl) (fun a hf => ?_)
          refine stq hf rfl rfl rfl (ex_eql hf rfl rfl) (fun a hf => ?_)
          refine stq hf rfl rfl rfl (ex_move hf rfl) (fun a hf => ?_)
          replace hf := hf.castB (t := 37) rfl (dec_f hc36)
          replace hf := hf.castB (t := 38) rfl (dec_f hc36)
          refine stepN hf rfl rfl rfl (fun a hf => ?_)
          refine stepN hf rfl rfl rfl (fun a hf => ?_)
          refine stq hf rfl rfl rfl (ex_pickF hf rfl rfl) (fun a hf => ?_)
          refine stq hf rfl rfl rfl (ex_move hf rfl) (fun a hf => ?_)
          refine stepN hf rfl rfl rfl (fun a hf => ?_)
          refine stepN hf rfl rfl rfl (fun a hf => ?_)
          refine stepN hf rfl rfl rfl (fun a hf => ?_)
          refine stq hf rfl rfl rfl (ex_pickF hf rfl rfl) (fun a hf => ?_)
          refine stq hf rfl rfl rfl (ex_move hf rfl) (fun a hf => ?_)
          refine stepN hf rfl rfl rfl (fun a hf => ?_)
          refine stepN hf rfl rfl rfl (fun a hf => ?_)
          refine stepN hf rfl rfl rfl (fun a hf => ?_)
          refine stq hf rfl rfl rfl (ex_pickF hf rfl rfl) (fun a hf => ?_)
          refine stq hf rfl rfl rfl (ex_move hf rfl) (fun a hf => ?_)
          refine stepN hf rfl rfl rfl (fun a hf => ?_)
          refine stepN hf rfl rfl rfl (fun a hf => ?_)
          refine stepN hf rfl rfl rfl (fun a hf => ?_)
          refine stepN hf rfl rfl rfl (fun a hf => ?_)
          refine stq hf rfl rfl rfl (ex_pickF hf rfl rfl) (fun a hf => ?_)
          refine stq hf rfl rfl rfl (ex_move hf rfl) (fun a hf => ?_)
          refine stepN hf rfl rfl rfl (fun a hf => ?_)
          refine stepN hf rfl rfl rfl (fun a hf => ?_)
          refine stepN hf rfl rfl rfl (fun a hf => ?_)
          refine stepN hf rfl rfl rfl (fun a hf => ?_)
          refine stq hf rfl rfl rfl (ex_pickF hf rfl rfl) (fun a hf => ?_)
          refine stq hf rfl rfl rfl (ex_move hf rfl) (fun a hf => ?_)
          refine stepN hf rfl rfl rfl (fun a hf => ?_)
          refine stepN hf rfl rfl rfl (fun a hf => ?_)
          refine stepN hf rfl rfl rfl (fun a hf => ?_)
          refine stq hf rfl rfl rfl (ex_pickF hf rfl rfl) (fun a hf => ?_)
          refine stq hf rfl rfl rfl (ex_move hf rfl) (fun a hf => ?_)
          refine stepN hf rfl rfl rfl (fun a hf => ?_)
          refine stepN hf rfl rfl rfl (fun a hf => ?_)
          refine stepN hf rfl rfl rfl (fun a hf => ?_)
          refine stq hf rfl rfl rfl (ex_pickF hf rfl rfl) (fun a hf => ?_)
          refine stq hf rfl rfl rfl (ex_assign hf rfl) (fun a hf => ?_)
          refine hK54 _ _ ?_
          refine wp_ret ?_
          have eR := some_eq H; subst eR
          replace hs := hs.keep (.d (.d (.d (.d (.d (.d (.d (.d .nil))))))))
          exact ret1 Try.results11 hf rfl ⟨_, rfl, ⟨rfl, hs⟩⟩

set_option maxRecDepth 100000 in
theorem help_Mod.calls {M : Nat → Prop} {w0 : World} (k : Nat) (a0 : Int) (a1 : Int) {r : Int} (hs : St M w0 w0 []) (hr : Sr M w0 [])
    (h : help_Mod.f k a0 a1 = some r) : Calls Try.prog 26 #[.int .i64 a0, .int .i64 a1] w0 fun e w => ∃ v, e = .returned v ∧ (.int .i64 r = v ∧ St M w0 w []) := by
  have H := (help_Mod.f.eq_1 ..).symm.trans h
  clear h
  refine enter Try.func26 rfl Try.ntmps26 rfl (fun a hf => ?_)
  refine seq_reg (fun K1 hK1 => ?_)
  refine stq hf rfl rfl rfl (ex_assign hf rfl) (fun a hf => ?_)
  refine hK1 _ _ ?_
  refine ck_some H (fun hc2 H => ?_)
  refine seq_reg (fun K3 hK3 => ?_)
  refine stq hf rfl rfl rfl (ex_move hf rfl) (fun a hf => ?_)
  refine stq hf rfl rfl rfl (ex_conv Try.underlying3 Try.underlying71 hf rfl) (fun a hf => ?_)
  refine stq hf rfl rfl rfl (ex_move hf rfl) (fun a hf => ?_)
  refine stq hf rfl rfl rfl (ex_conv Try.underlying3 Try.underlying71 hf rfl) (fun a hf => ?_)
  refine stq hf rfl rfl rfl (ex_rem hf rfl rfl hc2) (fun a hf => ?_)
  refine stq hf rfl rfl rfl (ex_conv Try.underlying71 Try.underlying3 hf rfl) (fun a hf => ?_)
  refine stq hf rfl rfl rfl (ex_assign hf rfl) (fun a hf => ?_)
  refine hK3 _ _ ?_
  refine wp_ret ?_
  have eR := some_eq H; subst eR
  exact ret1 Try.results26 hf rfl ⟨_, rfl, ⟨rfl, hs⟩⟩

end Go.Proofs.Ytakaooegofiloaa.X
