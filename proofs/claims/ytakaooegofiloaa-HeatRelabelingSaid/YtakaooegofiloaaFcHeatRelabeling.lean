/- Each function of the machine comes to what its pure function says. -/
import Derived.Test.YtakaooegofiloaaFc1
import Derived.Test.YtakaooegofiloaaFc2
import Derived.Test.YtakaooegofiloaaFc3
import Derived.Test.YtakaooegofiloaaFb
namespace Go.Proofs.Ytakaooegofiloaa.X
open Go Go.RowKit Go.Sx
set_option linter.unusedVariables false

set_option maxHeartbeats 4000000 in
set_option maxRecDepth 100000 in
theorem law38_HeatRelabeling.calls {M : Nat → Prop} {w0 : World} (k : Nat) (a0 : (List HeatDomain)) (a1 : (List HeatLink)) (a2 : Int) (a3 : (List (List Int))) (v0 : Value) (v1 : Value) (v3 : Value) (vs3 : (Nat → Value)) {r : Bool} (hs : St M w0 w0 []) (hr : Sr M w0 [rsl K_api_HeatDomain v0 a0, rsl K_api_HeatLink v1 a1, rsl2 K_int64 v3 vs3 a3])
    (h : law38_HeatRelabeling.f k a0 a1 a2 a3 = some r) : Calls Try.prog 4 #[v0, v1, .int .i64 a2, v3] w0 fun e w => ∃ v, e = .returned v ∧ (.bool r = v ∧ St M w0 w []) := by
  have H := (law38_HeatRelabeling.f.eq_1 ..).symm.trans h
  clear h
  refine enter Try.func4 rfl Try.ntmps4 rfl (fun a hf => ?_)
  refine seq_reg (fun K1 hK1 => ?_)
  refine stq hf rfl rfl rfl (ex_assign hf rfl) (fun a hf => ?_)
  refine hK1 _ _ ?_
  refine seq_n (fun Q2 hN2 hR2 hX2 => ?_)
  refine seq_reg (fun K3 hK3 => ?_)
  refine stq hf rfl rfl rfl (ex_move hf rfl) (fun a hf => ?_)
  refine stq hf rfl rfl rfl (ex_lenS Try.underlying24 (rsl2_isSl (hr.now hs (i := 2) rfl)) hf rfl) (fun a hf => ?_)
  refine stq hf rfl rfl rfl (ex_gtr hf rfl rfl) (fun a hf => ?_)
  refine hK3 _ _ ?_
  refine itt H (fun hc4 H => ?_) (fun hc4 H => ?_)
  · -- 30 < (a3.length : Int)
    replace hf := hf.castB (t := 30) rfl (dec_t hc4)
    refine cond_T hf rfl ?_
    refine bnd H (fun s5 hs5 H => ?_)
    refine seq_reg (fun K6 hK6 => ?_)
    refine stepF hf rfl rfl rfl (ex_call cf_11 hf rfl) (law38_awake.calls k (hs.enter .nil) (Sr.nil _ _) hs5) (fun v w hR a hf => ?_)
    obtain ⟨rfl, hs'⟩ := hR
    replace hs := hs.step .nil hs'
    clear hs'
    refine stq hf rfl rfl rfl (ex_assign hf rfl) (fun a hf => ?_)
    refine hK6 _ _ ?_
    refine wp_ret ?_
    refine hR2 _ _ ?_
    have eR := some_eq H; subst eR
    exact ret1 Try.results4 hf rfl ⟨_, rfl, ⟨rfl, hs⟩⟩
  · -- not 30 < (a3.length : Int)
    replace hf := hf.castB (t := 30) rfl (dec_f hc4)
    refine cond_F hf rfl ?_
    refine wp_skip ?_
    refine hN2 _ _ ?_
    refine bnd H (fun s7 hs7 H => ?_)
    refine seq_reg (fun K11 hK11 => ?_)
    refine stq hf rfl rfl rfl (ex_move hf rfl) (fun a hf => ?_)
    refine stq hf rfl rfl rfl (ex_move hf rfl) (fun a hf => ?_)
    refine stq hf rfl rfl rfl (ex_move hf rfl) (fun a hf => ?_)
    refine stepF hf rfl rfl rfl (ex_call cf_12 hf rfl) (law38_Some.calls k a0 a1 a2 v0 v1 (hs.enter .nil) (Sr.old hr hs .nil (i := 0) rfl (fun _ h => h) (fun _ h => h) (Sr.old hr hs .nil (i := 1) rfl (fun _ h => h) (fun _ h => h) (Sr.nil _ _))) hs7) (fun v w hR a hf => ?_)
    obtain ⟨v8, v9, rfl, hs'⟩ := hR
    replace hs := hs.step .nil hs'
    clear hs'
    refine stepV hf rfl rfl rfl (er_alloc hs ti_27 (cs := [(.slice none 0 0), (.slice none 0 0), .int .i64 0]) rfl) (fun v w hR a hf => ?_)
    obtain ⟨b10, rfl, hs⟩ := hR
    refine stepS hf rfl rfl (er_storeAB (vs := [v8, v9, .int .i64 s7.2.2]) (cs' := [v8, v9, .int .i64 s7.2.2]) hs (.c (.k (.k .nil))) sz_27 hf rfl rfl (all1 (IsSl.one (rsl_isSl (osl_rsl _ (hs.get (i := 1) rfl)))) (all1 (IsSl.one (rsl_isSl (osl_rsl _ (hs.get (i := 2) rfl)))) (all1 rfl (all1_nil)))) rfl rfl) (fun w hs => ?_)
    refine hK11 _ _ ?_
    refine seq_reg (fun K12 hK12 => ?_)
    refine stq hf rfl rfl rfl (ex_fieldAddrB fa_27_0 rfl hf rfl) (fun a hf => ?_)
    refine stq hf rfl rfl rfl (ex_load sc_22 hf rfl (bx_cell (hs.get (i := 0) rfl) _ rfl)) (fun a hf => ?_)
    refine stq hf rfl rfl rfl (ex_lenS Try.underlying22 (rsl_isSl (osl_rsl _ (hs.get (i := 1) rfl))) hf rfl) (fun a hf => ?_)
    refine stq hf rfl rfl rfl (ex_assign hf rfl) (fun a hf => ?_)
    refine hK12 _ _ ?_
    refine seq_reg (fun K13 hK13 => ?_)
    refine stq hf rfl rfl rfl (ex_assign hf rfl) (fun a hf => ?_)
    refine hK13 _ _ ?_
    refine seq_reg (fun K14 hK14 => ?_)
    refine stq hf rfl rfl rfl (ex_assign hf rfl) (fun a hf => ?_)
    refine hK14 _ _ ?_
    refine bnd H (fun x15 H15 HO15 => ?_)
    clear H
    refine seq_cut (fun a w => ∃ (v16 : Value), Fr a 217 [(3, v3), (9, .pointer (some ⟨b10, 0, none⟩)), (10, .int .i64 (s7.1.length : Int)), (11, v16), (12, (.slice none 0 0))] ∧ St M w0 w [bx b10 27 [v8, v9, .int .i64 s7.2.2], osl K_api_HeatDomain v8 s7.1, osl K_api_HeatLink v9 s7.2.1, osl K_api_HeatDomain v16 x15]) (fun Q15 hJ15 hR15 hX15 => ?_) (fun a w hJ => ?_)
    · replace H := H15
      refine seq_reg (fun K17 hK17 => ?_)
      refine stq hf rfl rfl rfl (ex_move hf rfl) (fun a hf => ?_)
      refine stq hf rfl rfl rfl (ex_sub hf rfl rfl) (fun a hf => ?_)
      refine stq hf rfl rfl rfl (ex_assign hf rfl) (fun a hf => ?_)
      refine hK17 _ _ ?_
      refine block_k (fun Q18 hN18 hR18 hX18 hY18 => ?_)
      refine loop_k (fun n a w => ∃ (y20 : (List HeatDomain)) (y21 : Int) (v19 : Value), Fr a 217 [(3, v3), (9, .pointer (some ⟨b10, 0, none⟩)), (10, .int .i64 (s7.1.length : Int)), (11, v19), (12, (.slice none 0 0)), (13, .int .i64 y21)] ∧ St M w0 w [bx b10 27 [v8, v9, .int .i64 s7.2.2], osl K_api_HeatDomain v8 s7.1, osl K_api_HeatLink v9 s7.2.1, osl K_api_HeatDomain v19 y20] ∧ law38_HeatRelabeling.l1 n s7 y20 y21 = some x15) k ?_ (fun n23 a w hI Q23 hL23 hR23 hX23 => ?_)
      · -- at the start
        replace hs := hs.nilS K_api_HeatDomain
        replace hs := hs.pick (.k (.k (.k (.c .nil))))
        replace hs := hs.pick (.k (.k (.k (.c .nil))))
        replace hs := hs.pick (.k (.k (.k (.c .nil))))
        exact ⟨[], (IntKind.i64.wrap ((s7.1.length : Int) - 1)), (.slice none 0 0), hf.sub ⟨rfl, rfl, rfl, rfl, rfl, rfl, trivial⟩, hs, H⟩
      · obtain ⟨y20, y21, v19, hf, hs, H⟩ := hI
        cases n23 with
        | zero => exact absurd H (by rw [law38_HeatRelabeling.l1.eq_1]; intro h; cases h)
        | succ k23 =>
          replace H := (law38_HeatRelabeling.l1.eq_2 ..).symm.trans H
          refine seq_n (fun Q24 hN24 hR24 hX24 => ?_)
          refine seq_reg (fun K25 hK25 => ?_)
          refine stq hf rfl rfl rfl (ex_move hf rfl) (fun a hf => ?_)
          refine stq hf rfl rfl rfl (ex_geq hf rfl rfl) (fun a hf => ?_)
          refine hK25 _ _ ?_
          refine itt H (fun hc26 H => ?_) (fun hc26 H => ?_)
          · -- 0 ≤ y21
            replace hf := hf.castB (t := 42) rfl (dec_t hc26)
            refine cond_T hf rfl ?_
            refine wp_skip ?_
            refine hN24 _ _ ?_
            refine seq_n (fun Q27 hN27 hR27 hX27 => ?_)
            refine block_k (fun Q28 hN28 hR28 hX28 hY28 => ?_)
            refine ck_some H (fun hc29 H => ?_)
            refine ck_some H (fun hc31 H => ?_)
            refine region_k (fun K33 hK33 => ?_)
            refine stq hf rfl rfl rfl (ex_move hf rfl) (fun a hf => ?_)
            refine stq hf rfl rfl rfl (ex_fieldAddrB fa_27_0 rfl hf rfl) (fun a hf => ?_)
            refine stq hf rfl rfl rfl (ex_load sc_22 hf rfl (bx_cell (hs.get (i := 0) rfl) _ rfl)) (fun a hf => ?_)
            refine stq hf rfl rfl rfl (ex_move hf rfl) (fun a hf => ?_)
            refine stq hf rfl rfl rfl (ex_indexAddr sa_22 (rsl_isSl (osl_rsl _ (hs.get (i := 1) rfl))) hc29.1 hc29.2 hf rfl rfl) (fun a hf => ?_)
            refine stq hf rfl rfl rfl (ex_loadA (cs := [.int .i64 ((gd HeatDomain.zero s7.1 y21).Capacity), .int .i64 ((gd HeatDomain.zero s7.1 y21).Ambient)]) ag_34 hf rfl (el_cells (K := K_api_HeatDomain) (rsl_rd (osl_rsl _ (hs.get (i := 1) rfl))) hc29.1 hc29.2 rfl)) (fun a hf => ?_)
            refine stepV hf rfl rfl rfl (er_buildSlice (K := K_api_HeatDomain) (xs := [(⟨((gd HeatDomain.zero s7.1 y21).Capacity), ((gd HeatDomain.zero s7.1 y21).Ambient)⟩ : HeatDomain)]) hs Try.underlying22 ep_34 rfl rfl hf rfl (.cons rfl .nil) rfl rfl) (fun v30 w hs a hf => ?_)
            refine stepV hf rfl rfl rfl (er_append (K := K_api_HeatDomain) hs (.k (.k (.k (.k (.c .nil))))) (osl_rsl _ (hs.get (i := 0) rfl)) rfl Try.underlying22 ep_34 hc31 rfl hf rfl rfl) (fun v32 w hs a hf => ?_)
            refine stq hf rfl rfl rfl (ex_assign hf rfl) (fun a hf => ?_)
            refine hK33 _ _ ?_
            refine hN28 _ _ ?_
            refine hN27 _ _ ?_
            refine region_k (fun K34 hK34 => ?_)
            refine stq hf rfl rfl rfl (ex_move hf rfl) (fun a hf => ?_)
            refine stq hf rfl rfl rfl (ex_sub hf rfl rfl) (fun a hf => ?_)
            refine stq hf rfl rfl rfl (ex_assign hf rfl) (fun a hf => ?_)
            refine hK34 _ _ ?_
            replace hs := hs.keep (.k (.d (.k (.k (.k .nil)))))
            replace hs := hs.pick (.k (.k (.k (.c .nil))))
            replace hs := hs.pick (.k (.k (.k (.c .nil))))
            replace hs := hs.pick (.k (.k (.k (.c .nil))))
            exact hL23 k23 _ _ (Nat.lt_succ_self _) ⟨(y20 ++ [(⟨((gd HeatDomain.zero s7.1 y21).Capacity), ((gd HeatDomain.zero s7.1 y21).Ambient)⟩ : HeatDomain)]), (IntKind.i64.wrap (y21 - 1)), v32, hf.sub ⟨rfl, rfl, rfl, rfl, rfl, rfl, trivial⟩, hs, H⟩
          · -- not 0 ≤ y21
            replace hf := hf.castB (t := 42) rfl (dec_f hc26)
            refine cond_F hf rfl ?_
            refine wp_exit ?_
            refine hX24 0 _ _ ?_
            refine hX23 0 _ _ ?_
            refine hX18 _ _ ?_
            have e15 := some_eq H; subst e15
            exact hJ15 _ _ ⟨v19, hf.sub ⟨rfl, rfl, rfl, rfl, rfl, trivial⟩, hs⟩
    · obtain ⟨v16, hf, hs⟩ := hJ
      replace H := HO15
      clear HO15
      refine bnd H (fun x35 H35 HO35 => ?_)
      clear H
      refine seq_cut (fun a w => ∃ (v36 : Value), Fr a 217 [(3, v3), (9, .pointer (some ⟨b10, 0, none⟩)), (10, .int .i64 (s7.1.length : Int)), (11, v16), (12, v36)] ∧ St M w0 w [bx b10 27 [v8, v9, .int .i64 s7.2.2], osl K_api_HeatDomain v8 s7.1, osl K_api_HeatLink v9 s7.2.1, osl K_api_HeatDomain v16 x15, osl K_api_HeatLink v36 x35]) (fun Q35 hJ35 hR35 hX35 => ?_) (fun a w hJ => ?_)
      · replace H := H35
        refine seq_reg (fun K37 hK37 => ?_)
        refine stq hf rfl rfl rfl (ex_fieldAddrB fa_27_1 rfl hf rfl) (fun a hf => ?_)
        refine stq hf rfl rfl rfl (ex_load sc_23 hf rfl (bx_cell (hs.get (i := 0) rfl) _ rfl)) (fun a hf => ?_)
        refine stq hf rfl rfl rfl (ex_lenS Try.underlying23 (rsl_isSl (osl_rsl _ (hs.get (i := 2) rfl))) hf rfl) (fun a hf => ?_)
        refine stq hf rfl rfl rfl (ex_sub hf rfl rfl) (fun a hf => ?_)
        refine stq hf rfl rfl rfl (ex_assign hf rfl) (fun a hf => ?_)
        refine hK37 _ _ ?_
        refine block_k (fun Q38 hN38 hR38 hX38 hY38 => ?_)
        refine loop_k (fun n a w => ∃ (y40 : (List HeatLink)) (y41 : Int) (v39 : Value), Fr a 217 [(3, v3), (9, .pointer (some ⟨b10, 0, none⟩)), (10, .int .i64 (s7.1.length : Int)), (11, v16), (12, v39), (14, .int .i64 y41)] ∧ St M w0 w [bx b10 27 [v8, v9, .int .i64 s7.2.2], osl K_api_HeatDomain v8 s7.1, osl K_api_HeatLink v9 s7.2.1, osl K_api_HeatDomain v16 x15, osl K_api_HeatLink v39 y40] ∧ law38_HeatRelabeling.l2 n s7 y40 y41 = some x35) k ?_ (fun n43 a w hI Q43 hL43 hR43 hX43 => ?_)
        · -- at the start
          replace hs := hs.nilS K_api_HeatLink
          replace hs := hs.pick (.k (.k (.k (.k (.c .nil)))))
          replace hs := hs.pick (.k (.k (.k (.k (.c .nil)))))
          replace hs := hs.pick (.k (.k (.k (.k (.c .nil)))))
          replace hs := hs.pick (.k (.k (.k (.k (.c .nil)))))
          exact ⟨[], (IntKind.i64.wrap ((s7.2.1.length : Int) - 1)), (.slice none 0 0), hf.sub ⟨rfl, rfl, rfl, rfl, rfl, rfl, trivial⟩, hs, H⟩
        · obtain ⟨y40, y41, v39, hf, hs, H⟩ := hI
          cases n43 with
          | zero => exact absurd H (by rw [law38_HeatRelabeling.l2.eq_1]; intro h; cases h)
          | succ k43 =>
            replace H := (law38_HeatRelabeling.l2.eq_2 ..).symm.trans H
            refine seq_n (fun Q44 hN44 hR44 hX44 => ?_)
            refine seq_reg (fun K45 hK45 => ?_)
            refine stq hf rfl rfl rfl (ex_move hf rfl) (fun a hf => ?_)
            refine stq hf rfl rfl rfl (ex_geq hf rfl rfl) (fun a hf => ?_)
            refine hK45 _ _ ?_
            refine itt H (fun hc46 H => ?_) (fun hc46 H => ?_)
            · -- 0 ≤ y41
              replace hf := hf.castB (t := 58) rfl (dec_t hc46)
              refine cond_T hf rfl ?_
              refine wp_skip ?_
              refine hN44 _ _ ?_
              refine seq_n (fun Q47 hN47 hR47 hX47 => ?_)
              refine block_k (fun Q48 hN48 hR48 hX48 hY48 => ?_)
              refine ck_some H (fun hc49 H => ?_)
              refine ck_some H (fun hc51 H => ?_)
              refine region_d fol 28 [(3, v3), (9, .pointer (some ⟨b10, 0, none⟩)), (10, .int .i64 (s7.1.length : Int)), (11, v16), (12, v39), (14, .int .i64 y41)] [(0, v39), (1, .int .i64 (s7.1.length : Int)), (2, .int .i64 (IntKind.i64.wrap ((s7.1.length : Int) - 1))), (3, .pointer (some ⟨b10, 1, none⟩)), (4, v9), (5, .int .i64 y41), (6, .pointer (some (sla v9 (y41.toNat * 3)))), (7, .pointer (some (sla v9 (y41.toNat * 3 + 1)))), (8, .int .i64 ((gd HeatLink.zero s7.2.1 y41).B)), (9, .int .i64 (IntKind.i64.wrap ((IntKind.i64.wrap ((s7.1.length : Int) - 1)) - ((gd HeatLink.zero s7.2.1 y41).B)))), (10, .int .i64 (s7.1.length : Int)), (11, .int .i64 (IntKind.i64.wrap ((s7.1.length : Int) - 1))), (12, .pointer (some ⟨b10, 1, none⟩)), (13, v9), (14, .int .i64 y41), (15, .pointer (some (sla v9 (y41.toNat * 3)))), (16, .pointer (some (sla v9 (y41.toNat * 3 + 0)))), (17, .int .i64 ((gd HeatLink.zero s7.2.1 y41).A)), (18, .int .i64 (IntKind.i64.wrap ((IntKind.i64.wrap ((s7.1.length : Int) - 1)) - ((gd HeatLink.zero s7.2.1 y41).A)))), (19, .pointer (some ⟨b10, 1, none⟩)), (20, v9), (21, .int .i64 y41), (22, .pointer (some (sla v9 (y41.toNat * 3)))), (23, .pointer (some (sla v9 (y41.toNat * 3 + 2)))), (24, .int .i64 ((gd HeatLink.zero s7.2.1 y41).Conductance)), (25, .agg #[.int .i64 (IntKind.i64.wrap ((IntKind.i64.wrap ((s7.1.length : Int) - 1)) - ((gd HeatLink.zero s7.2.1 y41).B))), .int .i64 (IntKind.i64.wrap ((IntKind.i64.wrap ((s7.1.length : Int) - 1)) - ((gd HeatLink.zero s7.2.1 y41).A))), .int .i64 ((gd HeatLink.zero s7.2.1 y41).Conductance)])] [26, 27] (fun w => (bx b10 27 [v8, v9, .int .i64 s7.2.2]).ok w ∧ (osl K_api_HeatLink v9 s7.2.1).ok w ∧ True) (fun w => St M w0 w [bx b10 27 [v8, v9, .int .i64 s7.2.2], osl K_api_HeatDomain v8 s7.1, osl K_api_HeatLink v9 s7.2.1, osl K_api_HeatDomain v16 x15, osl K_api_HeatLink v39 y40]) hf ⟨rfl, rfl, rfl, rfl, rfl, rfl, trivial⟩ (by kernel_rfl) (by kernel_rfl) rfl (by decide) ⟨hs.drew.get (i := 0) rfl, hs.drew.get (i := 2) rfl, trivial⟩ hs.drew (.cons (⟨_, _, rfl, rfl, rfl, rfl, fun a w hR hf => .inl ⟨wanted_yes hf rfl, ex_move hf rfl⟩⟩) (.cons (⟨_, _, rfl, rfl, rfl, rfl, fun a w hR hf => .inl ⟨wanted_yes hf rfl, ex_move hf rfl⟩⟩) (.cons (⟨_, _, rfl, rfl, rfl, rfl, fun a w hR hf => .inl ⟨wanted_yes hf rfl, ex_sub hf rfl rfl⟩⟩) (.cons (⟨_, _, rfl, rfl, rfl, rfl, fun a w hR hf => .inl ⟨wanted_yes hf rfl, ex_fieldAddrB fa_27_1 rfl hf rfl⟩⟩) (.cons (⟨_, _, rfl, rfl, rfl, rfl, fun a w hR hf => .inl ⟨wanted_yes hf rfl, ex_load sc_23 hf rfl (bx_cell (hR.1) _ rfl)⟩⟩) (.cons (⟨_, _, rfl, rfl, rfl, rfl, fun a w hR hf => .inl ⟨wanted_yes hf rfl, ex_move hf rfl⟩⟩) (.cons (⟨_, _, rfl, rfl, rfl, rfl, fun a w hR hf => .inl ⟨wanted_yes hf rfl, ex_indexAddr sa_23 (rsl_isSl (osl_rsl _ hR.2.1)) hc49.1 hc49.2 hf rfl rfl⟩⟩) (.cons (⟨_, _, rfl, rfl, rfl, rfl, fun a w hR hf => .inl ⟨wanted_yes hf rfl, ex_fieldAddrS fa_43_1 rfl hf rfl⟩⟩) (.cons (⟨_, _, rfl, rfl, rfl, rfl, fun a w hR hf => .inl ⟨wanted_yes hf rfl, ex_load sc_3 hf rfl (el_cell (K := K_api_HeatLink) (f := 1) (rsl_rd (osl_rsl _ hR.2.1)) hc49.1 hc49.2 rfl)⟩⟩) (.cons (⟨_, _, rfl, rfl, rfl, rfl, fun a w hR hf => .inl ⟨wanted_yes hf rfl, ex_sub hf rfl rfl⟩⟩) (.cons (⟨_, _, rfl, rfl, rfl, rfl, fun a w hR hf => .inl ⟨wanted_yes hf rfl, ex_move hf rfl⟩⟩) (.cons (⟨_, _, rfl, rfl, rfl, rfl, fun a w hR hf => .inl ⟨wanted_yes hf rfl, ex_sub hf rfl rfl⟩⟩) (.cons (⟨_, _, rfl, rfl, rfl, rfl, fun a w hR hf => .inl ⟨wanted_yes hf rfl, ex_fieldAddrB fa_27_1 rfl hf rfl⟩⟩) (.cons (⟨_, _, rfl, rfl, rfl, rfl, fun a w hR hf => .inl ⟨wanted_yes hf rfl, ex_load sc_23 hf rfl (bx_cell (hR.1) _ rfl)⟩⟩) (.cons (⟨_, _, rfl, rfl, rfl, rfl, fun a w hR hf => .inl ⟨wanted_yes hf rfl, ex_move hf rfl⟩⟩) (.cons (⟨_, _, rfl, rfl, rfl, rfl, fun a w hR hf => .inl ⟨wanted_yes hf rfl, ex_indexAddr sa_23 (rsl_isSl (osl_rsl _ hR.2.1)) hc49.1 hc49.2 hf rfl rfl⟩⟩) (.cons (⟨_, _, rfl, rfl, rfl, rfl, fun a w hR hf => .inl ⟨wanted_yes hf rfl, ex_fieldAddrS fa_43_0 rfl hf rfl⟩⟩) (.cons (⟨_, _, rfl, rfl, rfl, rfl, fun a w hR hf => .inl ⟨wanted_yes hf rfl, ex_load sc_3 hf rfl (el_cell (K := K_api_HeatLink) (f := 0) (rsl_rd (osl_rsl _ hR.2.1)) hc49.1 hc49.2 rfl)⟩⟩) (.cons (⟨_, _, rfl, rfl, rfl, rfl, fun a w hR hf => .inl ⟨wanted_yes hf rfl, ex_sub hf rfl rfl⟩⟩) (.cons (⟨_, _, rfl, rfl, rfl, rfl, fun a w hR hf => .inl ⟨wanted_yes hf rfl, ex_fieldAddrB fa_27_1 rfl hf rfl⟩⟩) (.cons (⟨_, _, rfl, rfl, rfl, rfl, fun a w hR hf => .inl ⟨wanted_yes hf rfl, ex_load sc_23 hf rfl (bx_cell (hR.1) _ rfl)⟩⟩) (.cons (⟨_, _, rfl, rfl, rfl, rfl, fun a w hR hf => .inl ⟨wanted_yes hf rfl, ex_move hf rfl⟩⟩) (.cons (⟨_, _, rfl, rfl, rfl, rfl, fun a w hR hf => .inl ⟨wanted_yes hf rfl, ex_indexAddr sa_23 (rsl_isSl (osl_rsl _ hR.2.1)) hc49.1 hc49.2 hf rfl rfl⟩⟩) (.cons (⟨_, _, rfl, rfl, rfl, rfl, fun a w hR hf => .inl ⟨wanted_yes hf rfl, ex_fieldAddrS fa_43_2 rfl hf rfl⟩⟩) (.cons (⟨_, _, rfl, rfl, rfl, rfl, fun a w hR hf => .inl ⟨wanted_yes hf rfl, ex_load sc_2 hf rfl (el_cell (K := K_api_HeatLink) (f := 2) (rsl_rd (osl_rsl _ hR.2.1)) hc49.1 hc49.2 rfl)⟩⟩) (.cons (⟨_, _, rfl, rfl, rfl, rfl, fun a w hR hf => .inl ⟨wanted_yes hf rfl, ex_build (cs := [.int .i64 (IntKind.i64.wrap ((IntKind.i64.wrap ((s7.1.length : Int) - 1)) - ((gd HeatLink.zero s7.2.1 y41).B))), .int .i64 (IntKind.i64.wrap ((IntKind.i64.wrap ((s7.1.length : Int) - 1)) - ((gd HeatLink.zero s7.2.1 y41).A))), .int .i64 ((gd HeatLink.zero s7.2.1 y41).Conductance)]) bt_43 hf rfl (.cons rfl (.cons rfl (.cons rfl .nil))) rfl⟩⟩) (.nil))))))))))))))))))))))))))) (fun K53 hK53 => ?_)
              refine RW.one 26 (by kernel_rfl) (by kernel_rfl) rfl (fun d hd => by cases hd; rfl) [(86, .agg #[.int .i64 (IntKind.i64.wrap ((IntKind.i64.wrap ((s7.1.length : Int) - 1)) - ((gd HeatLink.zero s7.2.1 y41).B))), .int .i64 (IntKind.i64.wrap ((IntKind.i64.wrap ((s7.1.length : Int) - 1)) - ((gd HeatLink.zero s7.2.1 y41).A))), .int .i64 ((gd HeatLink.zero s7.2.1 y41).Conductance)])] ⟨rfl, trivial⟩ (fun a w hR hs hf => ⟨wanted_yes hf rfl, ?_⟩)
              refine estep_v (er_buildSlice (K := K_api_HeatLink) (xs := [(⟨(IntKind.i64.wrap ((IntKind.i64.wrap ((s7.1.length : Int) - 1)) - ((gd HeatLink.zero s7.2.1 y41).B))), (IntKind.i64.wrap ((IntKind.i64.wrap ((s7.1.length : Int) - 1)) - ((gd HeatLink.zero s7.2.1 y41).A))), ((gd HeatLink.zero s7.2.1 y41).Conductance)⟩ : HeatLink)]) hs Try.underlying23 ep_43 rfl rfl hf rfl (.cons rfl .nil) rfl rfl) (fun v50 w hs => ?_)
              refine ⟨[], [(26, v50), (0, v39), (1, .int .i64 (s7.1.length : Int)), (2, .int .i64 (IntKind.i64.wrap ((s7.1.length : Int) - 1))), (3, .pointer (some ⟨b10, 1, none⟩)), (4, v9), (5, .int .i64 y41), (6, .pointer (some (sla v9 (y41.toNat * 3)))), (7, .pointer (some (sla v9 (y41.toNat * 3 + 1)))), (8, .int .i64 ((gd HeatLink.zero s7.2.1 y41).B)), (9, .int .i64 (IntKind.i64.wrap ((IntKind.i64.wrap ((s7.1.length : Int) - 1)) - ((gd HeatLink.zero s7.2.1 y41).B)))), (10, .int .i64 (s7.1.length : Int)), (11, .int .i64 (IntKind.i64.wrap ((s7.1.length : Int) - 1))), (12, .pointer (some ⟨b10, 1, none⟩)), (13, v9), (14, .int .i64 y41), (15, .pointer (some (sla v9 (y41.toNat * 3)))), (16, .pointer (some (sla v9 (y41.toNat * 3 + 0)))), (17, .int .i64 ((gd HeatLink.zero s7.2.1 y41).A)), (18, .int .i64 (IntKind.i64.wrap ((IntKind.i64.wrap ((s7.1.length : Int) - 1)) - ((gd HeatLink.zero s7.2.1 y41).A)))), (19, .pointer (some ⟨b10, 1, none⟩)), (20, v9), (21, .int .i64 y41), (22, .pointer (some (sla v9 (y41.toNat * 3)))), (23, .pointer (some (sla v9 (y41.toNat * 3 + 2)))), (24, .int .i64 ((gd HeatLink.zero s7.2.1 y41).Conductance)), (25, .agg #[.int .i64 (IntKind.i64.wrap ((IntKind.i64.wrap ((s7.1.length : Int) - 1)) - ((gd HeatLink.zero s7.2.1 y41).B))), .int .i64 (IntKind.i64.wrap ((IntKind.i64.wrap ((s7.1.length : Int) - 1)) - ((gd HeatLink.zero s7.2.1 y41).A))), .int .i64 ((gd HeatLink.zero s7.2.1 y41).Conductance)])], [27], (fun _ => True), (fun w => St M w0 w [osl K_api_HeatLink v50 [(⟨(IntKind.i64.wrap ((IntKind.i64.wrap ((s7.1.length : Int) - 1)) - ((gd HeatLink.zero s7.2.1 y41).B))), (IntKind.i64.wrap ((IntKind.i64.wrap ((s7.1.length : Int) - 1)) - ((gd HeatLink.zero s7.2.1 y41).A))), ((gd HeatLink.zero s7.2.1 y41).Conductance)⟩ : HeatLink)], bx b10 27 [v8, v9, .int .i64 s7.2.2], osl K_api_HeatDomain v8 s7.1, osl K_api_HeatLink v9 s7.2.1, osl K_api_HeatDomain v16 x15, osl K_api_HeatLink v39 y40]), rfl, rfl, ⟨hs.get (i := 1) rfl, hs.get (i := 3) rfl, trivial⟩, trivial, hs, (by kernel_rfl), .nil, ?_⟩
              refine RW.one 27 (by kernel_rfl) (by kernel_rfl) rfl (fun d hd => by cases hd; rfl) [(61, v39), (87, v50)] ⟨rfl, rfl, trivial⟩ (fun a w hR hs hf => ⟨wanted_yes hf rfl, ?_⟩)
              refine estep_v (er_append (K := K_api_HeatLink) hs (.k (.k (.k (.k (.k (.c .nil)))))) (osl_rsl _ (hs.get (i := 0) rfl)) rfl Try.underlying23 ep_43 hc51 rfl hf rfl rfl) (fun v52 w hs => ?_)
              refine ⟨[], [(27, v52), (26, v50), (0, v39), (1, .int .i64 (s7.1.length : Int)), (2, .int .i64 (IntKind.i64.wrap ((s7.1.length : Int) - 1))), (3, .pointer (some ⟨b10, 1, none⟩)), (4, v9), (5, .int .i64 y41), (6, .pointer (some (sla v9 (y41.toNat * 3)))), (7, .pointer (some (sla v9 (y41.toNat * 3 + 1)))), (8, .int .i64 ((gd HeatLink.zero s7.2.1 y41).B)), (9, .int .i64 (IntKind.i64.wrap ((IntKind.i64.wrap ((s7.1.length : Int) - 1)) - ((gd HeatLink.zero s7.2.1 y41).B)))), (10, .int .i64 (s7.1.length : Int)), (11, .int .i64 (IntKind.i64.wrap ((s7.1.length : Int) - 1))), (12, .pointer (some ⟨b10, 1, none⟩)), (13, v9), (14, .int .i64 y41), (15, .pointer (some (sla v9 (y41.toNat * 3)))), (16, .pointer (some (sla v9 (y41.toNat * 3 + 0)))), (17, .int .i64 ((gd HeatLink.zero s7.2.1 y41).A)), (18, .int .i64 (IntKind.i64.wrap ((IntKind.i64.wrap ((s7.1.length : Int) - 1)) - ((gd HeatLink.zero s7.2.1 y41).A)))), (19, .pointer (some ⟨b10, 1, none⟩)), (20, v9), (21, .int .i64 y41), (22, .pointer (some (sla v9 (y41.toNat * 3)))), (23, .pointer (some (sla v9 (y41.toNat * 3 + 2)))), (24, .int .i64 ((gd HeatLink.zero s7.2.1 y41).Conductance)), (25, .agg #[.int .i64 (IntKind.i64.wrap ((IntKind.i64.wrap ((s7.1.length : Int) - 1)) - ((gd HeatLink.zero s7.2.1 y41).B))), .int .i64 (IntKind.i64.wrap ((IntKind.i64.wrap ((s7.1.length : Int) - 1)) - ((gd HeatLink.zero s7.2.1 y41).A))), .int .i64 ((gd HeatLink.zero s7.2.1 y41).Conductance)])], [], (fun _ => True), (fun w => St M w0 w [osl K_api_HeatLink v52 (y40 ++ [(⟨(IntKind.i64.wrap ((IntKind.i64.wrap ((s7.1.length : Int) - 1)) - ((gd HeatLink.zero s7.2.1 y41).B))), (IntKind.i64.wrap ((IntKind.i64.wrap ((s7.1.length : Int) - 1)) - ((gd HeatLink.zero s7.2.1 y41).A))), ((gd HeatLink.zero s7.2.1 y41).Conductance)⟩ : HeatLink)]), osl K_api_HeatLink v50 [(⟨(IntKind.i64.wrap ((IntKind.i64.wrap ((s7.1.length : Int) - 1)) - ((gd HeatLink.zero s7.2.1 y41).B))), (IntKind.i64.wrap ((IntKind.i64.wrap ((s7.1.length : Int) - 1)) - ((gd HeatLink.zero s7.2.1 y41).A))), ((gd HeatLink.zero s7.2.1 y41).Conductance)⟩ : HeatLink)], bx b10 27 [v8, v9, .int .i64 s7.2.2], osl K_api_HeatDomain v8 s7.1, osl K_api_HeatLink v9 s7.2.1, osl K_api_HeatDomain v16 x15]), rfl, rfl, ⟨⟨hs.get (i := 2) rfl, hs.get (i := 4) rfl, trivial⟩, trivial⟩, trivial, hs, (by kernel_rfl), .nil, ?_⟩
              refine RW.zero (by kernel_rfl) (by kernel_rfl) [(3, v3), (9, .pointer (some ⟨b10, 0, none⟩)), (10, .int .i64 (s7.1.length : Int)), (11, v16), (12, v39), (14, .int .i64 y41), (88, v52)] ⟨rfl, rfl, rfl, rfl, rfl, rfl, rfl, trivial⟩ (fun a w hR hs hf => ?_)
              refine stq hf rfl rfl rfl (ex_assign hf rfl) (fun a hf => ?_)
              refine hK53 _ _ ?_
              refine hN48 _ _ ?_
              refine hN47 _ _ ?_
              refine region_k (fun K54 hK54 => ?_)
              refine stq hf rfl rfl rfl (ex_move hf rfl) (fun a hf => ?_)
              refine stq hf rfl rfl rfl (ex_sub hf rfl rfl) (fun a hf => ?_)
              refine stq hf rfl rfl rfl (ex_assign hf rfl) (fun a hf => ?_)
              refine hK54 _ _ ?_
              replace hs := hs.keep (.k (.d (.k (.k (.k (.k .nil))))))
              replace hs := hs.pick (.k (.k (.k (.k (.c .nil)))))
              replace hs := hs.pick (.k (.k (.k (.k (.c .nil)))))
              replace hs := hs.pick (.k (.k (.k (.k (.c .nil)))))
              replace hs := hs.pick (.k (.k (.k (.k (.c .nil)))))
              exact hL43 k43 _ _ (Nat.lt_succ_self _) ⟨(y40 ++ [(⟨(IntKind.i64.wrap ((IntKind.i64.wrap ((s7.1.length : Int) - 1)) - ((gd HeatLink.zero s7.2.1 y41).B))), (IntKind.i64.wrap ((IntKind.i64.wrap ((s7.1.length : Int) - 1)) - ((gd HeatLink.zero s7.2.1 y41).A))), ((gd HeatLink.zero s7.2.1 y41).Conductance)⟩ : HeatLink)]), (IntKind.i64.wrap (y41 - 1)), v52, hf.sub ⟨rfl, rfl, rfl, rfl, rfl, rfl, trivial⟩, hs, H⟩
            · -- not 0 ≤ y41
              replace hf := hf.castB (t := 58) rfl (dec_f hc46)
              refine cond_F hf rfl ?_
              refine wp_exit ?_
              refine hX44 2 _ _ ?_
              refine hX43 2 _ _ ?_
              refine hX38 _ _ ?_
              have e35 := some_eq H; subst e35
              exact hJ35 _ _ ⟨v39, hf.sub ⟨rfl, rfl, rfl, rfl, rfl, trivial⟩, hs⟩
      · obtain ⟨v36, hf, hs⟩ := hJ
        replace H := HO35
        clear HO35
        refine seq_n (fun Q55 hN55 hR55 hX55 => ?_)
        refine bnd H (fun s56 hs56 H => ?_)
        cases hps56 : s56.1 with
        | none =>
          replace H := elim_n hps56 H
          refine region_k (fun K58 hK58 => ?_)
          refine stq hf rfl rfl rfl (ex_fieldAddrB fa_27_0 rfl hf rfl) (fun a hf => ?_)
          refine stq hf rfl rfl rfl (ex_load sc_22 hf rfl (bx_cell (hs.get (i := 0) rfl) _ rfl)) (fun a hf => ?_)
          refine stq hf rfl rfl rfl (ex_fieldAddrB fa_27_1 rfl hf rfl) (fun a hf => ?_)
          refine stq hf rfl rfl rfl (ex_load sc_23 hf rfl (bx_cell (hs.get (i := 0) rfl) _ rfl)) (fun a hf => ?_)
          refine stq hf rfl rfl rfl (ex_fieldAddrB fa_27_2 rfl hf rfl) (fun a hf => ?_)
          refine stq hf rfl rfl rfl (ex_load sc_2 hf rfl (bx_cell (hs.get (i := 0) rfl) _ rfl)) (fun a hf => ?_)
          refine stepF hf rfl rfl rfl (ex_call cf_13 hf rfl) (heat_New.calls k s7.1 s7.2.1 s7.2.2 v8 v9 (hs.enter (.k (.k (.k (.k (.k .nil)))))) (Sr.own hs (.k (.k (.k (.k (.k .nil))))) (i := 1) rfl osl_rsl (fun _ h => h.1) (Sr.own hs (.k (.k (.k (.k (.k .nil))))) (i := 2) rfl osl_rsl (fun _ h => h.1) (Sr.nil _ _))) hs56) (fun v w hR a hf => ?_)
          obtain ⟨_, rfl, hs'⟩ | ⟨_, hc', _⟩ := hR
          case inr => rw [hps56] at hc'; cases hc'
          replace hs := hs.step (.k (.k (.k (.k (.k .nil))))) hs'
          clear hs'
          refine stq hf rfl rfl rfl (ex_move hf rfl) (fun a hf => ?_)
          refine stq hf rfl rfl rfl (ex_extract hf rfl rfl) (fun a hf => ?_)
          refine stq hf rfl rfl rfl (ex_extract hf rfl rfl) (fun a hf => ?_)
          refine stq hf rfl rfl rfl (ex_assign hf rfl) (fun a hf => ?_)
          refine stq hf rfl rfl rfl (ex_assign hf rfl) (fun a hf => ?_)
          refine hK58 _ _ ?_
          refine hN55 _ _ ?_
          refine seq_n (fun Q59 hN59 hR59 hX59 => ?_)
          refine bnd H (fun s60 hs60 H => ?_)
          cases hps60 : s60.1 with
          | none =>
            replace H := elim_n hps60 H
            refine region_k (fun K62 hK62 => ?_)
            refine stq hf rfl rfl rfl (ex_move hf rfl) (fun a hf => ?_)
            refine stq hf rfl rfl rfl (ex_move hf rfl) (fun a hf => ?_)
            refine stq hf rfl rfl rfl (ex_fieldAddrB fa_27_2 rfl hf rfl) (fun a hf => ?_)
            refine stq hf rfl rfl rfl (ex_load sc_2 hf rfl (bx_cell (hs.get (i := 0) rfl) _ rfl)) (fun a hf => ?_)
            refine stepF hf rfl rfl rfl (ex_call cf_13 hf rfl) (heat_New.calls k x15 x35 s7.2.2 v16 v36 (hs.enter (.k (.k (.k (.k (.k .nil)))))) (Sr.own hs (.k (.k (.k (.k (.k .nil))))) (i := 3) rfl osl_rsl (fun _ h => h.1) (Sr.own hs (.k (.k (.k (.k (.k .nil))))) (i := 4) rfl osl_rsl (fun _ h => h.1) (Sr.nil _ _))) hs60) (fun v w hR a hf => ?_)
            obtain ⟨_, rfl, hs'⟩ | ⟨_, hc', _⟩ := hR
            case inr => rw [hps60] at hc'; cases hc'
            replace hs := hs.step (.k (.k (.k (.k (.k .nil))))) hs'
            clear hs'
            refine stq hf rfl rfl rfl (ex_move hf rfl) (fun a hf => ?_)
            refine stq hf rfl rfl rfl (ex_extract hf rfl rfl) (fun a hf => ?_)
            refine stq hf rfl rfl rfl (ex_extract hf rfl rfl) (fun a hf => ?_)
            refine stq hf rfl rfl rfl (ex_assign hf rfl) (fun a hf => ?_)
            refine stq hf rfl rfl rfl (ex_assign hf rfl) (fun a hf => ?_)
            refine hK62 _ _ ?_
            refine hN59 _ _ ?_
            refine seq_n (fun Q63 hN63 hR63 hX63 => ?_)
            refine bnd H (fun x64 H64 HO64 => ?_)
            clear H
            refine seq_cut (fun a w => Fr a 217 [(3, v3), (10, .int .i64 (s7.1.length : Int)), (15, .pointer none), (17, .pointer none), (120, .bool true)] ∧ St M w0 w []) (fun Q64 hJ64 hR64 hX64 => ?_) (fun a w hJ => ?_)
            · replace H := H64
              refine itt H (fun hc65 H => ?_) (fun hc65 H => ?_)
              · -- s56.2 = 0
                refine itt H (fun hc66 H => ?_) (fun hc66 H => ?_)
                · -- s60.2 = 0
                  refine region_k (fun K67 hK67 => ?_)
                  refine stq hf rfl rfl rfl (ex_move hf rfl) (fun a hf => ?_)
                  refine stq hf rfl rfl rfl (ex_neq hf rfl rfl) (fun a hf => ?_)
                  refine stq hf rfl rfl rfl (ex_move hf rfl) (fun a hf => ?_)
                  replace hf := hf.castB (t := 108) rfl (ndec_f hc65)
                  replace hf := hf.castB (t := 109) rfl (ndec_f hc65)
                  refine stq hf rfl rfl rfl (ex_move hf rfl) (fun a hf => ?_)
                  refine stq hf rfl rfl rfl (ex_neq hf rfl rfl) (fun a hf => ?_)
                  refine stq hf rfl rfl rfl (ex_pickF hf rfl rfl) (fun a hf => ?_)
                  refine stq hf rfl rfl rfl (ex_move hf rfl) (fun a hf => ?_)
                  replace hf := hf.castB (t := 111) rfl (ndec_f hc66)
                  replace hf := hf.castB (t := 112) rfl (ndec_f hc66)
                  replace hf := hf.castB (t := 113) rfl (ndec_f hc66)
                  refine stq hf rfl rfl rfl (ex_move hf rfl) (fun a hf => ?_)
                  refine stq hf rfl rfl rfl (ex_eqp Try.underlying29 hf rfl rfl) (fun a hf => ?_)
                  refine stq hf rfl rfl rfl (ex_pickF hf rfl rfl) (fun a hf => ?_)
                  refine stq hf rfl rfl rfl (ex_move hf rfl) (fun a hf => ?_)
                  refine stepN hf rfl rfl rfl (fun a hf => ?_)
                  refine stepN hf rfl rfl rfl (fun a hf => ?_)
                  refine stq hf rfl rfl rfl (ex_pickT hf rfl rfl) (fun a hf => ?_)
                  refine hK67 _ _ ?_
                  replace hs := hs.keep (.d (.d (.d (.d (.d .nil)))))
                  have e64 := some_eq H; subst e64
                  exact hJ64 _ _ ⟨hf.sub ⟨rfl, rfl, rfl, rfl, rfl, trivial⟩, hs⟩
                · -- not s60.2 = 0
                  refine region_k (fun K68 hK68 => ?_)
                  refine stq hf rfl rfl rfl (ex_move hf rfl) (fun a hf => ?_)
                  refine stq hf rfl rfl rfl (ex_neq hf rfl rfl) (fun a hf => ?_)
                  refine stq hf rfl rfl rfl (ex_move hf rfl) (fun a hf => ?_)
                  replace hf := hf.castB (t := 108) rfl (ndec_f hc65)
                  replace hf := hf.castB (t := 109) rfl (ndec_f hc65)
                  refine stq hf rfl rfl rfl (ex_move hf rfl) (fun a hf => ?_)
                  refine stq hf rfl rfl rfl (ex_neq hf rfl rfl) (fun a hf => ?_)
                  refine stq hf rfl rfl rfl (ex_pickF hf rfl rfl) (fun a hf => ?_)
                  refine stq hf rfl rfl rfl (ex_move hf rfl) (fun a hf => ?_)
                  replace hf := hf.castB (t := 111) rfl (ndec_t hc66)
                  replace hf := hf.castB (t := 112) rfl (ndec_t hc66)
                  replace hf := hf.castB (t := 113) rfl (ndec_t hc66)
                  refine stepN hf rfl rfl rfl (fun a hf => ?_)
                  refine stepN hf rfl rfl rfl (fun a hf => ?_)
                  refine stq hf rfl rfl rfl (ex_pickT hf rfl rfl) (fun a hf => ?_)
                  refine stq hf rfl rfl rfl (ex_move hf rfl) (fun a hf => ?_)
                  refine stepN hf rfl rfl rfl (fun a hf => ?_)
                  refine stepN hf rfl rfl rfl (fun a hf => ?_)
                  refine stq hf rfl rfl rfl (ex_pickT hf rfl rfl) (fun a hf => ?_)
                  refine hK68 _ _ ?_
                  replace hs := hs.keep (.d (.d (.d (.d (.d .nil)))))
                  have e64 := some_eq H; subst e64
                  exact hJ64 _ _ ⟨hf.sub ⟨rfl, rfl, rfl, rfl, rfl, trivial⟩, hs⟩
              · -- not s56.2 = 0
                refine region_k (fun K69 hK69 => ?_)
                refine stq hf rfl rfl rfl (ex_move hf rfl) (fun a hf => ?_)
                refine stq hf rfl rfl rfl (ex_neq hf rfl rfl) (fun a hf => ?_)
                refine stq hf rfl rfl rfl (ex_move hf rfl) (fun a hf => ?_)
                replace hf := hf.castB (t := 108) rfl (ndec_t hc65)
                replace hf := hf.castB (t := 109) rfl (ndec_t hc65)
                refine stepN hf rfl rfl rfl (fun a hf => ?_)
                refine stepN hf rfl rfl rfl (fun a hf => ?_)
                refine stq hf rfl rfl rfl (ex_pickT hf rfl rfl) (fun a hf => ?_)
                refine stq hf rfl rfl rfl (ex_move hf rfl) (fun a hf => ?_)
                refine stepN hf rfl rfl rfl (fun a hf => ?_)
                refine stepN hf rfl rfl rfl (fun a hf => ?_)
                refine stq hf rfl rfl rfl (ex_pickT hf rfl rfl) (fun a hf => ?_)
                refine stq hf rfl rfl rfl (ex_move hf rfl) (fun a hf => ?_)
                refine stepN hf rfl rfl rfl (fun a hf => ?_)
                refine stepN hf rfl rfl rfl (fun a hf => ?_)
                refine stq hf rfl rfl rfl (ex_pickT hf rfl rfl) (fun a hf => ?_)
                refine hK69 _ _ ?_
                replace hs := hs.keep (.d (.d (.d (.d (.d .nil)))))
                have e64 := some_eq H; subst e64
                exact hJ64 _ _ ⟨hf.sub ⟨rfl, rfl, rfl, rfl, rfl, trivial⟩, hs⟩
            · obtain ⟨hf, hs⟩ := hJ
              replace H := HO64
              clear HO64
              refine cond_T hf rfl ?_
              refine seq_reg (fun K70 hK70 => ?_)
              refine stq hf rfl rfl rfl (ex_assign hf rfl) (fun a hf => ?_)
              refine hK70 _ _ ?_
              refine wp_ret ?_
              refine hR63 _ _ ?_
              have eR := some_eq H; subst eR
              exact ret1 Try.results4 hf rfl ⟨_, rfl, ⟨rfl, hs⟩⟩
          | some c61 =>
            replace H := elim_s hps60 H
            refine region_k (fun K75 hK75 => ?_)
            refine stq hf rfl rfl rfl (ex_move hf rfl) (fun a hf => ?_)
            refine stq hf rfl rfl rfl (ex_move hf rfl) (fun a hf => ?_)
            refine stq hf rfl rfl rfl (ex_fieldAddrB fa_27_2 rfl hf rfl) (fun a hf => ?_)
            refine stq hf rfl rfl rfl (ex_load sc_2 hf rfl (bx_cell (hs.get (i := 0) rfl) _ rfl)) (fun a hf => ?_)
            refine stepF hf rfl rfl rfl (ex_call cf_13 hf rfl) (heat_New.calls k x15 x35 s7.2.2 v16 v36 (hs.enter (.k (.k (.k (.k (.k .nil)))))) (Sr.own hs (.k (.k (.k (.k (.k .nil))))) (i := 3) rfl osl_rsl (fun _ h => h.1) (Sr.own hs (.k (.k (.k (.k (.k .nil))))) (i := 4) rfl osl_rsl (fun _ h => h.1) (Sr.nil _ _))) hs60) (fun v w hR a hf => ?_)
            obtain ⟨hc', _⟩ | ⟨cc, hc', b71, v72, v73, v74, rfl, hs'⟩ := hR
            case inl => rw [hps60] at hc'; cases hc'
            obtain rfl : c61 = cc := by rw [hps60] at hc'; exact Option.some.inj hc'
            replace hs := hs.step (.k (.k (.k (.k (.k .nil))))) hs'
            clear hs'
            refine stq hf rfl rfl rfl (ex_move hf rfl) (fun a hf => ?_)
            refine stq hf rfl rfl rfl (ex_extract hf rfl rfl) (fun a hf => ?_)
            refine stq hf rfl rfl rfl (ex_extract hf rfl rfl) (fun a hf => ?_)
            refine stq hf rfl rfl rfl (ex_assign hf rfl) (fun a hf => ?_)
            refine stq hf rfl rfl rfl (ex_assign hf rfl) (fun a hf => ?_)
            refine hK75 _ _ ?_
            refine hN59 _ _ ?_
            refine seq_n (fun Q76 hN76 hR76 hX76 => ?_)
            refine bnd H (fun x77 H77 HO77 => ?_)
            clear H
            refine seq_cut (fun a w => Fr a 217 [(3, v3), (10, .int .i64 (s7.1.length : Int)), (15, .pointer none), (17, .pointer (some ⟨b71, 0, none⟩)), (120, .bool true)] ∧ St M w0 w [bx b71 64 [v72, v73, .int .i64 c61.2.2.1, v74, .int .i64 c61.2.2.2.2], osl K_api_HeatDomain v72 c61.1, osl K_api_HeatLink v73 c61.2.1, osl K_int64 v74 c61.2.2.2.1]) (fun Q77 hJ77 hR77 hX77 => ?_) (fun a w hJ => ?_)
            · replace H := H77
              refine itt H (fun hc78 H => ?_) (fun hc78 H => ?_)
              · -- s56.2 = 0
                refine itt H (fun hc79 H => ?_) (fun hc79 H => ?_)
                · -- s60.2 = 0
                  refine region_k (fun K80 hK80 => ?_)
                  refine stq hf rfl rfl rfl (ex_move hf rfl) (fun a hf => ?_)
                  refine stq hf rfl rfl rfl (ex_neq hf rfl rfl) (fun a hf => ?_)
                  refine stq hf rfl rfl rfl (ex_move hf rfl) (fun a hf => ?_)
                  replace hf := hf.castB (t := 108) rfl (ndec_f hc78)
                  replace hf := hf.castB (t := 109) rfl (ndec_f hc78)
                  refine stq hf rfl rfl rfl (ex_move hf rfl) (fun a hf => ?_)
                  refine stq hf rfl rfl rfl (ex_neq hf rfl rfl) (fun a hf => ?_)
                  refine stq hf rfl rfl rfl (ex_pickF hf rfl rfl) (fun a hf => ?_)
                  refine stq hf rfl rfl rfl (ex_move hf rfl) (fun a hf => ?_)
                  replace hf := hf.castB (t := 111) rfl (ndec_f hc79)
                  replace hf := hf.castB (t := 112) rfl (ndec_f hc79)
                  replace hf := hf.castB (t := 113) rfl (ndec_f hc79)
                  refine stq hf rfl rfl rfl (ex_move hf rfl) (fun a hf => ?_)
                  refine stq hf rfl rfl rfl (ex_eqp Try.underlying29 hf rfl rfl) (fun a hf => ?_)
                  refine stq hf rfl rfl rfl (ex_pickF hf rfl rfl) (fun a hf => ?_)
                  refine stq hf rfl rfl rfl (ex_move hf rfl) (fun a hf => ?_)
                  refine stepN hf rfl rfl rfl (fun a hf => ?_)
                  refine stepN hf rfl rfl rfl (fun a hf => ?_)
                  refine stq hf rfl rfl rfl (ex_pickT hf rfl rfl) (fun a hf => ?_)
                  refine hK80 _ _ ?_
                  replace hs := hs.keep (.k (.k (.k (.k (.d (.d (.d (.d (.d .nil)))))))))
                  have e77 := some_eq H; subst e77
                  exact hJ77 _ _ ⟨hf.sub ⟨rfl, rfl, rfl, rfl, rfl, trivial⟩, hs⟩
                · -- not s60.2 = 0
                  refine region_k (fun K81 hK81 => ?_)
                  refine stq hf rfl rfl rfl (ex_move hf rfl) (fun a hf => ?_)
                  refine stq hf rfl rfl rfl (ex_neq hf rfl rfl) (fun a hf => ?_)
                  refine stq hf rfl rfl rfl (ex_move hf rfl) (fun a hf => ?_)
                  replace hf := hf.castB (t := 108) rfl (ndec_f hc78)
                  replace hf := hf.castB (t := 109) rfl (ndec_f hc78)
                  refine stq hf rfl rfl rfl (ex_move hf rfl) (fun a hf => ?_)
                  refine stq hf rfl rfl rfl (ex_neq hf rfl rfl) (fun a hf => ?_)
                  refine stq hf rfl rfl rfl (ex_pickF hf rfl rfl) (fun a hf => ?_)
                  refine stq hf rfl rfl rfl (ex_move hf rfl) (fun a hf => ?_)
                  replace hf := hf.castB (t := 111) rfl (ndec_t hc79)
                  replace hf := hf.castB (t := 112) rfl (ndec_t hc79)
                  replace hf := hf.castB (t := 113) rfl (ndec_t hc79)
                  refine stepN hf rfl rfl rfl (fun a hf => ?_)
                  refine stepN hf rfl rfl rfl (fun a hf => ?_)
                  refine stq hf rfl rfl rfl (ex_pickT hf rfl rfl) (fun a hf => ?_)
                  refine stq hf rfl rfl rfl (ex_move hf rfl) (fun a hf => ?_)
                  refine stepN hf rfl rfl rfl (fun a hf => ?_)
                  refine stepN hf rfl rfl rfl (fun a hf => ?_)
                  refine stq hf rfl rfl rfl (ex_pickT hf rfl rfl) (fun a hf => ?_)
                  refine hK81 _ _ ?_
                  replace hs := hs.keep (.k (.k (.k (.k (.d (.d (.d (.d (.d .nil)))))))))
                  have e77 := some_eq H; subst e77
                  exact hJ77 _ _ ⟨hf.sub ⟨rfl, rfl, rfl, rfl, rfl, trivial⟩, hs⟩
              · -- not s56.2 = 0
                refine region_k (fun K82 hK82 => ?_)
                refine stq hf rfl rfl rfl (ex_move hf rfl) (fun a hf => ?_)
                refine stq hf rfl rfl rfl (ex_neq hf rfl rfl) (fun a hf => ?_)
                refine stq hf rfl rfl rfl (ex_move hf rfl) (fun a hf => ?_)
                replace hf := hf.castB (t := 108) rfl (ndec_t hc78)
                replace hf := hf.castB (t := 109) rfl (ndec_t hc78)
                refine stepN hf rfl rfl rfl (fun a hf => ?_)
                refine stepN hf rfl rfl rfl (fun a hf => ?_)
                refine stq hf rfl rfl rfl (ex_pickT hf rfl rfl) (fun a hf => ?_)
                refine stq hf rfl rfl rfl (ex_move hf rfl) (fun a hf => ?_)
                refine stepN hf rfl rfl rfl (fun a hf => ?_)
                refine stepN hf rfl rfl rfl (fun a hf => ?_)
                refine stq hf rfl rfl rfl (ex_pickT hf rfl rfl) (fun a hf => ?_)
                refine stq hf rfl rfl rfl (ex_move hf rfl) (fun a hf => ?_)
                refine stepN hf rfl rfl rfl (fun a hf => ?_)
                refine stepN hf rfl rfl rfl (fun a hf => ?_)
                refine stq hf rfl rfl rfl (ex_pickT hf rfl rfl) (fun a hf => ?_)
                refine hK82 _ _ ?_
                replace hs := hs.keep (.k (.k (.k (.k (.d (.d (.d (.d (.d .nil)))))))))
                have e77 := some_eq H; subst e77
                exact hJ77 _ _ ⟨hf.sub ⟨rfl, rfl, rfl, rfl, rfl, trivial⟩, hs⟩
            · obtain ⟨hf, hs⟩ := hJ
              replace H := HO77
              clear HO77
              refine cond_T hf rfl ?_
              refine seq_reg (fun K83 hK83 => ?_)
              refine stq hf rfl rfl rfl (ex_assign hf rfl) (fun a hf => ?_)
              refine hK83 _ _ ?_
              refine wp_ret ?_
              refine hR76 _ _ ?_
              have eR := some_eq H; subst eR
              replace hs := hs.keep (.d (.d (.d (.d .nil))))
              exact ret1 Try.results4 hf rfl ⟨_, rfl, ⟨rfl, hs⟩⟩
        | some c57 =>
          replace H := elim_s hps56 H
          refine region_k (fun K88 hK88 => ?_)
          refine stq hf rfl rfl rfl (ex_fieldAddrB fa_27_0 rfl hf rfl) (fun a hf => ?_)
          refine stq hf rfl rfl rfl (ex_load sc_22 hf rfl (bx_cell (hs.get (i := 0) rfl) _ rfl)) (fun a hf => ?_)
          refine stq hf rfl rfl rfl (ex_fieldAddrB fa_27_1 rfl hf rfl) (fun a hf => ?_)
          refine stq hf rfl rfl rfl (ex_load sc_23 hf rfl (bx_cell (hs.get (i := 0) rfl) _ rfl)) (fun a hf => ?_)
          refine stq hf rfl rfl rfl (ex_fieldAddrB fa_27_2 rfl hf rfl) (fun a hf => ?_)
          refine stq hf rfl rfl rfl (ex_load sc_2 hf rfl (bx_cell (hs.get (i := 0) rfl) _ rfl)) (fun a hf => ?_)
          refine stepF hf rfl rfl rfl (ex_call cf_13 hf rfl) (heat_New.calls k s7.1 s7.2.1 s7.2.2 v8 v9 (hs.enter (.k (.k (.k (.k (.k .nil)))))) (Sr.own hs (.k (.k (.k (.k (.k .nil))))) (i := 1) rfl osl_rsl (fun _ h => h.1) (Sr.own hs (.k (.k (.k (.k (.k .nil))))) (i := 2) rfl osl_rsl (fun _ h => h.1) (Sr.nil _ _))) hs56) (fun v w hR a hf => ?_)
          obtain ⟨hc', _⟩ | ⟨cc, hc', b84, v85, v86, v87, rfl, hs'⟩ := hR
          case inl => rw [hps56] at hc'; cases hc'
          obtain rfl : c57 = cc := by rw [hps56] at hc'; exact Option.some.inj hc'
          replace hs := hs.step (.k (.k (.k (.k (.k .nil))))) hs'
          clear hs'
          refine stq hf rfl rfl rfl (ex_move hf rfl) (fun a hf => ?_)
          refine stq hf rfl rfl rfl (ex_extract hf rfl rfl) (fun a hf => ?_)
          refine stq hf rfl rfl rfl (ex_extract hf rfl rfl) (fun a hf => ?_)
          refine stq hf rfl rfl rfl (ex_assign hf rfl) (fun a hf => ?_)
          refine stq hf rfl rfl rfl (ex_assign hf rfl) (fun a hf => ?_)
          refine hK88 _ _ ?_
          refine hN55 _ _ ?_
          refine seq_n (fun Q89 hN89 hR89 hX89 => ?_)
          refine bnd H (fun s90 hs90 H => ?_)
          cases hps90 : s90.1 with
          | none =>
            replace H := elim_n hps90 H
            refine region_k (fun K92 hK92 => ?_)
            refine stq hf rfl rfl rfl (ex_move hf rfl) (fun a hf => ?_)
            refine stq hf rfl rfl rfl (ex_move hf rfl) (fun a hf => ?_)
            refine stq hf rfl rfl rfl (ex_fieldAddrB fa_27_2 rfl hf rfl) (fun a hf => ?_)
            refine stq hf rfl rfl rfl (ex_load sc_2 hf rfl (bx_cell (hs.get (i := 4) rfl) _ rfl)) (fun a hf => ?_)
            refine stepF hf rfl rfl rfl (ex_call cf_13 hf rfl) (heat_New.calls k x15 x35 s7.2.2 v16 v36 (hs.enter (.k (.k (.k (.k (.k (.k (.k (.k (.k .nil)))))))))) (Sr.own hs (.k (.k (.k (.k (.k (.k (.k (.k (.k .nil))))))))) (i := 7) rfl osl_rsl (fun _ h => h.1) (Sr.own hs (.k (.k (.k (.k (.k (.k (.k (.k (.k .nil))))))))) (i := 8) rfl osl_rsl (fun _ h => h.1) (Sr.nil _ _))) hs90) (fun v w hR a hf => ?_)
            obtain ⟨_, rfl, hs'⟩ | ⟨_, hc', _⟩ := hR
            case inr => rw [hps90] at hc'; cases hc'
            replace hs := hs.step (.k (.k (.k (.k (.k (.k (.k (.k (.k .nil))))))))) hs'
            clear hs'
            refine stq hf rfl rfl rfl (ex_move hf rfl) (fun a hf => ?_)
            refine stq hf rfl rfl rfl (ex_extract hf rfl rfl) (fun a hf => ?_)
            refine stq hf rfl rfl rfl (ex_extract hf rfl rfl) (fun a hf => ?_)
            refine stq hf rfl rfl rfl (ex_assign hf rfl) (fun a hf => ?_)
            refine stq hf rfl rfl rfl (ex_assign hf rfl) (fun a hf => ?_)
            refine hK92 _ _ ?_
            refine hN89 _ _ ?_
            refine seq_n (fun Q93 hN93 hR93 hX93 => ?_)
            refine bnd H (fun x94 H94 HO94 => ?_)
            clear H
            refine seq_cut (fun a w => Fr a 217 [(3, v3), (10, .int .i64 (s7.1.length : Int)), (15, .pointer (some ⟨b84, 0, none⟩)), (17, .pointer none), (120, .bool true)] ∧ St M w0 w [bx b84 64 [v85, v86, .int .i64 c57.2.2.1, v87, .int .i64 c57.2.2.2.2], osl K_api_HeatDomain v85 c57.1, osl K_api_HeatLink v86 c57.2.1, osl K_int64 v87 c57.2.2.2.1]) (fun Q94 hJ94 hR94 hX94 => ?_) (fun a w hJ => ?_)
            · replace H := H94
              refine itt H (fun hc95 H => ?_) (fun hc95 H => ?_)
              · -- s56.2 = 0
                refine itt H (fun hc96 H => ?_) (fun hc96 H => ?_)
                · -- s90.2 = 0
                  refine region_k (fun K97 hK97 => ?_)
                  refine stq hf rfl rfl rfl (ex_move hf rfl) (fun a hf => ?_)
                  refine stq hf rfl rfl rfl (ex_neq hf rfl rfl) (fun a hf => ?_)
                  refine stq hf rfl rfl rfl (ex_move hf rfl) (fun a hf => ?_)
                  replace hf := hf.castB (t := 108) rfl (ndec_f hc95)
                  replace hf := hf.castB (t := 109) rfl (ndec_f hc95)
                  refine stq hf rfl rfl rfl (ex_move hf rfl) (fun a hf => ?_)
                  refine stq hf rfl rfl rfl (ex_neq hf rfl rfl) (fun a hf => ?_)
                  refine stq hf rfl rfl rfl (ex_pickF hf rfl rfl) (fun a hf => ?_)
                  refine stq hf rfl rfl rfl (ex_move hf rfl) (fun a hf => ?_)
                  replace hf := hf.castB (t := 111) rfl (ndec_f hc96)
                  replace hf := hf.castB (t := 112) rfl (ndec_f hc96)
                  replace hf := hf.castB (t := 113) rfl (ndec_f hc96)
                  refine stq hf rfl rfl rfl (ex_move hf rfl) (fun a hf => ?_)
                  refine stq hf rfl rfl rfl (ex_eqp Try.underlying29 hf rfl rfl) (fun a hf => ?_)
                  refine stq hf rfl rfl rfl (ex_pickF hf rfl rfl) (fun a hf => ?_)
                  refine stq hf rfl rfl rfl (ex_move hf rfl) (fun a hf => ?_)
                  refine stq hf rfl rfl rfl (ex_move hf rfl) (fun a hf => ?_)
                  refine stq hf rfl rfl rfl (ex_eqp Try.underlying29 hf rfl rfl) (fun a hf => ?_)
                  refine stq hf rfl rfl rfl (ex_pickF hf rfl rfl) (fun a hf => ?_)
                  refine hK97 _ _ ?_
                  replace hs := hs.keep (.k (.k (.k (.k (.d (.d (.d (.d (.d .nil)))))))))
                  have e94 := some_eq H; subst e94
                  exact hJ94 _ _ ⟨hf.sub ⟨rfl, rfl, rfl, rfl, rfl, trivial⟩, hs⟩
                · -- not s90.2 = 0
                  refine region_k (fun K98 hK98 => ?_)
                  refine stq hf rfl rfl rfl (ex_move hf rfl) (fun a hf => ?_)
                  refine stq hf rfl rfl rfl (ex_neq hf rfl rfl) (fun a hf => ?_)
                  refine stq hf rfl rfl rfl (ex_move hf rfl) (fun a hf => ?_)
                  replace hf := hf.castB (t := 108) rfl (ndec_f hc95)
                  replace hf := hf.castB (t := 109) rfl (ndec_f hc95)
                  refine stq hf rfl rfl rfl (ex_move hf rfl) (fun a hf => ?_)
                  refine stq hf rfl rfl rfl (ex_neq hf rfl rfl) (fun a hf => ?_)
                  refine stq hf rfl rfl rfl (ex_pickF hf rfl rfl) (fun a hf => ?_)
                  refine stq hf rfl rfl rfl (ex_move hf rfl) (fun a hf => ?_)
                  replace hf := hf.castB (t := 111) rfl (ndec_t hc96)
                  replace hf := hf.castB (t := 112) rfl (ndec_t hc96)
                  replace hf := hf.castB (t := 113) rfl (ndec_t hc96)
                  refine stepN hf rfl rfl rfl (fun a hf => ?_)
                  refine stepN hf rfl rfl rfl (fun a hf => ?_)
                  refine stq hf rfl rfl rfl (ex_pickT hf rfl rfl) (fun a hf => ?_)
                  refine stq hf rfl rfl rfl (ex_move hf rfl) (fun a hf => ?_)
                  refine stepN hf rfl rfl rfl (fun a hf => ?_)
                  refine stepN hf rfl rfl rfl (fun a hf => ?_)
                  refine stq hf rfl rfl rfl (ex_pickT hf rfl rfl) (fun a hf => ?_)
                  refine hK98 _ _ ?_
                  replace hs := hs.keep (.k (.k (.k (.k (.d (.d (.d (.d (.d .nil)))))))))
                  have e94 := some_eq H; subst e94
                  exact hJ94 _ _ ⟨hf.sub ⟨rfl, rfl, rfl, rfl, rfl, trivial⟩, hs⟩
              · -- not s56.2 = 0
                refine region_k (fun K99 hK99 => ?_)
                refine stq hf rfl rfl rfl (ex_move hf rfl) (fun a hf => ?_)
                refine stq hf rfl rfl rfl (ex_neq hf rfl rfl) (fun a hf => ?_)
                refine stq hf rfl rfl rfl (ex_move hf rfl) (fun a hf => ?_)
                replace hf := hf.castB (t := 108) rfl (ndec_t hc95)
                replace hf := hf.castB (t := 109) rfl (ndec_t hc95)
                refine stepN hf rfl rfl rfl (fun a hf => ?_)
                refine stepN hf rfl rfl rfl (fun a hf => ?_)
                refine stq hf rfl rfl rfl (ex_pickT hf rfl rfl) (fun a hf => ?_)
                refine stq hf rfl rfl rfl (ex_move hf rfl) (fun a hf => ?_)
                refine stepN hf rfl rfl rfl (fun a hf => ?_)
                refine stepN hf rfl rfl rfl (fun a hf => ?_)
                refine stq hf rfl rfl rfl (ex_pickT hf rfl rfl) (fun a hf => ?_)
                refine stq hf rfl rfl rfl (ex_move hf rfl) (fun a hf => ?_)
                refine stepN hf rfl rfl rfl (fun a hf => ?_)
                refine stepN hf rfl rfl rfl (fun a hf => ?_)
                refine stq hf rfl rfl rfl (ex_pickT hf rfl rfl) (fun a hf => ?_)
                refine hK99 _ _ ?_
                replace hs := hs.keep (.k (.k (.k (.k (.d (.d (.d (.d (.d .nil)))))))))
                have e94 := some_eq H; subst e94
                exact hJ94 _ _ ⟨hf.sub ⟨rfl, rfl, rfl, rfl, rfl, trivial⟩, hs⟩
            · obtain ⟨hf, hs⟩ := hJ
              replace H := HO94
              clear HO94
              refine cond_T hf rfl ?_
              refine seq_reg (fun K100 hK100 => ?_)
              refine stq hf rfl rfl rfl (ex_assign hf rfl) (fun a hf => ?_)
              refine hK100 _ _ ?_
              refine wp_ret ?_
              refine hR93 _ _ ?_
              have eR := some_eq H; subst eR
              replace hs := hs.keep (.d (.d (.d (.d .nil))))
              exact ret1 Try.results4 hf rfl ⟨_, rfl, ⟨rfl, hs⟩⟩
          | some c91 =>
            replace H := elim_s hps90 H
            refine region_k (fun K105 hK105 => ?_)
            refine stq hf rfl rfl rfl (ex_move hf rfl) (fun a hf => ?_)
            refine stq hf rfl rfl rfl (ex_move hf rfl) (fun a hf => ?_)
            refine stq hf rfl rfl rfl (ex_fieldAddrB fa_27_2 rfl hf rfl) (fun a hf => ?_)
            refine stq hf rfl rfl rfl (ex_load sc_2 hf rfl (bx_cell (hs.get (i := 4) rfl) _ rfl)) (fun a hf => ?_)
            refine stepF hf rfl rfl rfl (ex_call cf_13 hf rfl) (heat_New.calls k x15 x35 s7.2.2 v16 v36 (hs.enter (.k (.k (.k (.k (.k (.k (.k (.k (.k .nil)))))))))) (Sr.own hs (.k (.k (.k (.k (.k (.k (.k (.k (.k .nil))))))))) (i := 7) rfl osl_rsl (fun _ h => h.1) (Sr.own hs (.k (.k (.k (.k (.k (.k (.k (.k (.k .nil))))))))) (i := 8) rfl osl_rsl (fun _ h => h.1) (Sr.nil _ _))) hs90) (fun v w hR a hf => ?_)
            obtain ⟨hc', _⟩ | ⟨cc, hc', b101, v102, v103, v104, rfl, hs'⟩ := hR
            case inl => rw [hps90] at hc'; cases hc'
            obtain rfl : c91 = cc := by rw [hps90] at hc'; exact Option.some.inj hc'
            replace hs := hs.step (.k (.k (.k (.k (.k (.k (.k (.k (.k .nil))))))))) hs'
            clear hs'
            refine stq hf rfl rfl rfl (ex_move hf rfl) (fun a hf => ?_)
            refine stq hf rfl rfl rfl (ex_extract hf rfl rfl) (fun a hf => ?_)
            refine stq hf rfl rfl rfl (ex_extract hf rfl rfl) (fun a hf => ?_)
            refine stq hf rfl rfl rfl (ex_assign hf rfl) (fun a hf => ?_)
            refine stq hf rfl rfl rfl (ex_assign hf rfl) (fun a hf => ?_)
            refine hK105 _ _ ?_
            refine hN89 _ _ ?_
            refine seq_n (fun Q106 hN106 hR106 hX106 => ?_)
            refine bnd H (fun x107 H107 HO107 => ?_)
            clear H
            refine seq_cut (fun a w => Fr a 217 [(3, v3), (10, .int .i64 (s7.1.length : Int)), (15, .pointer (some ⟨b84, 0, none⟩)), (17, .pointer (some ⟨b101, 0, none⟩)), (120, .bool x107)] ∧ St M w0 w [bx b84 64 [v85, v86, .int .i64 c57.2.2.1, v87, .int .i64 c57.2.2.2.2], osl K_api_HeatDomain v85 c57.1, osl K_api_HeatLink v86 c57.2.1, osl K_int64 v87 c57.2.2.2.1, bx b101 64 [v102, v103, .int .i64 c91.2.2.1, v104, .int .i64 c91.2.2.2.2], osl K_api_HeatDomain v102 c91.1, osl K_api_HeatLink v103 c91.2.1, osl K_int64 v104 c91.2.2.2.1]) (fun Q107 hJ107 hR107 hX107 => ?_) (fun a w hJ => ?_)
            · replace H := H107
              refine itt H (fun hc108 H => ?_) (fun hc108 H => ?_)
              · -- s56.2 = 0
                refine itt H (fun hc109 H => ?_) (fun hc109 H => ?_)
                · -- s90.2 = 0
                  refine region_k (fun K110 hK110 => ?_)
                  refine stq hf rfl rfl rfl (ex_move hf rfl) (fun a hf => ?_)
                  refine stq hf rfl rfl rfl (ex_neq hf rfl rfl) (fun a hf => ?_)
                  refine stq hf rfl rfl rfl (ex_move hf rfl) (fun a hf => ?_)
                  replace hf := hf.castB (t := 108) rfl (ndec_f hc108)
                  replace hf := hf.castB (t := 109) rfl (ndec_f hc108)
                  refine stq hf rfl rfl rfl (ex_move hf rfl) (fun a hf => ?_)
                  refine stq hf rfl rfl rfl (ex_neq hf rfl rfl) (fun a hf => ?_)
                  refine stq hf rfl rfl rfl (ex_pickF hf rfl rfl) (fun a hf => ?_)
                  refine stq hf rfl rfl rfl (ex_move hf rfl) (fun a hf => ?_)
                  replace hf := hf.castB (t := 111) rfl (ndec_f hc109)
                  replace hf := hf.castB (t := 112) rfl (ndec_f hc109)
                  replace hf := hf.castB (t := 113) rfl (ndec_f hc109)
                  refine stq hf rfl rfl rfl (ex_move hf rfl) (fun a hf => ?_)
                  refine stq hf rfl rfl rfl (ex_eqp Try.underlying29 hf rfl rfl) (fun a hf => ?_)
                  refine stq hf rfl rfl rfl (ex_pickF hf rfl rfl) (fun a hf => ?_)
                  refine stq hf rfl rfl rfl (ex_move hf rfl) (fun a hf => ?_)
                  refine stq hf rfl rfl rfl (ex_move hf rfl) (fun a hf => ?_)
                  refine stq hf rfl rfl rfl (ex_eqp Try.underlying29 hf rfl rfl) (fun a hf => ?_)
                  refine stq hf rfl rfl rfl (ex_pickF hf rfl rfl) (fun a hf => ?_)
                  refine hK110 _ _ ?_
                  replace hs := hs.keep (.k (.k (.k (.k (.k (.k (.k (.k (.d (.d (.d (.d (.d .nil)))))))))))))
                  replace hs := hs.pick (.k (.k (.k (.c (.k (.k (.k (.k .nil))))))))
                  replace hs := hs.pick (.k (.k (.k (.c (.k (.k (.k (.k .nil))))))))
                  replace hs := hs.pick (.k (.k (.k (.c (.k (.k (.k (.k .nil))))))))
                  replace hs := hs.pick (.k (.k (.k (.c (.k (.k (.k (.k .nil))))))))
                  replace hs := hs.pick (.k (.k (.k (.k (.k (.k (.k (.c .nil))))))))
                  replace hs := hs.pick (.k (.k (.k (.k (.k (.k (.k (.c .nil))))))))
                  replace hs := hs.pick (.k (.k (.k (.k (.k (.k (.k (.c .nil))))))))
                  replace hs := hs.pick (.k (.k (.k (.k (.k (.k (.k (.c .nil))))))))
                  have e107 := some_eq H; subst e107
                  exact hJ107 _ _ ⟨hf.sub ⟨rfl, rfl, rfl, rfl, rfl, trivial⟩, hs⟩
                · -- not s90.2 = 0
                  refine region_k (fun K111 hK111 => ?_)
                  refine stq hf rfl rfl rfl (ex_move hf rfl) (fun a hf => ?_)
                  refine stq hf rfl rfl rfl (ex_neq hf rfl rfl) (fun a hf => ?_)
                  refine stq hf rfl rfl rfl (ex_move hf rfl) (fun a hf => ?_)
                  replace hf := hf.castB (t := 108) rfl (ndec_f hc108)
                  replace hf := hf.castB (t := 109) rfl (ndec_f hc108)
                  refine stq hf rfl rfl rfl (ex_move hf rfl) (fun a hf => ?_)
                  refine stq hf rfl rfl rfl (ex_neq hf rfl rfl) (fun a hf => ?_)
                  refine stq hf rfl rfl rfl (ex_pickF hf rfl rfl) (fun a hf => ?_)
                  refine stq hf rfl rfl rfl (ex_move hf rfl) (fun a hf => ?_)
                  replace hf := hf.castB (t := 111) rfl (ndec_t hc109)
                  replace hf := hf.castB (t := 112) rfl (ndec_t hc109)
                  replace hf := hf.castB (t := 113) rfl (ndec_t hc109)
                  refine stepN hf rfl rfl rfl (fun a hf => ?_)
                  refine stepN hf rfl rfl rfl (fun a hf => ?_)
                  refine stq hf rfl rfl rfl (ex_pickT hf rfl rfl) (fun a hf => ?_)
                  refine stq hf rfl rfl rfl (ex_move hf rfl) (fun a hf => ?_)
                  refine stepN hf rfl rfl rfl (fun a hf => ?_)
                  refine stepN hf rfl rfl rfl (fun a hf => ?_)
                  refine stq hf rfl rfl rfl (ex_pickT hf rfl rfl) (fun a hf => ?_)
                  refine hK111 _ _ ?_
                  replace hs := hs.keep (.k (.k (.k (.k (.k (.k (.k (.k (.d (.d (.d (.d (.d .nil)))))))))))))
                  replace hs := hs.pick (.k (.k (.k (.c (.k (.k (.k (.k .nil))))))))
                  replace hs := hs.pick (.k (.k (.k (.c (.k (.k (.k (.k .nil))))))))
                  replace hs := hs.pick (.k (.k (.k (.c (.k (.k (.k (.k .nil))))))))
                  replace hs := hs.pick (.k (.k (.k (.c (.k (.k (.k (.k .nil))))))))
                  replace hs := hs.pick (.k (.k (.k (.k (.k (.k (.k (.c .nil))))))))
                  replace hs := hs.pick (.k (.k (.k (.k (.k (.k (.k (.c .nil))))))))
                  replace hs := hs.pick (.k (.k (.k (.k (.k (.k (.k (.c .nil))))))))
                  replace hs := hs.pick (.k (.k (.k (.k (.k (.k (.k (.c .nil))))))))
                  have e107 := some_eq H; subst e107
                  exact hJ107 _ _ ⟨hf.sub ⟨rfl, rfl, rfl, rfl, rfl, trivial⟩, hs⟩
              · -- not s56.2 = 0
                refine region_k (fun K112 hK112 => ?_)
                refine stq hf rfl rfl rfl (ex_move hf rfl) (fun a hf => ?_)
                refine stq hf rfl rfl rfl (ex_neq hf rfl rfl) (fun a hf => ?_)
                refine stq hf rfl rfl rfl (ex_move hf rfl) (fun a hf => ?_)
                replace hf := hf.castB (t := 108) rfl (ndec_t hc108)
                replace hf := hf.castB (t := 109) rfl (ndec_t hc108)
                refine stepN hf rfl rfl rfl (fun a hf => ?_)
                refine stepN hf rfl rfl rfl (fun a hf => ?_)
                refine stq hf rfl rfl rfl (ex_pickT hf rfl rfl) (fun a hf => ?_)
                refine stq hf rfl rfl rfl (ex_move hf rfl) (fun a hf => ?_)
                refine stepN hf rfl rfl rfl (fun a hf => ?_)
                refine stepN hf rfl rfl rfl (fun a hf => ?_)
                refine stq hf rfl rfl rfl (ex_pickT hf rfl rfl) (fun a hf => ?_)
                refine stq hf rfl rfl rfl (ex_move hf rfl) (fun a hf => ?_)
                refine stepN hf rfl rfl rfl (fun a hf => ?_)
                refine stepN hf rfl rfl rfl (fun a hf => ?_)
                refine stq hf rfl rfl rfl (ex_pickT hf rfl rfl) (fun a hf => ?_)
                refine hK112 _ _ ?_
                replace hs := hs.keep (.k (.k (.k (.k (.k (.k (.k (.k (.d (.d (.d (.d (.d .nil)))))))))))))
                replace hs := hs.pick (.k (.k (.k (.c (.k (.k (.k (.k .nil))))))))
                replace hs := hs.pick (.k (.k (.k (.c (.k (.k (.k (.k .nil))))))))
                replace hs := hs.pick (.k (.k (.k (.c (.k (.k (.k (.k .nil))))))))
                replace hs := hs.pick (.k (.k (.k (.c (.k (.k (.k (.k .nil))))))))
                replace hs := hs.pick (.k (.k (.k (.k (.k (.k (.k (.c .nil))))))))
                replace hs := hs.pick (.k (.k (.k (.k (.k (.k (.k (.c .nil))))))))
                replace hs := hs.pick (.k (.k (.k (.k (.k (.k (.k (.c .nil))))))))
                replace hs := hs.pick (.k (.k (.k (.k (.k (.k (.k (.c .nil))))))))
                have e107 := some_eq H; subst e107
                exact hJ107 _ _ ⟨hf.sub ⟨rfl, rfl, rfl, rfl, rfl, trivial⟩, hs⟩
            · obtain ⟨hf, hs⟩ := hJ
              replace H := HO107
              clear HO107
              refine itt H (fun hc113 H => ?_) (fun hc113 H => ?_)
              · -- x107 = true
                replace hf := hf.castB (t := 120) rfl hc113
                refine cond_T hf rfl ?_
                refine seq_reg (fun K114 hK114 => ?_)
                refine stq hf rfl rfl rfl (ex_assign hf rfl) (fun a hf => ?_)
                refine hK114 _ _ ?_
                refine wp_ret ?_
                refine hR106 _ _ ?_
                have eR := some_eq H; subst eR
                replace hs := hs.keep (.d (.d (.d (.d (.d (.d (.d (.d .nil))))))))
                exact ret1 Try.results4 hf rfl ⟨_, rfl, ⟨rfl, hs⟩⟩
              · -- not x107 = true
                replace hf := hf.castB (t := 120) rfl (bool_f hc113)
                refine cond_F hf rfl ?_
                refine wp_skip ?_
                refine hN106 _ _ ?_
                refine bnd H (fun x115 H115 HO115 => ?_)
                clear H
                refine seq_cut (fun a w => ∃ (x115s : (List Int) × Int × (List Int) × Int) (v116 : Value) (v117 : Value), x115 = .go x115s ∧ Fr a 217 [(15, .pointer (some ⟨b84, 0, none⟩)), (17, .pointer (some ⟨b101, 0, none⟩))] ∧ St M w0 w [bx b84 64 [v85, v86, .int .i64 c57.2.2.1, v116, .int .i64 x115s.2.1], osl K_api_HeatDomain v85 c57.1, osl K_api_HeatLink v86 c57.2.1, osl K_int64 v116 x115s.1, bx b101 64 [v102, v103, .int .i64 c91.2.2.1, v117, .int .i64 x115s.2.2.2], osl K_api_HeatDomain v102 c91.1, osl K_api_HeatLink v103 c91.2.1, osl K_int64 v117 x115s.2.2.1]) (fun Q115 hJ115 hR115 hX115 => ?_) (fun a w hJ => ?_)
                · replace H := H115
                  refine seq_reg (fun K118 hK118 => ?_)
                  refine stq hf rfl rfl rfl (ex_assign hf rfl) (fun a hf => ?_)
                  refine hK118 _ _ ?_
                  refine block_k (fun Q119 hN119 hR119 hX119 hY119 => ?_)
                  refine loop_k (fun n a w => ∃ (y122 : (List Int)) (y123 : Int) (y124 : (List Int)) (y125 : Int) (y126 : Int) (v120 : Value) (v121 : Value), Fr a 217 [(3, v3), (10, .int .i64 (s7.1.length : Int)), (15, .pointer (some ⟨b84, 0, none⟩)), (17, .pointer (some ⟨b101, 0, none⟩)), (19, .int .i64 y126)] ∧ St M w0 w [bx b84 64 [v85, v86, .int .i64 c57.2.2.1, v120, .int .i64 y123], osl K_api_HeatDomain v85 c57.1, osl K_api_HeatLink v86 c57.2.1, osl K_int64 v120 y122, bx b101 64 [v102, v103, .int .i64 c91.2.2.1, v121, .int .i64 y125], osl K_api_HeatDomain v102 c91.1, osl K_api_HeatLink v103 c91.2.1, osl K_int64 v121 y124] ∧ law38_HeatRelabeling.l3 n a3 s7 c57 c91 y122 y123 y124 y125 y126 = some x115) k ?_ (fun n128 a w hI Q128 hL128 hR128 hX128 => ?_)
                  · -- at the start
                    exact ⟨c57.2.2.2.1, c57.2.2.2.2, c91.2.2.2.1, c91.2.2.2.2, 0, v87, v104, hf.sub ⟨rfl, rfl, rfl, rfl, rfl, trivial⟩, hs, H⟩
                  · obtain ⟨y122, y123, y124, y125, y126, v120, v121, hf, hs, H⟩ := hI
                    cases n128 with
                    | zero => exact absurd H (by rw [law38_HeatRelabeling.l3.eq_1]; intro h; cases h)
                    | succ k128 =>
                      replace H := (law38_HeatRelabeling.l3.eq_2 ..).symm.trans H
                      refine seq_n (fun Q129 hN129 hR129 hX129 => ?_)
                      refine seq_reg (fun K130 hK130 => ?_)
                      refine stq hf rfl rfl rfl (ex_move hf rfl) (fun a hf => ?_)
                      refine stq hf rfl rfl rfl (ex_move hf rfl) (fun a hf => ?_)
                      refine stq hf rfl rfl rfl (ex_lenS Try.underlying24 (rsl2_isSl (hr.now hs (i := 2) rfl)) hf rfl) (fun a hf => ?_)
                      refine stq hf rfl rfl rfl (ex_lss hf rfl rfl) (fun a hf => ?_)
                      refine hK130 _ _ ?_
                      refine itt H (fun hc131 H => ?_) (fun hc131 H => ?_)
                      · -- y126 < (a3.length : Int)
                        replace hf := hf.castB (t := 124) rfl (dec_t hc131)
                        refine cond_T hf rfl ?_
                        refine wp_skip ?_
                        refine hN129 _ _ ?_
                        refine bnd H (fun x132 H132 HO132 => ?_)
                        clear H
                        refine seq_cut (fun a w => ∃ (x132s : (List Int) × Int × (List Int) × Int) (v133 : Value) (v134 : Value), x132 = .go x132s ∧ Fr a 217 [(3, v3), (10, .int .i64 (s7.1.length : Int)), (15, .pointer (some ⟨b84, 0, none⟩)), (17, .pointer (some ⟨b101, 0, none⟩)), (19, .int .i64 y126)] ∧ St M w0 w [bx b84 64 [v85, v86, .int .i64 c57.2.2.1, v133, .int .i64 x132s.2.1], osl K_api_HeatDomain v85 c57.1, osl K_api_HeatLink v86 c57.2.1, osl K_int64 v133 x132s.1, bx b101 64 [v102, v103, .int .i64 c91.2.2.1, v134, .int .i64 x132s.2.2.2], osl K_api_HeatDomain v102 c91.1, osl K_api_HeatLink v103 c91.2.1, osl K_int64 v134 x132s.2.2.1]) (fun Q132 hJ132 hR132 hX132 => ?_) (fun a w hJ => ?_)
                        · replace H := H132
                          refine block_k (fun Q135 hN135 hR135 hX135 hY135 => ?_)
                          refine ck_some H (fun hc136 H => ?_)
                          refine bnd H (fun s137 hs137 H => ?_)
                          refine seq_reg (fun K139 hK139 => ?_)
                          refine stq hf rfl rfl rfl (ex_move hf rfl) (fun a hf => ?_)
                          refine stq hf rfl rfl rfl (ex_move hf rfl) (fun a hf => ?_)
                          refine stq hf rfl rfl rfl (ex_indexAddr sa_24 (rsl2_isSl (hr.now hs (i := 2) rfl)) hc136.1 hc136.2 hf rfl rfl) (fun a hf => ?_)
                          refine stq hf rfl rfl rfl (ex_load sc_35 hf rfl (rsl2_cell (hr.now hs (i := 2) rfl) hc136.1 hc136.2)) (fun a hf => ?_)
                          refine stq hf rfl rfl rfl (ex_move hf rfl) (fun a hf => ?_)
                          refine stepF hf rfl rfl rfl (ex_call cf_14 hf rfl) (law38_Powers.calls k128 (gd [] a3 y126) (s7.1.length : Int) 200 (vs3 y126.toNat) (hs.enter (.k (.k (.k (.k (.k (.k (.k (.k .nil))))))))) (Sr.old hr hs (.k (.k (.k (.k (.k (.k (.k (.k .nil)))))))) (i := 2) rfl (fun _ h => rsl2_rsl _ h hc136.1 hc136.2) (fun _ h => rsl2_fs hc136.1 hc136.2 h) (Sr.nil _ _)) hs137) (fun v w hR a hf => ?_)
                          obtain ⟨v138, rfl, hs'⟩ := hR
                          replace hs := hs.step (.k (.k (.k (.k (.k (.k (.k (.k .nil)))))))) hs'
                          clear hs'
                          refine stq hf rfl rfl rfl (ex_assign hf rfl) (fun a hf => ?_)
                          refine hK139 _ _ ?_
                          refine ck_some H (fun hc140 H => ?_)
                          refine seq_reg (fun K142 hK142 => ?_)
                          refine stq hf rfl rfl rfl (ex_move hf rfl) (fun a hf => ?_)
                          refine stepV hf rfl rfl rfl (er_makeSlice (K := K_int64) hs Try.underlying35 ep_2 hc140.1 hc140.2 rfl hf rfl rfl) (fun v141 w hs a hf => ?_)
                          refine stq hf rfl rfl rfl (ex_assign hf rfl) (fun a hf => ?_)
                          refine hK142 _ _ ?_
                          refine bnd H (fun x143 H143 HO143 => ?_)
                          clear H
                          refine seq_cut (fun a w => Fr a 217 [(3, v3), (10, .int .i64 (s7.1.length : Int)), (15, .pointer (some ⟨b84, 0, none⟩)), (17, .pointer (some ⟨b101, 0, none⟩)), (19, .int .i64 y126), (20, v138), (21, v141)] ∧ St M w0 w [bx b84 64 [v85, v86, .int .i64 c57.2.2.1, v120, .int .i64 y123], osl K_api_HeatDomain v85 c57.1, osl K_api_HeatLink v86 c57.2.1, osl K_int64 v120 y122, bx b101 64 [v102, v103, .int .i64 c91.2.2.1, v121, .int .i64 y125], osl K_api_HeatDomain v102 c91.1, osl K_api_HeatLink v103 c91.2.1, osl K_int64 v121 y124, osl K_int64 v138 s137, osl K_int64 v141 x143]) (fun Q143 hJ143 hR143 hX143 => ?_) (fun a w hJ => ?_)
                          · replace H := H143
                            refine seq_reg (fun K144 hK144 => ?_)
                            refine stq hf rfl rfl rfl (ex_assign hf rfl) (fun a hf => ?_)
                            refine hK144 _ _ ?_
                            refine block_k (fun Q145 hN145 hR145 hX145 hY145 => ?_)
                            refine loop_k (fun n a w => ∃ (y146 : (List Int)) (y147 : Int), Fr a 217 [(3, v3), (10, .int .i64 (s7.1.length : Int)), (15, .pointer (some ⟨b84, 0, none⟩)), (17, .pointer (some ⟨b101, 0, none⟩)), (19, .int .i64 y126), (20, v138), (21, v141), (22, .int .i64 y147)] ∧ St M w0 w [bx b84 64 [v85, v86, .int .i64 c57.2.2.1, v120, .int .i64 y123], osl K_api_HeatDomain v85 c57.1, osl K_api_HeatLink v86 c57.2.1, osl K_int64 v120 y122, bx b101 64 [v102, v103, .int .i64 c91.2.2.1, v121, .int .i64 y125], osl K_api_HeatDomain v102 c91.1, osl K_api_HeatLink v103 c91.2.1, osl K_int64 v121 y124, osl K_int64 v138 s137, osl K_int64 v141 y146] ∧ law38_HeatRelabeling.l4 n s7 s137 y146 y147 = some x143) k128 ?_ (fun n149 a w hI Q149 hL149 hR149 hX149 => ?_)
                            · -- at the start
                              replace hs := hs.pick (.k (.c (.k (.k (.k (.k (.k (.k (.k (.k .nil))))))))))
                              replace hs := hs.pick (.k (.k (.k (.k (.k (.k (.k (.k (.k (.c .nil))))))))))
                              replace hs := hs.pick (.k (.k (.k (.k (.k (.k (.k (.k (.k (.c .nil))))))))))
                              replace hs := hs.pick (.k (.k (.k (.k (.k (.k (.k (.k (.k (.c .nil))))))))))
                              replace hs := hs.pick (.k (.k (.k (.k (.k (.k (.k (.k (.k (.c .nil))))))))))
                              replace hs := hs.pick (.k (.k (.k (.k (.k (.k (.k (.k (.k (.c .nil))))))))))
                              replace hs := hs.pick (.k (.k (.k (.k (.k (.k (.k (.k (.k (.c .nil))))))))))
                              replace hs := hs.pick (.k (.k (.k (.k (.k (.k (.k (.k (.k (.c .nil))))))))))
                              replace hs := hs.pick (.k (.k (.k (.k (.k (.k (.k (.k (.k (.c .nil))))))))))
                              exact ⟨(List.replicate (s7.1.length : Int).toNat 0), 0, hf.sub ⟨rfl, rfl, rfl, rfl, rfl, rfl, rfl, rfl, trivial⟩, hs, H⟩
                            · obtain ⟨y146, y147, hf, hs, H⟩ := hI
                              cases n149 with
                              | zero => exact absurd H (by rw [law38_HeatRelabeling.l4.eq_1]; intro h; cases h)
                              | succ k149 =>
                                replace H := (law38_HeatRelabeling.l4.eq_2 ..).symm.trans H
                                refine seq_n (fun Q150 hN150 hR150 hX150 => ?_)
                                refine seq_reg (fun K151 hK151 => ?_)
                                refine stq hf rfl rfl rfl (ex_move hf rfl) (fun a hf => ?_)
                                refine stq hf rfl rfl rfl (ex_move hf rfl) (fun a hf => ?_)
                                refine stq hf rfl rfl rfl (ex_lss hf rfl rfl) (fun a hf => ?_)
                                refine hK151 _ _ ?_
                                refine itt H (fun hc152 H => ?_) (fun hc152 H => ?_)
                                · -- y147 < (s7.1.length : Int)
                                  replace hf := hf.castB (t := 137) rfl (dec_t hc152)
                                  refine cond_T hf rfl ?_
                                  refine wp_skip ?_
                                  refine hN150 _ _ ?_
                                  refine seq_n (fun Q153 hN153 hR153 hX153 => ?_)
                                  refine block_k (fun Q154 hN154 hR154 hX154 hY154 => ?_)
                                  refine ck_some H (fun hc155 H => ?_)
                                  refine ck_some H (fun hc156 H => ?_)
                                  refine region_k (fun K157 hK157 => ?_)
                                  refine stq hf rfl rfl rfl (ex_move hf rfl) (fun a hf => ?_)
                                  refine stq hf rfl rfl rfl (ex_move hf rfl) (fun a hf => ?_)
                                  refine stq hf rfl rfl rfl (ex_sub hf rfl rfl) (fun a hf => ?_)
                                  refine stq hf rfl rfl rfl (ex_move hf rfl) (fun a hf => ?_)
                                  refine stq hf rfl rfl rfl (ex_sub hf rfl rfl) (fun a hf => ?_)
                                  refine stq hf rfl rfl rfl (ex_move hf rfl) (fun a hf => ?_)
                                  refine stq hf rfl rfl rfl (ex_move hf rfl) (fun a hf => ?_)
                                  refine stq hf rfl rfl rfl (ex_indexAddr sa_35 (rsl_isSl (osl_rsl _ (hs.get (i := 8) rfl))) hc155.1 hc155.2 hf rfl rfl) (fun a hf => ?_)
                                  refine stq hf rfl rfl rfl (ex_load sc_2 hf rfl (el_cell (K := K_int64) (f := 0) (rsl_rd (osl_rsl _ (hs.get (i := 8) rfl))) hc155.1 hc155.2 rfl)) (fun a hf => ?_)
                                  refine stq hf rfl rfl rfl (ex_indexAddr sa_35 (rsl_isSl (osl_rsl _ (hs.get (i := 9) rfl))) hc156.1 hc156.2 hf rfl rfl) (fun a hf => ?_)
                                  refine stepS hf rfl rfl (er_storeE (K := K_int64) (f := 0) (x' := (gd 0 s137 y147)) hs (.k (.k (.k (.k (.k (.k (.k (.k (.k (.c .nil)))))))))) hc156.1 hc156.2 hf rfl rfl rfl sz_2 rfl rfl) (fun w hs => ?_)
                                  refine hK157 _ _ ?_
                                  refine hN154 _ _ ?_
                                  refine hN153 _ _ ?_
                                  refine region_k (fun K158 hK158 => ?_)
                                  refine stq hf rfl rfl rfl (ex_move hf rfl) (fun a hf => ?_)
                                  refine stq hf rfl rfl rfl (ex_add hf rfl rfl) (fun a hf => ?_)
                                  refine stq hf rfl rfl rfl (ex_assign hf rfl) (fun a hf => ?_)
                                  refine hK158 _ _ ?_
                                  replace hs := hs.pick (.k (.k (.k (.k (.k (.k (.k (.k (.k (.c .nil))))))))))
                                  replace hs := hs.pick (.k (.k (.k (.k (.k (.k (.k (.k (.k (.c .nil))))))))))
                                  replace hs := hs.pick (.k (.k (.k (.k (.k (.k (.k (.k (.k (.c .nil))))))))))
                                  replace hs := hs.pick (.k (.k (.k (.k (.k (.k (.k (.k (.k (.c .nil))))))))))
                                  replace hs := hs.pick (.k (.k (.k (.k (.k (.k (.k (.k (.k (.c .nil))))))))))
                                  replace hs := hs.pick (.k (.k (.k (.k (.k (.k (.k (.k (.k (.c .nil))))))))))
                                  replace hs := hs.pick (.k (.k (.k (.k (.k (.k (.k (.k (.k (.c .nil))))))))))
                                  replace hs := hs.pick (.k (.k (.k (.k (.k (.k (.k (.k (.k (.c .nil))))))))))
                                  replace hs := hs.pick (.k (.k (.k (.k (.k (.k (.k (.k (.k (.c .nil))))))))))
                                  exact hL149 k149 _ _ (Nat.lt_succ_self _) ⟨(y146.set (IntKind.i64.wrap ((IntKind.i64.wrap ((s7.1.length : Int) - 1)) - y147)).toNat (gd 0 s137 y147)), (IntKind.i64.wrap (y147 + 1)), hf.sub ⟨rfl, rfl, rfl, rfl, rfl, rfl, rfl, rfl, trivial⟩, hs, H⟩
                                · -- not y147 < (s7.1.length : Int)
                                  replace hf := hf.castB (t := 137) rfl (dec_f hc152)
                                  refine cond_F hf rfl ?_
                                  refine wp_exit ?_
                                  refine hX150 6 _ _ ?_
                                  refine hX149 6 _ _ ?_
                                  refine hX145 _ _ ?_
                                  have e143 := some_eq H; subst e143
                                  exact hJ143 _ _ ⟨hf.sub ⟨rfl, rfl, rfl, rfl, rfl, rfl, rfl, trivial⟩, hs⟩
                          · obtain ⟨hf, hs⟩ := hJ
                            replace H := HO143
                            clear HO143
                            refine bnd H (fun s159 hs159 H => ?_)
                            refine seq_reg (fun K162 hK162 => ?_)
                            refine stq hf rfl rfl rfl (ex_move hf rfl) (fun a hf => ?_)
                            refine stq hf rfl rfl rfl (ex_move hf rfl) (fun a hf => ?_)
                            refine stepF hf rfl rfl rfl (ex_call cf_15 hf rfl) (heat_Model_Step.calls k128 c57.1 c57.2.1 c57.2.2.1 y122 y123 s137 b84 v85 v86 v120 v138 (hs.enter (.c (.k (.k (.c (.k (.k (.k (.k (.k (.k .nil))))))))))) (Sr.own hs (.c (.k (.k (.c (.k (.k (.k (.k (.k (.k .nil)))))))))) (i := 0) rfl osl_rsl (fun _ h => h.1) (Sr.own hs (.c (.k (.k (.c (.k (.k (.k (.k (.k (.k .nil)))))))))) (i := 1) rfl osl_rsl (fun _ h => h.1) (Sr.own hs (.c (.k (.k (.c (.k (.k (.k (.k (.k (.k .nil)))))))))) (i := 6) rfl osl_rsl (fun _ h => h.1) (Sr.nil _ _)))) hs159) (fun v w hR a hf => ?_)
                            obtain ⟨v160, v161, rfl, hs'⟩ := hR
                            replace hs := hs.step (.c (.k (.k (.c (.k (.k (.k (.k (.k (.k .nil)))))))))) hs'
                            clear hs'
                            refine stq hf rfl rfl rfl (ex_move hf rfl) (fun a hf => ?_)
                            refine stq hf rfl rfl rfl (ex_extract hf rfl rfl) (fun a hf => ?_)
                            refine stq hf rfl rfl rfl (ex_extract hf rfl rfl) (fun a hf => ?_)
                            refine stq hf rfl rfl rfl (ex_assign hf rfl) (fun a hf => ?_)
                            refine stq hf rfl rfl rfl (ex_assign hf rfl) (fun a hf => ?_)
                            refine hK162 _ _ ?_
                            refine bnd H (fun s163 hs163 H => ?_)
                            refine seq_reg (fun K166 hK166 => ?_)
                            refine stq hf rfl rfl rfl (ex_move hf rfl) (fun a hf => ?_)
                            refine stq hf rfl rfl rfl (ex_move hf rfl) (fun a hf => ?_)
                            refine stepF hf rfl rfl rfl (ex_call cf_15 hf rfl) (heat_Model_Step.calls k128 c91.1 c91.2.1 c91.2.2.1 y124 y125 x143 b101 v102 v103 v121 v141 (hs.enter (.k (.k (.k (.k (.k (.c (.k (.k (.c (.k (.k .nil)))))))))))) (Sr.own hs (.k (.k (.k (.k (.k (.c (.k (.k (.c (.k (.k .nil))))))))))) (i := 5) rfl osl_rsl (fun _ h => h.1) (Sr.own hs (.k (.k (.k (.k (.k (.c (.k (.k (.c (.k (.k .nil))))))))))) (i := 6) rfl osl_rsl (fun _ h => h.1) (Sr.own hs (.k (.k (.k (.k (.k (.c (.k (.k (.c (.k (.k .nil))))))))))) (i := 8) rfl osl_rsl (fun _ h => h.1) (Sr.nil _ _)))) hs163) (fun v w hR a hf => ?_)
                            obtain ⟨v164, v165, rfl, hs'⟩ := hR
                            replace hs := hs.step (.k (.k (.k (.k (.k (.c (.k (.k (.c (.k (.k .nil))))))))))) hs'
                            clear hs'
                            refine stq hf rfl rfl rfl (ex_move hf rfl) (fun a hf => ?_)
                            refine stq hf rfl rfl rfl (ex_extract hf rfl rfl) (fun a hf => ?_)
                            refine stq hf rfl rfl rfl (ex_extract hf rfl rfl) (fun a hf => ?_)
                            refine stq hf rfl rfl rfl (ex_assign hf rfl) (fun a hf => ?_)
                            refine stq hf rfl rfl rfl (ex_assign hf rfl) (fun a hf => ?_)
                            refine hK166 _ _ ?_
                            refine seq_n (fun Q167 hN167 hR167 hX167 => ?_)
                            refine bnd H (fun x168 H168 HO168 => ?_)
                            clear H
                            refine seq_cut (fun a w => Fr a 217 [(3, v3), (10, .int .i64 (s7.1.length : Int)), (15, .pointer (some ⟨b84, 0, none⟩)), (17, .pointer (some ⟨b101, 0, none⟩)), (19, .int .i64 y126), (23, v161), (25, v165), (179, .bool x168)] ∧ St M w0 w [bx b84 64 [v85, v86, .int .i64 c57.2.2.1, v160, .int .i64 s159.1], osl K_api_HeatDomain v85 c57.1, osl K_api_HeatLink v86 c57.2.1, osl K_int64 v160 s159.2.1, bx b101 64 [v102, v103, .int .i64 c91.2.2.1, v164, .int .i64 s163.1], osl K_api_HeatDomain v102 c91.1, osl K_api_HeatLink v103 c91.2.1, osl K_int64 v164 s163.2.1, osl K_int64 v161 s159.2.2.1, osl K_int64 v165 s163.2.2.1]) (fun Q168 hJ168 hR168 hX168 => ?_) (fun a w hJ => ?_)
                            · replace H := H168
                              refine itt H (fun hc169 H => ?_) (fun hc169 H => ?_)
                              · -- s159.2.2.2 = 0
                                refine itt H (fun hc170 H => ?_) (fun hc170 H => ?_)
                                · -- s163.2.2.2 = 0
                                  refine itt H (fun hc171 H => ?_) (fun hc171 H => ?_)
                                  · -- (s159.2.2.1.length : Int) = (s7.1.length : Int)
                                    refine region_k (fun K172 hK172 => ?_)
                                    refine stq hf rfl rfl rfl (ex_move hf rfl) (fun a hf => ?_)
                                    refine stq hf rfl rfl rfl (ex_neq hf rfl rfl) (fun a hf => ?_)
                                    refine stq hf rfl rfl rfl (ex_move hf rfl) (fun a hf => ?_)
                                    replace hf := hf.castB (t := 163) rfl (ndec_f hc169)
                                    replace hf := hf.castB (t := 164) rfl (ndec_f hc169)
                                    refine stq hf rfl rfl rfl (ex_move hf rfl) (fun a hf => ?_)
                                    refine stq hf rfl rfl rfl (ex_neq hf rfl rfl) (fun a hf => ?_)
                                    refine stq hf rfl rfl rfl (ex_pickF hf rfl rfl) (fun a hf => ?_)
                                    refine stq hf rfl rfl rfl (ex_move hf rfl) (fun a hf => ?_)
                                    replace hf := hf.castB (t := 166) rfl (ndec_f hc170)
                                    replace hf := hf.castB (t := 167) rfl (ndec_f hc170)
                                    replace hf := hf.castB (t := 168) rfl (ndec_f hc170)
                                    refine stq hf rfl rfl rfl (ex_move hf rfl) (fun a hf => ?_)
                                    refine stq hf rfl rfl rfl (ex_lenS Try.underlying35 (rsl_isSl (osl_rsl _ (hs.get (i := 5) rfl))) hf rfl) (fun a hf => ?_)
                                    refine stq hf rfl rfl rfl (ex_move hf rfl) (fun a hf => ?_)
                                    refine stq hf rfl rfl rfl (ex_neq hf rfl rfl) (fun a hf => ?_)
                                    refine stq hf rfl rfl rfl (ex_pickF hf rfl rfl) (fun a hf => ?_)
                                    refine stq hf rfl rfl rfl (ex_move hf rfl) (fun a hf => ?_)
                                    replace hf := hf.castB (t := 172) rfl (ndec_f hc171)
                                    replace hf := hf.castB (t := 173) rfl (ndec_f hc171)
                                    replace hf := hf.castB (t := 174) rfl (ndec_f hc171)
                                    refine stq hf rfl rfl rfl (ex_move hf rfl) (fun a hf => ?_)
                                    refine stq hf rfl rfl rfl (ex_lenS Try.underlying35 (rsl_isSl (osl_rsl _ (hs.get (i := 2) rfl))) hf rfl) (fun a hf => ?_)
                                    refine stq hf rfl rfl rfl (ex_move hf rfl) (fun a hf => ?_)
                                    refine stq hf rfl rfl rfl (ex_neq hf rfl rfl) (fun a hf => ?_)
                                    refine stq hf rfl rfl rfl (ex_pickF hf rfl rfl) (fun a hf => ?_)
                                    refine hK172 _ _ ?_
                                    replace hs := hs.keep (.k (.k (.k (.k (.k (.k (.k (.k (.k (.k (.d (.d .nil))))))))))))
                                    replace hs := hs.pick (.k (.k (.c (.k (.k (.k (.k (.k (.k (.k .nil))))))))))
                                    replace hs := hs.pick (.k (.k (.k (.k (.k (.c (.k (.k (.k (.k .nil))))))))))
                                    replace hs := hs.pick (.k (.k (.k (.c (.k (.k (.k (.k (.k (.k .nil))))))))))
                                    replace hs := hs.pick (.k (.k (.k (.k (.k (.k (.k (.k (.k (.c .nil))))))))))
                                    replace hs := hs.pick (.k (.k (.k (.k (.k (.k (.k (.k (.k (.c .nil))))))))))
                                    replace hs := hs.pick (.k (.k (.k (.k (.k (.c (.k (.k (.k (.k .nil))))))))))
                                    replace hs := hs.pick (.k (.k (.k (.k (.k (.k (.k (.c (.k (.k .nil))))))))))
                                    replace hs := hs.pick (.k (.k (.k (.k (.k (.k (.k (.k (.k (.c .nil))))))))))
                                    replace hs := hs.pick (.k (.k (.k (.k (.k (.k (.k (.k (.k (.c .nil))))))))))
                                    replace hs := hs.pick (.k (.k (.k (.k (.k (.k (.k (.k (.k (.c .nil))))))))))
                                    have e168 := some_eq H; subst e168
                                    exact hJ168 _ _ ⟨hf.sub ⟨rfl, rfl, rfl, rfl, rfl, rfl, rfl, rfl, trivial⟩, hs⟩
                                  · -- not (s159.2.2.1.length : Int) = (s7.1.length : Int)
                                    refine region_k (fun K173 hK173 => ?_)
                                    refine stq hf rfl rfl rfl (ex_move hf rfl) (fun a hf => ?_)
                                    refine stq hf rfl rfl rfl (ex_neq hf rfl rfl) (fun a hf => ?_)
                                    refine stq hf rfl rfl rfl (ex_move hf rfl) (fun a hf => ?_)
                                    replace hf := hf.castB (t := 163) rfl (ndec_f hc169)
                                    replace hf := hf.castB (t := 164) rfl (ndec_f hc169)
                                    refine stq hf rfl rfl rfl (ex_move hf rfl) (fun a hf => ?_)
                                    refine stq hf rfl rfl rfl (ex_neq hf rfl rfl) (fun a hf => ?_)
                                    refine stq hf rfl rfl rfl (ex_pickF hf rfl rfl) (fun a hf => ?_)
                                    refine stq hf rfl rfl rfl (ex_move hf rfl) (fun a hf => ?_)
                                    replace hf := hf.castB (t := 166) rfl (ndec_f hc170)
                                    replace hf := hf.castB (t := 167) rfl (ndec_f hc170)
                                    replace hf := hf.castB (t := 168) rfl (ndec_f hc170)
                                    refine stq hf rfl rfl rfl (ex_move hf rfl) (fun a hf => ?_)
                                    refine stq hf rfl rfl rfl (ex_lenS Try.underlying35 (rsl_isSl (osl_rsl _ (hs.get (i := 5) rfl))) hf rfl) (fun a hf => ?_)
                                    refine stq hf rfl rfl rfl (ex_move hf rfl) (fun a hf => ?_)
                                    refine stq hf rfl rfl rfl (ex_neq hf rfl rfl) (fun a hf => ?_)
                                    refine stq hf rfl rfl rfl (ex_pickF hf rfl rfl) (fun a hf => ?_)
                                    refine stq hf rfl rfl rfl (ex_move hf rfl) (fun a hf => ?_)
                                    replace hf := hf.castB (t := 172) rfl (ndec_t hc171)
                                    replace hf := hf.castB (t := 173) rfl (ndec_t hc171)
                                    replace hf := hf.castB (t := 174) rfl (ndec_t hc171)
                                    refine stepN hf rfl rfl rfl (fun a hf => ?_)
                                    refine stepN hf rfl rfl rfl (fun a hf => ?_)
                                    refine stepN hf rfl rfl rfl (fun a hf => ?_)
                                    refine stepN hf rfl rfl rfl (fun a hf => ?_)
                                    refine stq hf rfl rfl rfl (ex_pickT hf rfl rfl) (fun a hf => ?_)
                                    refine hK173 _ _ ?_
                                    replace hs := hs.keep (.k (.k (.k (.k (.k (.k (.k (.k (.k (.k (.d (.d .nil))))))))))))
                                    replace hs := hs.pick (.k (.k (.c (.k (.k (.k (.k (.k (.k (.k .nil))))))))))
                                    replace hs := hs.pick (.k (.k (.k (.k (.k (.c (.k (.k (.k (.k .nil))))))))))
                                    replace hs := hs.pick (.k (.k (.k (.c (.k (.k (.k (.k (.k (.k .nil))))))))))
                                    replace hs := hs.pick (.k (.k (.k (.k (.k (.k (.k (.k (.k (.c .nil))))))))))
                                    replace hs := hs.pick (.k (.k (.k (.k (.k (.k (.k (.k (.k (.c .nil))))))))))
                                    replace hs := hs.pick (.k (.k (.k (.k (.k (.c (.k (.k (.k (.k .nil))))))))))
                                    replace hs := hs.pick (.k (.k (.k (.k (.k (.k (.k (.c (.k (.k .nil))))))))))
                                    replace hs := hs.pick (.k (.k (.k (.k (.k (.k (.k (.k (.k (.c .nil))))))))))
                                    replace hs := hs.pick (.k (.k (.k (.k (.k (.k (.k (.k (.k (.c .nil))))))))))
                                    replace hs := hs.pick (.k (.k (.k (.k (.k (.k (.k (.k (.k (.c .nil))))))))))
                                    have e168 := some_eq H; subst e168
                                    exact hJ168 _ _ ⟨hf.sub ⟨rfl, rfl, rfl, rfl, rfl, rfl, rfl, rfl, trivial⟩, hs⟩
                                · -- not s163.2.2.2 = 0
                                  refine region_k (fun K174 hK174 => ?_)
                                  refine stq hf rfl rfl rfl (ex_move hf rfl) (fun a hf => ?_)
                                  refine stq hf rfl rfl rfl (ex_neq hf rfl rfl) (fun a hf => ?_)
                                  refine stq hf rfl rfl rfl (ex_move hf rfl) (fun a hf => ?_)
                                  replace hf := hf.castB (t := 163) rfl (ndec_f hc169)
                                  replace hf := hf.castB (t := 164) rfl (ndec_f hc169)
                                  refine stq hf rfl rfl rfl (ex_move hf rfl) (fun a hf => ?_)
                                  refine stq hf rfl rfl rfl (ex_neq hf rfl rfl) (fun a hf => ?_)
                                  refine stq hf rfl rfl rfl (ex_pickF hf rfl rfl) (fun a hf => ?_)
                                  refine stq hf rfl rfl rfl (ex_move hf rfl) (fun a hf => ?_)
                                  replace hf := hf.castB (t := 166) rfl (ndec_t hc170)
                                  replace hf := hf.castB (t := 167) rfl (ndec_t hc170)
                                  replace hf := hf.castB (t := 168) rfl (ndec_t hc170)
                                  refine stepN hf rfl rfl rfl (fun a hf => ?_)
                                  refine stepN hf rfl rfl rfl (fun a hf => ?_)
                                  refine stepN hf rfl rfl rfl (fun a hf => ?_)
                                  refine stepN hf rfl rfl rfl (fun a hf => ?_)
                                  refine stq hf rfl rfl rfl (ex_pickT hf rfl rfl) (fun a hf => ?_)
                                  refine stq hf rfl rfl rfl (ex_move hf rfl) (fun a hf => ?_)
                                  refine stepN hf rfl rfl rfl (fun a hf => ?_)
                                  refine stepN hf rfl rfl rfl (fun a hf => ?_)
                                  refine stepN hf rfl rfl rfl (fun a hf => ?_)
                                  refine stepN hf rfl rfl rfl (fun a hf => ?_)
                                  refine stq hf rfl rfl rfl (ex_pickT hf rfl rfl) (fun a hf => ?_)
                                  refine hK174 _ _ ?_
                                  replace hs := hs.keep (.k (.k (.k (.k (.k (.k (.k (.k (.k (.k (.d (.d .nil))))))))))))
                                  replace hs := hs.pick (.k (.k (.c (.k (.k (.k (.k (.k (.k (.k .nil))))))))))
                                  replace hs := hs.pick (.k (.k (.k (.k (.k (.c (.k (.k (.k (.k .nil))))))))))
                                  replace hs := hs.pick (.k (.k (.k (.c (.k (.k (.k (.k (.k (.k .nil))))))))))
                                  replace hs := hs.pick (.k (.k (.k (.k (.k (.k (.k (.k (.k (.c .nil))))))))))
                                  replace hs := hs.pick (.k (.k (.k (.k (.k (.k (.k (.k (.k (.c .nil))))))))))
                                  replace hs := hs.pick (.k (.k (.k (.k (.k (.c (.k (.k (.k (.k .nil))))))))))
                                  replace hs := hs.pick (.k (.k (.k (.k (.k (.k (.k (.c (.k (.k .nil))))))))))
                                  replace hs := hs.pick (.k (.k (.k (.k (.k (.k (.k (.k (.k (.c .nil))))))))))
                                  replace hs := hs.pick (.k (.k (.k (.k (.k (.k (.k (.k (.k (.c .nil))))))))))
                                  replace hs := hs.pick (.k (.k (.k (.k (.k (.k (.k (.k (.k (.c .nil))))))))))
                                  have e168 := some_eq H; subst e168
                                  exact hJ168 _ _ ⟨hf.sub ⟨rfl, rfl, rfl, rfl, rfl, rfl, rfl, rfl, trivial⟩, hs⟩
                              · -- not s159.2.2.2 = 0
                                refine region_k (fun K175 hK175 => ?_)
                                refine stq hf rfl rfl rfl (ex_move hf rfl) (fun a hf => ?_)
                                refine stq hf rfl rfl rfl (ex_neq hf rfl rfl) (fun a hf => ?_)
                                refine stq hf rfl rfl rfl (ex_move hf rfl) (fun a hf => ?_)
                                replace hf := hf.castB (t := 163) rfl (ndec_t hc169)
                                replace hf := hf.castB (t := 164) rfl (ndec_t hc169)
                                refine stepN hf rfl rfl rfl (fun a hf => ?_)
                                refine stepN hf rfl rfl rfl (fun a hf => ?_)
                                refine stq hf rfl rfl rfl (ex_pickT hf rfl rfl) (fun a hf => ?_)
                                refine stq hf rfl rfl rfl (ex_move hf rfl) (fun a hf => ?_)
                                refine stepN hf rfl rfl rfl (fun a hf => ?_)
                                refine stepN hf rfl rfl rfl (fun a hf => ?_)
                                refine stepN hf rfl rfl rfl (fun a hf => ?_)
                                refine stepN hf rfl rfl rfl (fun a hf => ?_)
                                refine stq hf rfl rfl rfl (ex_pickT hf rfl rfl) (fun a hf => ?_)
                                refine stq hf rfl rfl rfl (ex_move hf rfl) (fun a hf => ?_)
                                refine stepN hf rfl rfl rfl (fun a hf => ?_)
                                refine stepN hf rfl rfl rfl (fun a hf => ?_)
                                refine stepN hf rfl rfl rfl (fun a hf => ?_)
                                refine stepN hf rfl rfl rfl (fun a hf => ?_)
                                refine stq hf rfl rfl rfl (ex_pickT hf rfl rfl) (fun a hf => ?_)
                                refine hK175 _ _ ?_
                                replace hs := hs.keep (.k (.k (.k (.k (.k (.k (.k (.k (.k (.k (.d (.d .nil))))))))))))
                                replace hs := hs.pick (.k (.k (.c (.k (.k (.k (.k (.k (.k (.k .nil))))))))))
                                replace hs := hs.pick (.k (.k (.k (.k (.k (.c (.k (.k (.k (.k .nil))))))))))
                                replace hs := hs.pick (.k (.k (.k (.c (.k (.k (.k (.k (.k (.k .nil))))))))))
                                replace hs := hs.pick (.k (.k (.k (.k (.k (.k (.k (.k (.k (.c .nil))))))))))
                                replace hs := hs.pick (.k (.k (.k (.k (.k (.k (.k (.k (.k (.c .nil))))))))))
                                replace hs := hs.pick (.k (.k (.k (.k (.k (.c (.k (.k (.k (.k .nil))))))))))
                                replace hs := hs.pick (.k (.k (.k (.k (.k (.k (.k (.c (.k (.k .nil))))))))))
                                replace hs := hs.pick (.k (.k (.k (.k (.k (.k (.k (.k (.k (.c .nil))))))))))
                                replace hs := hs.pick (.k (.k (.k (.k (.k (.k (.k (.k (.k (.c .nil))))))))))
                                replace hs := hs.pick (.k (.k (.k (.k (.k (.k (.k (.k (.k (.c .nil))))))))))
                                have e168 := some_eq H; subst e168
                                exact hJ168 _ _ ⟨hf.sub ⟨rfl, rfl, rfl, rfl, rfl, rfl, rfl, rfl, trivial⟩, hs⟩
                            · obtain ⟨hf, hs⟩ := hJ
                              replace H := HO168
                              clear HO168
                              refine itt H (fun hc176 H => ?_) (fun hc176 H => ?_)
                              · -- x168 = true
                                replace hf := hf.castB (t := 179) rfl hc176
                                refine cond_T hf rfl ?_
                                refine seq_reg (fun K177 hK177 => ?_)
                                refine stq hf rfl rfl rfl (ex_assign hf rfl) (fun a hf => ?_)
                                refine hK177 _ _ ?_
                                refine wp_ret ?_
                                refine hR167 _ _ ?_
                                refine hR135 _ _ ?_
                                have e132 := some_eq H; subst e132; replace H := el_rt HO132
                                refine hR132 _ _ ?_
                                refine hR128 _ _ ?_
                                refine hR119 _ _ ?_
                                have e115 := some_eq H; subst e115; replace H := el_rt HO115
                                refine hR115 _ _ ?_
                                have eR := some_eq H; subst eR
                                replace hs := hs.keep (.d (.d (.d (.d (.d (.d (.d (.d (.d (.d .nil))))))))))
                                exact ret1 Try.results4 hf rfl ⟨_, rfl, ⟨rfl, hs⟩⟩
                              · -- not x168 = true
                                replace hf := hf.castB (t := 179) rfl (bool_f hc176)
                                refine cond_F hf rfl ?_
                                refine wp_skip ?_
                                refine hN167 _ _ ?_
                                refine seq_reg (fun K178 hK178 => ?_)
                                refine stq hf rfl rfl rfl (ex_assign hf rfl) (fun a hf => ?_)
                                refine hK178 _ _ ?_
                                refine block_k (fun Q179 hN179 hR179 hX179 hY179 => ?_)
                                refine loop_k (fun n a w => ∃ (y180 : Int), Fr a 217 [(3, v3), (10, .int .i64 (s7.1.length : Int)), (15, .pointer (some ⟨b84, 0, none⟩)), (17, .pointer (some ⟨b101, 0, none⟩)), (19, .int .i64 y126), (23, v161), (25, v165), (27, .int .i64 y180)] ∧ St M w0 w [bx b84 64 [v85, v86, .int .i64 c57.2.2.1, v160, .int .i64 s159.1], osl K_api_HeatDomain v85 c57.1, osl K_api_HeatLink v86 c57.2.1, osl K_int64 v160 s159.2.1, bx b101 64 [v102, v103, .int .i64 c91.2.2.1, v164, .int .i64 s163.1], osl K_api_HeatDomain v102 c91.1, osl K_api_HeatLink v103 c91.2.1, osl K_int64 v164 s163.2.1, osl K_int64 v161 s159.2.2.1, osl K_int64 v165 s163.2.2.1] ∧ law38_HeatRelabeling.l5 n s7 s159 s163 c57 c91 y180 = some x132) k128 ?_ (fun n182 a w hI Q182 hL182 hR182 hX182 => ?_)
                                · -- at the start
                                  exact ⟨0, hf.sub ⟨rfl, rfl, rfl, rfl, rfl, rfl, rfl, rfl, trivial⟩, hs, H⟩
                                · obtain ⟨y180, hf, hs, H⟩ := hI
                                  cases n182 with
                                  | zero => exact absurd H (by rw [law38_HeatRelabeling.l5.eq_1]; intro h; cases h)
                                  | succ k182 =>
                                    replace H := (law38_HeatRelabeling.l5.eq_2 ..).symm.trans H
                                    refine seq_n (fun Q183 hN183 hR183 hX183 => ?_)
                                    refine seq_reg (fun K184 hK184 => ?_)
                                    refine stq hf rfl rfl rfl (ex_move hf rfl) (fun a hf => ?_)
                                    refine stq hf rfl rfl rfl (ex_move hf rfl) (fun a hf => ?_)
                                    refine stq hf rfl rfl rfl (ex_lss hf rfl rfl) (fun a hf => ?_)
                                    refine hK184 _ _ ?_
                                    refine itt H (fun hc185 H => ?_) (fun hc185 H => ?_)
                                    · -- y180 < (s7.1.length : Int)
                                      replace hf := hf.castB (t := 182) rfl (dec_t hc185)
                                      refine cond_T hf rfl ?_
                                      refine wp_skip ?_
                                      refine hN183 _ _ ?_
                                      refine seq_n (fun Q186 hN186 hR186 hX186 => ?_)
                                      refine block_k (fun Q187 hN187 hR187 hX187 hY187 => ?_)
                                      refine bnd H (fun x188 H188 HO188 => ?_)
                                      clear H
                                      refine seq_cut (fun a w => Fr a 217 [(3, v3), (10, .int .i64 (s7.1.length : Int)), (15, .pointer (some ⟨b84, 0, none⟩)), (17, .pointer (some ⟨b101, 0, none⟩)), (19, .int .i64 y126), (23, v161), (25, v165), (27, .int .i64 y180), (208, .bool x188)] ∧ St M w0 w [bx b84 64 [v85, v86, .int .i64 c57.2.2.1, v160, .int .i64 s159.1], osl K_api_HeatDomain v85 c57.1, osl K_api_HeatLink v86 c57.2.1, osl K_int64 v160 s159.2.1, bx b101 64 [v102, v103, .int .i64 c91.2.2.1, v164, .int .i64 s163.1], osl K_api_HeatDomain v102 c91.1, osl K_api_HeatLink v103 c91.2.1, osl K_int64 v164 s163.2.1, osl K_int64 v161 s159.2.2.1, osl K_int64 v165 s163.2.2.1]) (fun Q188 hJ188 hR188 hX188 => ?_) (fun a w hJ => ?_)
                                      · replace H := H188
                                        refine ck_some H (fun hc189 H => ?_)
                                        refine ck_some H (fun hc190 H => ?_)
                                        refine itt H (fun hc191 H => ?_) (fun hc191 H => ?_)
                                        · -- (gd 0 s159.2.2.1 y180) = (gd 0 s163.2.2.1 (IntKind.i64.wrap 
                                          refine bnd H (fun s192 hs192 H => ?_)
                                          refine bnd H (fun s193 hs193 H => ?_)
                                          refine region_d fol 24 [(3, v3), (10, .int .i64 (s7.1.length : Int)), (15, .pointer (some ⟨b84, 0, none⟩)), (17, .pointer (some ⟨b101, 0, none⟩)), (19, .int .i64 y126), (23, v161), (25, v165), (27, .int .i64 y180)] [(0, v161), (1, .int .i64 y180), (2, .pointer (some (sla v161 (y180.toNat * 1)))), (3, .int .i64 (gd 0 s159.2.2.1 y180)), (4, v165), (5, .int .i64 (s7.1.length : Int)), (6, .int .i64 (IntKind.i64.wrap ((s7.1.length : Int) - 1))), (7, .int .i64 y180), (8, .int .i64 (IntKind.i64.wrap ((IntKind.i64.wrap ((s7.1.length : Int) - 1)) - y180))), (9, .pointer (some (sla v165 ((IntKind.i64.wrap ((IntKind.i64.wrap ((s7.1.length : Int) - 1)) - y180)).toNat * 1)))), (10, .int .i64 (gd 0 s163.2.2.1 (IntKind.i64.wrap ((IntKind.i64.wrap ((s7.1.length : Int) - 1)) - y180)))), (11, .bool false), (12, .bool false), (13, .pointer (some ⟨b84, 0, none⟩)), (14, .int .i64 y180), (16, .pointer (some ⟨b101, 0, none⟩)), (17, .int .i64 (s7.1.length : Int)), (18, .int .i64 (IntKind.i64.wrap ((s7.1.length : Int) - 1))), (19, .int .i64 y180), (20, .int .i64 (IntKind.i64.wrap ((IntKind.i64.wrap ((s7.1.length : Int) - 1)) - y180)))] [15, 21] (fun w => (osl K_int64 v161 s159.2.2.1).ok w ∧ (osl K_int64 v165 s163.2.2.1).ok w ∧ True) (fun w => St M w0 w [bx b84 64 [v85, v86, .int .i64 c57.2.2.1, v160, .int .i64 s159.1], osl K_api_HeatDomain v85 c57.1, osl K_api_HeatLink v86 c57.2.1, osl K_int64 v160 s159.2.1, bx b101 64 [v102, v103, .int .i64 c91.2.2.1, v164, .int .i64 s163.1], osl K_api_HeatDomain v102 c91.1, osl K_api_HeatLink v103 c91.2.1, osl K_int64 v164 s163.2.1, osl K_int64 v161 s159.2.2.1, osl K_int64 v165 s163.2.2.1]) hf ⟨rfl, rfl, rfl, rfl, rfl, rfl, rfl, rfl, trivial⟩ (by kernel_rfl) (by kernel_rfl) rfl (by decide) ⟨hs.drew.get (i := 8) rfl, hs.drew.get (i := 9) rfl, trivial⟩ hs.drew (.cons (⟨_, _, rfl, rfl, rfl, rfl, fun a w hR hf => .inl ⟨wanted_yes hf rfl, ex_move hf rfl⟩⟩) (.cons (⟨_, _, rfl, rfl, rfl, rfl, fun a w hR hf => .inl ⟨wanted_yes hf rfl, ex_move hf rfl⟩⟩) (.cons (⟨_, _, rfl, rfl, rfl, rfl, fun a w hR hf => .inl ⟨wanted_yes hf rfl, ex_indexAddr sa_35 (rsl_isSl (osl_rsl _ hR.1)) hc189.1 hc189.2 hf rfl rfl⟩⟩) (.cons (⟨_, _, rfl, rfl, rfl, rfl, fun a w hR hf => .inl ⟨wanted_yes hf rfl, ex_load sc_2 hf rfl (el_cell (K := K_int64) (f := 0) (rsl_rd (osl_rsl _ hR.1)) hc189.1 hc189.2 rfl)⟩⟩) (.cons (⟨_, _, rfl, rfl, rfl, rfl, fun a w hR hf => .inl ⟨wanted_yes hf rfl, ex_move hf rfl⟩⟩) (.cons (⟨_, _, rfl, rfl, rfl, rfl, fun a w hR hf => .inl ⟨wanted_yes hf rfl, ex_move hf rfl⟩⟩) (.cons (⟨_, _, rfl, rfl, rfl, rfl, fun a w hR hf => .inl ⟨wanted_yes hf rfl, ex_sub hf rfl rfl⟩⟩) (.cons (⟨_, _, rfl, rfl, rfl, rfl, fun a w hR hf => .inl ⟨wanted_yes hf rfl, ex_move hf rfl⟩⟩) (.cons (⟨_, _, rfl, rfl, rfl, rfl, fun a w hR hf => .inl ⟨wanted_yes hf rfl, ex_sub hf rfl rfl⟩⟩) (.cons (⟨_, _, rfl, rfl, rfl, rfl, fun a w hR hf => .inl ⟨wanted_yes hf rfl, ex_indexAddr sa_35 (rsl_isSl (osl_rsl _ hR.2.1)) hc190.1 hc190.2 hf rfl rfl⟩⟩) (.cons (⟨_, _, rfl, rfl, rfl, rfl, fun a w hR hf => .inl ⟨wanted_yes hf rfl, ex_load sc_2 hf rfl (el_cell (K := K_int64) (f := 0) (rsl_rd (osl_rsl _ hR.2.1)) hc190.1 hc190.2 rfl)⟩⟩) (.cons (⟨_, _, rfl, rfl, rfl, rfl, fun a w hR hf => .inl ⟨wanted_yes hf rfl, ex_castB (ex_neq hf rfl rfl) (ndec_f hc191)⟩⟩) (.cons (⟨_, _, rfl, rfl, rfl, rfl, fun a w hR hf => .inl ⟨wanted_yes hf rfl, ex_move hf rfl⟩⟩) (.cons (⟨_, _, rfl, rfl, rfl, rfl, fun a w hR hf => .inl ⟨wanted_yes hf rfl, ex_move hf rfl⟩⟩) (.cons (⟨_, _, rfl, rfl, rfl, rfl, fun a w hR hf => .inl ⟨wanted_yes hf rfl, ex_move hf rfl⟩⟩) (.cons (⟨_, _, rfl, rfl, rfl, rfl, fun a w hR hf => .inl ⟨wanted_yes hf rfl, ex_move hf rfl⟩⟩) (.cons (⟨_, _, rfl, rfl, rfl, rfl, fun a w hR hf => .inl ⟨wanted_yes hf rfl, ex_move hf rfl⟩⟩) (.cons (⟨_, _, rfl, rfl, rfl, rfl, fun a w hR hf => .inl ⟨wanted_yes hf rfl, ex_sub hf rfl rfl⟩⟩) (.cons (⟨_, _, rfl, rfl, rfl, rfl, fun a w hR hf => .inl ⟨wanted_yes hf rfl, ex_move hf rfl⟩⟩) (.cons (⟨_, _, rfl, rfl, rfl, rfl, fun a w hR hf => .inl ⟨wanted_yes hf rfl, ex_sub hf rfl rfl⟩⟩) (.nil))))))))))))))))))))) (fun K194 hK194 => ?_)
                                          refine RW.one 15 (by kernel_rfl) (by kernel_rfl) rfl (fun d hd => by cases hd; rfl) [(197, .bool false), (198, .pointer (some ⟨b84, 0, none⟩)), (199, .int .i64 y180)] ⟨rfl, rfl, rfl, trivial⟩ (fun a w hR hs hf => ⟨wanted_yes hf rfl, ?_⟩)
                                          refine estep_f (ex_call cf_17 hf rfl) (heat_Model_Energy.calls k182 c57.1 c57.2.1 c57.2.2.1 s159.2.1 s159.1 y180 b84 v85 v86 v160 (hs.enter (.k (.k (.k (.k (.k (.k (.k (.k (.k (.k .nil))))))))))) (Sr.own hs (.k (.k (.k (.k (.k (.k (.k (.k (.k (.k .nil)))))))))) (i := 0) rfl (fun _ h => h) (fun _ h => h) (Sr.own hs (.k (.k (.k (.k (.k (.k (.k (.k (.k (.k .nil)))))))))) (i := 1) rfl osl_rsl (fun _ h => h.1) (Sr.own hs (.k (.k (.k (.k (.k (.k (.k (.k (.k (.k .nil)))))))))) (i := 2) rfl osl_rsl (fun _ h => h.1) (Sr.own hs (.k (.k (.k (.k (.k (.k (.k (.k (.k (.k .nil)))))))))) (i := 3) rfl osl_rsl (fun _ h => h.1) (Sr.nil _ _))))) hs192) (fun v w hR => ?_)
                                          obtain ⟨rfl, hs'⟩ := hR
                                          replace hs := hs.step (.k (.k (.k (.k (.k (.k (.k (.k (.k (.k .nil)))))))))) hs'
                                          clear hs'
                                          refine ⟨[], [(15, .int .i64 s192), (0, v161), (1, .int .i64 y180), (2, .pointer (some (sla v161 (y180.toNat * 1)))), (3, .int .i64 (gd 0 s159.2.2.1 y180)), (4, v165), (5, .int .i64 (s7.1.length : Int)), (6, .int .i64 (IntKind.i64.wrap ((s7.1.length : Int) - 1))), (7, .int .i64 y180), (8, .int .i64 (IntKind.i64.wrap ((IntKind.i64.wrap ((s7.1.length : Int) - 1)) - y180))), (9, .pointer (some (sla v165 ((IntKind.i64.wrap ((IntKind.i64.wrap ((s7.1.length : Int) - 1)) - y180)).toNat * 1)))), (10, .int .i64 (gd 0 s163.2.2.1 (IntKind.i64.wrap ((IntKind.i64.wrap ((s7.1.length : Int) - 1)) - y180)))), (11, .bool false), (12, .bool false), (13, .pointer (some ⟨b84, 0, none⟩)), (14, .int .i64 y180), (16, .pointer (some ⟨b101, 0, none⟩)), (17, .int .i64 (s7.1.length : Int)), (18, .int .i64 (IntKind.i64.wrap ((s7.1.length : Int) - 1))), (19, .int .i64 y180), (20, .int .i64 (IntKind.i64.wrap ((IntKind.i64.wrap ((s7.1.length : Int) - 1)) - y180)))], [21], (fun _ => True), (fun w => St M w0 w [bx b84 64 [v85, v86, .int .i64 c57.2.2.1, v160, .int .i64 s159.1], osl K_api_HeatDomain v85 c57.1, osl K_api_HeatLink v86 c57.2.1, osl K_int64 v160 s159.2.1, bx b101 64 [v102, v103, .int .i64 c91.2.2.1, v164, .int .i64 s163.1], osl K_api_HeatDomain v102 c91.1, osl K_api_HeatLink v103 c91.2.1, osl K_int64 v164 s163.2.1, osl K_int64 v161 s159.2.2.1, osl K_int64 v165 s163.2.2.1]), rfl, rfl, ⟨hs.get (i := 8) rfl, hs.get (i := 9) rfl, trivial⟩, trivial, hs, (by kernel_rfl), .nil, ?_⟩
                                          refine RW.one 21 (by kernel_rfl) (by kernel_rfl) rfl (fun d hd => by cases hd; rfl) [(197, .bool false), (201, .pointer (some ⟨b101, 0, none⟩)), (205, .int .i64 (IntKind.i64.wrap ((IntKind.i64.wrap ((s7.1.length : Int) - 1)) - y180)))] ⟨rfl, rfl, rfl, trivial⟩ (fun a w hR hs hf => ⟨wanted_yes hf rfl, ?_⟩)
                                          refine estep_f (ex_call cf_17 hf rfl) (heat_Model_Energy.calls k182 c91.1 c91.2.1 c91.2.2.1 s163.2.1 s163.1 (IntKind.i64.wrap ((IntKind.i64.wrap ((s7.1.length : Int) - 1)) - y180)) b101 v102 v103 v164 (hs.enter (.k (.k (.k (.k (.k (.k (.k (.k (.k (.k .nil))))))))))) (Sr.own hs (.k (.k (.k (.k (.k (.k (.k (.k (.k (.k .nil)))))))))) (i := 4) rfl (fun _ h => h) (fun _ h => h) (Sr.own hs (.k (.k (.k (.k (.k (.k (.k (.k (.k (.k .nil)))))))))) (i := 5) rfl osl_rsl (fun _ h => h.1) (Sr.own hs (.k (.k (.k (.k (.k (.k (.k (.k (.k (.k .nil)))))))))) (i := 6) rfl osl_rsl (fun _ h => h.1) (Sr.own hs (.k (.k (.k (.k (.k (.k (.k (.k (.k (.k .nil)))))))))) (i := 7) rfl osl_rsl (fun _ h => h.1) (Sr.nil _ _))))) hs193) (fun v w hR => ?_)
                                          obtain ⟨rfl, hs'⟩ := hR
                                          replace hs := hs.step (.k (.k (.k (.k (.k (.k (.k (.k (.k (.k .nil)))))))))) hs'
                                          clear hs'
                                          refine ⟨[(22, .bool (!decide (s192 = s193))), (23, .bool (!decide (s192 = s193)))], [(22, .bool (!decide (s192 = s193))), (23, .bool (!decide (s192 = s193))), (21, .int .i64 s193), (15, .int .i64 s192), (0, v161), (1, .int .i64 y180), (2, .pointer (some (sla v161 (y180.toNat * 1)))), (3, .int .i64 (gd 0 s159.2.2.1 y180)), (4, v165), (5, .int .i64 (s7.1.length : Int)), (6, .int .i64 (IntKind.i64.wrap ((s7.1.length : Int) - 1))), (7, .int .i64 y180), (8, .int .i64 (IntKind.i64.wrap ((IntKind.i64.wrap ((s7.1.length : Int) - 1)) - y180))), (9, .pointer (some (sla v165 ((IntKind.i64.wrap ((IntKind.i64.wrap ((s7.1.length : Int) - 1)) - y180)).toNat * 1)))), (10, .int .i64 (gd 0 s163.2.2.1 (IntKind.i64.wrap ((IntKind.i64.wrap ((s7.1.length : Int) - 1)) - y180)))), (11, .bool false), (12, .bool false), (13, .pointer (some ⟨b84, 0, none⟩)), (14, .int .i64 y180), (16, .pointer (some ⟨b101, 0, none⟩)), (17, .int .i64 (s7.1.length : Int)), (18, .int .i64 (IntKind.i64.wrap ((s7.1.length : Int) - 1))), (19, .int .i64 y180), (20, .int .i64 (IntKind.i64.wrap ((IntKind.i64.wrap ((s7.1.length : Int) - 1)) - y180)))], [], (fun _ => True), (fun w => St M w0 w [bx b84 64 [v85, v86, .int .i64 c57.2.2.1, v160, .int .i64 s159.1], osl K_api_HeatDomain v85 c57.1, osl K_api_HeatLink v86 c57.2.1, osl K_int64 v160 s159.2.1, bx b101 64 [v102, v103, .int .i64 c91.2.2.1, v164, .int .i64 s163.1], osl K_api_HeatDomain v102 c91.1, osl K_api_HeatLink v103 c91.2.1, osl K_int64 v164 s163.2.1, osl K_int64 v161 s159.2.2.1, osl K_int64 v165 s163.2.2.1]), rfl, rfl, ⟨⟨hs.get (i := 8) rfl, hs.get (i := 9) rfl, trivial⟩, trivial⟩, trivial, hs, (by kernel_rfl), .cons (⟨_, _, rfl, rfl, rfl, rfl, fun a w hR hf => .inl ⟨wanted_yes hf rfl, ex_neq hf rfl rfl⟩⟩) (.cons (⟨_, _, rfl, rfl, rfl, rfl, fun a w hR hf => .inl ⟨wanted_yes hf rfl, ex_pickF hf rfl rfl⟩⟩) (.nil)), ?_⟩
                                          refine RW.zero (by kernel_rfl) (by kernel_rfl) [(3, v3), (10, .int .i64 (s7.1.length : Int)), (15, .pointer (some ⟨b84, 0, none⟩)), (17, .pointer (some ⟨b101, 0, none⟩)), (19, .int .i64 y126), (23, v161), (25, v165), (27, .int .i64 y180), (208, .bool (!decide (s192 = s193)))] ⟨rfl, rfl, rfl, rfl, rfl, rfl, rfl, rfl, rfl, trivial⟩ (fun a w hR hs hf => ?_)
                                          refine hK194 _ _ ?_
                                          have e188 := some_eq H; subst e188
                                          exact hJ188 _ _ ⟨hf.sub ⟨rfl, rfl, rfl, rfl, rfl, rfl, rfl, rfl, rfl, trivial⟩, hs⟩
                                        · -- not (gd 0 s159.2.2.1 y180) = (gd 0 s163.2.2.1 (IntKind.i64.wrap 
                                          refine region_d fol 24 [(3, v3), (10, .int .i64 (s7.1.length : Int)), (15, .pointer (some ⟨b84, 0, none⟩)), (17, .pointer (some ⟨b101, 0, none⟩)), (19, .int .i64 y126), (23, v161), (25, v165), (27, .int .i64 y180)] [(0, v161), (1, .int .i64 y180), (2, .pointer (some (sla v161 (y180.toNat * 1)))), (3, .int .i64 (gd 0 s159.2.2.1 y180)), (4, v165), (5, .int .i64 (s7.1.length : Int)), (6, .int .i64 (IntKind.i64.wrap ((s7.1.length : Int) - 1))), (7, .int .i64 y180), (8, .int .i64 (IntKind.i64.wrap ((IntKind.i64.wrap ((s7.1.length : Int) - 1)) - y180))), (9, .pointer (some (sla v165 ((IntKind.i64.wrap ((IntKind.i64.wrap ((s7.1.length : Int) - 1)) - y180)).toNat * 1)))), (10, .int .i64 (gd 0 s163.2.2.1 (IntKind.i64.wrap ((IntKind.i64.wrap ((s7.1.length : Int) - 1)) - y180)))), (11, .bool true), (12, .bool true), (13, undef), (14, undef), (15, undef), (16, undef), (17, undef), (18, undef), (19, undef), (20, undef), (21, undef), (22, undef), (23, .bool true)] [] (fun w => (osl K_int64 v161 s159.2.2.1).ok w ∧ (osl K_int64 v165 s163.2.2.1).ok w ∧ True) (fun w => St M w0 w [bx b84 64 [v85, v86, .int .i64 c57.2.2.1, v160, .int .i64 s159.1], osl K_api_HeatDomain v85 c57.1, osl K_api_HeatLink v86 c57.2.1, osl K_int64 v160 s159.2.1, bx b101 64 [v102, v103, .int .i64 c91.2.2.1, v164, .int .i64 s163.1], osl K_api_HeatDomain v102 c91.1, osl K_api_HeatLink v103 c91.2.1, osl K_int64 v164 s163.2.1, osl K_int64 v161 s159.2.2.1, osl K_int64 v165 s163.2.2.1]) hf ⟨rfl, rfl, rfl, rfl, rfl, rfl, rfl, rfl, trivial⟩ (by kernel_rfl) (by kernel_rfl) rfl (by decide) ⟨hs.drew.get (i := 8) rfl, hs.drew.get (i := 9) rfl, trivial⟩ hs.drew (.cons (⟨_, _, rfl, rfl, rfl, rfl, fun a w hR hf => .inl ⟨wanted_yes hf rfl, ex_move hf rfl⟩⟩) (.cons (⟨_, _, rfl, rfl, rfl, rfl, fun a w hR hf => .inl ⟨wanted_yes hf rfl, ex_move hf rfl⟩⟩) (.cons (⟨_, _, rfl, rfl, rfl, rfl, fun a w hR hf => .inl ⟨wanted_yes hf rfl, ex_indexAddr sa_35 (rsl_isSl (osl_rsl _ hR.1)) hc189.1 hc189.2 hf rfl rfl⟩⟩) (.cons (⟨_, _, rfl, rfl, rfl, rfl, fun a w hR hf => .inl ⟨wanted_yes hf rfl, ex_load sc_2 hf rfl (el_cell (K := K_int64) (f := 0) (rsl_rd (osl_rsl _ hR.1)) hc189.1 hc189.2 rfl)⟩⟩) (.cons (⟨_, _, rfl, rfl, rfl, rfl, fun a w hR hf => .inl ⟨wanted_yes hf rfl, ex_move hf rfl⟩⟩) (.cons (⟨_, _, rfl, rfl, rfl, rfl, fun a w hR hf => .inl ⟨wanted_yes hf rfl, ex_move hf rfl⟩⟩) (.cons (⟨_, _, rfl, rfl, rfl, rfl, fun a w hR hf => .inl ⟨wanted_yes hf rfl, ex_sub hf rfl rfl⟩⟩) (.cons (⟨_, _, rfl, rfl, rfl, rfl, fun a w hR hf => .inl ⟨wanted_yes hf rfl, ex_move hf rfl⟩⟩) (.cons (⟨_, _, rfl, rfl, rfl, rfl, fun a w hR hf => .inl ⟨wanted_yes hf rfl, ex_sub hf rfl rfl⟩⟩) (.cons (⟨_, _, rfl, rfl, rfl, rfl, fun a w hR hf => .inl ⟨wanted_yes hf rfl, ex_indexAddr sa_35 (rsl_isSl (osl_rsl _ hR.2.1)) hc190.1 hc190.2 hf rfl rfl⟩⟩) (.cons (⟨_, _, rfl, rfl, rfl, rfl, fun a w hR hf => .inl ⟨wanted_yes hf rfl, ex_load sc_2 hf rfl (el_cell (K := K_int64) (f := 0) (rsl_rd (osl_rsl _ hR.2.1)) hc190.1 hc190.2 rfl)⟩⟩) (.cons (⟨_, _, rfl, rfl, rfl, rfl, fun a w hR hf => .inl ⟨wanted_yes hf rfl, ex_castB (ex_neq hf rfl rfl) (ndec_t hc191)⟩⟩) (.cons (⟨_, _, rfl, rfl, rfl, rfl, fun a w hR hf => .inl ⟨wanted_yes hf rfl, ex_move hf rfl⟩⟩) (.cons (⟨_, _, rfl, rfl, rfl, rfl, fun a w hR hf => .inr ⟨wanted_no hf rfl, rfl⟩⟩) (.cons (⟨_, _, rfl, rfl, rfl, rfl, fun a w hR hf => .inr ⟨wanted_no hf rfl, rfl⟩⟩) (.cons (⟨_, _, rfl, rfl, rfl, rfl, fun a w hR hf => .inr ⟨wanted_no hf rfl, rfl⟩⟩) (.cons (⟨_, _, rfl, rfl, rfl, rfl, fun a w hR hf => .inr ⟨wanted_no hf rfl, rfl⟩⟩) (.cons (⟨_, _, rfl, rfl, rfl, rfl, fun a w hR hf => .inr ⟨wanted_no hf rfl, rfl⟩⟩) (.cons (⟨_, _, rfl, rfl, rfl, rfl, fun a w hR hf => .inr ⟨wanted_no hf rfl, rfl⟩⟩) (.cons (⟨_, _, rfl, rfl, rfl, rfl, fun a w hR hf => .inr ⟨wanted_no hf rfl, rfl⟩⟩) (.cons (⟨_, _, rfl, rfl, rfl, rfl, fun a w hR hf => .inr ⟨wanted_no hf rfl, rfl⟩⟩) (.cons (⟨_, _, rfl, rfl, rfl, rfl, fun a w hR hf => .inr ⟨wanted_no hf rfl, rfl⟩⟩) (.cons (⟨_, _, rfl, rfl, rfl, rfl, fun a w hR hf => .inr ⟨wanted_no hf rfl, rfl⟩⟩) (.cons (⟨_, _, rfl, rfl, rfl, rfl, fun a w hR hf => .inl ⟨wanted_yes hf rfl, ex_pickT hf rfl rfl⟩⟩) (.nil))))))))))))))))))))))))) (fun K195 hK195 => ?_)
                                          refine RW.zero (by kernel_rfl) (by kernel_rfl) [(3, v3), (10, .int .i64 (s7.1.length : Int)), (15, .pointer (some ⟨b84, 0, none⟩)), (17, .pointer (some ⟨b101, 0, none⟩)), (19, .int .i64 y126), (23, v161), (25, v165), (27, .int .i64 y180), (208, .bool true)] ⟨rfl, rfl, rfl, rfl, rfl, rfl, rfl, rfl, rfl, trivial⟩ (fun a w hR hs hf => ?_)
                                          refine hK195 _ _ ?_
                                          have e188 := some_eq H; subst e188
                                          exact hJ188 _ _ ⟨hf.sub ⟨rfl, rfl, rfl, rfl, rfl, rfl, rfl, rfl, rfl, trivial⟩, hs⟩
                                      · obtain ⟨hf, hs⟩ := hJ
                                        replace H := HO188
                                        clear HO188
                                        refine itt H (fun hc196 H => ?_) (fun hc196 H => ?_)
                                        · -- x188 = true
                                          replace hf := hf.castB (t := 208) rfl hc196
                                          refine cond_T hf rfl ?_
                                          refine seq_reg (fun K197 hK197 => ?_)
                                          refine stq hf rfl rfl rfl (ex_assign hf rfl) (fun a hf => ?_)
                                          refine hK197 _ _ ?_
                                          refine wp_ret ?_
                                          refine hR187 _ _ ?_
                                          refine hR186 _ _ ?_
                                          refine hR182 _ _ ?_
                                          refine hR179 _ _ ?_
                                          refine hR135 _ _ ?_
                                          have e132 := some_eq H; subst e132; replace H := el_rt HO132
                                          refine hR132 _ _ ?_
                                          refine hR128 _ _ ?_
                                          refine hR119 _ _ ?_
                                          have e115 := some_eq H; subst e115; replace H := el_rt HO115
                                          refine hR115 _ _ ?_
                                          have eR := some_eq H; subst eR
                                          replace hs := hs.keep (.d (.d (.d (.d (.d (.d (.d (.d (.d (.d .nil))))))))))
                                          exact ret1 Try.results4 hf rfl ⟨_, rfl, ⟨rfl, hs⟩⟩
                                        · -- not x188 = true
                                          replace hf := hf.castB (t := 208) rfl (bool_f hc196)
                                          refine cond_F hf rfl ?_
                                          refine wp_skip ?_
                                          refine hN187 _ _ ?_
                                          refine hN186 _ _ ?_
                                          refine region_k (fun K198 hK198 => ?_)
                                          refine stq hf rfl rfl rfl (ex_move hf rfl) (fun a hf => ?_)
                                          refine stq hf rfl rfl rfl (ex_add hf rfl rfl) (fun a hf => ?_)
                                          refine stq hf rfl rfl rfl (ex_assign hf rfl) (fun a hf => ?_)
                                          refine hK198 _ _ ?_
                                          exact hL182 k182 _ _ (Nat.lt_succ_self _) ⟨(IntKind.i64.wrap (y180 + 1)), hf.sub ⟨rfl, rfl, rfl, rfl, rfl, rfl, rfl, rfl, trivial⟩, hs, H⟩
                                    · -- not y180 < (s7.1.length : Int)
                                      replace hf := hf.castB (t := 182) rfl (dec_f hc185)
                                      refine cond_F hf rfl ?_
                                      refine wp_exit ?_
                                      refine hX183 8 _ _ ?_
                                      refine hX182 8 _ _ ?_
                                      refine hX179 _ _ ?_
                                      refine hN135 _ _ ?_
                                      replace hs := hs.keep (.k (.k (.k (.k (.k (.k (.k (.k (.d (.d .nil))))))))))
                                      have e132 := some_eq H; subst e132
                                      exact hJ132 _ _ ⟨_, v160, v164, rfl, hf.sub ⟨rfl, rfl, rfl, rfl, rfl, trivial⟩, hs⟩
                        · obtain ⟨x132s, v133, v134, rfl, hf, hs⟩ := hJ
                          replace H := el_go HO132
                          clear HO132
                          refine region_k (fun K199 hK199 => ?_)
                          refine stq hf rfl rfl rfl (ex_move hf rfl) (fun a hf => ?_)
                          refine stq hf rfl rfl rfl (ex_add hf rfl rfl) (fun a hf => ?_)
                          refine stq hf rfl rfl rfl (ex_assign hf rfl) (fun a hf => ?_)
                          refine hK199 _ _ ?_
                          exact hL128 k128 _ _ (Nat.lt_succ_self _) ⟨x132s.1, x132s.2.1, x132s.2.2.1, x132s.2.2.2, (IntKind.i64.wrap (y126 + 1)), v133, v134, hf.sub ⟨rfl, rfl, rfl, rfl, rfl, trivial⟩, hs, H⟩
                      · -- not y126 < (a3.length : Int)
                        replace hf := hf.castB (t := 124) rfl (dec_f hc131)
                        refine cond_F hf rfl ?_
                        refine wp_exit ?_
                        refine hX129 4 _ _ ?_
                        refine hX128 4 _ _ ?_
                        refine hX119 _ _ ?_
                        have e115 := some_eq H; subst e115
                        exact hJ115 _ _ ⟨_, v120, v121, rfl, hf.sub ⟨rfl, rfl, trivial⟩, hs⟩
                · obtain ⟨x115s, v116, v117, rfl, hf, hs⟩ := hJ
                  replace H := el_go HO115
                  clear HO115
                  refine bnd H (fun s200 hs200 H => ?_)
                  refine bnd H (fun s201 hs201 H => ?_)
                  refine itt H (fun hc202 H => ?_) (fun hc202 H => ?_)
                  · -- s200 = s201
                    refine bnd H (fun s203 hs203 H => ?_)
                    refine seq_reg (fun K204 hK204 => ?_)
                    refine stq hf rfl rfl rfl (ex_move hf rfl) (fun a hf => ?_)
                    refine stepF hf rfl rfl rfl (ex_call cf_16 hf rfl) (heat_Model_Released.calls k c57.1 c57.2.1 c57.2.2.1 x115s.1 x115s.2.1 b84 v85 v86 v116 (hs.enter (.k (.k (.k (.k (.k (.k (.k (.k .nil))))))))) (Sr.own hs (.k (.k (.k (.k (.k (.k (.k (.k .nil)))))))) (i := 0) rfl (fun _ h => h) (fun _ h => h) (Sr.own hs (.k (.k (.k (.k (.k (.k (.k (.k .nil)))))))) (i := 1) rfl osl_rsl (fun _ h => h.1) (Sr.own hs (.k (.k (.k (.k (.k (.k (.k (.k .nil)))))))) (i := 2) rfl osl_rsl (fun _ h => h.1) (Sr.own hs (.k (.k (.k (.k (.k (.k (.k (.k .nil)))))))) (i := 3) rfl osl_rsl (fun _ h => h.1) (Sr.nil _ _))))) hs200) (fun v w hR a hf => ?_)
                    obtain ⟨rfl, hs'⟩ := hR
                    replace hs := hs.step (.k (.k (.k (.k (.k (.k (.k (.k .nil)))))))) hs'
                    clear hs'
                    refine stq hf rfl rfl rfl (ex_move hf rfl) (fun a hf => ?_)
                    refine stepF hf rfl rfl rfl (ex_call cf_16 hf rfl) (heat_Model_Released.calls k c91.1 c91.2.1 c91.2.2.1 x115s.2.2.1 x115s.2.2.2 b101 v102 v103 v117 (hs.enter (.k (.k (.k (.k (.k (.k (.k (.k .nil))))))))) (Sr.own hs (.k (.k (.k (.k (.k (.k (.k (.k .nil)))))))) (i := 4) rfl (fun _ h => h) (fun _ h => h) (Sr.own hs (.k (.k (.k (.k (.k (.k (.k (.k .nil)))))))) (i := 5) rfl osl_rsl (fun _ h => h.1) (Sr.own hs (.k (.k (.k (.k (.k (.k (.k (.k .nil)))))))) (i := 6) rfl osl_rsl (fun _ h => h.1) (Sr.own hs (.k (.k (.k (.k (.k (.k (.k (.k .nil)))))))) (i := 7) rfl osl_rsl (fun _ h => h.1) (Sr.nil _ _))))) hs201) (fun v w hR a hf => ?_)
                    obtain ⟨rfl, hs'⟩ := hR
                    replace hs := hs.step (.k (.k (.k (.k (.k (.k (.k (.k .nil)))))))) hs'
                    clear hs'
                    refine stq hf rfl rfl rfl (ex_eql hf rfl rfl) (fun a hf => ?_)
                    refine stq hf rfl rfl rfl (ex_move hf rfl) (fun a hf => ?_)
                    replace hf := hf.castB (t := 213) rfl (dec_t hc202)
                    replace hf := hf.castB (t := 214) rfl (dec_t hc202)
                    refine stepF hf rfl rfl rfl (ex_call cf_11 hf rfl) (law38_awake.calls k (hs.enter (.k (.k (.k (.k (.k (.k (.k (.k .nil))))))))) (Sr.nil _ _) hs203) (fun v w hR a hf => ?_)
                    obtain ⟨rfl, hs'⟩ := hR
                    replace hs := hs.step (.k (.k (.k (.k (.k (.k (.k (.k .nil)))))))) hs'
                    clear hs'
                    refine stq hf rfl rfl rfl (ex_pickT hf rfl rfl) (fun a hf => ?_)
                    refine stq hf rfl rfl rfl (ex_assign hf rfl) (fun a hf => ?_)
                    refine hK204 _ _ ?_
                    refine wp_ret ?_
                    have eR := some_eq H; subst eR
                    replace hs := hs.keep (.d (.d (.d (.d (.d (.d (.d (.d .nil))))))))
                    exact ret1 Try.results4 hf rfl ⟨_, rfl, ⟨rfl, hs⟩⟩
                  · -- not s200 = s201
                    refine seq_reg (fun K205 hK205 => ?_)
                    refine stq hf rfl rfl rfl (ex_move hf rfl) (fun a hf => ?_)
                    refine stepF hf rfl rfl rfl (ex_call cf_16 hf rfl) (heat_Model_Released.calls k c57.1 c57.2.1 c57.2.2.1 x115s.1 x115s.2.1 b84 v85 v86 v116 (hs.enter (.k (.k (.k (.k (.k (.k (.k (.k .nil))))))))) (Sr.own hs (.k (.k (.k (.k (.k (.k (.k (.k .nil)))))))) (i := 0) rfl (fun _ h => h) (fun _ h => h) (Sr.own hs (.k (.k (.k (.k (.k (.k (.k (.k .nil)))))))) (i := 1) rfl osl_rsl (fun _ h => h.1) (Sr.own hs (.k (.k (.k (.k (.k (.k (.k (.k .nil)))))))) (i := 2) rfl osl_rsl (fun _ h => h.1) (Sr.own hs (.k (.k (.k (.k (.k (.k (.k (.k .nil)))))))) (i := 3) rfl osl_rsl (fun _ h => h.1) (Sr.nil _ _))))) hs200) (fun v w hR a hf => ?_)
                    obtain ⟨rfl, hs'⟩ := hR
                    replace hs := hs.step (.k (.k (.k (.k (.k (.k (.k (.k .nil)))))))) hs'
                    clear hs'
                    refine stq hf rfl rfl rfl (ex_move hf rfl) (fun a hf => ?_)
                    refine stepF hf rfl rfl rfl (ex_call cf_16 hf rfl) (heat_Model_Released.calls k c91.1 c91.2.1 c91.2.2.1 x115s.2.2.1 x115s.2.2.2 b101 v102 v103 v117 (hs.enter (.k (.k (.k (.k (.k (.k (.k (.k .nil))))))))) (Sr.own hs (.k (.k (.k (.k (.k (.k (.k (.k .nil)))))))) (i := 4) rfl (fun _ h => h) (fun _ h => h) (Sr.own hs (.k (.k (.k (.k (.k (.k (.k (.k .nil)))))))) (i := 5) rfl osl_rsl (fun _ h => h.1) (Sr.own hs (.k (.k (.k (.k (.k (.k (.k (.k .nil)))))))) (i := 6) rfl osl_rsl (fun _ h => h.1) (Sr.own hs (.k (.k (.k (.k (.k (.k (.k (.k .nil)))))))) (i := 7) rfl osl_rsl (fun _ h => h.1) (Sr.nil _ _))))) hs201) (fun v w hR a hf => ?_)
                    obtain ⟨rfl, hs'⟩ := hR
                    replace hs := hs.step (.k (.k (.k (.k (.k (.k (.k (.k .nil)))))))) hs'
                    clear hs'
                    refine stq hf rfl rfl rfl (ex_eql hf rfl rfl) (fun a hf => ?_)
                    refine stq hf rfl rfl rfl (ex_move hf rfl) (fun a hf => ?_)
                    replace hf := hf.castB (t := 213) rfl (dec_f hc202)
                    replace hf := hf.castB (t := 214) rfl (dec_f hc202)
                    refine stepN hf rfl rfl rfl (fun a hf => ?_)
                    refine stq hf rfl rfl rfl (ex_pickF hf rfl rfl) (fun a hf => ?_)
                    refine stq hf rfl rfl rfl (ex_assign hf rfl) (fun a hf => ?_)
                    refine hK205 _ _ ?_
                    refine wp_ret ?_
                    have eR := some_eq H; subst eR
                    replace hs := hs.keep (.d (.d (.d (.d (.d (.d (.d (.d .nil))))))))
                    exact ret1 Try.results4 hf rfl ⟨_, rfl, ⟨rfl, hs⟩⟩

end Go.Proofs.Ytakaooegofiloaa.X
