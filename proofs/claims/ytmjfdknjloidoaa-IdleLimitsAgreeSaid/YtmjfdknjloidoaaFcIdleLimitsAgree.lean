/- Each function of the machine comes to what its pure function says. -/
import Derived.Test.YtmjfdknjloidoaaFc1
import Derived.Test.YtmjfdknjloidoaaFb
namespace Go.Proofs.Ytmjfdknjloidoaa.X
open Go Go.RowKit Go.Sx
set_option linter.unusedVariables false

set_option maxRecDepth 100000 in
theorem law37_IdleLimitsAgree.calls {M : Nat → Prop} {w0 : World} (k : Nat) (a0 : (List Request)) (v0 : Value) {r : Bool} (hs : St M w0 w0 []) (hr : Sr M w0 [rsl K_platformfwlaw37_Request v0 a0])
    (h : law37_IdleLimitsAgree.f k a0 = some r) : Calls Try.prog 9 #[v0] w0 fun e w => ∃ v, e = .returned v ∧ (.bool r = v ∧ St M w0 w []) := by
  have H := (law37_IdleLimitsAgree.f.eq_1 ..).symm.trans h
  clear h
  refine enter Try.func9 rfl Try.ntmps9 rfl (fun a hf => ?_)
  refine seq_reg (fun K1 hK1 => ?_)
  refine stq hf rfl rfl rfl (ex_assign hf rfl) (fun a hf => ?_)
  refine hK1 _ _ ?_
  refine seq_n (fun Q2 hN2 hR2 hX2 => ?_)
  refine seq_reg (fun K3 hK3 => ?_)
  refine stq hf rfl rfl rfl (ex_move hf rfl) (fun a hf => ?_)
  refine stq hf rfl rfl rfl (ex_lenS Try.underlying45 (rsl_isSl (hr.now hs (i := 0) rfl)) hf rfl) (fun a hf => ?_)
  refine stq hf rfl rfl rfl (ex_gtr hf rfl rfl) (fun a hf => ?_)
  refine hK3 _ _ ?_
  refine itt H (fun hc4 H => ?_) (fun hc4 H => ?_)
  · -- 60 < (a0.length : Int)
    replace hf := hf.castB (t := 12) rfl (dec_t hc4)
    refine cond_T hf rfl ?_
    refine bnd H (fun s5 hs5 H => ?_)
    refine seq_reg (fun K6 hK6 => ?_)
    refine stepF hf rfl rfl rfl (ex_call cf_13 hf rfl) (law37_awake.calls k (hs.enter .nil) (Sr.nil _ _) hs5) (fun v w hR a hf => ?_)
    obtain ⟨rfl, hs'⟩ := hR
    replace hs := hs.step .nil hs'
    clear hs'
    refine stq hf rfl rfl rfl (ex_assign hf rfl) (fun a hf => ?_)
    refine hK6 _ _ ?_
    refine wp_ret ?_
    refine hR2 _ _ ?_
    have eR := some_eq H; subst eR
    exact ret1 Try.results9 hf rfl ⟨_, rfl, ⟨rfl, hs⟩⟩
  · -- not 60 < (a0.length : Int)
    replace hf := hf.castB (t := 12) rfl (dec_f hc4)
    refine cond_F hf rfl ?_
    refine wp_skip ?_
    refine hN2 _ _ ?_
    refine bnd H (fun s7 hs7 H => ?_)
    refine bnd H (fun s10 hs10 H => ?_)
    refine seq_reg (fun K12 hK12 => ?_)
    refine stepF hf rfl rfl rfl (ex_call cf_22 hf rfl) (idle_NewLimits.calls k (hs.enter .nil) (Sr.nil _ _) hs7) (fun v w hR a hf => ?_)
    obtain ⟨b8, b9, rfl, hs'⟩ := hR
    replace hs := hs.step .nil hs'
    clear hs'
    refine stepF hf rfl rfl rfl (ex_call cf_25 hf rfl) (ref37_NewLimits.calls k (hs.enter (.k (.k .nil))) (Sr.nil _ _) hs10) (fun v w hR a hf => ?_)
    obtain ⟨b11, rfl, hs'⟩ := hR
    replace hs := hs.step (.k (.k .nil)) hs'
    clear hs'
    refine stq hf rfl rfl rfl (ex_assign hf rfl) (fun a hf => ?_)
    refine stq hf rfl rfl rfl (ex_assign hf rfl) (fun a hf => ?_)
    refine hK12 _ _ ?_
    refine seq_n (fun Q13 hN13 hR13 hX13 => ?_)
    refine seq_reg (fun K14 hK14 => ?_)
    refine stq hf rfl rfl rfl (ex_move hf rfl) (fun a hf => ?_)
    refine stq hf rfl rfl rfl (ex_eqp Try.underlying40 hf rfl rfl) (fun a hf => ?_)
    refine hK14 _ _ ?_
    refine cond_F hf rfl ?_
    refine wp_skip ?_
    refine hN13 _ _ ?_
    refine bnd H (fun x15 H15 HO15 => ?_)
    clear H
    refine seq_cut (fun a w => ∃ (x15s : Unit), x15 = .go x15s ∧ Fr a 64 [] ∧ St M w0 w []) (fun Q15 hJ15 hR15 hX15 => ?_) (fun a w hJ => ?_)
    · replace H := H15
      refine seq_reg (fun K16 hK16 => ?_)
      refine stq hf rfl rfl rfl (ex_assign hf rfl) (fun a hf => ?_)
      refine hK16 _ _ ?_
      refine block_k (fun Q17 hN17 hR17 hX17 hY17 => ?_)
      refine loop_k (fun n a w => ∃ (y18 : (List (Int × Int))) (y19 : (List Bool)) (y20 : (List Int)) (y21 : Int), Fr a 64 [(0, v0), (3, .pointer (some ⟨b8, 0, none⟩)), (4, .pointer (some ⟨b11, 0, none⟩)), (5, .int .i64 y21)] ∧ St M w0 w [bx b8 64 [.map (some b9)], mp b9 .i64 .u64 y18, bxs b11 69 [(List.map Value.bool y19, 32), (List.map (Value.int .u64) y20, 32)]] ∧ law37_IdleLimitsAgree.l1 n a0 y18 y19 y20 y21 = some x15) k ?_ (fun n23 a w hI Q23 hL23 hR23 hX23 => ?_)
      · -- at the start
        replace hs := hs.pick (.k (.k (.c .nil)))
        replace hs := hs.pick (.k (.k (.c .nil)))
        exact ⟨s7, s10.1, s10.2, 0, hf.sub ⟨rfl, rfl, rfl, rfl, trivial⟩, hs, H⟩
      · obtain ⟨y18, y19, y20, y21, hf, hs, H⟩ := hI
        cases n23 with
        | zero => exact absurd H (by rw [law37_IdleLimitsAgree.l1.eq_1]; intro h; cases h)
        | succ k23 =>
          replace H := (law37_IdleLimitsAgree.l1.eq_2 ..).symm.trans H
          refine seq_n (fun Q24 hN24 hR24 hX24 => ?_)
          refine seq_reg (fun K25 hK25 => ?_)
          refine stq hf rfl rfl rfl (ex_move hf rfl) (fun a hf => ?_)
          refine stq hf rfl rfl rfl (ex_move hf rfl) (fun a hf => ?_)
          refine stq hf rfl rfl rfl (ex_lenS Try.underlying45 (rsl_isSl (hr.now hs (i := 0) rfl)) hf rfl) (fun a hf => ?_)
          refine stq hf rfl rfl rfl (ex_lss hf rfl rfl) (fun a hf => ?_)
          refine hK25 _ _ ?_
          refine itt H (fun hc26 H => ?_) (fun hc26 H => ?_)
          · -- y21 < (a0.length : Int)
            replace hf := hf.castB (t := 21) rfl (dec_t hc26)
            refine cond_T hf rfl ?_
            refine wp_skip ?_
            refine hN24 _ _ ?_
            refine seq_n (fun Q27 hN27 hR27 hX27 => ?_)
            refine block_k (fun Q28 hN28 hR28 hX28 hY28 => ?_)
            refine ck_some H (fun hc29 H => ?_)
            refine seq_reg (fun K31 hK31 => ?_)
            refine stq hf rfl rfl rfl (ex_move hf rfl) (fun a hf => ?_)
            refine stq hf rfl rfl rfl (ex_move hf rfl) (fun a hf => ?_)
            refine stq hf rfl rfl rfl (ex_indexAddr sa_45 (rsl_isSl (hr.now hs (i := 0) rfl)) hc29.1 hc29.2 hf rfl rfl) (fun a hf => ?_)
            refine stq hf rfl rfl rfl (ex_loadA (cs := [.int .i64 ((gd Request.zero a0 y21).Client), .int .u64 ((gd Request.zero a0 y21).Latency), .bool ((gd Request.zero a0 y21).Remove), .bool ((gd Request.zero a0 y21).Raw)]) ag_49 hf rfl (el_cells (K := K_platformfwlaw37_Request) (rsl_rd (hr.now hs (i := 0) rfl)) hc29.1 hc29.2 rfl)) (fun a hf => ?_)
            refine stepV hf rfl rfl rfl (er_alloc hs ti_49 (cs := [.int .i64 0, .int .u64 0, .bool false, .bool false]) rfl) (fun v w hR a hf => ?_)
            obtain ⟨b30, rfl, hs⟩ := hR
            refine stepS hf rfl rfl (er_storeAB (vs := [.int .i64 ((gd Request.zero a0 y21).Client), .int .u64 ((gd Request.zero a0 y21).Latency), .bool ((gd Request.zero a0 y21).Remove), .bool ((gd Request.zero a0 y21).Raw)]) (cs' := [.int .i64 ((gd Request.zero a0 y21).Client), .int .u64 ((gd Request.zero a0 y21).Latency), .bool ((gd Request.zero a0 y21).Remove), .bool ((gd Request.zero a0 y21).Raw)]) hs (.c (.k (.k (.k .nil)))) sz_49 hf rfl rfl (all1 rfl (all1 rfl (all1 rfl (all1 rfl (all1_nil))))) rfl rfl) (fun w hs => ?_)
            refine hK31 _ _ ?_
            refine bnd H (fun s32 hs32 H => ?_)
            refine seq_reg (fun K33 hK33 => ?_)
            refine stq hf rfl rfl rfl (ex_fieldAddrB fa_49_0 rfl hf rfl) (fun a hf => ?_)
            refine stq hf rfl rfl rfl (ex_load sc_3 hf rfl (bx_cell (hs.get (i := 0) rfl) _ rfl)) (fun a hf => ?_)
            refine stepF hf rfl rfl rfl (ex_call cf_15 hf rfl) (help_Mod.calls k23 ((gd Request.zero a0 y21).Client) 5 (hs.enter (.k (.k (.k (.k .nil))))) (Sr.nil _ _) hs32) (fun v w hR a hf => ?_)
            obtain ⟨rfl, hs'⟩ := hR
            replace hs := hs.step (.k (.k (.k (.k .nil)))) hs'
            clear hs'
            refine stq hf rfl rfl rfl (ex_assign hf rfl) (fun a hf => ?_)
            refine hK33 _ _ ?_
            refine bnd H (fun x34 H34 HO34 => ?_)
            clear H
            refine seq_cut (fun a w => Fr a 64 [(0, v0), (3, .pointer (some ⟨b8, 0, none⟩)), (4, .pointer (some ⟨b11, 0, none⟩)), (5, .int .i64 y21), (6, .pointer (some ⟨b30, 0, none⟩)), (7, .int .i64 x34)] ∧ St M w0 w [bx b8 64 [.map (some b9)], mp b9 .i64 .u64 y18, bxs b11 69 [(List.map Value.bool y19, 32), (List.map (Value.int .u64) y20, 32)], bx b30 49 [.int .i64 ((gd Request.zero a0 y21).Client), .int .u64 ((gd Request.zero a0 y21).Latency), .bool ((gd Request.zero a0 y21).Remove), .bool ((gd Request.zero a0 y21).Raw)]]) (fun Q34 hJ34 hR34 hX34 => ?_) (fun a w hJ => ?_)
            · replace H := H34
              refine seq_reg (fun K35 hK35 => ?_)
              refine stq hf rfl rfl rfl (ex_fieldAddrB fa_49_3 rfl hf rfl) (fun a hf => ?_)
              refine stq hf rfl rfl rfl (ex_load sc_4 hf rfl (bx_cell (hs.get (i := 0) rfl) _ rfl)) (fun a hf => ?_)
              refine hK35 _ _ ?_
              refine itt H (fun hc36 H => ?_) (fun hc36 H => ?_)
              · -- ((gd Request.zero a0 y21).Raw) = true
                replace hf := hf.castB (t := 32) rfl hc36
                refine cond_T hf rfl ?_
                refine region_k (fun K37 hK37 => ?_)
                refine stq hf rfl rfl rfl (ex_fieldAddrB fa_49_0 rfl hf rfl) (fun a hf => ?_)
                refine stq hf rfl rfl rfl (ex_load sc_3 hf rfl (bx_cell (hs.get (i := 0) rfl) _ rfl)) (fun a hf => ?_)
                refine stq hf rfl rfl rfl (ex_assign hf rfl) (fun a hf => ?_)
                refine hK37 _ _ ?_
                replace hs := hs.pick (.k (.k (.k (.c .nil))))
                replace hs := hs.pick (.k (.k (.k (.c .nil))))
                replace hs := hs.pick (.k (.k (.k (.c .nil))))
                have e34 := some_eq H; subst e34
                exact hJ34 _ _ ⟨hf.sub ⟨rfl, rfl, rfl, rfl, rfl, rfl, trivial⟩, hs⟩
              · -- not ((gd Request.zero a0 y21).Raw) = true
                replace hf := hf.castB (t := 32) rfl (bool_f hc36)
                refine cond_F hf rfl ?_
                refine wp_skip ?_
                replace hs := hs.pick (.k (.k (.k (.c .nil))))
                replace hs := hs.pick (.k (.k (.k (.c .nil))))
                replace hs := hs.pick (.k (.k (.k (.c .nil))))
                have e34 := some_eq H; subst e34
                exact hJ34 _ _ ⟨hf.sub ⟨rfl, rfl, rfl, rfl, rfl, rfl, trivial⟩, hs⟩
            · obtain ⟨hf, hs⟩ := hJ
              replace H := HO34
              clear HO34
              refine seq_reg (fun K38 hK38 => ?_)
              refine stq hf rfl rfl rfl (ex_assign hf rfl) (fun a hf => ?_)
              refine stq hf rfl rfl rfl (ex_assign hf rfl) (fun a hf => ?_)
              refine hK38 _ _ ?_
              refine bnd H (fun x39 H39 HO39 => ?_)
              clear H
              refine seq_cut (fun a w => Fr a 64 [(0, v0), (3, .pointer (some ⟨b8, 0, none⟩)), (4, .pointer (some ⟨b11, 0, none⟩)), (5, .int .i64 y21), (8, .int .i64 x39.2.2.2.1), (9, .int .i64 x39.2.2.2.2)] ∧ St M w0 w [bx b8 64 [.map (some b9)], mp b9 .i64 .u64 x39.1, bxs b11 69 [(List.map Value.bool x39.2.1, 32), (List.map (Value.int .u64) x39.2.2.1, 32)]]) (fun Q39 hJ39 hR39 hX39 => ?_) (fun a w hJ => ?_)
              · replace H := H39
                refine seq_reg (fun K40 hK40 => ?_)
                refine stq hf rfl rfl rfl (ex_fieldAddrB fa_49_2 rfl hf rfl) (fun a hf => ?_)
                refine stq hf rfl rfl rfl (ex_load sc_4 hf rfl (bx_cell (hs.get (i := 3) rfl) _ rfl)) (fun a hf => ?_)
                refine hK40 _ _ ?_
                refine itt H (fun hc41 H => ?_) (fun hc41 H => ?_)
                · -- ((gd Request.zero a0 y21).Remove) = true
                  replace hf := hf.castB (t := 36) rfl hc41
                  refine cond_T hf rfl ?_
                  refine bnd H (fun s42 hs42 H => ?_)
                  refine bnd H (fun s43 hs43 H => ?_)
                  refine region_k (fun K44 hK44 => ?_)
                  refine stq hf rfl rfl rfl (ex_move hf rfl) (fun a hf => ?_)
                  refine stq hf rfl rfl rfl (ex_move hf rfl) (fun a hf => ?_)
                  refine stepF hf rfl rfl rfl (ex_call cf_26 hf rfl) (idle_Limits_Remove.calls k23 y18 x34 b8 b9 (hs.enter (.c (.c (.k (.k .nil))))) (Sr.nil _ _) hs42) (fun v w hR a hf => ?_)
                  obtain ⟨rfl, hs'⟩ := hR
                  replace hs := hs.step (.c (.c (.k (.k .nil)))) hs'
                  clear hs'
                  refine stq hf rfl rfl rfl (ex_move hf rfl) (fun a hf => ?_)
                  refine stq hf rfl rfl rfl (ex_move hf rfl) (fun a hf => ?_)
                  refine stepF hf rfl rfl rfl (ex_call cf_27 hf rfl) (ref37_Limits_Remove.calls k23 y19 y20 x34 b11 (hs.enter (.k (.k (.c (.k .nil))))) (Sr.nil _ _) hs43) (fun v w hR a hf => ?_)
                  obtain ⟨rfl, hs'⟩ := hR
                  replace hs := hs.step (.k (.k (.c (.k .nil)))) hs'
                  clear hs'
                  refine stq hf rfl rfl rfl (ex_assign hf rfl) (fun a hf => ?_)
                  refine stq hf rfl rfl rfl (ex_assign hf rfl) (fun a hf => ?_)
                  refine hK44 _ _ ?_
                  replace hs := hs.keep (.k (.k (.k (.d .nil))))
                  replace hs := hs.pick (.k (.k (.c .nil)))
                  replace hs := hs.pick (.k (.k (.c .nil)))
                  have e39 := some_eq H; subst e39
                  exact hJ39 _ _ ⟨hf.sub ⟨rfl, rfl, rfl, rfl, rfl, rfl, trivial⟩, hs⟩
                · -- not ((gd Request.zero a0 y21).Remove) = true
                  replace hf := hf.castB (t := 36) rfl (bool_f hc41)
                  refine cond_F hf rfl ?_
                  refine bnd H (fun s45 hs45 H => ?_)
                  refine bnd H (fun s46 hs46 H => ?_)
                  refine region_d fol 11 [(0, v0), (3, .pointer (some ⟨b8, 0, none⟩)), (4, .pointer (some ⟨b11, 0, none⟩)), (5, .int .i64 y21), (6, .pointer (some ⟨b30, 0, none⟩)), (7, .int .i64 x34), (9, .int .i64 0)] [(0, .pointer (some ⟨b8, 0, none⟩)), (1, .int .i64 x34), (2, .pointer (some ⟨b30, 1, none⟩)), (3, .int .u64 ((gd Request.zero a0 y21).Latency)), (5, .pointer (some ⟨b11, 0, none⟩)), (6, .int .i64 x34), (7, .pointer (some ⟨b30, 1, none⟩)), (8, .int .u64 ((gd Request.zero a0 y21).Latency))] [4, 9] (fun w => (bx b30 49 [.int .i64 ((gd Request.zero a0 y21).Client), .int .u64 ((gd Request.zero a0 y21).Latency), .bool ((gd Request.zero a0 y21).Remove), .bool ((gd Request.zero a0 y21).Raw)]).ok w ∧ True) (fun w => St M w0 w [bx b8 64 [.map (some b9)], mp b9 .i64 .u64 y18, bxs b11 69 [(List.map Value.bool y19, 32), (List.map (Value.int .u64) y20, 32)], bx b30 49 [.int .i64 ((gd Request.zero a0 y21).Client), .int .u64 ((gd Request.zero a0 y21).Latency), .bool ((gd Request.zero a0 y21).Remove), .bool ((gd Request.zero a0 y21).Raw)]]) hf ⟨rfl, rfl, rfl, rfl, rfl, rfl, rfl, trivial⟩ (by kernel_rfl) (by kernel_rfl) rfl (by decide) ⟨hs.drew.get (i := 3) rfl, trivial⟩ hs.drew (.cons (⟨_, _, rfl, rfl, rfl, rfl, fun a w hR hf => .inl ⟨wanted_yes hf rfl, ex_move hf rfl⟩⟩) (.cons (⟨_, _, rfl, rfl, rfl, rfl, fun a w hR hf => .inl ⟨wanted_yes hf rfl, ex_move hf rfl⟩⟩) (.cons (⟨_, _, rfl, rfl, rfl, rfl, fun a w hR hf => .inl ⟨wanted_yes hf rfl, ex_fieldAddrB fa_49_1 rfl hf rfl⟩⟩) (.cons (⟨_, _, rfl, rfl, rfl, rfl, fun a w hR hf => .inl ⟨wanted_yes hf rfl, ex_load sc_23 hf rfl (bx_cell (hR.1) _ rfl)⟩⟩) (.cons (⟨_, _, rfl, rfl, rfl, rfl, fun a w hR hf => .inl ⟨wanted_yes hf rfl, ex_move hf rfl⟩⟩) (.cons (⟨_, _, rfl, rfl, rfl, rfl, fun a w hR hf => .inl ⟨wanted_yes hf rfl, ex_move hf rfl⟩⟩) (.cons (⟨_, _, rfl, rfl, rfl, rfl, fun a w hR hf => .inl ⟨wanted_yes hf rfl, ex_fieldAddrB fa_49_1 rfl hf rfl⟩⟩) (.cons (⟨_, _, rfl, rfl, rfl, rfl, fun a w hR hf => .inl ⟨wanted_yes hf rfl, ex_load sc_23 hf rfl (bx_cell (hR.1) _ rfl)⟩⟩) (.nil))))))))) (fun K47 hK47 => ?_)
                  refine RW.one 4 (by kernel_rfl) (by kernel_rfl) rfl (fun d hd => by cases hd; rfl) [(43, .pointer (some ⟨b8, 0, none⟩)), (44, .int .i64 x34), (46, .int .u64 ((gd Request.zero a0 y21).Latency))] ⟨rfl, rfl, rfl, trivial⟩ (fun a w hR hs hf => ⟨wanted_yes hf rfl, ?_⟩)
                  refine estep_f (ex_call cf_23 hf rfl) (idle_Limits_Set.calls k23 y18 x34 ((gd Request.zero a0 y21).Latency) b8 b9 (hs.enter (.c (.c (.k (.k .nil))))) (Sr.nil _ _) hs45) (fun v w hR => ?_)
                  obtain ⟨rfl, hs'⟩ := hR
                  replace hs := hs.step (.c (.c (.k (.k .nil)))) hs'
                  clear hs'
                  refine ⟨[], [(4, .int .i64 s45.2), (0, .pointer (some ⟨b8, 0, none⟩)), (1, .int .i64 x34), (2, .pointer (some ⟨b30, 1, none⟩)), (3, .int .u64 ((gd Request.zero a0 y21).Latency)), (5, .pointer (some ⟨b11, 0, none⟩)), (6, .int .i64 x34), (7, .pointer (some ⟨b30, 1, none⟩)), (8, .int .u64 ((gd Request.zero a0 y21).Latency))], [9], (fun _ => True), (fun w => St M w0 w [bx b8 64 [.map (some b9)], mp b9 .i64 .u64 s45.1, bxs b11 69 [(List.map Value.bool y19, 32), (List.map (Value.int .u64) y20, 32)], bx b30 49 [.int .i64 ((gd Request.zero a0 y21).Client), .int .u64 ((gd Request.zero a0 y21).Latency), .bool ((gd Request.zero a0 y21).Remove), .bool ((gd Request.zero a0 y21).Raw)]]), rfl, rfl, ⟨hs.get (i := 3) rfl, trivial⟩, trivial, hs, (by kernel_rfl), .nil, ?_⟩
                  refine RW.one 9 (by kernel_rfl) (by kernel_rfl) rfl (fun d hd => by cases hd; rfl) [(48, .pointer (some ⟨b11, 0, none⟩)), (49, .int .i64 x34), (51, .int .u64 ((gd Request.zero a0 y21).Latency))] ⟨rfl, rfl, rfl, trivial⟩ (fun a w hR hs hf => ⟨wanted_yes hf rfl, ?_⟩)
                  refine estep_f (ex_call cf_28 hf rfl) (ref37_Limits_Set.calls k23 y19 y20 x34 ((gd Request.zero a0 y21).Latency) b11 (hs.enter (.k (.k (.c (.k .nil))))) (Sr.nil _ _) hs46) (fun v w hR => ?_)
                  obtain ⟨rfl, hs'⟩ := hR
                  replace hs := hs.step (.k (.k (.c (.k .nil)))) hs'
                  clear hs'
                  refine ⟨[(10, .int .i64 s45.2)], [(10, .int .i64 s45.2), (9, .int .i64 s46.2.2), (4, .int .i64 s45.2), (0, .pointer (some ⟨b8, 0, none⟩)), (1, .int .i64 x34), (2, .pointer (some ⟨b30, 1, none⟩)), (3, .int .u64 ((gd Request.zero a0 y21).Latency)), (5, .pointer (some ⟨b11, 0, none⟩)), (6, .int .i64 x34), (7, .pointer (some ⟨b30, 1, none⟩)), (8, .int .u64 ((gd Request.zero a0 y21).Latency))], [], (fun _ => True), (fun w => St M w0 w [bxs b11 69 [(List.map Value.bool s46.1, 32), (List.map (Value.int .u64) s46.2.1, 32)], bx b8 64 [.map (some b9)], mp b9 .i64 .u64 s45.1, bx b30 49 [.int .i64 ((gd Request.zero a0 y21).Client), .int .u64 ((gd Request.zero a0 y21).Latency), .bool ((gd Request.zero a0 y21).Remove), .bool ((gd Request.zero a0 y21).Raw)]]), rfl, rfl, ⟨⟨hs.get (i := 3) rfl, trivial⟩, trivial⟩, trivial, hs, (by kernel_rfl), .cons (⟨_, _, rfl, rfl, rfl, rfl, fun a w hR hf => .inl ⟨wanted_yes hf rfl, ex_assign hf rfl⟩⟩) (.nil), ?_⟩
                  refine RW.zero (by kernel_rfl) (by kernel_rfl) [(0, v0), (3, .pointer (some ⟨b8, 0, none⟩)), (4, .pointer (some ⟨b11, 0, none⟩)), (5, .int .i64 y21), (8, .int .i64 s45.2), (9, .int .i64 0), (52, .int .i64 s46.2.2)] ⟨rfl, rfl, rfl, rfl, rfl, rfl, rfl, trivial⟩ (fun a w hR hs hf => ?_)
                  refine stq hf rfl rfl rfl (ex_assign hf rfl) (fun a hf => ?_)
                  refine hK47 _ _ ?_
                  replace hs := hs.keep (.k (.k (.k (.d .nil))))
                  replace hs := hs.pick (.k (.k (.c .nil)))
                  replace hs := hs.pick (.k (.k (.c .nil)))
                  have e39 := some_eq H; subst e39
                  exact hJ39 _ _ ⟨hf.sub ⟨rfl, rfl, rfl, rfl, rfl, rfl, trivial⟩, hs⟩
              · obtain ⟨hf, hs⟩ := hJ
                replace H := HO39
                clear HO39
                refine bnd H (fun x48 H48 HO48 => ?_)
                clear H
                refine seq_cut (fun a w => Fr a 64 [(0, v0), (3, .pointer (some ⟨b8, 0, none⟩)), (4, .pointer (some ⟨b11, 0, none⟩)), (5, .int .i64 y21), (62, .bool x48)] ∧ St M w0 w [bx b8 64 [.map (some b9)], mp b9 .i64 .u64 x39.1, bxs b11 69 [(List.map Value.bool x39.2.1, 32), (List.map (Value.int .u64) x39.2.2.1, 32)]]) (fun Q48 hJ48 hR48 hX48 => ?_) (fun a w hJ => ?_)
                · replace H := H48
                  refine itt H (fun hc49 H => ?_) (fun hc49 H => ?_)
                  · -- x39.2.2.2.1 = x39.2.2.2.2
                    refine bnd H (fun s50 hs50 H => ?_)
                    refine bnd H (fun s51 hs51 H => ?_)
                    refine region_k (fun K52 hK52 => ?_)
                    refine stq hf rfl rfl rfl (ex_move hf rfl) (fun a hf => ?_)
                    refine stq hf rfl rfl rfl (ex_move hf rfl) (fun a hf => ?_)
                    refine stq hf rfl rfl rfl (ex_neq hf rfl rfl) (fun a hf => ?_)
                    refine stq hf rfl rfl rfl (ex_move hf rfl) (fun a hf => ?_)
                    replace hf := hf.castB (t := 55) rfl (ndec_f hc49)
                    replace hf := hf.castB (t := 56) rfl (ndec_f hc49)
                    refine stq hf rfl rfl rfl (ex_move hf rfl) (fun a hf => ?_)
                    refine stepF hf rfl rfl rfl (ex_call cf_24 hf rfl) (idle_Limits_Limit.calls k23 x39.1 b8 b9 (hs.enter (.k (.k (.k .nil)))) (Sr.own hs (.k (.k (.k .nil))) (i := 0) rfl (fun _ h => h) (fun _ h => h) (Sr.own hs (.k (.k (.k .nil))) (i := 1) rfl (fun _ h => h) (fun _ h => h) (Sr.nil _ _))) hs50) (fun v w hR a hf => ?_)
                    obtain ⟨rfl, hs'⟩ := hR
                    replace hs := hs.step (.k (.k (.k .nil))) hs'
                    clear hs'
                    refine stq hf rfl rfl rfl (ex_move hf rfl) (fun a hf => ?_)
                    refine stepF hf rfl rfl rfl (ex_call cf_29 hf rfl) (ref37_Limits_Limit.calls k23 x39.2.1 x39.2.2.1 b11 (hs.enter (.k (.k (.k .nil)))) (Sr.own hs (.k (.k (.k .nil))) (i := 2) rfl (fun _ h => h) (fun _ h => h) (Sr.nil _ _)) hs51) (fun v w hR a hf => ?_)
                    obtain ⟨rfl, hs'⟩ := hR
                    replace hs := hs.step (.k (.k (.k .nil))) hs'
                    clear hs'
                    refine stq hf rfl rfl rfl (ex_neq hf rfl rfl) (fun a hf => ?_)
                    refine stq hf rfl rfl rfl (ex_pickF hf rfl rfl) (fun a hf => ?_)
                    refine hK52 _ _ ?_
                    have e48 := some_eq H; subst e48
                    exact hJ48 _ _ ⟨hf.sub ⟨rfl, rfl, rfl, rfl, rfl, trivial⟩, hs⟩
                  · -- not x39.2.2.2.1 = x39.2.2.2.2
                    refine region_k (fun K53 hK53 => ?_)
                    refine stq hf rfl rfl rfl (ex_move hf rfl) (fun a hf => ?_)
                    refine stq hf rfl rfl rfl (ex_move hf rfl) (fun a hf => ?_)
                    refine stq hf rfl rfl rfl (ex_neq hf rfl rfl) (fun a hf => ?_)
                    refine stq hf rfl rfl rfl (ex_move hf rfl) (fun a hf => ?_)
                    replace hf := hf.castB (t := 55) rfl (ndec_t hc49)
                    replace hf := hf.castB (t := 56) rfl (ndec_t hc49)
                    refine stepN hf rfl rfl rfl (fun a hf => ?_)
                    refine stepN hf rfl rfl rfl (fun a hf => ?_)
                    refine stepN hf rfl rfl rfl (fun a hf => ?_)
                    refine stepN hf rfl rfl rfl (fun a hf => ?_)
                    refine stepN hf rfl rfl rfl (fun a hf => ?_)
                    refine stq hf rfl rfl rfl (ex_pickT hf rfl rfl) (fun a hf => ?_)
                    refine hK53 _ _ ?_
                    have e48 := some_eq H; subst e48
                    exact hJ48 _ _ ⟨hf.sub ⟨rfl, rfl, rfl, rfl, rfl, trivial⟩, hs⟩
                · obtain ⟨hf, hs⟩ := hJ
                  replace H := HO48
                  clear HO48
                  refine itt H (fun hc54 H => ?_) (fun hc54 H => ?_)
                  · -- x48 = true
                    replace hf := hf.castB (t := 62) rfl hc54
                    refine cond_T hf rfl ?_
                    refine seq_reg (fun K55 hK55 => ?_)
                    refine stq hf rfl rfl rfl (ex_assign hf rfl) (fun a hf => ?_)
                    refine hK55 _ _ ?_
                    refine wp_ret ?_
                    refine hR28 _ _ ?_
                    refine hR27 _ _ ?_
                    refine hR23 _ _ ?_
                    refine hR17 _ _ ?_
                    have e15 := some_eq H; subst e15; replace H := el_rt HO15
                    refine hR15 _ _ ?_
                    have eR := some_eq H; subst eR
                    replace hs := hs.keep (.d (.d (.d .nil)))
                    exact ret1 Try.results9 hf rfl ⟨_, rfl, ⟨rfl, hs⟩⟩
                  · -- not x48 = true
                    replace hf := hf.castB (t := 62) rfl (bool_f hc54)
                    refine cond_F hf rfl ?_
                    refine wp_skip ?_
                    refine hN28 _ _ ?_
                    refine hN27 _ _ ?_
                    refine region_k (fun K56 hK56 => ?_)
                    refine stq hf rfl rfl rfl (ex_move hf rfl) (fun a hf => ?_)
                    refine stq hf rfl rfl rfl (ex_add hf rfl rfl) (fun a hf => ?_)
                    refine stq hf rfl rfl rfl (ex_assign hf rfl) (fun a hf => ?_)
                    refine hK56 _ _ ?_
                    exact hL23 k23 _ _ (Nat.lt_succ_self _) ⟨x39.1, x39.2.1, x39.2.2.1, (IntKind.i64.wrap (y21 + 1)), hf.sub ⟨rfl, rfl, rfl, rfl, trivial⟩, hs, H⟩
          · -- not y21 < (a0.length : Int)
            replace hf := hf.castB (t := 21) rfl (dec_f hc26)
            refine cond_F hf rfl ?_
            refine wp_exit ?_
            refine hX24 0 _ _ ?_
            refine hX23 0 _ _ ?_
            refine hX17 _ _ ?_
            replace hs := hs.keep (.d (.d (.d .nil)))
            have e15 := some_eq H; subst e15
            exact hJ15 _ _ ⟨_, rfl, hf.sub trivial, hs⟩
    · obtain ⟨x15s, rfl, hf, hs⟩ := hJ
      replace H := el_go HO15
      clear HO15
      refine bnd H (fun s57 hs57 H => ?_)
      refine seq_reg (fun K58 hK58 => ?_)
      refine stepF hf rfl rfl rfl (ex_call cf_13 hf rfl) (law37_awake.calls k (hs.enter .nil) (Sr.nil _ _) hs57) (fun v w hR a hf => ?_)
      obtain ⟨rfl, hs'⟩ := hR
      replace hs := hs.step .nil hs'
      clear hs'
      refine stq hf rfl rfl rfl (ex_assign hf rfl) (fun a hf => ?_)
      refine hK58 _ _ ?_
      refine wp_ret ?_
      have eR := some_eq H; subst eR
      exact ret1 Try.results9 hf rfl ⟨_, rfl, ⟨rfl, hs⟩⟩

end Go.Proofs.Ytmjfdknjloidoaa.X
