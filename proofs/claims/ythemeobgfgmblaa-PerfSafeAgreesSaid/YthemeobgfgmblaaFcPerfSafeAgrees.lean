/- Each function of the machine comes to what its pure function says. -/
import Derived.Test.YthemeobgfgmblaaFc1
import Derived.Test.YthemeobgfgmblaaFc2
import Derived.Test.YthemeobgfgmblaaFc3
import Derived.Test.YthemeobgfgmblaaFb
namespace Go.Proofs.Ythemeobgfgmblaa.X
open Go Go.RowKit Go.Sx
set_option linter.unusedVariables false

set_option maxRecDepth 100000 in
theorem law36_PerfSafeAgrees.calls {M : Nat → Prop} {w0 : World} (k : Nat) (a0 : (List OperatingPoint)) (a1 : Int) (a2 : (List PerfOp)) (v0 : Value) (v2 : Value) {r : Bool} (hs : St M w0 w0 []) (hr : Sr M w0 [rsl K_api_OperatingPoint v0 a0, rsl K_api_PerfOp v2 a2])
    (h : law36_PerfSafeAgrees.f k a0 a1 a2 = some r) : Calls Try.prog 6 #[v0, .int .i64 a1, v2] w0 fun e w => ∃ v, e = .returned v ∧ (.bool r = v ∧ St M w0 w []) := by
  have H := (law36_PerfSafeAgrees.f.eq_1 ..).symm.trans h
  clear h
  refine enter Try.func6 rfl Try.ntmps6 rfl (fun a hf => ?_)
  refine seq_reg (fun K1 hK1 => ?_)
  refine stq hf rfl rfl rfl (ex_assign hf rfl) (fun a hf => ?_)
  refine hK1 _ _ ?_
  refine seq_n (fun Q2 hN2 hR2 hX2 => ?_)
  refine bnd H (fun x3 H3 HO3 => ?_)
  clear H
  refine seq_cut (fun a w => Fr a 115 [(0, v0), (1, .int .i64 a1), (2, v2), (20, .bool x3)] ∧ St M w0 w []) (fun Q3 hJ3 hR3 hX3 => ?_) (fun a w hJ => ?_)
  · replace H := H3
    refine itt H (fun hc4 H => ?_) (fun hc4 H => ?_)
    · -- 20 < (a0.length : Int)
      refine region_k (fun K5 hK5 => ?_)
      refine stq hf rfl rfl rfl (ex_move hf rfl) (fun a hf => ?_)
      refine stq hf rfl rfl rfl (ex_lenS Try.underlying22 (rsl_isSl (hr.now hs (i := 0) rfl)) hf rfl) (fun a hf => ?_)
      refine stq hf rfl rfl rfl (ex_gtr hf rfl rfl) (fun a hf => ?_)
      refine stq hf rfl rfl rfl (ex_move hf rfl) (fun a hf => ?_)
      replace hf := hf.castB (t := 15) rfl (dec_t hc4)
      replace hf := hf.castB (t := 16) rfl (dec_t hc4)
      refine stepN hf rfl rfl rfl (fun a hf => ?_)
      refine stepN hf rfl rfl rfl (fun a hf => ?_)
      refine stepN hf rfl rfl rfl (fun a hf => ?_)
      refine stq hf rfl rfl rfl (ex_pickT hf rfl rfl) (fun a hf => ?_)
      refine hK5 _ _ ?_
      have e3 := some_eq H; subst e3
      exact hJ3 _ _ ⟨hf.sub ⟨rfl, rfl, rfl, rfl, trivial⟩, hs⟩
    · -- not 20 < (a0.length : Int)
      refine region_k (fun K6 hK6 => ?_)
      refine stq hf rfl rfl rfl (ex_move hf rfl) (fun a hf => ?_)
      refine stq hf rfl rfl rfl (ex_lenS Try.underlying22 (rsl_isSl (hr.now hs (i := 0) rfl)) hf rfl) (fun a hf => ?_)
      refine stq hf rfl rfl rfl (ex_gtr hf rfl rfl) (fun a hf => ?_)
      refine stq hf rfl rfl rfl (ex_move hf rfl) (fun a hf => ?_)
      replace hf := hf.castB (t := 15) rfl (dec_f hc4)
      replace hf := hf.castB (t := 16) rfl (dec_f hc4)
      refine stq hf rfl rfl rfl (ex_move hf rfl) (fun a hf => ?_)
      refine stq hf rfl rfl rfl (ex_lenS Try.underlying35 (rsl_isSl (hr.now hs (i := 1) rfl)) hf rfl) (fun a hf => ?_)
      refine stq hf rfl rfl rfl (ex_gtr hf rfl rfl) (fun a hf => ?_)
      refine stq hf rfl rfl rfl (ex_pickF hf rfl rfl) (fun a hf => ?_)
      refine hK6 _ _ ?_
      have e3 := some_eq H; subst e3
      exact hJ3 _ _ ⟨hf.sub ⟨rfl, rfl, rfl, rfl, trivial⟩, hs⟩
  · obtain ⟨hf, hs⟩ := hJ
    replace H := HO3
    clear HO3
    refine itt H (fun hc7 H => ?_) (fun hc7 H => ?_)
    · -- x3 = true
      replace hf := hf.castB (t := 20) rfl hc7
      refine cond_T hf rfl ?_
      refine bnd H (fun s8 hs8 H => ?_)
      refine seq_reg (fun K9 hK9 => ?_)
      refine stepF hf rfl rfl rfl (ex_call cf_12 hf rfl) (law36_awake.calls k (hs.enter .nil) (Sr.nil _ _) hs8) (fun v w hR a hf => ?_)
      obtain ⟨rfl, hs'⟩ := hR
      replace hs := hs.step .nil hs'
      clear hs'
      refine stq hf rfl rfl rfl (ex_assign hf rfl) (fun a hf => ?_)
      refine hK9 _ _ ?_
      refine wp_ret ?_
      refine hR2 _ _ ?_
      have eR := some_eq H; subst eR
      exact ret1 Try.results6 hf rfl ⟨_, rfl, ⟨rfl, hs⟩⟩
    · -- not x3 = true
      replace hf := hf.castB (t := 20) rfl (bool_f hc7)
      refine cond_F hf rfl ?_
      refine wp_skip ?_
      refine hN2 _ _ ?_
      refine bnd H (fun s10 hs10 H => ?_)
      refine seq_reg (fun K12 hK12 => ?_)
      refine stq hf rfl rfl rfl (ex_move hf rfl) (fun a hf => ?_)
      refine stepF hf rfl rfl rfl (ex_call cf_13 hf rfl) (law36_Table.calls k a0 v0 (hs.enter .nil) (Sr.old hr hs .nil (i := 0) rfl (fun _ h => h) (fun _ h => h) (Sr.nil _ _)) hs10) (fun v w hR a hf => ?_)
      obtain ⟨v11, rfl, hs'⟩ := hR
      replace hs := hs.step .nil hs'
      clear hs'
      refine stq hf rfl rfl rfl (ex_assign hf rfl) (fun a hf => ?_)
      refine hK12 _ _ ?_
      refine bnd H (fun s13 hs13 H => ?_)
      refine seq_reg (fun K14 hK14 => ?_)
      refine stq hf rfl rfl rfl (ex_move hf rfl) (fun a hf => ?_)
      refine stq hf rfl rfl rfl (ex_move hf rfl) (fun a hf => ?_)
      refine stq hf rfl rfl rfl (ex_lenS Try.underlying22 (rsl_isSl (osl_rsl _ (hs.get (i := 0) rfl))) hf rfl) (fun a hf => ?_)
      refine stepF hf rfl rfl rfl (ex_call cf_14 hf rfl) (help_Mod.calls k a1 (s10.length : Int) (hs.enter (.k .nil)) (Sr.nil _ _) hs13) (fun v w hR a hf => ?_)
      obtain ⟨rfl, hs'⟩ := hR
      replace hs := hs.step (.k .nil) hs'
      clear hs'
      refine stq hf rfl rfl rfl (ex_assign hf rfl) (fun a hf => ?_)
      refine hK14 _ _ ?_
      refine seq_reg (fun K15 hK15 => ?_)
      refine stq hf rfl rfl rfl (ex_assign hf rfl) (fun a hf => ?_)
      refine hK15 _ _ ?_
      refine bnd H (fun x16 H16 HO16 => ?_)
      clear H
      refine seq_cut (fun a w => ∃ (v17 : Value), Fr a 115 [(0, v0), (1, .int .i64 a1), (2, v2), (7, v11), (8, .int .i64 s13), (9, v17)] ∧ St M w0 w [osl K_api_OperatingPoint v11 s10, osl K_api_PerfOp v17 x16]) (fun Q16 hJ16 hR16 hX16 => ?_) (fun a w hJ => ?_)
      · replace H := H16
        refine seq_reg (fun K18 hK18 => ?_)
        refine stq hf rfl rfl rfl (ex_assign hf rfl) (fun a hf => ?_)
        refine hK18 _ _ ?_
        refine block_k (fun Q19 hN19 hR19 hX19 hY19 => ?_)
        refine loop_k (fun n a w => ∃ (y21 : (List PerfOp)) (y22 : Int) (v20 : Value), Fr a 115 [(0, v0), (1, .int .i64 a1), (2, v2), (7, v11), (8, .int .i64 s13), (9, v20), (10, .int .i64 y22)] ∧ St M w0 w [osl K_api_OperatingPoint v11 s10, osl K_api_PerfOp v20 y21] ∧ law36_PerfSafeAgrees.l1 n a2 s10 y21 y22 = some x16) k ?_ (fun n24 a w hI Q24 hL24 hR24 hX24 => ?_)
        · -- at the start
          replace hs := hs.nilS K_api_PerfOp
          replace hs := hs.pick (.k (.c .nil))
          exact ⟨[], 0, (.slice none 0 0), hf.sub ⟨rfl, rfl, rfl, rfl, rfl, rfl, rfl, trivial⟩, hs, H⟩
        · obtain ⟨y21, y22, v20, hf, hs, H⟩ := hI
          cases n24 with
          | zero => exact absurd H (by rw [law36_PerfSafeAgrees.l1.eq_1]; intro h; cases h)
          | succ k24 =>
            replace H := (law36_PerfSafeAgrees.l1.eq_2 ..).symm.trans H
            refine seq_n (fun Q25 hN25 hR25 hX25 => ?_)
            refine seq_reg (fun K26 hK26 => ?_)
            refine stq hf rfl rfl rfl (ex_move hf rfl) (fun a hf => ?_)
            refine stq hf rfl rfl rfl (ex_move hf rfl) (fun a hf => ?_)
            refine stq hf rfl rfl rfl (ex_lenS Try.underlying35 (rsl_isSl (hr.now hs (i := 1) rfl)) hf rfl) (fun a hf => ?_)
            refine stq hf rfl rfl rfl (ex_lss hf rfl rfl) (fun a hf => ?_)
            refine hK26 _ _ ?_
            refine itt H (fun hc27 H => ?_) (fun hc27 H => ?_)
            · -- y22 < (a2.length : Int)
              replace hf := hf.castB (t := 31) rfl (dec_t hc27)
              refine cond_T hf rfl ?_
              refine wp_skip ?_
              refine hN25 _ _ ?_
              refine seq_n (fun Q28 hN28 hR28 hX28 => ?_)
              refine block_k (fun Q29 hN29 hR29 hX29 hY29 => ?_)
              refine ck_some H (fun hc30 H => ?_)
              refine ck_some H (fun hc31 H => ?_)
              refine ck_some H (fun hc32 H => ?_)
              refine seq_reg (fun K34 hK34 => ?_)
              refine stq hf rfl rfl rfl (ex_move hf rfl) (fun a hf => ?_)
              refine stq hf rfl rfl rfl (ex_move hf rfl) (fun a hf => ?_)
              refine stq hf rfl rfl rfl (ex_move hf rfl) (fun a hf => ?_)
              refine stq hf rfl rfl rfl (ex_indexAddr sa_35 (rsl_isSl (hr.now hs (i := 1) rfl)) hc30.1 hc30.2 hf rfl rfl) (fun a hf => ?_)
              refine stq hf rfl rfl rfl (ex_fieldAddrS fa_40_1 rfl hf rfl) (fun a hf => ?_)
              refine stq hf rfl rfl rfl (ex_load sc_23 hf rfl (el_cell (K := K_api_PerfOp) (f := 1) (rsl_rd (hr.now hs (i := 1) rfl)) hc30.1 hc30.2 rfl)) (fun a hf => ?_)
              refine stq hf rfl rfl rfl (ex_move hf rfl) (fun a hf => ?_)
              refine stq hf rfl rfl rfl (ex_lenS Try.underlying22 (rsl_isSl (osl_rsl _ (hs.get (i := 0) rfl))) hf rfl) (fun a hf => ?_)
              refine stq hf rfl rfl rfl (ex_conv Try.underlying3 Try.underlying23 hf rfl) (fun a hf => ?_)
              refine stq hf rfl rfl rfl (ex_rem hf rfl rfl hc31) (fun a hf => ?_)
              refine stq hf rfl rfl rfl (ex_indexAddr sa_22 (rsl_isSl (osl_rsl _ (hs.get (i := 0) rfl))) hc32.1 hc32.2 hf rfl rfl) (fun a hf => ?_)
              refine stq hf rfl rfl rfl (ex_loadA (cs := [.int .u64 ((gd OperatingPoint.zero s10 (Int.tmod ((gd PerfOp.zero a2 y22).Value) (IntKind.u64.wrap (s10.length : Int)))).Frequency), .int .u64 ((gd OperatingPoint.zero s10 (Int.tmod ((gd PerfOp.zero a2 y22).Value) (IntKind.u64.wrap (s10.length : Int)))).Voltage), .int .u64 ((gd OperatingPoint.zero s10 (Int.tmod ((gd PerfOp.zero a2 y22).Value) (IntKind.u64.wrap (s10.length : Int)))).Power)]) ag_25 hf rfl (el_cells (K := K_api_OperatingPoint) (rsl_rd (osl_rsl _ (hs.get (i := 0) rfl))) hc32.1 hc32.2 rfl)) (fun a hf => ?_)
              refine stepV hf rfl rfl rfl (er_alloc hs ti_25 (cs := [.int .u64 0, .int .u64 0, .int .u64 0]) rfl) (fun v w hR a hf => ?_)
              obtain ⟨b33, rfl, hs⟩ := hR
              refine stepS hf rfl rfl (er_storeAB (vs := [.int .u64 ((gd OperatingPoint.zero s10 (Int.tmod ((gd PerfOp.zero a2 y22).Value) (IntKind.u64.wrap (s10.length : Int)))).Frequency), .int .u64 ((gd OperatingPoint.zero s10 (Int.tmod ((gd PerfOp.zero a2 y22).Value) (IntKind.u64.wrap (s10.length : Int)))).Voltage), .int .u64 ((gd OperatingPoint.zero s10 (Int.tmod ((gd PerfOp.zero a2 y22).Value) (IntKind.u64.wrap (s10.length : Int)))).Power)]) (cs' := [.int .u64 ((gd OperatingPoint.zero s10 (Int.tmod ((gd PerfOp.zero a2 y22).Value) (IntKind.u64.wrap (s10.length : Int)))).Frequency), .int .u64 ((gd OperatingPoint.zero s10 (Int.tmod ((gd PerfOp.zero a2 y22).Value) (IntKind.u64.wrap (s10.length : Int)))).Voltage), .int .u64 ((gd OperatingPoint.zero s10 (Int.tmod ((gd PerfOp.zero a2 y22).Value) (IntKind.u64.wrap (s10.length : Int)))).Power)]) hs (.c (.k (.k .nil))) sz_25 hf rfl rfl (all1 rfl (all1 rfl (all1 rfl (all1_nil)))) rfl rfl) (fun w hs => ?_)
              refine hK34 _ _ ?_
              refine seq_n (fun Q35 hN35 hR35 hX35 => ?_)
              refine region_d fol 9 [(0, v0), (1, .int .i64 a1), (2, v2), (7, v11), (8, .int .i64 s13), (9, v20), (10, .int .i64 y22), (11, .pointer (some ⟨b33, 0, none⟩))] [(0, v2), (1, .int .i64 y22), (2, .pointer (some (sla v2 (y22.toNat * 2)))), (3, .pointer (some (sla v2 (y22.toNat * 2 + 0)))), (4, .bool ((gd PerfOp.zero a2 y22).Voltage)), (5, .pointer (some ⟨b33, 0, none⟩)), (6, .int .u64 ((gd OperatingPoint.zero s10 (Int.tmod ((gd PerfOp.zero a2 y22).Value) (IntKind.u64.wrap (s10.length : Int)))).Frequency)), (7, .agg #[.bool ((gd PerfOp.zero a2 y22).Voltage), .int .u64 ((gd OperatingPoint.zero s10 (Int.tmod ((gd PerfOp.zero a2 y22).Value) (IntKind.u64.wrap (s10.length : Int)))).Frequency)])] [8] (fun w => (rsl K_api_PerfOp v2 a2).ok w ∧ (bx b33 25 [.int .u64 ((gd OperatingPoint.zero s10 (Int.tmod ((gd PerfOp.zero a2 y22).Value) (IntKind.u64.wrap (s10.length : Int)))).Frequency), .int .u64 ((gd OperatingPoint.zero s10 (Int.tmod ((gd PerfOp.zero a2 y22).Value) (IntKind.u64.wrap (s10.length : Int)))).Voltage), .int .u64 ((gd OperatingPoint.zero s10 (Int.tmod ((gd PerfOp.zero a2 y22).Value) (IntKind.u64.wrap (s10.length : Int)))).Power)]).ok w ∧ True) (fun w => St M w0 w [bx b33 25 [.int .u64 ((gd OperatingPoint.zero s10 (Int.tmod ((gd PerfOp.zero a2 y22).Value) (IntKind.u64.wrap (s10.length : Int)))).Frequency), .int .u64 ((gd OperatingPoint.zero s10 (Int.tmod ((gd PerfOp.zero a2 y22).Value) (IntKind.u64.wrap (s10.length : Int)))).Voltage), .int .u64 ((gd OperatingPoint.zero s10 (Int.tmod ((gd PerfOp.zero a2 y22).Value) (IntKind.u64.wrap (s10.length : Int)))).Power)], osl K_api_OperatingPoint v11 s10, osl K_api_PerfOp v20 y21]) hf ⟨rfl, rfl, rfl, rfl, rfl, rfl, rfl, rfl, trivial⟩ (by kernel_rfl) (by kernel_rfl) rfl (by decide) ⟨hr.now hs.drew (i := 1) rfl, hs.drew.get (i := 0) rfl, trivial⟩ hs.drew (.cons (⟨_, _, rfl, rfl, rfl, rfl, fun a w hR hf => .inl ⟨wanted_yes hf rfl, ex_move hf rfl⟩⟩) (.cons (⟨_, _, rfl, rfl, rfl, rfl, fun a w hR hf => .inl ⟨wanted_yes hf rfl, ex_move hf rfl⟩⟩) (.cons (⟨_, _, rfl, rfl, rfl, rfl, fun a w hR hf => .inl ⟨wanted_yes hf rfl, ex_indexAddr sa_35 (rsl_isSl hR.1) hc30.1 hc30.2 hf rfl rfl⟩⟩) (.cons (⟨_, _, rfl, rfl, rfl, rfl, fun a w hR hf => .inl ⟨wanted_yes hf rfl, ex_fieldAddrS fa_40_0 rfl hf rfl⟩⟩) (.cons (⟨_, _, rfl, rfl, rfl, rfl, fun a w hR hf => .inl ⟨wanted_yes hf rfl, ex_load sc_4 hf rfl (el_cell (K := K_api_PerfOp) (f := 0) (rsl_rd hR.1) hc30.1 hc30.2 rfl)⟩⟩) (.cons (⟨_, _, rfl, rfl, rfl, rfl, fun a w hR hf => .inl ⟨wanted_yes hf rfl, ex_fieldAddrB fa_25_0 rfl hf rfl⟩⟩) (.cons (⟨_, _, rfl, rfl, rfl, rfl, fun a w hR hf => .inl ⟨wanted_yes hf rfl, ex_load sc_23 hf rfl (bx_cell (hR.2.1) _ rfl)⟩⟩) (.cons (⟨_, _, rfl, rfl, rfl, rfl, fun a w hR hf => .inl ⟨wanted_yes hf rfl, ex_build (cs := [.bool ((gd PerfOp.zero a2 y22).Voltage), .int .u64 ((gd OperatingPoint.zero s10 (Int.tmod ((gd PerfOp.zero a2 y22).Value) (IntKind.u64.wrap (s10.length : Int)))).Frequency)]) bt_40 hf rfl (.cons rfl (.cons rfl .nil)) rfl⟩⟩) (.nil))))))))) (fun K37 hK37 => ?_)
              refine RW.one 8 (by kernel_rfl) (by kernel_rfl) rfl (fun d hd => by cases hd; rfl) [] trivial (fun a w hR hs hf => ⟨wanted_yes hf rfl, ?_⟩)
              refine estep_v (er_alloc hs ti_40 (cs := [.bool false, .int .u64 0]) rfl) (fun v w hR => ?_)
              obtain ⟨b36, rfl, hs⟩ := hR
              refine ⟨[], [(8, .pointer (some ⟨b36, 0, none⟩)), (0, v2), (1, .int .i64 y22), (2, .pointer (some (sla v2 (y22.toNat * 2)))), (3, .pointer (some (sla v2 (y22.toNat * 2 + 0)))), (4, .bool ((gd PerfOp.zero a2 y22).Voltage)), (5, .pointer (some ⟨b33, 0, none⟩)), (6, .int .u64 ((gd OperatingPoint.zero s10 (Int.tmod ((gd PerfOp.zero a2 y22).Value) (IntKind.u64.wrap (s10.length : Int)))).Frequency)), (7, .agg #[.bool ((gd PerfOp.zero a2 y22).Voltage), .int .u64 ((gd OperatingPoint.zero s10 (Int.tmod ((gd PerfOp.zero a2 y22).Value) (IntKind.u64.wrap (s10.length : Int)))).Frequency)])], [], (fun _ => True), (fun w => St M w0 w [bx b36 40 [.bool false, .int .u64 0], bx b33 25 [.int .u64 ((gd OperatingPoint.zero s10 (Int.tmod ((gd PerfOp.zero a2 y22).Value) (IntKind.u64.wrap (s10.length : Int)))).Frequency), .int .u64 ((gd OperatingPoint.zero s10 (Int.tmod ((gd PerfOp.zero a2 y22).Value) (IntKind.u64.wrap (s10.length : Int)))).Voltage), .int .u64 ((gd OperatingPoint.zero s10 (Int.tmod ((gd PerfOp.zero a2 y22).Value) (IntKind.u64.wrap (s10.length : Int)))).Power)], osl K_api_OperatingPoint v11 s10, osl K_api_PerfOp v20 y21]), rfl, rfl, ⟨hr.now hs (i := 1) rfl, hs.get (i := 1) rfl, trivial⟩, trivial, hs, (by kernel_rfl), .nil, ?_⟩
              refine RW.zero (by kernel_rfl) (by kernel_rfl) [(0, v0), (1, .int .i64 a1), (2, v2), (7, v11), (8, .int .i64 s13), (9, v20), (10, .int .i64 y22), (11, .pointer (some ⟨b33, 0, none⟩)), (12, .pointer (some ⟨b36, 0, none⟩)), (53, .agg #[.bool ((gd PerfOp.zero a2 y22).Voltage), .int .u64 ((gd OperatingPoint.zero s10 (Int.tmod ((gd PerfOp.zero a2 y22).Value) (IntKind.u64.wrap (s10.length : Int)))).Frequency)])] ⟨rfl, rfl, rfl, rfl, rfl, rfl, rfl, rfl, rfl, rfl, trivial⟩ (fun a w hR hs hf => ?_)
              refine stepS hf rfl rfl (er_storeAB (vs := [.bool ((gd PerfOp.zero a2 y22).Voltage), .int .u64 ((gd OperatingPoint.zero s10 (Int.tmod ((gd PerfOp.zero a2 y22).Value) (IntKind.u64.wrap (s10.length : Int)))).Frequency)]) (cs' := [.bool ((gd PerfOp.zero a2 y22).Voltage), .int .u64 ((gd OperatingPoint.zero s10 (Int.tmod ((gd PerfOp.zero a2 y22).Value) (IntKind.u64.wrap (s10.length : Int)))).Frequency)]) hs (.c (.k (.k (.k .nil)))) sz_40 hf rfl rfl (all1 rfl (all1 rfl (all1_nil))) rfl rfl) (fun w hs => ?_)
              refine hK37 _ _ ?_
              refine hN35 _ _ ?_
              refine bnd H (fun x38 H38 HO38 => ?_)
              clear H
              refine seq_cut (fun a w => Fr a 115 [(0, v0), (1, .int .i64 a1), (2, v2), (7, v11), (8, .int .i64 s13), (9, v20), (10, .int .i64 y22), (12, .pointer (some ⟨b36, 0, none⟩))] ∧ St M w0 w [osl K_api_OperatingPoint v11 s10, osl K_api_PerfOp v20 y21, bx b36 40 [.bool ((gd PerfOp.zero a2 y22).Voltage), .int .u64 x38]]) (fun Q38 hJ38 hR38 hX38 => ?_) (fun a w hJ => ?_)
              · replace H := H38
                refine seq_reg (fun K39 hK39 => ?_)
                refine stq hf rfl rfl rfl (ex_fieldAddrB fa_40_0 rfl hf rfl) (fun a hf => ?_)
                refine stq hf rfl rfl rfl (ex_load sc_4 hf rfl (bx_cell (hs.get (i := 0) rfl) _ rfl)) (fun a hf => ?_)
                refine hK39 _ _ ?_
                refine itt H (fun hc40 H => ?_) (fun hc40 H => ?_)
                · -- ((gd PerfOp.zero a2 y22).Voltage) = true
                  replace hf := hf.castB (t := 55) rfl hc40
                  refine cond_T hf rfl ?_
                  refine region_d fol 9 [(0, v0), (1, .int .i64 a1), (2, v2), (7, v11), (8, .int .i64 s13), (9, v20), (10, .int .i64 y22), (11, .pointer (some ⟨b33, 0, none⟩)), (12, .pointer (some ⟨b36, 0, none⟩))] [(0, .pointer (some ⟨b33, 1, none⟩)), (1, .int .u64 ((gd OperatingPoint.zero s10 (Int.tmod ((gd PerfOp.zero a2 y22).Value) (IntKind.u64.wrap (s10.length : Int)))).Voltage)), (2, v2), (3, .int .i64 y22), (4, .pointer (some (sla v2 (y22.toNat * 2)))), (5, .pointer (some (sla v2 (y22.toNat * 2 + 1)))), (6, .int .u64 ((gd PerfOp.zero a2 y22).Value)), (7, .int .u64 (Int.tmod ((gd PerfOp.zero a2 y22).Value) 2)), (8, .int .u64 (IntKind.u64.wrap (((gd OperatingPoint.zero s10 (Int.tmod ((gd PerfOp.zero a2 y22).Value) (IntKind.u64.wrap (s10.length : Int)))).Voltage) + (Int.tmod ((gd PerfOp.zero a2 y22).Value) 2))))] [] (fun w => (bx b33 25 [.int .u64 ((gd OperatingPoint.zero s10 (Int.tmod ((gd PerfOp.zero a2 y22).Value) (IntKind.u64.wrap (s10.length : Int)))).Frequency), .int .u64 ((gd OperatingPoint.zero s10 (Int.tmod ((gd PerfOp.zero a2 y22).Value) (IntKind.u64.wrap (s10.length : Int)))).Voltage), .int .u64 ((gd OperatingPoint.zero s10 (Int.tmod ((gd PerfOp.zero a2 y22).Value) (IntKind.u64.wrap (s10.length : Int)))).Power)]).ok w ∧ (rsl K_api_PerfOp v2 a2).ok w ∧ True) (fun w => St M w0 w [bx b36 40 [.bool ((gd PerfOp.zero a2 y22).Voltage), .int .u64 ((gd OperatingPoint.zero s10 (Int.tmod ((gd PerfOp.zero a2 y22).Value) (IntKind.u64.wrap (s10.length : Int)))).Frequency)], bx b33 25 [.int .u64 ((gd OperatingPoint.zero s10 (Int.tmod ((gd PerfOp.zero a2 y22).Value) (IntKind.u64.wrap (s10.length : Int)))).Frequency), .int .u64 ((gd OperatingPoint.zero s10 (Int.tmod ((gd PerfOp.zero a2 y22).Value) (IntKind.u64.wrap (s10.length : Int)))).Voltage), .int .u64 ((gd OperatingPoint.zero s10 (Int.tmod ((gd PerfOp.zero a2 y22).Value) (IntKind.u64.wrap (s10.length : Int)))).Power)], osl K_api_OperatingPoint v11 s10, osl K_api_PerfOp v20 y21]) hf ⟨rfl, rfl, rfl, rfl, rfl, rfl, rfl, rfl, rfl, trivial⟩ (by kernel_rfl) (by kernel_rfl) rfl (by decide) ⟨hs.drew.get (i := 1) rfl, hr.now hs.drew (i := 1) rfl, trivial⟩ hs.drew (.cons (⟨_, _, rfl, rfl, rfl, rfl, fun a w hR hf => .inl ⟨wanted_yes hf rfl, ex_fieldAddrB fa_25_1 rfl hf rfl⟩⟩) (.cons (⟨_, _, rfl, rfl, rfl, rfl, fun a w hR hf => .inl ⟨wanted_yes hf rfl, ex_load sc_23 hf rfl (bx_cell (hR.1) _ rfl)⟩⟩) (.cons (⟨_, _, rfl, rfl, rfl, rfl, fun a w hR hf => .inl ⟨wanted_yes hf rfl, ex_move hf rfl⟩⟩) (.cons (⟨_, _, rfl, rfl, rfl, rfl, fun a w hR hf => .inl ⟨wanted_yes hf rfl, ex_move hf rfl⟩⟩) (.cons (⟨_, _, rfl, rfl, rfl, rfl, fun a w hR hf => .inl ⟨wanted_yes hf rfl, ex_indexAddr sa_35 (rsl_isSl hR.2.1) hc30.1 hc30.2 hf rfl rfl⟩⟩) (.cons (⟨_, _, rfl, rfl, rfl, rfl, fun a w hR hf => .inl ⟨wanted_yes hf rfl, ex_fieldAddrS fa_40_1 rfl hf rfl⟩⟩) (.cons (⟨_, _, rfl, rfl, rfl, rfl, fun a w hR hf => .inl ⟨wanted_yes hf rfl, ex_load sc_23 hf rfl (el_cell (K := K_api_PerfOp) (f := 1) (rsl_rd hR.2.1) hc30.1 hc30.2 rfl)⟩⟩) (.cons (⟨_, _, rfl, rfl, rfl, rfl, fun a w hR hf => .inl ⟨wanted_yes hf rfl, ex_rem hf rfl rfl (by decide)⟩⟩) (.cons (⟨_, _, rfl, rfl, rfl, rfl, fun a w hR hf => .inl ⟨wanted_yes hf rfl, ex_add hf rfl rfl⟩⟩) (.nil)))))))))) (fun K41 hK41 => ?_)
                  refine RW.zero (by kernel_rfl) (by kernel_rfl) [(0, v0), (1, .int .i64 a1), (2, v2), (7, v11), (8, .int .i64 s13), (9, v20), (10, .int .i64 y22), (12, .pointer (some ⟨b36, 0, none⟩)), (64, .int .u64 (IntKind.u64.wrap (((gd OperatingPoint.zero s10 (Int.tmod ((gd PerfOp.zero a2 y22).Value) (IntKind.u64.wrap (s10.length : Int)))).Voltage) + (Int.tmod ((gd PerfOp.zero a2 y22).Value) 2))))] ⟨rfl, rfl, rfl, rfl, rfl, rfl, rfl, rfl, rfl, trivial⟩ (fun a w hR hs hf => ?_)
                  refine stq hf rfl rfl rfl (ex_fieldAddrB fa_40_1 rfl hf rfl) (fun a hf => ?_)
                  refine stepS hf rfl rfl (er_storeB hs (.c (.k (.k (.k .nil)))) hf rfl rfl rfl sz_23 rfl) (fun w hs => ?_)
                  refine hK41 _ _ ?_
                  replace hs := hs.keep (.k (.d (.k (.k .nil))))
                  replace hs := hs.pick (.k (.k (.c .nil)))
                  replace hs := hs.pick (.k (.k (.c .nil)))
                  have e38 := some_eq H; subst e38
                  exact hJ38 _ _ ⟨hf.sub ⟨rfl, rfl, rfl, rfl, rfl, rfl, rfl, rfl, trivial⟩, hs⟩
                · -- not ((gd PerfOp.zero a2 y22).Voltage) = true
                  replace hf := hf.castB (t := 55) rfl (bool_f hc40)
                  refine cond_F hf rfl ?_
                  refine wp_skip ?_
                  replace hs := hs.keep (.k (.d (.k (.k .nil))))
                  replace hs := hs.pick (.k (.k (.c .nil)))
                  replace hs := hs.pick (.k (.k (.c .nil)))
                  have e38 := some_eq H; subst e38
                  exact hJ38 _ _ ⟨hf.sub ⟨rfl, rfl, rfl, rfl, rfl, rfl, rfl, rfl, trivial⟩, hs⟩
              · obtain ⟨hf, hs⟩ := hJ
                replace H := HO38
                clear HO38
                refine ck_some H (fun hc43 H => ?_)
                refine region_k (fun K45 hK45 => ?_)
                refine stq hf rfl rfl rfl (ex_move hf rfl) (fun a hf => ?_)
                refine stq hf rfl rfl rfl (ex_loadA (cs := [.bool ((gd PerfOp.zero a2 y22).Voltage), .int .u64 x38]) ag_40 hf rfl (bx_cells (hs.get (i := 2) rfl) rfl)) (fun a hf => ?_)
                refine stepV hf rfl rfl rfl (er_buildSlice (K := K_api_PerfOp) (xs := [(⟨((gd PerfOp.zero a2 y22).Voltage), x38⟩ : PerfOp)]) hs Try.underlying35 ep_40 rfl rfl hf rfl (.cons rfl .nil) rfl rfl) (fun v42 w hs a hf => ?_)
                refine stepV hf rfl rfl rfl (er_append (K := K_api_PerfOp) hs (.k (.k (.c (.k .nil)))) (osl_rsl _ (hs.get (i := 0) rfl)) rfl Try.underlying35 ep_40 hc43 rfl hf rfl rfl) (fun v44 w hs a hf => ?_)
                refine stq hf rfl rfl rfl (ex_assign hf rfl) (fun a hf => ?_)
                refine hK45 _ _ ?_
                refine hN29 _ _ ?_
                refine hN28 _ _ ?_
                refine region_k (fun K46 hK46 => ?_)
                refine stq hf rfl rfl rfl (ex_move hf rfl) (fun a hf => ?_)
                refine stq hf rfl rfl rfl (ex_add hf rfl rfl) (fun a hf => ?_)
                refine stq hf rfl rfl rfl (ex_assign hf rfl) (fun a hf => ?_)
                refine hK46 _ _ ?_
                replace hs := hs.keep (.k (.d (.k (.d .nil))))
                replace hs := hs.pick (.k (.c .nil))
                exact hL24 k24 _ _ (Nat.lt_succ_self _) ⟨(y21 ++ [(⟨((gd PerfOp.zero a2 y22).Voltage), x38⟩ : PerfOp)]), (IntKind.i64.wrap (y22 + 1)), v44, hf.sub ⟨rfl, rfl, rfl, rfl, rfl, rfl, rfl, trivial⟩, hs, H⟩
            · -- not y22 < (a2.length : Int)
              replace hf := hf.castB (t := 31) rfl (dec_f hc27)
              refine cond_F hf rfl ?_
              refine wp_exit ?_
              refine hX25 0 _ _ ?_
              refine hX24 0 _ _ ?_
              refine hX19 _ _ ?_
              have e16 := some_eq H; subst e16
              exact hJ16 _ _ ⟨v20, hf.sub ⟨rfl, rfl, rfl, rfl, rfl, rfl, trivial⟩, hs⟩
      · obtain ⟨v17, hf, hs⟩ := hJ
        replace H := HO16
        clear HO16
        refine bnd H (fun s47 hs47 H => ?_)
        refine bnd H (fun s48 hs48 H => ?_)
        refine itt H (fun hc49 H => ?_) (fun hc49 H => ?_)
        · -- (s47 == s48) = true
          refine bnd H (fun s50 hs50 H => ?_)
          refine bnd H (fun s51 hs51 H => ?_)
          refine itt H (fun hc52 H => ?_) (fun hc52 H => ?_)
          · -- (s50 == s51) = true
            refine bnd H (fun s53 hs53 H => ?_)
            refine bnd H (fun s54 hs54 H => ?_)
            refine itt H (fun hc55 H => ?_) (fun hc55 H => ?_)
            · -- (s53 == s54) = true
              refine bnd H (fun s56 hs56 H => ?_)
              refine bnd H (fun s57 hs57 H => ?_)
              refine itt H (fun hc58 H => ?_) (fun hc58 H => ?_)
              · -- (s56 == s57) = true
                refine bnd H (fun s59 hs59 H => ?_)
                refine seq_reg (fun K60 hK60 => ?_)
                refine stq hf rfl rfl rfl (ex_move hf rfl) (fun a hf => ?_)
                refine stq hf rfl rfl rfl (ex_move hf rfl) (fun a hf => ?_)
                refine stq hf rfl rfl rfl (ex_move hf rfl) (fun a hf => ?_)
                refine stepF hf rfl rfl rfl (ex_call cf_22 hf rfl) (perf_Safe.calls k a0 a1 a2 v0 v2 (hs.enter (.k (.k .nil))) (Sr.old hr hs (.k (.k .nil)) (i := 0) rfl (fun _ h => h) (fun _ h => h) (Sr.old hr hs (.k (.k .nil)) (i := 1) rfl (fun _ h => h) (fun _ h => h) (Sr.nil _ _))) hs47) (fun v w hR a hf => ?_)
                obtain ⟨rfl, hs'⟩ := hR
                replace hs := hs.step (.k (.k .nil)) hs'
                clear hs'
                refine stq hf rfl rfl rfl (ex_move hf rfl) (fun a hf => ?_)
                refine stq hf rfl rfl rfl (ex_move hf rfl) (fun a hf => ?_)
                refine stq hf rfl rfl rfl (ex_move hf rfl) (fun a hf => ?_)
                refine stepF hf rfl rfl rfl (ex_call cf_23 hf rfl) (ref36_Safe.calls k a0 a1 a2 v0 v2 (hs.enter (.k (.k .nil))) (Sr.old hr hs (.k (.k .nil)) (i := 0) rfl (fun _ h => h) (fun _ h => h) (Sr.old hr hs (.k (.k .nil)) (i := 1) rfl (fun _ h => h) (fun _ h => h) (Sr.nil _ _))) hs48) (fun v w hR a hf => ?_)
                obtain ⟨rfl, hs'⟩ := hR
                replace hs := hs.step (.k (.k .nil)) hs'
                clear hs'
                refine stq hf rfl rfl rfl (ex_eqb Try.underlying4 hf rfl rfl) (fun a hf => ?_)
                refine stq hf rfl rfl rfl (ex_move hf rfl) (fun a hf => ?_)
                replace hf := hf.castB (t := 78) rfl hc49
                replace hf := hf.castB (t := 79) rfl hc49
                refine stq hf rfl rfl rfl (ex_move hf rfl) (fun a hf => ?_)
                refine stq hf rfl rfl rfl (ex_move hf rfl) (fun a hf => ?_)
                refine stq hf rfl rfl rfl (ex_move hf rfl) (fun a hf => ?_)
                refine stepF hf rfl rfl rfl (ex_call cf_22 hf rfl) (perf_Safe.calls k s10 s13 a2 v11 v2 (hs.enter (.k (.k .nil))) (Sr.own hs (.k (.k .nil)) (i := 0) rfl osl_rsl (fun _ h => h.1) (Sr.old hr hs (.k (.k .nil)) (i := 1) rfl (fun _ h => h) (fun _ h => h) (Sr.nil _ _))) hs50) (fun v w hR a hf => ?_)
                obtain ⟨rfl, hs'⟩ := hR
                replace hs := hs.step (.k (.k .nil)) hs'
                clear hs'
                refine stq hf rfl rfl rfl (ex_move hf rfl) (fun a hf => ?_)
                refine stq hf rfl rfl rfl (ex_move hf rfl) (fun a hf => ?_)
                refine stq hf rfl rfl rfl (ex_move hf rfl) (fun a hf => ?_)
                refine stepF hf rfl rfl rfl (ex_call cf_23 hf rfl) (ref36_Safe.calls k s10 s13 a2 v11 v2 (hs.enter (.k (.k .nil))) (Sr.own hs (.k (.k .nil)) (i := 0) rfl osl_rsl (fun _ h => h.1) (Sr.old hr hs (.k (.k .nil)) (i := 1) rfl (fun _ h => h) (fun _ h => h) (Sr.nil _ _))) hs51) (fun v w hR a hf => ?_)
                obtain ⟨rfl, hs'⟩ := hR
                replace hs := hs.step (.k (.k .nil)) hs'
                clear hs'
                refine stq hf rfl rfl rfl (ex_eqb Try.underlying4 hf rfl rfl) (fun a hf => ?_)
                refine stq hf rfl rfl rfl (ex_pickT hf rfl rfl) (fun a hf => ?_)
                refine stq hf rfl rfl rfl (ex_move hf rfl) (fun a hf => ?_)
                replace hf := hf.castB (t := 88) rfl hc52
                replace hf := hf.castB (t := 89) rfl hc52
                replace hf := hf.castB (t := 90) rfl hc52
                refine stq hf rfl rfl rfl (ex_move hf rfl) (fun a hf => ?_)
                refine stq hf rfl rfl rfl (ex_move hf rfl) (fun a hf => ?_)
                refine stq hf rfl rfl rfl (ex_move hf rfl) (fun a hf => ?_)
                refine stepF hf rfl rfl rfl (ex_call cf_22 hf rfl) (perf_Safe.calls k s10 s13 x16 v11 v17 (hs.enter (.k (.k .nil))) (Sr.own hs (.k (.k .nil)) (i := 0) rfl osl_rsl (fun _ h => h.1) (Sr.own hs (.k (.k .nil)) (i := 1) rfl osl_rsl (fun _ h => h.1) (Sr.nil _ _))) hs53) (fun v w hR a hf => ?_)
                obtain ⟨rfl, hs'⟩ := hR
                replace hs := hs.step (.k (.k .nil)) hs'
                clear hs'
                refine stq hf rfl rfl rfl (ex_move hf rfl) (fun a hf => ?_)
                refine stq hf rfl rfl rfl (ex_move hf rfl) (fun a hf => ?_)
                refine stq hf rfl rfl rfl (ex_move hf rfl) (fun a hf => ?_)
                refine stepF hf rfl rfl rfl (ex_call cf_23 hf rfl) (ref36_Safe.calls k s10 s13 x16 v11 v17 (hs.enter (.k (.k .nil))) (Sr.own hs (.k (.k .nil)) (i := 0) rfl osl_rsl (fun _ h => h.1) (Sr.own hs (.k (.k .nil)) (i := 1) rfl osl_rsl (fun _ h => h.1) (Sr.nil _ _))) hs54) (fun v w hR a hf => ?_)
                obtain ⟨rfl, hs'⟩ := hR
                replace hs := hs.step (.k (.k .nil)) hs'
                clear hs'
                refine stq hf rfl rfl rfl (ex_eqb Try.underlying4 hf rfl rfl) (fun a hf => ?_)
                refine stq hf rfl rfl rfl (ex_pickT hf rfl rfl) (fun a hf => ?_)
                refine stq hf rfl rfl rfl (ex_move hf rfl) (fun a hf => ?_)
                replace hf := hf.castB (t := 99) rfl hc55
                replace hf := hf.castB (t := 100) rfl hc55
                replace hf := hf.castB (t := 101) rfl hc55
                refine stq hf rfl rfl rfl (ex_move hf rfl) (fun a hf => ?_)
                refine stq hf rfl rfl rfl (ex_move hf rfl) (fun a hf => ?_)
                refine stq hf rfl rfl rfl (ex_move hf rfl) (fun a hf => ?_)
                refine stepF hf rfl rfl rfl (ex_call cf_22 hf rfl) (perf_Safe.calls k s10 a1 x16 v11 v17 (hs.enter (.k (.k .nil))) (Sr.own hs (.k (.k .nil)) (i := 0) rfl osl_rsl (fun _ h => h.1) (Sr.own hs (.k (.k .nil)) (i := 1) rfl osl_rsl (fun _ h => h.1) (Sr.nil _ _))) hs56) (fun v w hR a hf => ?_)
                obtain ⟨rfl, hs'⟩ := hR
                replace hs := hs.step (.k (.k .nil)) hs'
                clear hs'
                refine stq hf rfl rfl rfl (ex_move hf rfl) (fun a hf => ?_)
                refine stq hf rfl rfl rfl (ex_move hf rfl) (fun a hf => ?_)
                refine stq hf rfl rfl rfl (ex_move hf rfl) (fun a hf => ?_)
                refine stepF hf rfl rfl rfl (ex_call cf_23 hf rfl) (ref36_Safe.calls k s10 a1 x16 v11 v17 (hs.enter (.k (.k .nil))) (Sr.own hs (.k (.k .nil)) (i := 0) rfl osl_rsl (fun _ h => h.1) (Sr.own hs (.k (.k .nil)) (i := 1) rfl osl_rsl (fun _ h => h.1) (Sr.nil _ _))) hs57) (fun v w hR a hf => ?_)
                obtain ⟨rfl, hs'⟩ := hR
                replace hs := hs.step (.k (.k .nil)) hs'
                clear hs'
                refine stq hf rfl rfl rfl (ex_eqb Try.underlying4 hf rfl rfl) (fun a hf => ?_)
                refine stq hf rfl rfl rfl (ex_pickT hf rfl rfl) (fun a hf => ?_)
                refine stq hf rfl rfl rfl (ex_move hf rfl) (fun a hf => ?_)
                replace hf := hf.castB (t := 110) rfl hc58
                replace hf := hf.castB (t := 111) rfl hc58
                replace hf := hf.castB (t := 112) rfl hc58
                refine stepF hf rfl rfl rfl (ex_call cf_12 hf rfl) (law36_awake.calls k (hs.enter (.k (.k .nil))) (Sr.nil _ _) hs59) (fun v w hR a hf => ?_)
                obtain ⟨rfl, hs'⟩ := hR
                replace hs := hs.step (.k (.k .nil)) hs'
                clear hs'
                refine stq hf rfl rfl rfl (ex_pickT hf rfl rfl) (fun a hf => ?_)
                refine stq hf rfl rfl rfl (ex_assign hf rfl) (fun a hf => ?_)
                refine hK60 _ _ ?_
                refine wp_ret ?_
                have eR := some_eq H; subst eR
                replace hs := hs.keep (.d (.d .nil))
                exact ret1 Try.results6 hf rfl ⟨_, rfl, ⟨rfl, hs⟩⟩
              · -- not (s56 == s57) = true
                refine seq_reg (fun K61 hK61 => ?_)
                refine stq hf rfl rfl rfl (ex_move hf rfl) (fun a hf => ?_)
                refine stq hf rfl rfl rfl (ex_move hf rfl) (fun a hf => ?_)
                refine stq hf rfl rfl rfl (ex_move hf rfl) (fun a hf => ?_)
                refine stepF hf rfl rfl rfl (ex_call cf_22 hf rfl) (perf_Safe.calls k a0 a1 a2 v0 v2 (hs.enter (.k (.k .nil))) (Sr.old hr hs (.k (.k .nil)) (i := 0) rfl (fun _ h => h) (fun _ h => h) (Sr.old hr hs (.k (.k .nil)) (i := 1) rfl (fun _ h => h) (fun _ h => h) (Sr.nil _ _))) hs47) (fun v w hR a hf => ?_)
                obtain ⟨rfl, hs'⟩ := hR
                replace hs := hs.step (.k (.k .nil)) hs'
                clear hs'
                refine stq hf rfl rfl rfl (ex_move hf rfl) (fun a hf => ?_)
                refine stq hf rfl rfl rfl (ex_move hf rfl) (fun a hf => ?_)
                refine stq hf rfl rfl rfl (ex_move hf rfl) (fun a hf => ?_)
                refine stepF hf rfl rfl rfl (ex_call cf_23 hf rfl) (ref36_Safe.calls k a0 a1 a2 v0 v2 (hs.enter (.k (.k .nil))) (Sr.old hr hs (.k (.k .nil)) (i := 0) rfl (fun _ h => h) (fun _ h => h) (Sr.old hr hs (.k (.k .nil)) (i := 1) rfl (fun _ h => h) (fun _ h => h) (Sr.nil _ _))) hs48) (fun v w hR a hf => ?_)
                obtain ⟨rfl, hs'⟩ := hR
                replace hs := hs.step (.k (.k .nil)) hs'
                clear hs'
                refine stq hf rfl rfl rfl (ex_eqb Try.underlying4 hf rfl rfl) (fun a hf => ?_)
                refine stq hf rfl rfl rfl (ex_move hf rfl) (fun a hf => ?_)
                replace hf := hf.castB (t := 78) rfl hc49
                replace hf := hf.castB (t := 79) rfl hc49
                refine stq hf rfl rfl rfl (ex_move hf rfl) (fun a hf => ?_)
                refine stq hf rfl rfl rfl (ex_move hf rfl) (fun a hf => ?_)
                refine stq hf rfl rfl rfl (ex_move hf rfl) (fun a hf => ?_)
                refine stepF hf rfl rfl rfl (ex_call cf_22 hf rfl) (perf_Safe.calls k s10 s13 a2 v11 v2 (hs.enter (.k (.k .nil))) (Sr.own hs (.k (.k .nil)) (i := 0) rfl osl_rsl (fun _ h => h.1) (Sr.old hr hs (.k (.k .nil)) (i := 1) rfl (fun _ h => h) (fun _ h => h) (Sr.nil _ _))) hs50) (fun v w hR a hf => ?_)
                obtain ⟨rfl, hs'⟩ := hR
                replace hs := hs.step (.k (.k .nil)) hs'
                clear hs'
                refine stq hf rfl rfl rfl (ex_move hf rfl) (fun a hf => ?_)
                refine stq hf rfl rfl rfl (ex_move hf rfl) (fun a hf => ?_)
                refine stq hf rfl rfl rfl (ex_move hf rfl) (fun a hf => ?_)
                refine stepF hf rfl rfl rfl (ex_call cf_23 hf rfl) (ref36_Safe.calls k s10 s13 a2 v11 v2 (hs.enter (.k (.k .nil))) (Sr.own hs (.k (.k .nil)) (i := 0) rfl osl_rsl (fun _ h => h.1) (Sr.old hr hs (.k (.k .nil)) (i := 1) rfl (fun _ h => h) (fun _ h => h) (Sr.nil _ _))) hs51) (fun v w hR a hf => ?_)
                obtain ⟨rfl, hs'⟩ := hR
                replace hs := hs.step (.k (.k .nil)) hs'
                clear hs'
                refine stq hf rfl rfl rfl (ex_eqb Try.underlying4 hf rfl rfl) (fun a hf => ?_)
                refine stq hf rfl rfl rfl (ex_pickT hf rfl rfl) (fun a hf => ?_)
                refine stq hf rfl rfl rfl (ex_move hf rfl) (fun a hf => ?_)
                replace hf := hf.castB (t := 88) rfl hc52
                replace hf := hf.castB (t := 89) rfl hc52
                replace hf := hf.castB (t := 90) rfl hc52
                refine stq hf rfl rfl rfl (ex_move hf rfl) (fun a hf => ?_)
                refine stq hf rfl rfl rfl (ex_move hf rfl) (fun a hf => ?_)
                refine stq hf rfl rfl rfl (ex_move hf rfl) (fun a hf => ?_)
                refine stepF hf rfl rfl rfl (ex_call cf_22 hf rfl) (perf_Safe.calls k s10 s13 x16 v11 v17 (hs.enter (.k (.k .nil))) (Sr.own hs (.k (.k .nil)) (i := 0) rfl osl_rsl (fun _ h => h.1) (Sr.own hs (.k (.k .nil)) (i := 1) rfl osl_rsl (fun _ h => h.1) (Sr.nil _ _))) hs53) (fun v w hR a hf => ?_)
                obtain ⟨rfl, hs'⟩ := hR
                replace hs := hs.step (.k (.k .nil)) hs'
                clear hs'
                refine stq hf rfl rfl rfl (ex_move hf rfl) (fun a hf => ?_)
                refine stq hf rfl rfl rfl (ex_move hf rfl) (fun a hf => ?_)
                refine stq hf rfl rfl rfl (ex_move hf rfl) (fun a hf => ?_)
                refine stepF hf rfl rfl rfl (ex_call cf_23 hf rfl) (ref36_Safe.calls k s10 s13 x16 v11 v17 (hs.enter (.k (.k .nil))) (Sr.own hs (.k (.k .nil)) (i := 0) rfl osl_rsl (fun _ h => h.1) (Sr.own hs (.k (.k .nil)) (i := 1) rfl osl_rsl (fun _ h => h.1) (Sr.nil _ _))) hs54) (fun v w hR a hf => ?_)
                obtain ⟨rfl, hs'⟩ := hR
                replace hs := hs.step (.k (.k .nil)) hs'
                clear hs'
                refine stq hf rfl rfl rfl (ex_eqb Try.underlying4 hf rfl rfl) (fun a hf => ?_)
                refine stq hf rfl rfl rfl (ex_pickT hf rfl rfl) (fun a hf => ?_)
                refine stq hf rfl rfl rfl (ex_move hf rfl) (fun a hf => ?_)
                replace hf := hf.castB (t := 99) rfl hc55
                replace hf := hf.castB (t := 100) rfl hc55
                replace hf := hf.castB (t := 101) rfl hc55
                refine stq hf rfl rfl rfl (ex_move hf rfl) (fun a hf => ?_)
                refine stq hf rfl rfl rfl (ex_move hf rfl) (fun a hf => ?_)
                refine stq hf rfl rfl rfl (ex_move hf rfl) (fun a hf => ?_)
                refine stepF hf rfl rfl rfl (ex_call cf_22 hf rfl) (perf_Safe.calls k s10 a1 x16 v11 v17 (hs.enter (.k (.k .nil))) (Sr.own hs (.k (.k .nil)) (i := 0) rfl osl_rsl (fun _ h => h.1) (Sr.own hs (.k (.k .nil)) (i := 1) rfl osl_rsl (fun _ h => h.1) (Sr.nil _ _))) hs56) (fun v w hR a hf => ?_)
                obtain ⟨rfl, hs'⟩ := hR
                replace hs := hs.step (.k (.k .nil)) hs'
                clear hs'
                refine stq hf rfl rfl rfl (ex_move hf rfl) (fun a hf => ?_)
                refine stq hf rfl rfl rfl (ex_move hf rfl) (fun a hf => ?_)
                refine stq hf rfl rfl rfl (ex_move hf rfl) (fun a hf => ?_)
                refine stepF hf rfl rfl rfl (ex_call cf_23 hf rfl) (ref36_Safe.calls k s10 a1 x16 v11 v17 (hs.enter (.k (.k .nil))) (Sr.own hs (.k (.k .nil)) (i := 0) rfl osl_rsl (fun _ h => h.1) (Sr.own hs (.k (.k .nil)) (i := 1) rfl osl_rsl (fun _ h => h.1) (Sr.nil _ _))) hs57) (fun v w hR a hf => ?_)
                obtain ⟨rfl, hs'⟩ := hR
                replace hs := hs.step (.k (.k .nil)) hs'
                clear hs'
                refine stq hf rfl rfl rfl (ex_eqb Try.underlying4 hf rfl rfl) (fun a hf => ?_)
                refine stq hf rfl rfl rfl (ex_pickT hf rfl rfl) (fun a hf => ?_)
                refine stq hf rfl rfl rfl (ex_move hf rfl) (fun a hf => ?_)
                replace hf := hf.castB (t := 110) rfl (bool_f hc58)
                replace hf := hf.castB (t := 111) rfl (bool_f hc58)
                replace hf := hf.castB (t := 112) rfl (bool_f hc58)
                refine stepN hf rfl rfl rfl (fun a hf => ?_)
                refine stq hf rfl rfl rfl (ex_pickF hf rfl rfl) (fun a hf => ?_)
                refine stq hf rfl rfl rfl (ex_assign hf rfl) (fun a hf => ?_)
                refine hK61 _ _ ?_
                refine wp_ret ?_
                have eR := some_eq H; subst eR
                replace hs := hs.keep (.d (.d .nil))
                exact ret1 Try.results6 hf rfl ⟨_, rfl, ⟨rfl, hs⟩⟩
            · -- not (s53 == s54) = true
              refine seq_reg (fun K62 hK62 => ?_)
              refine stq hf rfl rfl rfl (ex_move hf rfl) (fun a hf => ?_)
              refine stq hf rfl rfl rfl (ex_move hf rfl) (fun a hf => ?_)
              refine stq hf rfl rfl rfl (ex_move hf rfl) (fun a hf => ?_)
              refine stepF hf rfl rfl rfl (ex_call cf_22 hf rfl) (perf_Safe.calls k a0 a1 a2 v0 v2 (hs.enter (.k (.k .nil))) (Sr.old hr hs (.k (.k .nil)) (i := 0) rfl (fun _ h => h) (fun _ h => h) (Sr.old hr hs (.k (.k .nil)) (i := 1) rfl (fun _ h => h) (fun _ h => h) (Sr.nil _ _))) hs47) (fun v w hR a hf => ?_)
              obtain ⟨rfl, hs'⟩ := hR
              replace hs := hs.step (.k (.k .nil)) hs'
              clear hs'
              refine stq hf rfl rfl rfl (ex_move hf rfl) (fun a hf => ?_)
              refine stq hf rfl rfl rfl (ex_move hf rfl) (fun a hf => ?_)
              refine stq hf rfl rfl rfl (ex_move hf rfl) (fun a hf => ?_)
              refine stepF hf rfl rfl rfl (ex_call cf_23 hf rfl) (ref36_Safe.calls k a0 a1 a2 v0 v2 (hs.enter (.k (.k .nil))) (Sr.old hr hs (.k (.k .nil)) (i := 0) rfl (fun _ h => h) (fun _ h => h) (Sr.old hr hs (.k (.k .nil)) (i := 1) rfl (fun _ h => h) (fun _ h => h) (Sr.nil _ _))) hs48) (fun v w hR a hf => ?_)
              obtain ⟨rfl, hs'⟩ := hR
              replace hs := hs.step (.k (.k .nil)) hs'
              clear hs'
              refine stq hf rfl rfl rfl (ex_eqb Try.underlying4 hf rfl rfl) (fun a hf => ?_)
              refine stq hf rfl rfl rfl (ex_move hf rfl) (fun a hf => ?_)
              replace hf := hf.castB (t := 78) rfl hc49
              replace hf := hf.castB (t := 79) rfl hc49
              refine stq hf rfl rfl rfl (ex_move hf rfl) (fun a hf => ?_)
              refine stq hf rfl rfl rfl (ex_move hf rfl) (fun a hf => ?_)
              refine stq hf rfl rfl rfl (ex_move hf rfl) (fun a hf => ?_)
              refine stepF hf rfl rfl rfl (ex_call cf_22 hf rfl) (perf_Safe.calls k s10 s13 a2 v11 v2 (hs.enter (.k (.k .nil))) (Sr.own hs (.k (.k .nil)) (i := 0) rfl osl_rsl (fun _ h => h.1) (Sr.old hr hs (.k (.k .nil)) (i := 1) rfl (fun _ h => h) (fun _ h => h) (Sr.nil _ _))) hs50) (fun v w hR a hf => ?_)
              obtain ⟨rfl, hs'⟩ := hR
              replace hs := hs.step (.k (.k .nil)) hs'
              clear hs'
              refine stq hf rfl rfl rfl (ex_move hf rfl) (fun a hf => ?_)
              refine stq hf rfl rfl rfl (ex_move hf rfl) (fun a hf => ?_)
              refine stq hf rfl rfl rfl (ex_move hf rfl) (fun a hf => ?_)
              refine stepF hf rfl rfl rfl (ex_call cf_23 hf rfl) (ref36_Safe.calls k s10 s13 a2 v11 v2 (hs.enter (.k (.k .nil))) (Sr.own hs (.k (.k .nil)) (i := 0) rfl osl_rsl (fun _ h => h.1) (Sr.old hr hs (.k (.k .nil)) (i := 1) rfl (fun _ h => h) (fun _ h => h) (Sr.nil _ _))) hs51) (fun v w hR a hf => ?_)
              obtain ⟨rfl, hs'⟩ := hR
              replace hs := hs.step (.k (.k .nil)) hs'
              clear hs'
              refine stq hf rfl rfl rfl (ex_eqb Try.underlying4 hf rfl rfl) (fun a hf => ?_)
              refine stq hf rfl rfl rfl (ex_pickT hf rfl rfl) (fun a hf => ?_)
              refine stq hf rfl rfl rfl (ex_move hf rfl) (fun a hf => ?_)
              replace hf := hf.castB (t := 88) rfl hc52
              replace hf := hf.castB (t := 89) rfl hc52
              replace hf := hf.castB (t := 90) rfl hc52
              refine stq hf rfl rfl rfl (ex_move hf rfl) (fun a hf => ?_)
              refine stq hf rfl rfl rfl (ex_move hf rfl) (fun a hf => ?_)
              refine stq hf rfl rfl rfl (ex_move hf rfl) (fun a hf => ?_)
              refine stepF hf rfl rfl rfl (ex_call cf_22 hf rfl) (perf_Safe.calls k s10 s13 x16 v11 v17 (hs.enter (.k (.k .nil))) (Sr.own hs (.k (.k .nil)) (i := 0) rfl osl_rsl (fun _ h => h.1) (Sr.own hs (.k (.k .nil)) (i := 1) rfl osl_rsl (fun _ h => h.1) (Sr.nil _ _))) hs53) (fun v w hR a hf => ?_)
              obtain ⟨rfl, hs'⟩ := hR
              replace hs := hs.step (.k (.k .nil)) hs'
              clear hs'
              refine stq hf rfl rfl rfl (ex_move hf rfl) (fun a hf => ?_)
              refine stq hf rfl rfl rfl (ex_move hf rfl) (fun a hf => ?_)
              refine stq hf rfl rfl rfl (ex_move hf rfl) (fun a hf => ?_)
              refine stepF hf rfl rfl rfl (ex_call cf_23 hf rfl) (ref36_Safe.calls k s10 s13 x16 v11 v17 (hs.enter (.k (.k .nil))) (Sr.own hs (.k (.k .nil)) (i := 0) rfl osl_rsl (fun _ h => h.1) (Sr.own hs (.k (.k .nil)) (i := 1) rfl osl_rsl (fun _ h => h.1) (Sr.nil _ _))) hs54) (fun v w hR a hf => ?_)
              obtain ⟨rfl, hs'⟩ := hR
              replace hs := hs.step (.k (.k .nil)) hs'
              clear hs'
              refine stq hf rfl rfl rfl (ex_eqb Try.underlying4 hf rfl rfl) (fun a hf => ?_)
              refine stq hf rfl rfl rfl (ex_pickT hf rfl rfl) (fun a hf => ?_)
              refine stq hf rfl rfl rfl (ex_move hf rfl) (fun a hf => ?_)
              replace hf := hf.castB (t := 99) rfl (bool_f hc55)
              replace hf := hf.castB (t := 100) rfl (bool_f hc55)
              replace hf := hf.castB (t := 101) rfl (bool_f hc55)
              refine stepN hf rfl rfl rfl (fun a hf => ?_)
              refine stepN hf rfl rfl rfl (fun a hf => ?_)
              refine stepN hf rfl rfl rfl (fun a hf => ?_)
              refine stepN hf rfl rfl rfl (fun a hf => ?_)
              refine stepN hf rfl rfl rfl (fun a hf => ?_)
              refine stepN hf rfl rfl rfl (fun a hf => ?_)
              refine stepN hf rfl rfl rfl (fun a hf => ?_)
              refine stepN hf rfl rfl rfl (fun a hf => ?_)
              refine stepN hf rfl rfl rfl (fun a hf => ?_)
              refine stq hf rfl rfl rfl (ex_pickF hf rfl rfl) (fun a hf => ?_)
              refine stq hf rfl rfl rfl (ex_move hf rfl) (fun a hf => ?_)
              refine stepN hf rfl rfl rfl (fun a hf => ?_)
              refine stq hf rfl rfl rfl (ex_pickF hf rfl rfl) (fun a hf => ?_)
              refine stq hf rfl rfl rfl (ex_assign hf rfl) (fun a hf => ?_)
              refine hK62 _ _ ?_
              refine wp_ret ?_
              have eR := some_eq H; subst eR
              replace hs := hs.keep (.d (.d .nil))
              exact ret1 Try.results6 hf rfl ⟨_, rfl, ⟨rfl, hs⟩⟩
          · -- not (s50 == s51) = true
            refine seq_reg (fun K63 hK63 => ?_)
            refine stq hf rfl rfl rfl (ex_move hf rfl) (fun a hf => ?_)
            refine stq hf rfl rfl rfl (ex_move hf rfl) (fun a hf => ?_)
            refine stq hf rfl rfl rfl (ex_move hf rfl) (fun a hf => ?_)
            refine stepF hf rfl rfl rfl (ex_call cf_22 hf rfl) (perf_Safe.calls k a0 a1 a2 v0 v2 (hs.enter (.k (.k .nil))) (Sr.old hr hs (.k (.k .nil)) (i := 0) rfl (fun _ h => h) (fun _ h => h) (Sr.old hr hs (.k (.k .nil)) (i := 1) rfl (fun _ h => h) (fun _ h => h) (Sr.nil _ _))) hs47) (fun v w hR a hf => ?_)
            obtain ⟨rfl, hs'⟩ := hR
            replace hs := hs.step (.k (.k .nil)) hs'
            clear hs'
            refine stq hf rfl rfl rfl (ex_move hf rfl) (fun a hf => ?_)
            refine stq hf rfl rfl rfl (ex_move hf rfl) (fun a hf => ?_)
            refine stq hf rfl rfl rfl (ex_move hf rfl) (fun a hf => ?_)
            refine stepF hf rfl rfl rfl (ex_call cf_23 hf rfl) (ref36_Safe.calls k a0 a1 a2 v0 v2 (hs.enter (.k (.k .nil))) (Sr.old hr hs (.k (.k .nil)) (i := 0) rfl (fun _ h => h) (fun _ h => h) (Sr.old hr hs (.k (.k .nil)) (i := 1) rfl (fun _ h => h) (fun _ h => h) (Sr.nil _ _))) hs48) (fun v w hR a hf => ?_)
            obtain ⟨rfl, hs'⟩ := hR
            replace hs := hs.step (.k (.k .nil)) hs'
            clear hs'
            refine stq hf rfl rfl rfl (ex_eqb Try.underlying4 hf rfl rfl) (fun a hf => ?_)
            refine stq hf rfl rfl rfl (ex_move hf rfl) (fun a hf => ?_)
            replace hf := hf.castB (t := 78) rfl hc49
            replace hf := hf.castB (t := 79) rfl hc49
            refine stq hf rfl rfl rfl (ex_move hf rfl) (fun a hf => ?_)
            refine stq hf rfl rfl rfl (ex_move hf rfl) (fun a hf => ?_)
            refine stq hf rfl rfl rfl (ex_move hf rfl) (fun a hf => ?_)
            refine stepF hf rfl rfl rfl (ex_call cf_22 hf rfl) (perf_Safe.calls k s10 s13 a2 v11 v2 (hs.enter (.k (.k .nil))) (Sr.own hs (.k (.k .nil)) (i := 0) rfl osl_rsl (fun _ h => h.1) (Sr.old hr hs (.k (.k .nil)) (i := 1) rfl (fun _ h => h) (fun _ h => h) (Sr.nil _ _))) hs50) (fun v w hR a hf => ?_)
            obtain ⟨rfl, hs'⟩ := hR
            replace hs := hs.step (.k (.k .nil)) hs'
            clear hs'
            refine stq hf rfl rfl rfl (ex_move hf rfl) (fun a hf => ?_)
            refine stq hf rfl rfl rfl (ex_move hf rfl) (fun a hf => ?_)
            refine stq hf rfl rfl rfl (ex_move hf rfl) (fun a hf => ?_)
            refine stepF hf rfl rfl rfl (ex_call cf_23 hf rfl) (ref36_Safe.calls k s10 s13 a2 v11 v2 (hs.enter (.k (.k .nil))) (Sr.own hs (.k (.k .nil)) (i := 0) rfl osl_rsl (fun _ h => h.1) (Sr.old hr hs (.k (.k .nil)) (i := 1) rfl (fun _ h => h) (fun _ h => h) (Sr.nil _ _))) hs51) (fun v w hR a hf => ?_)
            obtain ⟨rfl, hs'⟩ := hR
            replace hs := hs.step (.k (.k .nil)) hs'
            clear hs'
            refine stq hf rfl rfl rfl (ex_eqb Try.underlying4 hf rfl rfl) (fun a hf => ?_)
            refine stq hf rfl rfl rfl (ex_pickT hf rfl rfl) (fun a hf => ?_)
            refine stq hf rfl rfl rfl (ex_move hf rfl) (fun a hf => ?_)
            replace hf := hf.castB (t := 88) rfl (bool_f hc52)
            replace hf := hf.castB (t := 89) rfl (bool_f hc52)
            replace hf := hf.castB (t := 90) rfl (bool_f hc52)
            refine stepN hf rfl rfl rfl (fun a hf => ?_)
            refine stepN hf rfl rfl rfl (fun a hf => ?_)
            refine stepN hf rfl rfl rfl (fun a hf => ?_)
            refine stepN hf rfl rfl rfl (fun a hf => ?_)
            refine stepN hf rfl rfl rfl (fun a hf => ?_)
            refine stepN hf rfl rfl rfl (fun a hf => ?_)
            refine stepN hf rfl rfl rfl (fun a hf => ?_)
            refine stepN hf rfl rfl rfl (fun a hf => ?_)
            refine stepN hf rfl rfl rfl (fun a hf => ?_)
            refine stq hf rfl rfl rfl (ex_pickF hf rfl rfl) (fun a hf => ?_)
            refine stq hf rfl rfl rfl (ex_move hf rfl) (fun a hf => ?_)
            refine stepN hf rfl rfl rfl (fun a hf => ?_)
            refine stepN hf rfl rfl rfl (fun a hf => ?_)
            refine stepN hf rfl rfl rfl (fun a hf => ?_)
            refine stepN hf rfl rfl rfl (fun a hf => ?_)
            refine stepN hf rfl rfl rfl (fun a hf => ?_)
            refine stepN hf rfl rfl rfl (fun a hf => ?_)
            refine stepN hf rfl rfl rfl (fun a hf => ?_)
            refine stepN hf rfl rfl rfl (fun a hf => ?_)
            refine stepN hf rfl rfl rfl (fun a hf => ?_)
            refine stq hf rfl rfl rfl (ex_pickF hf rfl rfl) (fun a hf => ?_)
            refine stq hf rfl rfl rfl (ex_move hf rfl) (fun a hf => ?_)
            refine stepN hf rfl rfl rfl (fun a hf => ?_)
            refine stq hf rfl rfl rfl (ex_pickF hf rfl rfl) (fun a hf => ?_)
            refine stq hf rfl rfl rfl (ex_assign hf rfl) (fun a hf => ?_)
            refine hK63 _ _ ?_
            refine wp_ret ?_
            have eR := some_eq H; subst eR
            replace hs := hs.keep (.d (.d .nil))
            exact ret1 Try.results6 hf rfl ⟨_, rfl, ⟨rfl, hs⟩⟩
        · -- not (s47 == s48) = true
          refine seq_reg (fun K64 hK64 => ?_)
          refine stq hf rfl rfl rfl (ex_move hf rfl) (fun a hf => ?_)
          refine stq hf rfl rfl rfl (ex_move hf rfl) (fun a hf => ?_)
          refine stq hf rfl rfl rfl (ex_move hf rfl) (fun a hf => ?_)
          refine stepF hf rfl rfl rfl (ex_call cf_22 hf rfl) (perf_Safe.calls k a0 a1 a2 v0 v2 (hs.enter (.k (.k .nil))) (Sr.old hr hs (.k (.k .nil)) (i := 0) rfl (fun _ h => h) (fun _ h => h) (Sr.old hr hs (.k (.k .nil)) (i := 1) rfl (fun _ h => h) (fun _ h => h) (Sr.nil _ _))) hs47) (fun v w hR a hf => ?_)
          obtain ⟨rfl, hs'⟩ := hR
          replace hs := hs.step (.k (.k .nil)) hs'
          clear hs'
          refine stq hf rfl rfl rfl (ex_move hf rfl) (fun a hf => ?_)
          refine stq hf rfl rfl rfl (ex_move hf rfl) (fun a hf => ?_)
          refine stq hf rfl rfl rfl (ex_move hf rfl) (fun a hf => ?_)
          refine stepF hf rfl rfl rfl (ex_call cf_23 hf rfl) (ref36_Safe.calls k a0 a1 a2 v0 v2 (hs.enter (.k (.k .nil))) (Sr.old hr hs (.k (.k .nil)) (i := 0) rfl (fun _ h => h) (fun _ h => h) (Sr.old hr hs (.k (.k .nil)) (i := 1) rfl (fun _ h => h) (fun _ h => h) (Sr.nil _ _))) hs48) (fun v w hR a hf => ?_)
          obtain ⟨rfl, hs'⟩ := hR
          replace hs := hs.step (.k (.k .nil)) hs'
          clear hs'
          refine stq hf rfl rfl rfl (ex_eqb Try.underlying4 hf rfl rfl) (fun a hf => ?_)
          refine stq hf rfl rfl rfl (ex_move hf rfl) (fun a hf => ?_)
          replace hf := hf.castB (t := 78) rfl (bool_f hc49)
          replace hf := hf.castB (t := 79) rfl (bool_f hc49)
          refine stepN hf rfl rfl rfl (fun a hf => ?_)
          refine stepN hf rfl rfl rfl (fun a hf => ?_)
          refine stepN hf rfl rfl rfl (fun a hf => ?_)
          refine stepN hf rfl rfl rfl (fun a hf => ?_)
          refine stepN hf rfl rfl rfl (fun a hf => ?_)
          refine stepN hf rfl rfl rfl (fun a hf => ?_)
          refine stepN hf rfl rfl rfl (fun a hf => ?_)
          refine stepN hf rfl rfl rfl (fun a hf => ?_)
          refine stepN hf rfl rfl rfl (fun a hf => ?_)
          refine stq hf rfl rfl rfl (ex_pickF hf rfl rfl) (fun a hf => ?_)
          refine stq hf rfl rfl rfl (ex_move hf rfl) (fun a hf => ?_)
          refine stepN hf rfl rfl rfl (fun a hf => ?_)
          refine stepN hf rfl rfl rfl (fun a hf => ?_)
          refine stepN hf rfl rfl rfl (fun a hf => ?_)
          refine stepN hf rfl rfl rfl (fun a hf => ?_)
          refine stepN hf rfl rfl rfl (fun a hf => ?_)
          refine stepN hf rfl rfl rfl (fun a hf => ?_)
          refine stepN hf rfl rfl rfl (fun a hf => ?_)
          refine stepN hf rfl rfl rfl (fun a hf => ?_)
          refine stepN hf rfl rfl rfl (fun a hf => ?_)
          refine stq hf rfl rfl rfl (ex_pickF hf rfl rfl) (fun a hf => ?_)
          refine stq hf rfl rfl rfl (ex_move hf rfl) (fun a hf => ?_)
          refine stepN hf rfl rfl rfl (fun a hf => ?_)
          refine stepN hf rfl rfl rfl (fun a hf => ?_)
          refine stepN hf rfl rfl rfl (fun a hf => ?_)
          refine stepN hf rfl rfl rfl (fun a hf => ?_)
          refine stepN hf rfl rfl rfl (fun a hf => ?_)
          refine stepN hf rfl rfl rfl (fun a hf => ?_)
          refine stepN hf rfl rfl rfl (fun a hf => ?_)
          refine stepN hf rfl rfl rfl (fun a hf => ?_)
          refine stepN hf rfl rfl rfl (fun a hf => ?_)
          refine stq hf rfl rfl rfl (ex_pickF hf rfl rfl) (fun a hf => ?_)
          refine stq hf rfl rfl rfl (ex_move hf rfl) (fun a hf => ?_)
          refine stepN hf rfl rfl rfl (fun a hf => ?_)
          refine stq hf rfl rfl rfl (ex_pickF hf rfl rfl) (fun a hf => ?_)
          refine stq hf rfl rfl rfl (ex_assign hf rfl) (fun a hf => ?_)
          refine hK64 _ _ ?_
          refine wp_ret ?_
          have eR := some_eq H; subst eR
          replace hs := hs.keep (.d (.d .nil))
          exact ret1 Try.results6 hf rfl ⟨_, rfl, ⟨rfl, hs⟩⟩

end Go.Proofs.Ythemeobgfgmblaa.X
