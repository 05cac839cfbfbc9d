/- Each function of the machine comes to what its pure function says. -/
import Derived.Test.YthemeobgfgmblaaFb
namespace Go.Proofs.Ythemeobgfgmblaa.X
open Go Go.RowKit Go.Sx
set_option linter.unusedVariables false

set_option maxRecDepth 100000 in
theorem perf_Check.calls {M : Nat → Prop} {w0 : World} (k : Nat) (a0 : (List OperatingPoint)) (v0 : Value) {r : Int} (hs : St M w0 w0 []) (hr : Sr M w0 [rsl K_api_OperatingPoint v0 a0])
    (h : perf_Check.f k a0 = some r) : Calls Try.prog 17 #[v0] w0 fun e w => ∃ v, e = .returned v ∧ (.int .i64 r = v ∧ St M w0 w []) := by
  have H := (perf_Check.f.eq_1 ..).symm.trans h
  clear h
  refine enter Try.func17 rfl Try.ntmps17 rfl (fun a hf => ?_)
  refine seq_reg (fun K1 hK1 => ?_)
  refine stq hf rfl rfl rfl (ex_assign hf rfl) (fun a hf => ?_)
  refine hK1 _ _ ?_
  refine seq_n (fun Q2 hN2 hR2 hX2 => ?_)
  refine bnd H (fun x3 H3 HO3 => ?_)
  clear H
  refine seq_cut (fun a w => Fr a 74 [(0, v0), (12, .bool x3)] ∧ St M w0 w []) (fun Q3 hJ3 hR3 hX3 => ?_) (fun a w hJ => ?_)
  · replace H := H3
    refine itt H (fun hc4 H => ?_) (fun hc4 H => ?_)
    · -- (a0.length : Int) < 1
      refine region_k (fun K5 hK5 => ?_)
      refine stq hf rfl rfl rfl (ex_move hf rfl) (fun a hf => ?_)
      refine stq hf rfl rfl rfl (ex_lenS Try.underlying22 (rsl_isSl (hr.now hs (i := 0) rfl)) hf rfl) (fun a hf => ?_)
      refine stq hf rfl rfl rfl (ex_lss hf rfl rfl) (fun a hf => ?_)
      refine stq hf rfl rfl rfl (ex_move hf rfl) (fun a hf => ?_)
      replace hf := hf.castB (t := 7) rfl (dec_t hc4)
      replace hf := hf.castB (t := 8) rfl (dec_t hc4)
      refine stepN hf rfl rfl rfl (fun a hf => ?_)
      refine stepN hf rfl rfl rfl (fun a hf => ?_)
      refine stepN hf rfl rfl rfl (fun a hf => ?_)
      refine stq hf rfl rfl rfl (ex_pickT hf rfl rfl) (fun a hf => ?_)
      refine hK5 _ _ ?_
      have e3 := some_eq H; subst e3
      exact hJ3 _ _ ⟨hf.sub ⟨rfl, rfl, trivial⟩, hs⟩
    · -- not (a0.length : Int) < 1
      refine region_k (fun K6 hK6 => ?_)
      refine stq hf rfl rfl rfl (ex_move hf rfl) (fun a hf => ?_)
      refine stq hf rfl rfl rfl (ex_lenS Try.underlying22 (rsl_isSl (hr.now hs (i := 0) rfl)) hf rfl) (fun a hf => ?_)
      refine stq hf rfl rfl rfl (ex_lss hf rfl rfl) (fun a hf => ?_)
      refine stq hf rfl rfl rfl (ex_move hf rfl) (fun a hf => ?_)
      replace hf := hf.castB (t := 7) rfl (dec_f hc4)
      replace hf := hf.castB (t := 8) rfl (dec_f hc4)
      refine stq hf rfl rfl rfl (ex_move hf rfl) (fun a hf => ?_)
      refine stq hf rfl rfl rfl (ex_lenS Try.underlying22 (rsl_isSl (hr.now hs (i := 0) rfl)) hf rfl) (fun a hf => ?_)
      refine stq hf rfl rfl rfl (ex_gtr hf rfl rfl) (fun a hf => ?_)
      refine stq hf rfl rfl rfl (ex_pickF hf rfl rfl) (fun a hf => ?_)
      refine hK6 _ _ ?_
      have e3 := some_eq H; subst e3
      exact hJ3 _ _ ⟨hf.sub ⟨rfl, rfl, trivial⟩, hs⟩
  · obtain ⟨hf, hs⟩ := hJ
    replace H := HO3
    clear HO3
    refine itt H (fun hc7 H => ?_) (fun hc7 H => ?_)
    · -- x3 = true
      replace hf := hf.castB (t := 12) rfl hc7
      refine cond_T hf rfl ?_
      refine seq_reg (fun K8 hK8 => ?_)
      refine stq hf rfl rfl rfl (ex_assign hf rfl) (fun a hf => ?_)
      refine hK8 _ _ ?_
      refine wp_ret ?_
      refine hR2 _ _ ?_
      have eR := some_eq H; subst eR
      exact ret1 Try.results17 hf rfl ⟨_, rfl, ⟨rfl, hs⟩⟩
    · -- not x3 = true
      replace hf := hf.castB (t := 12) rfl (bool_f hc7)
      refine cond_F hf rfl ?_
      refine wp_skip ?_
      refine hN2 _ _ ?_
      refine bnd H (fun x9 H9 HO9 => ?_)
      clear H
      refine seq_cut (fun a w => ∃ (x9s : Unit), x9 = .go x9s ∧ Fr a 74 [] ∧ St M w0 w []) (fun Q9 hJ9 hR9 hX9 => ?_) (fun a w hJ => ?_)
      · replace H := H9
        refine seq_reg (fun K10 hK10 => ?_)
        refine stq hf rfl rfl rfl (ex_move hf rfl) (fun a hf => ?_)
        refine stq hf rfl rfl rfl (ex_lenS Try.underlying22 (rsl_isSl (hr.now hs (i := 0) rfl)) hf rfl) (fun a hf => ?_)
        refine stq hf rfl rfl rfl (ex_move hf rfl) (fun a hf => ?_)
        refine hK10 _ _ ?_
        refine block_k (fun Q11 hN11 hR11 hX11 hY11 => ?_)
        refine loop_k (fun n a w => ∃ (y12 : Int), Fr a 74 [(0, v0), (13, v0), (14, .int .i64 (a0.length : Int)), (15, .int .i64 y12)] ∧ St M w0 w [] ∧ perf_Check.l1 n a0 y12 = some x9) k ?_ (fun n14 a w hI Q14 hL14 hR14 hX14 => ?_)
        · -- at the start
          exact ⟨0, hf.sub ⟨rfl, rfl, rfl, rfl, trivial⟩, hs, H⟩
        · obtain ⟨y12, hf, hs, H⟩ := hI
          cases n14 with
          | zero => exact absurd H (by rw [perf_Check.l1.eq_1]; intro h; cases h)
          | succ k14 =>
            replace H := (perf_Check.l1.eq_2 ..).symm.trans H
            refine seq_reg (fun K15 hK15 => ?_)
            refine stq hf rfl rfl rfl (ex_lss hf rfl rfl) (fun a hf => ?_)
            refine hK15 _ _ ?_
            refine seq_n (fun Q16 hN16 hR16 hX16 => ?_)
            refine itt H (fun hc17 H => ?_) (fun hc17 H => ?_)
            · -- y12 < (a0.length : Int)
              replace hf := hf.castB (t := 16) rfl (dec_t hc17)
              refine cond_T hf rfl ?_
              refine wp_skip ?_
              refine hN16 _ _ ?_
              refine seq_n (fun Q18 hN18 hR18 hX18 => ?_)
              refine block_k (fun Q19 hN19 hR19 hX19 hY19 => ?_)
              refine ck_some H (fun hc20 H => ?_)
              refine seq_reg (fun K22 hK22 => ?_)
              refine stq hf rfl rfl rfl (ex_move hf rfl) (fun a hf => ?_)
              refine stq hf rfl rfl rfl (ex_indexAddr sa_22 (rsl_isSl (hr.now hs (i := 0) rfl)) hc20.1 hc20.2 hf rfl rfl) (fun a hf => ?_)
              refine stq hf rfl rfl rfl (ex_loadA (cs := [.int .u64 ((gd OperatingPoint.zero a0 y12).Frequency), .int .u64 ((gd OperatingPoint.zero a0 y12).Voltage), .int .u64 ((gd OperatingPoint.zero a0 y12).Power)]) ag_25 hf rfl (el_cells (K := K_api_OperatingPoint) (rsl_rd (hr.now hs (i := 0) rfl)) hc20.1 hc20.2 rfl)) (fun a hf => ?_)
              refine stepV hf rfl rfl rfl (er_alloc hs ti_25 (cs := [.int .u64 0, .int .u64 0, .int .u64 0]) rfl) (fun v w hR a hf => ?_)
              obtain ⟨b21, rfl, hs⟩ := hR
              refine stq hf rfl rfl rfl (ex_assign hf rfl) (fun a hf => ?_)
              refine stepS hf rfl rfl (er_storeAB (vs := [.int .u64 ((gd OperatingPoint.zero a0 y12).Frequency), .int .u64 ((gd OperatingPoint.zero a0 y12).Voltage), .int .u64 ((gd OperatingPoint.zero a0 y12).Power)]) (cs' := [.int .u64 ((gd OperatingPoint.zero a0 y12).Frequency), .int .u64 ((gd OperatingPoint.zero a0 y12).Voltage), .int .u64 ((gd OperatingPoint.zero a0 y12).Power)]) hs (.c .nil) sz_25 hf rfl rfl (all1 rfl (all1 rfl (all1 rfl (all1_nil)))) rfl rfl) (fun w hs => ?_)
              refine hK22 _ _ ?_
              refine seq_n (fun Q23 hN23 hR23 hX23 => ?_)
              refine bnd H (fun x24 H24 HO24 => ?_)
              clear H
              refine seq_cut (fun a w => Fr a 74 [(0, v0), (3, .int .i64 y12), (4, .pointer (some ⟨b21, 0, none⟩)), (13, v0), (14, .int .i64 (a0.length : Int)), (15, .int .i64 y12), (37, .bool x24)] ∧ St M w0 w [bx b21 25 [.int .u64 ((gd OperatingPoint.zero a0 y12).Frequency), .int .u64 ((gd OperatingPoint.zero a0 y12).Voltage), .int .u64 ((gd OperatingPoint.zero a0 y12).Power)]]) (fun Q24 hJ24 hR24 hX24 => ?_) (fun a w hJ => ?_)
              · replace H := H24
                refine itt H (fun hc25 H => ?_) (fun hc25 H => ?_)
                · -- ((gd OperatingPoint.zero a0 y12).Frequency) < 1
                  refine region_k (fun K26 hK26 => ?_)
                  refine stq hf rfl rfl rfl (ex_fieldAddrB fa_25_0 rfl hf rfl) (fun a hf => ?_)
                  refine stq hf rfl rfl rfl (ex_load sc_23 hf rfl (bx_cell (hs.get (i := 0) rfl) _ rfl)) (fun a hf => ?_)
                  refine stq hf rfl rfl rfl (ex_lss hf rfl rfl) (fun a hf => ?_)
                  refine stq hf rfl rfl rfl (ex_move hf rfl) (fun a hf => ?_)
                  replace hf := hf.castB (t := 22) rfl (dec_t hc25)
                  replace hf := hf.castB (t := 23) rfl (dec_t hc25)
                  refine stepN hf rfl rfl rfl (fun a hf => ?_)
                  refine stepN hf rfl rfl rfl (fun a hf => ?_)
                  refine stepN hf rfl rfl rfl (fun a hf => ?_)
                  refine stq hf rfl rfl rfl (ex_pickT hf rfl rfl) (fun a hf => ?_)
                  refine stq hf rfl rfl rfl (ex_move hf rfl) (fun a hf => ?_)
                  refine stepN hf rfl rfl rfl (fun a hf => ?_)
                  refine stepN hf rfl rfl rfl (fun a hf => ?_)
                  refine stepN hf rfl rfl rfl (fun a hf => ?_)
                  refine stq hf rfl rfl rfl (ex_pickT hf rfl rfl) (fun a hf => ?_)
                  refine stq hf rfl rfl rfl (ex_move hf rfl) (fun a hf => ?_)
                  refine stepN hf rfl rfl rfl (fun a hf => ?_)
                  refine stepN hf rfl rfl rfl (fun a hf => ?_)
                  refine stepN hf rfl rfl rfl (fun a hf => ?_)
                  refine stq hf rfl rfl rfl (ex_pickT hf rfl rfl) (fun a hf => ?_)
                  refine hK26 _ _ ?_
                  have e24 := some_eq H; subst e24
                  exact hJ24 _ _ ⟨hf.sub ⟨rfl, rfl, rfl, rfl, rfl, rfl, rfl, trivial⟩, hs⟩
                · -- not ((gd OperatingPoint.zero a0 y12).Frequency) < 1
                  refine itt H (fun hc27 H => ?_) (fun hc27 H => ?_)
                  · -- 1099511627776 < ((gd OperatingPoint.zero a0 y12).Frequency)
                    refine region_k (fun K28 hK28 => ?_)
                    refine stq hf rfl rfl rfl (ex_fieldAddrB fa_25_0 rfl hf rfl) (fun a hf => ?_)
                    refine stq hf rfl rfl rfl (ex_load sc_23 hf rfl (bx_cell (hs.get (i := 0) rfl) _ rfl)) (fun a hf => ?_)
                    refine stq hf rfl rfl rfl (ex_lss hf rfl rfl) (fun a hf => ?_)
                    refine stq hf rfl rfl rfl (ex_move hf rfl) (fun a hf => ?_)
                    replace hf := hf.castB (t := 22) rfl (dec_f hc25)
                    replace hf := hf.castB (t := 23) rfl (dec_f hc25)
                    refine stq hf rfl rfl rfl (ex_fieldAddrB fa_25_0 rfl hf rfl) (fun a hf => ?_)
                    refine stq hf rfl rfl rfl (ex_load sc_23 hf rfl (bx_cell (hs.get (i := 0) rfl) _ rfl)) (fun a hf => ?_)
                    refine stq hf rfl rfl rfl (ex_gtr hf rfl rfl) (fun a hf => ?_)
                    refine stq hf rfl rfl rfl (ex_pickF hf rfl rfl) (fun a hf => ?_)
                    refine stq hf rfl rfl rfl (ex_move hf rfl) (fun a hf => ?_)
                    replace hf := hf.castB (t := 26) rfl (dec_t hc27)
                    replace hf := hf.castB (t := 27) rfl (dec_t hc27)
                    replace hf := hf.castB (t := 28) rfl (dec_t hc27)
                    refine stepN hf rfl rfl rfl (fun a hf => ?_)
                    refine stepN hf rfl rfl rfl (fun a hf => ?_)
                    refine stepN hf rfl rfl rfl (fun a hf => ?_)
                    refine stq hf rfl rfl rfl (ex_pickT hf rfl rfl) (fun a hf => ?_)
                    refine stq hf rfl rfl rfl (ex_move hf rfl) (fun a hf => ?_)
                    refine stepN hf rfl rfl rfl (fun a hf => ?_)
                    refine stepN hf rfl rfl rfl (fun a hf => ?_)
                    refine stepN hf rfl rfl rfl (fun a hf => ?_)
                    refine stq hf rfl rfl rfl (ex_pickT hf rfl rfl) (fun a hf => ?_)
                    refine hK28 _ _ ?_
                    have e24 := some_eq H; subst e24
                    exact hJ24 _ _ ⟨hf.sub ⟨rfl, rfl, rfl, rfl, rfl, rfl, rfl, trivial⟩, hs⟩
                  · -- not 1099511627776 < ((gd OperatingPoint.zero a0 y12).Frequency)
                    refine itt H (fun hc29 H => ?_) (fun hc29 H => ?_)
                    · -- 1099511627776 < ((gd OperatingPoint.zero a0 y12).Voltage)
                      refine region_k (fun K30 hK30 => ?_)
                      refine stq hf rfl rfl rfl (ex_fieldAddrB fa_25_0 rfl hf rfl) (fun a hf => ?_)
                      refine stq hf rfl rfl rfl (ex_load sc_23 hf rfl (bx_cell (hs.get (i := 0) rfl) _ rfl)) (fun a hf => ?_)
                      refine stq hf rfl rfl rfl (ex_lss hf rfl rfl) (fun a hf => ?_)
                      refine stq hf rfl rfl rfl (ex_move hf rfl) (fun a hf => ?_)
                      replace hf := hf.castB (t := 22) rfl (dec_f hc25)
                      replace hf := hf.castB (t := 23) rfl (dec_f hc25)
                      refine stq hf rfl rfl rfl (ex_fieldAddrB fa_25_0 rfl hf rfl) (fun a hf => ?_)
                      refine stq hf rfl rfl rfl (ex_load sc_23 hf rfl (bx_cell (hs.get (i := 0) rfl) _ rfl)) (fun a hf => ?_)
                      refine stq hf rfl rfl rfl (ex_gtr hf rfl rfl) (fun a hf => ?_)
                      refine stq hf rfl rfl rfl (ex_pickF hf rfl rfl) (fun a hf => ?_)
                      refine stq hf rfl rfl rfl (ex_move hf rfl) (fun a hf => ?_)
                      replace hf := hf.castB (t := 26) rfl (dec_f hc27)
                      replace hf := hf.castB (t := 27) rfl (dec_f hc27)
                      replace hf := hf.castB (t := 28) rfl (dec_f hc27)
                      refine stq hf rfl rfl rfl (ex_fieldAddrB fa_25_1 rfl hf rfl) (fun a hf => ?_)
                      refine stq hf rfl rfl rfl (ex_load sc_23 hf rfl (bx_cell (hs.get (i := 0) rfl) _ rfl)) (fun a hf => ?_)
                      refine stq hf rfl rfl rfl (ex_gtr hf rfl rfl) (fun a hf => ?_)
                      refine stq hf rfl rfl rfl (ex_pickF hf rfl rfl) (fun a hf => ?_)
                      refine stq hf rfl rfl rfl (ex_move hf rfl) (fun a hf => ?_)
                      replace hf := hf.castB (t := 31) rfl (dec_t hc29)
                      replace hf := hf.castB (t := 32) rfl (dec_t hc29)
                      replace hf := hf.castB (t := 33) rfl (dec_t hc29)
                      refine stepN hf rfl rfl rfl (fun a hf => ?_)
                      refine stepN hf rfl rfl rfl (fun a hf => ?_)
                      refine stepN hf rfl rfl rfl (fun a hf => ?_)
                      refine stq hf rfl rfl rfl (ex_pickT hf rfl rfl) (fun a hf => ?_)
                      refine hK30 _ _ ?_
                      have e24 := some_eq H; subst e24
                      exact hJ24 _ _ ⟨hf.sub ⟨rfl, rfl, rfl, rfl, rfl, rfl, rfl, trivial⟩, hs⟩
                    · -- not 1099511627776 < ((gd OperatingPoint.zero a0 y12).Voltage)
                      refine region_k (fun K31 hK31 => ?_)
                      refine stq hf rfl rfl rfl (ex_fieldAddrB fa_25_0 rfl hf rfl) (fun a hf => ?_)
                      refine stq hf rfl rfl rfl (ex_load sc_23 hf rfl (bx_cell (hs.get (i := 0) rfl) _ rfl)) (fun a hf => ?_)
                      refine stq hf rfl rfl rfl (ex_lss hf rfl rfl) (fun a hf => ?_)
                      refine stq hf rfl rfl rfl (ex_move hf rfl) (fun a hf => ?_)
                      replace hf := hf.castB (t := 22) rfl (dec_f hc25)
                      replace hf := hf.castB (t := 23) rfl (dec_f hc25)
                      refine stq hf rfl rfl rfl (ex_fieldAddrB fa_25_0 rfl hf rfl) (fun a hf => ?_)
                      refine stq hf rfl rfl rfl (ex_load sc_23 hf rfl (bx_cell (hs.get (i := 0) rfl) _ rfl)) (fun a hf => ?_)
                      refine stq hf rfl rfl rfl (ex_gtr hf rfl rfl) (fun a hf => ?_)
                      refine stq hf rfl rfl rfl (ex_pickF hf rfl rfl) (fun a hf => ?_)
                      refine stq hf rfl rfl rfl (ex_move hf rfl) (fun a hf => ?_)
                      replace hf := hf.castB (t := 26) rfl (dec_f hc27)
                      replace hf := hf.castB (t := 27) rfl (dec_f hc27)
                      replace hf := hf.castB (t := 28) rfl (dec_f hc27)
                      refine stq hf rfl rfl rfl (ex_fieldAddrB fa_25_1 rfl hf rfl) (fun a hf => ?_)
                      refine stq hf rfl rfl rfl (ex_load sc_23 hf rfl (bx_cell (hs.get (i := 0) rfl) _ rfl)) (fun a hf => ?_)
                      refine stq hf rfl rfl rfl (ex_gtr hf rfl rfl) (fun a hf => ?_)
                      refine stq hf rfl rfl rfl (ex_pickF hf rfl rfl) (fun a hf => ?_)
                      refine stq hf rfl rfl rfl (ex_move hf rfl) (fun a hf => ?_)
                      replace hf := hf.castB (t := 31) rfl (dec_f hc29)
                      replace hf := hf.castB (t := 32) rfl (dec_f hc29)
                      replace hf := hf.castB (t := 33) rfl (dec_f hc29)
                      refine stq hf rfl rfl rfl (ex_fieldAddrB fa_25_2 rfl hf rfl) (fun a hf => ?_)
                      refine stq hf rfl rfl rfl (ex_load sc_23 hf rfl (bx_cell (hs.get (i := 0) rfl) _ rfl)) (fun a hf => ?_)
                      refine stq hf rfl rfl rfl (ex_gtr hf rfl rfl) (fun a hf => ?_)
                      refine stq hf rfl rfl rfl (ex_pickF hf rfl rfl) (fun a hf => ?_)
                      refine hK31 _ _ ?_
                      have e24 := some_eq H; subst e24
                      exact hJ24 _ _ ⟨hf.sub ⟨rfl, rfl, rfl, rfl, rfl, rfl, rfl, trivial⟩, hs⟩
              · obtain ⟨hf, hs⟩ := hJ
                replace H := HO24
                clear HO24
                refine itt H (fun hc32 H => ?_) (fun hc32 H => ?_)
                · -- x24 = true
                  replace hf := hf.castB (t := 37) rfl hc32
                  refine cond_T hf rfl ?_
                  refine seq_reg (fun K33 hK33 => ?_)
                  refine stq hf rfl rfl rfl (ex_assign hf rfl) (fun a hf => ?_)
                  refine hK33 _ _ ?_
                  refine wp_ret ?_
                  refine hR23 _ _ ?_
                  refine hR19 _ _ ?_
                  refine hR18 _ _ ?_
                  refine hR14 _ _ ?_
                  refine hR11 _ _ ?_
                  have e9 := some_eq H; subst e9; replace H := el_rt HO9
                  refine hR9 _ _ ?_
                  have eR := some_eq H; subst eR
                  replace hs := hs.keep (.d .nil)
                  exact ret1 Try.results17 hf rfl ⟨_, rfl, ⟨rfl, hs⟩⟩
                · -- not x24 = true
                  replace hf := hf.castB (t := 37) rfl (bool_f hc32)
                  refine cond_F hf rfl ?_
                  refine wp_skip ?_
                  refine hN23 _ _ ?_
                  refine bnd H (fun x34 H34 HO34 => ?_)
                  clear H
                  refine seq_cut (fun a w => Fr a 74 [(0, v0), (13, v0), (14, .int .i64 (a0.length : Int)), (15, .int .i64 y12), (72, .bool x34)] ∧ St M w0 w []) (fun Q34 hJ34 hR34 hX34 => ?_) (fun a w hJ => ?_)
                  · replace H := H34
                    refine itt H (fun hc35 H => ?_) (fun hc35 H => ?_)
                    · -- 0 < y12
                      refine ck_some H (fun hc36 H => ?_)
                      refine itt H (fun hc37 H => ?_) (fun hc37 H => ?_)
                      · -- ((gd OperatingPoint.zero a0 y12).Frequency) ≤ ((gd Operating
                        refine region_d fol 35 [(0, v0), (3, .int .i64 y12), (4, .pointer (some ⟨b21, 0, none⟩)), (13, v0), (14, .int .i64 (a0.length : Int)), (15, .int .i64 y12)] [(0, .int .i64 y12), (1, .bool true), (2, .bool true), (3, .pointer (some ⟨b21, 0, none⟩)), (4, .int .u64 ((gd OperatingPoint.zero a0 y12).Frequency)), (5, v0), (6, .int .i64 y12), (7, .int .i64 (IntKind.i64.wrap (y12 - 1))), (8, .pointer (some (sla v0 ((IntKind.i64.wrap (y12 - 1)).toNat * 3)))), (9, .pointer (some (sla v0 ((IntKind.i64.wrap (y12 - 1)).toNat * 3 + 0)))), (10, .int .u64 ((gd OperatingPoint.zero a0 (IntKind.i64.wrap (y12 - 1))).Frequency)), (11, .bool true), (12, .bool true), (13, undef), (14, undef), (15, undef), (16, undef), (17, undef), (18, undef), (19, undef), (20, undef), (21, undef), (22, .bool true), (23, .bool true), (24, undef), (25, undef), (26, undef), (27, undef), (28, undef), (29, undef), (30, undef), (31, undef), (32, undef), (33, .bool true), (34, .bool true)] [] (fun w => (bx b21 25 [.int .u64 ((gd OperatingPoint.zero a0 y12).Frequency), .int .u64 ((gd OperatingPoint.zero a0 y12).Voltage), .int .u64 ((gd OperatingPoint.zero a0 y12).Power)]).ok w ∧ (rsl K_api_OperatingPoint v0 a0).ok w ∧ True) (fun w => St M w0 w [bx b21 25 [.int .u64 ((gd OperatingPoint.zero a0 y12).Frequency), .int .u64 ((gd OperatingPoint.zero a0 y12).Voltage), .int .u64 ((gd OperatingPoint.zero a0 y12).Power)]]) hf ⟨rfl, rfl, rfl, rfl, rfl, rfl, trivial⟩ (by kernel_rfl) (by kernel_rfl) rfl (by decide) ⟨hs.drew.get (i := 0) rfl, hr.now hs.drew (i := 0) rfl, trivial⟩ hs.drew (.cons (⟨_, _, rfl, rfl, rfl, rfl, fun a w hR hf => .inl ⟨wanted_yes hf rfl, ex_move hf rfl⟩⟩) (.cons (⟨_, _, rfl, rfl, rfl, rfl, fun a w hR hf => .inl ⟨wanted_yes hf rfl, ex_castB (ex_gtr hf rfl rfl) (dec_t hc35)⟩⟩) (.cons (⟨_, _, rfl, rfl, rfl, rfl, fun a w hR hf => .inl ⟨wanted_yes hf rfl, ex_move hf rfl⟩⟩) (.cons (⟨_, _, rfl, rfl, rfl, rfl, fun a w hR hf => .inl ⟨wanted_yes hf rfl, ex_fieldAddrB fa_25_0 rfl hf rfl⟩⟩) (.cons (⟨_, _, rfl, rfl, rfl, rfl, fun a w hR hf => .inl ⟨wanted_yes hf rfl, ex_load sc_23 hf rfl (bx_cell (hR.1) _ rfl)⟩⟩) (.cons (⟨_, _, rfl, rfl, rfl, rfl, fun a w hR hf => .inl ⟨wanted_yes hf rfl, ex_move hf rfl⟩⟩) (.cons (⟨_, _, rfl, rfl, rfl, rfl, fun a w hR hf => .inl ⟨wanted_yes hf rfl, ex_move hf rfl⟩⟩) (.cons (⟨_, _, rfl, rfl, rfl, rfl, fun a w hR hf => .inl ⟨wanted_yes hf rfl, ex_sub hf rfl rfl⟩⟩) (.cons (⟨_, _, rfl, rfl, rfl, rfl, fun a w hR hf => .inl ⟨wanted_yes hf rfl, ex_indexAddr sa_22 (rsl_isSl hR.2.1) hc36.1 hc36.2 hf rfl rfl⟩⟩) (.cons (⟨_, _, rfl, rfl, rfl, rfl, fun a w hR hf => .inl ⟨wanted_yes hf rfl, ex_fieldAddrS fa_25_0 rfl hf rfl⟩⟩) (.cons (⟨_, _, rfl, rfl, rfl, rfl, fun a w hR hf => .inl ⟨wanted_yes hf rfl, ex_load sc_23 hf rfl (el_cell (K := K_api_OperatingPoint) (f := 0) (rsl_rd hR.2.1) hc36.1 hc36.2 rfl)⟩⟩) (.cons (⟨_, _, rfl, rfl, rfl, rfl, fun a w hR hf => .inl ⟨wanted_yes hf rfl, ex_castB (ex_leq hf rfl rfl) (dec_t hc37)⟩⟩) (.cons (⟨_, _, rfl, rfl, rfl, rfl, fun a w hR hf => .inl ⟨wanted_yes hf rfl, ex_move hf rfl⟩⟩) (.cons (⟨_, _, rfl, rfl, rfl, rfl, fun a w hR hf => .inr ⟨wanted_no hf rfl, rfl⟩⟩) (.cons (⟨_, _, rfl, rfl, rfl, rfl, fun a w hR hf => .inr ⟨wanted_no hf rfl, rfl⟩⟩) (.cons (⟨_, _, rfl, rfl, rfl, rfl, fun a w hR hf => .inr ⟨wanted_no hf rfl, rfl⟩⟩) (.cons (⟨_, _, rfl, rfl, rfl, rfl, fun a w hR hf => .inr ⟨wanted_no hf rfl, rfl⟩⟩) (.cons (⟨_, _, rfl, rfl, rfl, rfl, fun a w hR hf => .inr ⟨wanted_no hf rfl, rfl⟩⟩) (.cons (⟨_, _, rfl, rfl, rfl, rfl, fun a w hR hf => .inr ⟨wanted_no hf rfl, rfl⟩⟩) (.cons (⟨_, _, rfl, rfl, rfl, rfl, fun a w hR hf => .inr ⟨wanted_no hf rfl, rfl⟩⟩) (.cons (⟨_, _, rfl, rfl, rfl, rfl, fun a w hR hf => .inr ⟨wanted_no hf rfl, rfl⟩⟩) (.cons (⟨_, _, rfl, rfl, rfl, rfl, fun a w hR hf => .inr ⟨wanted_no hf rfl, rfl⟩⟩) (.cons (⟨_, _, rfl, rfl, rfl, rfl, fun a w hR hf => .inl ⟨wanted_yes hf rfl, ex_pickT hf rfl rfl⟩⟩) (.cons (⟨_, _, rfl, rfl, rfl, rfl, fun a w hR hf => .inl ⟨wanted_yes hf rfl, ex_move hf rfl⟩⟩) (.cons (⟨_, _, rfl, rfl, rfl, rfl, fun a w hR hf => .inr ⟨wanted_no hf rfl, rfl⟩⟩) (.cons (⟨_, _, rfl, rfl, rfl, rfl, fun a w hR hf => .inr ⟨wanted_no hf rfl, rfl⟩⟩) (.cons (⟨_, _, rfl, rfl, rfl, rfl, fun a w hR hf => .inr ⟨wanted_no hf rfl, rfl⟩⟩) (.cons (⟨_, _, rfl, rfl, rfl, rfl, fun a w hR hf => .inr ⟨wanted_no hf rfl, rfl⟩⟩) (.cons (⟨_, _, rfl, rfl, rfl, rfl, fun a w hR hf => .inr ⟨wanted_no hf rfl, rfl⟩⟩) (.cons (⟨_, _, rfl, rfl, rfl, rfl, fun a w hR hf => .inr ⟨wanted_no hf rfl, rfl⟩⟩) (.cons (⟨_, _, rfl, rfl, rfl, rfl, fun a w hR hf => .inr ⟨wanted_no hf rfl, rfl⟩⟩) (.cons (⟨_, _, rfl, rfl, rfl, rfl, fun a w hR hf => .inr ⟨wanted_no hf rfl, rfl⟩⟩) (.cons (⟨_, _, rfl, rfl, rfl, rfl, fun a w hR hf => .inr ⟨wanted_no hf rfl, rfl⟩⟩) (.cons (⟨_, _, rfl, rfl, rfl, rfl, fun a w hR hf => .inl ⟨wanted_yes hf rfl, ex_pickT hf rfl rfl⟩⟩) (.cons (⟨_, _, rfl, rfl, rfl, rfl, fun a w hR hf => .inl ⟨wanted_yes hf rfl, ex_pickT hf rfl rfl⟩⟩) (.nil)))))))))))))))))))))))))))))))))))) (fun K38 hK38 => ?_)
                        refine RW.zero (by kernel_rfl) (by kernel_rfl) [(0, v0), (13, v0), (14, .int .i64 (a0.length : Int)), (15, .int .i64 y12), (72, .bool true)] ⟨rfl, rfl, rfl, rfl, rfl, trivial⟩ (fun a w hR hs hf => ?_)
                        refine hK38 _ _ ?_
                        replace hs := hs.keep (.d .nil)
                        have e34 := some_eq H; subst e34
                        exact hJ34 _ _ ⟨hf.sub ⟨rfl, rfl, rfl, rfl, rfl, trivial⟩, hs⟩
                      · -- not ((gd OperatingPoint.zero a0 y12).Frequency) ≤ ((gd Operating
                        refine itt H (fun hc39 H => ?_) (fun hc39 H => ?_)
                        · -- ((gd OperatingPoint.zero a0 y12).Voltage) < ((gd OperatingPo
                          refine region_d fol 35 [(0, v0), (3, .int .i64 y12), (4, .pointer (some ⟨b21, 0, none⟩)), (13, v0), (14, .int .i64 (a0.length : Int)), (15, .int .i64 y12)] [(0, .int .i64 y12), (1, .bool true), (2, .bool true), (3, .pointer (some ⟨b21, 0, none⟩)), (4, .int .u64 ((gd OperatingPoint.zero a0 y12).Frequency)), (5, v0), (6, .int .i64 y12), (7, .int .i64 (IntKind.i64.wrap (y12 - 1))), (8, .pointer (some (sla v0 ((IntKind.i64.wrap (y12 - 1)).toNat * 3)))), (9, .pointer (some (sla v0 ((IntKind.i64.wrap (y12 - 1)).toNat * 3 + 0)))), (10, .int .u64 ((gd OperatingPoint.zero a0 (IntKind.i64.wrap (y12 - 1))).Frequency)), (11, .bool false), (12, .bool false), (13, .pointer (some ⟨b21, 1, none⟩)), (14, .int .u64 ((gd OperatingPoint.zero a0 y12).Voltage)), (15, v0), (16, .int .i64 y12), (17, .int .i64 (IntKind.i64.wrap (y12 - 1))), (18, .pointer (some (sla v0 ((IntKind.i64.wrap (y12 - 1)).toNat * 3)))), (19, .pointer (some (sla v0 ((IntKind.i64.wrap (y12 - 1)).toNat * 3 + 1)))), (20, .int .u64 ((gd OperatingPoint.zero a0 (IntKind.i64.wrap (y12 - 1))).Voltage)), (21, .bool true), (22, .bool true), (23, .bool true), (24, undef), (25, undef), (26, undef), (27, undef), (28, undef), (29, undef), (30, undef), (31, undef), (32, undef), (33, .bool true), (34, .bool true)] [] (fun w => (bx b21 25 [.int .u64 ((gd OperatingPoint.zero a0 y12).Frequency), .int .u64 ((gd OperatingPoint.zero a0 y12).Voltage), .int .u64 ((gd OperatingPoint.zero a0 y12).Power)]).ok w ∧ (rsl K_api_OperatingPoint v0 a0).ok w ∧ True) (fun w => St M w0 w [bx b21 25 [.int .u64 ((gd OperatingPoint.zero a0 y12).Frequency), .int .u64 ((gd OperatingPoint.zero a0 y12).Voltage), .int .u64 ((gd OperatingPoint.zero a0 y12).Power)]]) hf ⟨rfl, rfl, rfl, rfl, rfl, rfl, trivial⟩ (by kernel_rfl) (by kernel_rfl) rfl (by decide) ⟨hs.drew.get (i := 0) rfl, hr.now hs.drew (i := 0) rfl, trivial⟩ hs.drew (.cons (⟨_, _, rfl, rfl, rfl, rfl, fun a w hR hf => .inl ⟨wanted_yes hf rfl, ex_move hf rfl⟩⟩) (.cons (⟨_, _, rfl, rfl, rfl, rfl, fun a w hR hf => .inl ⟨wanted_yes hf rfl, ex_castB (ex_gtr hf rfl rfl) (dec_t hc35)⟩⟩) (.cons (⟨_, _, rfl, rfl, rfl, rfl, fun a w hR hf => .inl ⟨wanted_yes hf rfl, ex_move hf rfl⟩⟩) (.cons (⟨_, _, rfl, rfl, rfl, rfl, fun a w hR hf => .inl ⟨wanted_yes hf rfl, ex_fieldAddrB fa_25_0 rfl hf rfl⟩⟩) (.cons (⟨_, _, rfl, rfl, rfl, rfl, fun a w hR hf => .inl ⟨wanted_yes hf rfl, ex_load sc_23 hf rfl (bx_cell (hR.1) _ rfl)⟩⟩) (.cons (⟨_, _, rfl, rfl, rfl, rfl, fun a w hR hf => .inl ⟨wanted_yes hf rfl, ex_move hf rfl⟩⟩) (.cons (⟨_, _, rfl, rfl, rfl, rfl, fun a w hR hf => .inl ⟨wanted_yes hf rfl, ex_move hf rfl⟩⟩) (.cons (⟨_, _, rfl, rfl, rfl, rfl, fun a w hR hf => .inl ⟨wanted_yes hf rfl, ex_sub hf rfl rfl⟩⟩) (.cons (⟨_, _, rfl, rfl, rfl, rfl, fun a w hR hf => .inl ⟨wanted_yes hf rfl, ex_indexAddr sa_22 (rsl_isSl hR.2.1) hc36.1 hc36.2 hf rfl rfl⟩⟩) (.cons (⟨_, _, rfl, rfl, rfl, rfl, fun a w hR hf => .inl ⟨wanted_yes hf rfl, ex_fieldAddrS fa_25_0 rfl hf rfl⟩⟩) (.cons (⟨_, _, rfl, rfl, rfl, rfl, fun a w hR hf => .inl ⟨wanted_yes hf rfl, ex_load sc_23 hf rfl (el_cell (K := K_api_OperatingPoint) (f := 0) (rsl_rd hR.2.1) hc36.1 hc36.2 rfl)⟩⟩) (.cons (⟨_, _, rfl, rfl, rfl, rfl, fun a w hR hf => .inl ⟨wanted_yes hf rfl, ex_castB (ex_leq hf rfl rfl) (dec_f hc37)⟩⟩) (.cons (⟨_, _, rfl, rfl, rfl, rfl, fun a w hR hf => .inl ⟨wanted_yes hf rfl, ex_move hf rfl⟩⟩) (.cons (⟨_, _, rfl, rfl, rfl, rfl, fun a w hR hf => .inl ⟨wanted_yes hf rfl, ex_fieldAddrB fa_25_1 rfl hf rfl⟩⟩) (.cons (⟨_, _, rfl, rfl, rfl, rfl, fun a w hR hf => .inl ⟨wanted_yes hf rfl, ex_load sc_23 hf rfl (bx_cell (hR.1) _ rfl)⟩⟩) (.cons (⟨_, _, rfl, rfl, rfl, rfl, fun a w hR hf => .inl ⟨wanted_yes hf rfl, ex_move hf rfl⟩⟩) (.cons (⟨_, _, rfl, rfl, rfl, rfl, fun a w hR hf => .inl ⟨wanted_yes hf rfl, ex_move hf rfl⟩⟩) (.cons (⟨_, _, rfl, rfl, rfl, rfl, fun a w hR hf => .inl ⟨wanted_yes hf rfl, ex_sub hf rfl rfl⟩⟩) (.cons (⟨_, _, rfl, rfl, rfl, rfl, fun a w hR hf => .inl ⟨wanted_yes hf rfl, ex_indexAddr sa_22 (rsl_isSl hR.2.1) hc36.1 hc36.2 hf rfl rfl⟩⟩) (.cons (⟨_, _, rfl, rfl, rfl, rfl, fun a w hR hf => .inl ⟨wanted_yes hf rfl, ex_fieldAddrS fa_25_1 rfl hf rfl⟩⟩) (.cons (⟨_, _, rfl, rfl, rfl, rfl, fun a w hR hf => .inl ⟨wanted_yes hf rfl, ex_load sc_23 hf rfl (el_cell (K := K_api_OperatingPoint) (f := 1) (rsl_rd hR.2.1) hc36.1 hc36.2 rfl)⟩⟩) (.cons (⟨_, _, rfl, rfl, rfl, rfl, fun a w hR hf => .inl ⟨wanted_yes hf rfl, ex_castB (ex_lss hf rfl rfl) (dec_t hc39)⟩⟩) (.cons (⟨_, _, rfl, rfl, rfl, rfl, fun a w hR hf => .inl ⟨wanted_yes hf rfl, ex_pickF hf rfl rfl⟩⟩) (.cons (⟨_, _, rfl, rfl, rfl, rfl, fun a w hR hf => .inl ⟨wanted_yes hf rfl, ex_move hf rfl⟩⟩) (.cons (⟨_, _, rfl, rfl, rfl, rfl, fun a w hR hf => .inr ⟨wanted_no hf rfl, rfl⟩⟩) (.cons (⟨_, _, rfl, rfl, rfl, rfl, fun a w hR hf => .inr ⟨wanted_no hf rfl, rfl⟩⟩) (.cons (⟨_, _, rfl, rfl, rfl, rfl, fun a w hR hf => .inr ⟨wanted_no hf rfl, rfl⟩⟩) (.cons (⟨_, _, rfl, rfl, rfl, rfl, fun a w hR hf => .inr ⟨wanted_no hf rfl, rfl⟩⟩) (.cons (⟨_, _, rfl, rfl, rfl, rfl, fun a w hR hf => .inr ⟨wanted_no hf rfl, rfl⟩⟩) (.cons (⟨_, _, rfl, rfl, rfl, rfl, fun a w hR hf => .inr ⟨wanted_no hf rfl, rfl⟩⟩) (.cons (⟨_, _, rfl, rfl, rfl, rfl, fun a w hR hf => .inr ⟨wanted_no hf rfl, rfl⟩⟩) (.cons (⟨_, _, rfl, rfl, rfl, rfl, fun a w hR hf => .inr ⟨wanted_no hf rfl, rfl⟩⟩) (.cons (⟨_, _, rfl, rfl, rfl, rfl, fun a w hR hf => .inr ⟨wanted_no hf rfl, rfl⟩⟩) (.cons (⟨_, _, rfl, rfl, rfl, rfl, fun a w hR hf => .inl ⟨wanted_yes hf rfl, ex_pickT hf rfl rfl⟩⟩) (.cons (⟨_, _, rfl, rfl, rfl, rfl, fun a w hR hf => .inl ⟨wanted_yes hf rfl, ex_pickT hf rfl rfl⟩⟩) (.nil)))))))))))))))))))))))))))))))))))) (fun K40 hK40 => ?_)
                          refine RW.zero (by kernel_rfl) (by kernel_rfl) [(0, v0), (13, v0), (14, .int .i64 (a0.length : Int)), (15, .int .i64 y12), (72, .bool true)] ⟨rfl, rfl, rfl, rfl, rfl, trivial⟩ (fun a w hR hs hf => ?_)
                          refine hK40 _ _ ?_
                          replace hs := hs.keep (.d .nil)
                          have e34 := some_eq H; subst e34
                          exact hJ34 _ _ ⟨hf.sub ⟨rfl, rfl, rfl, rfl, rfl, trivial⟩, hs⟩
                        · -- not ((gd OperatingPoint.zero a0 y12).Voltage) < ((gd OperatingPo
                          refine region_d fol 35 [(0, v0), (3, .int .i64 y12), (4, .pointer (some ⟨b21, 0, none⟩)), (13, v0), (14, .int .i64 (a0.length : Int)), (15, .int .i64 y12)] [(0, .int .i64 y12), (1, .bool true), (2, .bool true), (3, .pointer (some ⟨b21, 0, none⟩)), (4, .int .u64 ((gd OperatingPoint.zero a0 y12).Frequency)), (5, v0), (6, .int .i64 y12), (7, .int .i64 (IntKind.i64.wrap (y12 - 1))), (8, .pointer (some (sla v0 ((IntKind.i64.wrap (y12 - 1)).toNat * 3)))), (9, .pointer (some (sla v0 ((IntKind.i64.wrap (y12 - 1)).toNat * 3 + 0)))), (10, .int .u64 ((gd OperatingPoint.zero a0 (IntKind.i64.wrap (y12 - 1))).Frequency)), (11, .bool false), (12, .bool false), (13, .pointer (some ⟨b21, 1, none⟩)), (14, .int .u64 ((gd OperatingPoint.zero a0 y12).Voltage)), (15, v0), (16, .int .i64 y12), (17, .int .i64 (IntKind.i64.wrap (y12 - 1))), (18, .pointer (some (sla v0 ((IntKind.i64.wrap (y12 - 1)).toNat * 3)))), (19, .pointer (some (sla v0 ((IntKind.i64.wrap (y12 - 1)).toNat * 3 + 1)))), (20, .int .u64 ((gd OperatingPoint.zero a0 (IntKind.i64.wrap (y12 - 1))).Voltage)), (21, .bool false), (22, .bool false), (23, .bool false), (24, .pointer (some ⟨b21, 2, none⟩)), (25, .int .u64 ((gd OperatingPoint.zero a0 y12).Power)), (26, v0), (27, .int .i64 y12), (28, .int .i64 (IntKind.i64.wrap (y12 - 1))), (29, .pointer (some (sla v0 ((IntKind.i64.wrap (y12 - 1)).toNat * 3)))), (30, .pointer (some (sla v0 ((IntKind.i64.wrap (y12 - 1)).toNat * 3 + 2)))), (31, .int .u64 ((gd OperatingPoint.zero a0 (IntKind.i64.wrap (y12 - 1))).Power)), (32, .bool (decide (((gd OperatingPoint.zero a0 y12).Power) < ((gd OperatingPoint.zero a0 (IntKind.i64.wrap (y12 - 1))).Power)))), (33, .bool (decide (((gd OperatingPoint.zero a0 y12).Power) < ((gd OperatingPoint.zero a0 (IntKind.i64.wrap (y12 - 1))).Power)))), (34, .bool (decide (((gd OperatingPoint.zero a0 y12).Power) < ((gd OperatingPoint.zero a0 (IntKind.i64.wrap (y12 - 1))).Power))))] [] (fun w => (bx b21 25 [.int .u64 ((gd OperatingPoint.zero a0 y12).Frequency), .int .u64 ((gd OperatingPoint.zero a0 y12).Voltage), .int .u64 ((gd OperatingPoint.zero a0 y12).Power)]).ok w ∧ (rsl K_api_OperatingPoint v0 a0).ok w ∧ True) (fun w => St M w0 w [bx b21 25 [.int .u64 ((gd OperatingPoint.zero a0 y12).Frequency), .int .u64 ((gd OperatingPoint.zero a0 y12).Voltage), .int .u64 ((gd OperatingPoint.zero a0 y12).Power)]]) hf ⟨rfl, rfl, rfl, rfl, rfl, rfl, trivial⟩ (by kernel_rfl) (by kernel_rfl) rfl (by decide) ⟨hs.drew.get (i := 0) rfl, hr.now hs.drew (i := 0) rfl, trivial⟩ hs.drew (.cons (⟨_, _, rfl, rfl, rfl, rfl, fun a w hR hf => .inl ⟨wanted_yes hf rfl, ex_move hf rfl⟩⟩) (.cons (⟨_, _, rfl, rfl, rfl, rfl, fun a w hR hf => .inl ⟨wanted_yes hf rfl, ex_castB (ex_gtr hf rfl rfl) (dec_t hc35)⟩⟩) (.cons (⟨_, _, rfl, rfl, rfl, rfl, fun a w hR hf => .inl ⟨wanted_yes hf rfl, ex_move hf rfl⟩⟩) (.cons (⟨_, _, rfl, rfl, rfl, rfl, fun a w hR hf => .inl ⟨wanted_yes hf rfl, ex_fieldAddrB fa_25_0 rfl hf rfl⟩⟩) (.cons (⟨_, _, rfl, rfl, rfl, rfl, fun a w hR hf => .inl ⟨wanted_yes hf rfl, ex_load sc_23 hf rfl (bx_cell (hR.1) _ rfl)⟩⟩) (.cons (⟨_, _, rfl, rfl, rfl, rfl, fun a w hR hf => .inl ⟨wanted_yes hf rfl, ex_move hf rfl⟩⟩) (.cons (⟨_, _, rfl, rfl, rfl, rfl, fun a w hR hf => .inl ⟨wanted_yes hf rfl, ex_move hf rfl⟩⟩) (.cons (⟨_, _, rfl, rfl, rfl, rfl, fun a w hR hf => .inl ⟨wanted_yes hf rfl, ex_sub hf rfl rfl⟩⟩) (.cons (⟨_, _, rfl, rfl, rfl, rfl, fun a w hR hf => .inl ⟨wanted_yes hf rfl, ex_indexAddr sa_22 (rsl_isSl hR.2.1) hc36.1 hc36.2 hf rfl rfl⟩⟩) (.cons (⟨_, _, rfl, rfl, rfl, rfl, fun a w hR hf => .inl ⟨wanted_yes hf rfl, ex_fieldAddrS fa_25_0 rfl hf rfl⟩⟩) (.cons (⟨_, _, rfl, rfl, rfl, rfl, fun a w hR hf => .inl ⟨wanted_yes hf rfl, ex_load sc_23 hf rfl (el_cell (K := K_api_OperatingPoint) (f := 0) (rsl_rd hR.2.1) hc36.1 hc36.2 rfl)⟩⟩) (.cons (⟨_, _, rfl, rfl, rfl, rfl, fun a w hR hf => .inl ⟨wanted_yes hf rfl, ex_castB (ex_leq hf rfl rfl) (dec_f hc37)⟩⟩) (.cons (⟨_, _, rfl, rfl, rfl, rfl, fun a w hR hf => .inl ⟨wanted_yes hf rfl, ex_move hf rfl⟩⟩) (.cons (⟨_, _, rfl, rfl, rfl, rfl, fun a w hR hf => .inl ⟨wanted_yes hf rfl, ex_fieldAddrB fa_25_1 rfl hf rfl⟩⟩) (.cons (⟨_, _, rfl, rfl, rfl, rfl, fun a w hR hf => .inl ⟨wanted_yes hf rfl, ex_load sc_23 hf rfl (bx_cell (hR.1) _ rfl)⟩⟩) (.cons (⟨_, _, rfl, rfl, rfl, rfl, fun a w hR hf => .inl ⟨wanted_yes hf rfl, ex_move hf rfl⟩⟩) (.cons (⟨_, _, rfl, rfl, rfl, rfl, fun a w hR hf => .inl ⟨wanted_yes hf rfl, ex_move hf rfl⟩⟩) (.cons (⟨_, _, rfl, rfl, rfl, rfl, fun a w hR hf => .inl ⟨wanted_yes hf rfl, ex_sub hf rfl rfl⟩⟩) (.cons (⟨_, _, rfl, rfl, rfl, rfl, fun a w hR hf => .inl ⟨wanted_yes hf rfl, ex_indexAddr sa_22 (rsl_isSl hR.2.1) hc36.1 hc36.2 hf rfl rfl⟩⟩) (.cons (⟨_, _, rfl, rfl, rfl, rfl, fun a w hR hf => .inl ⟨wanted_yes hf rfl, ex_fieldAddrS fa_25_1 rfl hf rfl⟩⟩) (.cons (⟨_, _, rfl, rfl, rfl, rfl, fun a w hR hf => .inl ⟨wanted_yes hf rfl, ex_load sc_23 hf rfl (el_cell (K := K_api_OperatingPoint) (f := 1) (rsl_rd hR.2.1) hc36.1 hc36.2 rfl)⟩⟩) (.cons (⟨_, _, rfl, rfl, rfl, rfl, fun a w hR hf => .inl ⟨wanted_yes hf rfl, ex_castB (ex_lss hf rfl rfl) (dec_f hc39)⟩⟩) (.cons (⟨_, _, rfl, rfl, rfl, rfl, fun a w hR hf => .inl ⟨wanted_yes hf rfl, ex_pickF hf rfl rfl⟩⟩) (.cons (⟨_, _, rfl, rfl, rfl, rfl, fun a w hR hf => .inl ⟨wanted_yes hf rfl, ex_move hf rfl⟩⟩) (.cons (⟨_, _, rfl, rfl, rfl, rfl, fun a w hR hf => .inl ⟨wanted_yes hf rfl, ex_fieldAddrB fa_25_2 rfl hf rfl⟩⟩) (.cons (⟨_, _, rfl, rfl, rfl, rfl, fun a w hR hf => .inl ⟨wanted_yes hf rfl, ex_load sc_23 hf rfl (bx_cell (hR.1) _ rfl)⟩⟩) (.cons (⟨_, _, rfl, rfl, rfl, rfl, fun a w hR hf => .inl ⟨wanted_yes hf rfl, ex_move hf rfl⟩⟩) (.cons (⟨_, _, rfl, rfl, rfl, rfl, fun a w hR hf => .inl ⟨wanted_yes hf rfl, ex_move hf rfl⟩⟩) (.cons (⟨_, _, rfl, rfl, rfl, rfl, fun a w hR hf => .inl ⟨wanted_yes hf rfl, ex_sub hf rfl rfl⟩⟩) (.cons (⟨_, _, rfl, rfl, rfl, rfl, fun a w hR hf => .inl ⟨wanted_yes hf rfl, ex_indexAddr sa_22 (rsl_isSl hR.2.1) hc36.1 hc36.2 hf rfl rfl⟩⟩) (.cons (⟨_, _, rfl, rfl, rfl, rfl, fun a w hR hf => .inl ⟨wanted_yes hf rfl, ex_fieldAddrS fa_25_2 rfl hf rfl⟩⟩) (.cons (⟨_, _, rfl, rfl, rfl, rfl, fun a w hR hf => .inl ⟨wanted_yes hf rfl, ex_load sc_23 hf rfl (el_cell (K := K_api_OperatingPoint) (f := 2) (rsl_rd hR.2.1) hc36.1 hc36.2 rfl)⟩⟩) (.cons (⟨_, _, rfl, rfl, rfl, rfl, fun a w hR hf => .inl ⟨wanted_yes hf rfl, ex_lss hf rfl rfl⟩⟩) (.cons (⟨_, _, rfl, rfl, rfl, rfl, fun a w hR hf => .inl ⟨wanted_yes hf rfl, ex_pickF hf rfl rfl⟩⟩) (.cons (⟨_, _, rfl, rfl, rfl, rfl, fun a w hR hf => .inl ⟨wanted_yes hf rfl, ex_pickT hf rfl rfl⟩⟩) (.nil)))))))))))))))))))))))))))))))))))) (fun K41 hK41 => ?_)
                          refine RW.zero (by kernel_rfl) (by kernel_rfl) [(0, v0), (13, v0), (14, .int .i64 (a0.length : Int)), (15, .int .i64 y12), (72, .bool (decide (((gd OperatingPoint.zero a0 y12).Power) < ((gd OperatingPoint.zero a0 (IntKind.i64.wrap (y12 - 1))).Power))))] ⟨rfl, rfl, rfl, rfl, rfl, trivial⟩ (fun a w hR hs hf => ?_)
                          refine hK41 _ _ ?_
                          replace hs := hs.keep (.d .nil)
                          have e34 := some_eq H; subst e34
                          exact hJ34 _ _ ⟨hf.sub ⟨rfl, rfl, rfl, rfl, rfl, trivial⟩, hs⟩
                    · -- not 0 < y12
                      refine region_d fol 35 [(0, v0), (3, .int .i64 y12), (4, .pointer (some ⟨b21, 0, none⟩)), (13, v0), (14, .int .i64 (a0.length : Int)), (15, .int .i64 y12)] [(0, .int .i64 y12), (1, .bool false), (2, .bool false), (3, undef), (4, undef), (5, undef), (6, undef), (7, undef), (8, undef), (9, undef), (10, undef), (11, undef), (12, undef), (13, undef), (14, undef), (15, undef), (16, undef), (17, undef), (18, undef), (19, undef), (20, undef), (21, undef), (22, undef), (23, undef), (24, undef), (25, undef), (26, undef), (27, undef), (28, undef), (29, undef), (30, undef), (31, undef), (32, undef), (33, undef), (34, .bool false)] [] (fun w => (bx b21 25 [.int .u64 ((gd OperatingPoint.zero a0 y12).Frequency), .int .u64 ((gd OperatingPoint.zero a0 y12).Voltage), .int .u64 ((gd OperatingPoint.zero a0 y12).Power)]).ok w ∧ (rsl K_api_OperatingPoint v0 a0).ok w ∧ True) (fun w => St M w0 w [bx b21 25 [.int .u64 ((gd OperatingPoint.zero a0 y12).Frequency), .int .u64 ((gd OperatingPoint.zero a0 y12).Voltage), .int .u64 ((gd OperatingPoint.zero a0 y12).Power)]]) hf ⟨rfl, rfl, rfl, rfl, rfl, rfl, trivial⟩ (by kernel_rfl) (by kernel_rfl) rfl (by decide) ⟨hs.drew.get (i := 0) rfl, hr.now hs.drew (i := 0) rfl, trivial⟩ hs.drew (.cons (⟨_, _, rfl, rfl, rfl, rfl, fun a w hR hf => .inl ⟨wanted_yes hf rfl, ex_move hf rfl⟩⟩) (.cons (⟨_, _, rfl, rfl, rfl, rfl, fun a w hR hf => .inl ⟨wanted_yes hf rfl, ex_castB (ex_gtr hf rfl rfl) (dec_f hc35)⟩⟩) (.cons (⟨_, _, rfl, rfl, rfl, rfl, fun a w hR hf => .inl ⟨wanted_yes hf rfl, ex_move hf rfl⟩⟩) (.cons (⟨_, _, rfl, rfl, rfl, rfl, fun a w hR hf => .inr ⟨wanted_no hf rfl, rfl⟩⟩) (.cons (⟨_, _, rfl, rfl, rfl, rfl, fun a w hR hf => .inr ⟨wanted_no hf rfl, rfl⟩⟩) (.cons (⟨_, _, rfl, rfl, rfl, rfl, fun a w hR hf => .inr ⟨wanted_no hf rfl, rfl⟩⟩) (.cons (⟨_, _, rfl, rfl, rfl, rfl, fun a w hR hf => .inr ⟨wanted_no hf rfl, rfl⟩⟩) (.cons (⟨_, _, rfl, rfl, rfl, rfl, fun a w hR hf => .inr ⟨wanted_no hf rfl, rfl⟩⟩) (.cons (⟨_, _, rfl, rfl, rfl, rfl, fun a w hR hf => .inr ⟨wanted_no hf rfl, rfl⟩⟩) (.cons (⟨_, _, rfl, rfl, rfl, rfl, fun a w hR hf => .inr ⟨wanted_no hf rfl, rfl⟩⟩) (.cons (⟨_, _, rfl, rfl, rfl, rfl, fun a w hR hf => .inr ⟨wanted_no hf rfl, rfl⟩⟩) (.cons (⟨_, _, rfl, rfl, rfl, rfl, fun a w hR hf => .inr ⟨wanted_no hf rfl, rfl⟩⟩) (.cons (⟨_, _, rfl, rfl, rfl, rfl, fun a w hR hf => .inr ⟨wanted_no hf rfl, rfl⟩⟩) (.cons (⟨_, _, rfl, rfl, rfl, rfl, fun a w hR hf => .inr ⟨wanted_no hf rfl, rfl⟩⟩) (.cons (⟨_, _, rfl, rfl, rfl, rfl, fun a w hR hf => .inr ⟨wanted_no hf rfl, rfl⟩⟩) (.cons (⟨_, _, rfl, rfl, rfl, rfl, fun a w hR hf => .inr ⟨wanted_no hf rfl, rfl⟩⟩) (.cons (⟨_, _, rfl, rfl, rfl, rfl, fun a w hR hf => .inr ⟨wanted_no hf rfl, rfl⟩⟩) (.cons (⟨_, _, rfl, rfl, rfl, rfl, fun a w hR hf => .inr ⟨wanted_no hf rfl, rfl⟩⟩) (.cons (⟨_, _, rfl, rfl, rfl, rfl, fun a w hR hf => .inr ⟨wanted_no hf rfl, rfl⟩⟩) (.cons (⟨_, _, rfl, rfl, rfl, rfl, fun a w hR hf => .inr ⟨wanted_no hf rfl, rfl⟩⟩) (.cons (⟨_, _, rfl, rfl, rfl, rfl, fun a w hR hf => .inr ⟨wanted_no hf rfl, rfl⟩⟩) (.cons (⟨_, _, rfl, rfl, rfl, rfl, fun a w hR hf => .inr ⟨wanted_no hf rfl, rfl⟩⟩) (.cons (⟨_, _, rfl, rfl, rfl, rfl, fun a w hR hf => .inr ⟨wanted_no hf rfl, rfl⟩⟩) (.cons (⟨_, _, rfl, rfl, rfl, rfl, fun a w hR hf => .inr ⟨wanted_no hf rfl, rfl⟩⟩) (.cons (⟨_, _, rfl, rfl, rfl, rfl, fun a w hR hf => .inr ⟨wanted_no hf rfl, rfl⟩⟩) (.cons (⟨_, _, rfl, rfl, rfl, rfl, fun a w hR hf => .inr ⟨wanted_no hf rfl, rfl⟩⟩) (.cons (⟨_, _, rfl, rfl, rfl, rfl, fun a w hR hf => .inr ⟨wanted_no hf rfl, rfl⟩⟩) (.cons (⟨_, _, rfl, rfl, rfl, rfl, fun a w hR hf => .inr ⟨wanted_no hf rfl, rfl⟩⟩) (.cons (⟨_, _, rfl, rfl, rfl, rfl, fun a w hR hf => .inr ⟨wanted_no hf rfl, rfl⟩⟩) (.cons (⟨_, _, rfl, rfl, rfl, rfl, fun a w hR hf => .inr ⟨wanted_no hf rfl, rfl⟩⟩) (.cons (⟨_, _, rfl, rfl, rfl, rfl, fun a w hR hf => .inr ⟨wanted_no hf rfl, rfl⟩⟩) (.cons (⟨_, _, rfl, rfl, rfl, rfl, fun a w hR hf => .inr ⟨wanted_no hf rfl, rfl⟩⟩) (.cons (⟨_, _, rfl, rfl, rfl, rfl, fun a w hR hf => .inr ⟨wanted_no hf rfl, rfl⟩⟩) (.cons (⟨_, _, rfl, rfl, rfl, rfl, fun a w hR hf => .inr ⟨wanted_no hf rfl, rfl⟩⟩) (.cons (⟨_, _, rfl, rfl, rfl, rfl, fun a w hR hf => .inl ⟨wanted_yes hf rfl, ex_pickF hf rfl rfl⟩⟩) (.nil)))))))))))))))))))))))))))))))))))) (fun K42 hK42 => ?_)
                      refine RW.zero (by kernel_rfl) (by kernel_rfl) [(0, v0), (13, v0), (14, .int .i64 (a0.length : Int)), (15, .int .i64 y12), (72, .bool false)] ⟨rfl, rfl, rfl, rfl, rfl, trivial⟩ (fun a w hR hs hf => ?_)
                      refine hK42 _ _ ?_
                      replace hs := hs.keep (.d .nil)
                      have e34 := some_eq H; subst e34
                      exact hJ34 _ _ ⟨hf.sub ⟨rfl, rfl, rfl, rfl, rfl, trivial⟩, hs⟩
                  · obtain ⟨hf, hs⟩ := hJ
                    replace H := HO34
                    clear HO34
                    refine itt H (fun hc43 H => ?_) (fun hc43 H => ?_)
                    · -- x34 = true
                      replace hf := hf.castB (t := 72) rfl hc43
                      refine cond_T hf rfl ?_
                      refine seq_reg (fun K44 hK44 => ?_)
                      refine stq hf rfl rfl rfl (ex_assign hf rfl) (fun a hf => ?_)
                      refine hK44 _ _ ?_
                      refine wp_ret ?_
                      refine hR19 _ _ ?_
                      refine hR18 _ _ ?_
                      refine hR14 _ _ ?_
                      refine hR11 _ _ ?_
                      have e9 := some_eq H; subst e9; replace H := el_rt HO9
                      refine hR9 _ _ ?_
                      have eR := some_eq H; subst eR
                      exact ret1 Try.results17 hf rfl ⟨_, rfl, ⟨rfl, hs⟩⟩
                    · -- not x34 = true
                      replace hf := hf.castB (t := 72) rfl (bool_f hc43)
                      refine cond_F hf rfl ?_
                      refine wp_skip ?_
                      refine hN19 _ _ ?_
                      refine hN18 _ _ ?_
                      refine region_k (fun K45 hK45 => ?_)
                      refine stq hf rfl rfl rfl (ex_add hf rfl rfl) (fun a hf => ?_)
                      refine stq hf rfl rfl rfl (ex_move hf rfl) (fun a hf => ?_)
                      refine hK45 _ _ ?_
                      exact hL14 k14 _ _ (Nat.lt_succ_self _) ⟨(IntKind.i64.wrap (y12 + 1)), hf.sub ⟨rfl, rfl, rfl, rfl, trivial⟩, hs, H⟩
            · -- not y12 < (a0.length : Int)
              replace hf := hf.castB (t := 16) rfl (dec_f hc17)
              refine cond_F hf rfl ?_
              refine wp_exit ?_
              refine hX16 0 _ _ ?_
              refine hX14 0 _ _ ?_
              refine hX11 _ _ ?_
              have e9 := some_eq H; subst e9
              exact hJ9 _ _ ⟨_, rfl, hf.sub trivial, hs⟩
      · obtain ⟨x9s, rfl, hf, hs⟩ := hJ
        replace H := el_go HO9
        clear HO9
        refine seq_reg (fun K46 hK46 => ?_)
        refine stq hf rfl rfl rfl (ex_assign hf rfl) (fun a hf => ?_)
        refine hK46 _ _ ?_
        refine wp_ret ?_
        have eR := some_eq H; subst eR
        exact ret1 Try.results17 hf rfl ⟨_, rfl, ⟨rfl, hs⟩⟩

set_option maxRecDepth 100000 in
theorem perf_has.calls {M : Nat → Prop} {w0 : World} (k : Nat) (a0 : (List OperatingPoint)) (a1 : Int) (v0 : Value) {r : Bool} (hs : St M w0 w0 []) (hr : Sr M w0 [rsl K_api_OperatingPoint v0 a0])
    (h : perf_has.f k a0 a1 = some r) : Calls Try.prog 35 #[v0, .int .i64 a1] w0 fun e w => ∃ v, e = .returned v ∧ (.bool r = v ∧ St M w0 w []) := by
  have H := (perf_has.f.eq_1 ..).symm.trans h
  clear h
  refine enter Try.func35 rfl Try.ntmps35 rfl (fun a hf => ?_)
  refine seq_reg (fun K1 hK1 => ?_)
  refine stq hf rfl rfl rfl (ex_assign hf rfl) (fun a hf => ?_)
  refine hK1 _ _ ?_
  refine itt H (fun hc2 H => ?_) (fun hc2 H => ?_)
  · -- 0 ≤ a1
    refine seq_reg (fun K3 hK3 => ?_)
    refine stq hf rfl rfl rfl (ex_move hf rfl) (fun a hf => ?_)
    refine stq hf rfl rfl rfl (ex_geq hf rfl rfl) (fun a hf => ?_)
    refine stq hf rfl rfl rfl (ex_move hf rfl) (fun a hf => ?_)
    replace hf := hf.castB (t := 6) rfl (dec_t hc2)
    replace hf := hf.castB (t := 7) rfl (dec_t hc2)
    refine stq hf rfl rfl rfl (ex_move hf rfl) (fun a hf => ?_)
    refine stq hf rfl rfl rfl (ex_move hf rfl) (fun a hf => ?_)
    refine stq hf rfl rfl rfl (ex_lenS Try.underlying22 (rsl_isSl (hr.now hs (i := 0) rfl)) hf rfl) (fun a hf => ?_)
    refine stq hf rfl rfl rfl (ex_lss hf rfl rfl) (fun a hf => ?_)
    refine stq hf rfl rfl rfl (ex_pickT hf rfl rfl) (fun a hf => ?_)
    refine stq hf rfl rfl rfl (ex_assign hf rfl) (fun a hf => ?_)
    refine hK3 _ _ ?_
    refine wp_ret ?_
    have eR := some_eq H; subst eR
    exact ret1 Try.results35 hf rfl ⟨_, rfl, ⟨rfl, hs⟩⟩
  · -- not 0 ≤ a1
    refine seq_reg (fun K4 hK4 => ?_)
    refine stq hf rfl rfl rfl (ex_move hf rfl) (fun a hf => ?_)
    refine stq hf rfl rfl rfl (ex_geq hf rfl rfl) (fun a hf => ?_)
    refine stq hf rfl rfl rfl (ex_move hf rfl) (fun a hf => ?_)
    replace hf := hf.castB (t := 6) rfl (dec_f hc2)
    replace hf := hf.castB (t := 7) rfl (dec_f hc2)
    refine stepN hf rfl rfl rfl (fun a hf => ?_)
    refine stepN hf rfl rfl rfl (fun a hf => ?_)
    refine stepN hf rfl rfl rfl (fun a hf => ?_)
    refine stepN hf rfl rfl rfl (fun a hf => ?_)
    refine stq hf rfl rfl rfl (ex_pickF hf rfl rfl) (fun a hf => ?_)
    refine stq hf rfl rfl rfl (ex_assign hf rfl) (fun a hf => ?_)
    refine hK4 _ _ ?_
    refine wp_ret ?_
    have eR := some_eq H; subst eR
    exact ret1 Try.results35 hf rfl ⟨_, rfl, ⟨rfl, hs⟩⟩

set_option maxRecDepth 100000 in
theorem slices_Insert_api_PerfOp_api_PerfOp.calls {M : Nat → Prop} {w0 : World} (k : Nat) (a0 : (List PerfOp)) (a1 : Int) (a2 : (List PerfOp)) (v0 : Value) (v2 : Value) (hcap : capOf v0 = a0.length) {r : (List PerfOp)} (hs : St M w0 w0 [osl K_api_PerfOp v0 a0]) (hr : Sr M w0 [rsl K_api_PerfOp v2 a2])
    (h : slices_Insert_api_PerfOp_api_PerfOp.f k a0 a1 a2 = some r) : Calls Try.prog 36 #[v0, .int .i64 a1, v2] w0 fun e w => ∃ v, e = .returned v ∧ (∃ (g0 : Value), g0 = v ∧ St M w0 w [osl K_api_PerfOp g0 r]) := by
  have H := (slices_Insert_api_PerfOp_api_PerfOp.f.eq_1 ..).symm.trans h
  clear h
  refine enter Try.func36 rfl Try.ntmps36 rfl (fun a hf => ?_)
  refine seq_reg (fun K1 hK1 => ?_)
  refine stq hf rfl rfl rfl (ex_assign hf rfl) (fun a hf => ?_)
  refine hK1 _ _ ?_
  refine ck_some H (fun hc2 H => ?_)
  refine seq_reg (fun K3 hK3 => ?_)
  refine stq hf rfl rfl rfl (ex_move hf rfl) (fun a hf => ?_)
  refine stq hf rfl rfl rfl (ex_move hf rfl) (fun a hf => ?_)
  refine stq hf rfl rfl rfl (ex_slice_l sa_35 (rsl_isSl (osl_rsl _ (hs.get (i := 0) rfl))) hc2 hf rfl rfl) (fun a hf => ?_)
  refine hK3 _ _ ?_
  refine seq_reg (fun K4 hK4 => ?_)
  refine stq hf rfl rfl rfl (ex_move hf rfl) (fun a hf => ?_)
  refine stq hf rfl rfl rfl (ex_lenS Try.underlying35 (rsl_isSl (hr.now hs (i := 0) rfl)) hf rfl) (fun a hf => ?_)
  refine stq hf rfl rfl rfl (ex_assign hf rfl) (fun a hf => ?_)
  refine hK4 _ _ ?_
  refine seq_n (fun Q5 hN5 hR5 hX5 => ?_)
  refine seq_reg (fun K6 hK6 => ?_)
  refine stq hf rfl rfl rfl (ex_move hf rfl) (fun a hf => ?_)
  refine stq hf rfl rfl rfl (ex_eql hf rfl rfl) (fun a hf => ?_)
  refine hK6 _ _ ?_
  refine itt H (fun hc7 H => ?_) (fun hc7 H => ?_)
  · -- (a2.length : Int) = 0
    replace hf := hf.castB (t := 16) rfl (dec_t hc7)
    refine cond_T hf rfl ?_
    refine seq_reg (fun K8 hK8 => ?_)
    refine stq hf rfl rfl rfl (ex_move hf rfl) (fun a hf => ?_)
    refine stq hf rfl rfl rfl (ex_assign hf rfl) (fun a hf => ?_)
    refine hK8 _ _ ?_
    refine wp_ret ?_
    refine hR5 _ _ ?_
    have eR := some_eq H; subst eR
    exact ret1 Try.results36 hf rfl ⟨_, rfl, ⟨v0, rfl, hs⟩⟩
  · -- not (a2.length : Int) = 0
    replace hf := hf.castB (t := 16) rfl (dec_f hc7)
    refine cond_F hf rfl ?_
    refine wp_skip ?_
    refine hN5 _ _ ?_
    refine seq_reg (fun K9 hK9 => ?_)
    refine stq hf rfl rfl rfl (ex_move hf rfl) (fun a hf => ?_)
    refine stq hf rfl rfl rfl (ex_lenS Try.underlying35 (rsl_isSl (osl_rsl _ (hs.get (i := 0) rfl))) hf rfl) (fun a hf => ?_)
    refine stq hf rfl rfl rfl (ex_assign hf rfl) (fun a hf => ?_)
    refine hK9 _ _ ?_
    refine seq_n (fun Q10 hN10 hR10 hX10 => ?_)
    refine seq_reg (fun K11 hK11 => ?_)
    refine stq hf rfl rfl rfl (ex_move hf rfl) (fun a hf => ?_)
    refine stq hf rfl rfl rfl (ex_move hf rfl) (fun a hf => ?_)
    refine stq hf rfl rfl rfl (ex_eql hf rfl rfl) (fun a hf => ?_)
    refine hK11 _ _ ?_
    refine itt H (fun hc12 H => ?_) (fun hc12 H => ?_)
    · -- a1 = (a0.length : Int)
      replace hf := hf.castB (t := 22) rfl (dec_t hc12)
      refine cond_T hf rfl ?_
      refine ck_some H (fun hc13 H => ?_)
      refine seq_reg (fun K15 hK15 => ?_)
      refine stq hf rfl rfl rfl (ex_move hf rfl) (fun a hf => ?_)
      refine stq hf rfl rfl rfl (ex_move hf rfl) (fun a hf => ?_)
      refine stepV hf rfl rfl rfl (er_append (K := K_api_PerfOp) hs (.c .nil) (hr.now hs (i := 0) rfl) rfl Try.underlying35 ep_40 hc13 rfl hf rfl rfl) (fun v14 w hs a hf => ?_)
      refine stq hf rfl rfl rfl (ex_assign hf rfl) (fun a hf => ?_)
      refine hK15 _ _ ?_
      refine wp_ret ?_
      refine hR10 _ _ ?_
      have eR := some_eq H; subst eR
      exact ret1 Try.results36 hf rfl ⟨_, rfl, ⟨v14, rfl, hs⟩⟩
    · -- not a1 = (a0.length : Int)
      replace hf := hf.castB (t := 22) rfl (dec_f hc12)
      refine cond_F hf rfl ?_
      refine wp_skip ?_
      refine hN10 _ _ ?_
      refine seq_n (fun Q16 hN16 hR16 hX16 => ?_)
      refine seq_reg (fun K17 hK17 => ?_)
      refine stq hf rfl rfl rfl (ex_move hf rfl) (fun a hf => ?_)
      refine stq hf rfl rfl rfl (ex_move hf rfl) (fun a hf => ?_)
      refine stq hf rfl rfl rfl (ex_add hf rfl rfl) (fun a hf => ?_)
      refine stq hf rfl rfl rfl (ex_move hf rfl) (fun a hf => ?_)
      refine stq hf rfl rfl rfl (ex_capS Try.underlying35 (rsl_isSl (osl_rsl _ (hs.get (i := 0) rfl))) hcap hf rfl) (fun a hf => ?_)
      refine stq hf rfl rfl rfl (ex_gtr hf rfl rfl) (fun a hf => ?_)
      refine hK17 _ _ ?_
      refine itt H (fun hc18 H => ?_) (fun hc18 H => ?_)
      · -- (a0.length : Int) < (IntKind.i64.wrap ((a0.length : Int) + (
        replace hf := hf.castB (t := 31) rfl (dec_t hc18)
        refine cond_T hf rfl ?_
        refine ck_some H (fun hc19 H => ?_)
        refine ck_some H (fun hc20 H => ?_)
        refine seq_reg (fun K22 hK22 => ?_)
        refine stq hf rfl rfl rfl (ex_move hf rfl) (fun a hf => ?_)
        refine stq hf rfl rfl rfl (ex_move hf rfl) (fun a hf => ?_)
        refine stq hf rfl rfl rfl (ex_slice_h sa_35 (rsl_isSl (osl_rsl _ (hs.get (i := 0) rfl))) hc19 hf rfl rfl) (fun a hf => ?_)
        refine stq hf rfl rfl rfl (ex_move hf rfl) (fun a hf => ?_)
        refine stq hf rfl rfl rfl (ex_move hf rfl) (fun a hf => ?_)
        refine stq hf rfl rfl rfl (ex_add hf rfl rfl) (fun a hf => ?_)
        refine stq hf rfl rfl rfl (ex_move hf rfl) (fun a hf => ?_)
        refine stq hf rfl rfl rfl (ex_sub hf rfl rfl) (fun a hf => ?_)
        refine stepV hf rfl rfl rfl (er_appendZ (K := K_api_PerfOp) (i := a1.toNat) hs (osl_rsl _ (hs.get (i := 0) rfl)) hcap Try.underlying35 Try.underlying3 ep_40 (view_2 (lo := 0) hc19) hc20.1 hc20.2 rfl hf rfl rfl) (fun v21 w hs a hf => ?_)
        refine stq hf rfl rfl rfl (ex_assign hf rfl) (fun a hf => ?_)
        refine hK22 _ _ ?_
        refine ck_some H (fun hc23 H => ?_)
        refine seq_reg (fun K24 hK24 => ?_)
        refine stq hf rfl rfl rfl (ex_move hf rfl) (fun a hf => ?_)
        refine stq hf rfl rfl rfl (ex_move hf rfl) (fun a hf => ?_)
        refine stq hf rfl rfl rfl (ex_slice_l sa_35 (rsl_isSl (osl_rsl _ (hs.get (i := 0) rfl))) hc23 hf rfl rfl) (fun a hf => ?_)
        refine stq hf rfl rfl rfl (ex_move hf rfl) (fun a hf => ?_)
        refine stepV hf rfl rfl rfl (er_copyS (K := K_api_PerfOp) hs (.c (.k .nil)) (hr.now hs (i := 0) rfl) Try.underlying35 sz_40 (view_1 hc23) (view_2 hc23) hf rfl rfl) (fun v w hR a hf => ?_)
        obtain ⟨rfl, hs⟩ := hR
        refine hK24 _ _ ?_
        refine seq_n (fun Q25 hN25 hR25 hX25 => ?_)
        refine ck_some H (fun hc26 H => ?_)
        have hI_P0 := rsl_isSl (osl_rsl _ (hs.get (i := 1) rfl))
        have hI_u2 := rsl_isSl (osl_rsl _ (hs.get (i := 0) rfl))
        refine region_d fol 9 [(0, v0), (1, .int .i64 a1), (7, .int .i64 (a2.length : Int)), (9, v21)] [(0, v21), (1, .int .i64 a1), (2, .int .i64 (a2.length : Int)), (3, .int .i64 (IntKind.i64.wrap (a1 + (a2.length : Int)))), (4, (slv v21 ((IntKind.i64.wrap (a1 + (a2.length : Int))).toNat) (((cpy ((a0.take a1.toNat) ++ List.replicate (IntKind.i64.wrap ((IntKind.i64.wrap ((a0.length : Int) + (a2.length : Int))) - a1)).toNat PerfOp.zero) a1.toNat ((((a0.take a1.toNat) ++ List.replicate (IntKind.i64.wrap ((IntKind.i64.wrap ((a0.length : Int) + (a2.length : Int))) - a1)).toNat PerfOp.zero).length : Int).toNat) a2).length : Int).toNat) 2)), (5, v0), (6, .int .i64 a1), (7, (slv v0 a1.toNat ((a0.length : Int).toNat) 2))] [8] (fun w => (osl K_api_PerfOp v0 a0).ok w ∧ True) (fun w => St M w0 w [osl K_api_PerfOp v21 (cpy ((a0.take a1.toNat) ++ List.replicate (IntKind.i64.wrap ((IntKind.i64.wrap ((a0.length : Int) + (a2.length : Int))) - a1)).toNat PerfOp.zero) a1.toNat ((((a0.take a1.toNat) ++ List.replicate (IntKind.i64.wrap ((IntKind.i64.wrap ((a0.length : Int) + (a2.length : Int))) - a1)).toNat PerfOp.zero).length : Int).toNat) a2), osl K_api_PerfOp v0 a0]) hf ⟨rfl, rfl, rfl, rfl, trivial⟩ (by kernel_rfl) (by kernel_rfl) rfl (by decide) ⟨hs.drew.get (i := 1) rfl, trivial⟩ hs.drew (.cons (⟨_, _, rfl, rfl, rfl, rfl, fun a w hR hf => .inl ⟨wanted_yes hf rfl, ex_move hf rfl⟩⟩) (.cons (⟨_, _, rfl, rfl, rfl, rfl, fun a w hR hf => .inl ⟨wanted_yes hf rfl, ex_move hf rfl⟩⟩) (.cons (⟨_, _, rfl, rfl, rfl, rfl, fun a w hR hf => .inl ⟨wanted_yes hf rfl, ex_move hf rfl⟩⟩) (.cons (⟨_, _, rfl, rfl, rfl, rfl, fun a w hR hf => .inl ⟨wanted_yes hf rfl, ex_add hf rfl rfl⟩⟩) (.cons (⟨_, _, rfl, rfl, rfl, rfl, fun a w hR hf => .inl ⟨wanted_yes hf rfl, ex_slice_l sa_35 hI_u2 hc26 hf rfl rfl⟩⟩) (.cons (⟨_, _, rfl, rfl, rfl, rfl, fun a w hR hf => .inl ⟨wanted_yes hf rfl, ex_move hf rfl⟩⟩) (.cons (⟨_, _, rfl, rfl, rfl, rfl, fun a w hR hf => .inl ⟨wanted_yes hf rfl, ex_move hf rfl⟩⟩) (.cons (⟨_, _, rfl, rfl, rfl, rfl, fun a w hR hf => .inl ⟨wanted_yes hf rfl, ex_slice_l sa_35 hI_P0 hc2 hf rfl rfl⟩⟩) (.nil))))))))) (fun K27 hK27 => ?_)
        refine RW.one 8 (by kernel_rfl) (by kernel_rfl) rfl (fun d hd => by cases hd; rfl) [(50, (slv v21 ((IntKind.i64.wrap (a1 + (a2.length : Int))).toNat) (((cpy ((a0.take a1.toNat) ++ List.replicate (IntKind.i64.wrap ((IntKind.i64.wrap ((a0.length : Int) + (a2.length : Int))) - a1)).toNat PerfOp.zero) a1.toNat ((((a0.take a1.toNat) ++ List.replicate (IntKind.i64.wrap ((IntKind.i64.wrap ((a0.length : Int) + (a2.length : Int))) - a1)).toNat PerfOp.zero).length : Int).toNat) a2).length : Int).toNat) 2)), (53, (slv v0 a1.toNat ((a0.length : Int).toNat) 2))] ⟨rfl, rfl, trivial⟩ (fun a w hR hs hf => ⟨wanted_yes hf rfl, ?_⟩)
        refine estep_v (er_copyS (K := K_api_PerfOp) hs (.c (.k .nil)) (rsl_slv _ (osl_rsl _ hR.1) (view_1 hc2) (view_2 hc2)) Try.underlying35 sz_40 (view_1 hc26) (view_2 hc26) hf rfl rfl) (fun v w hR => ?_)
        obtain ⟨rfl, hs⟩ := hR
        refine ⟨[], [(8, .int .i64 ((min ((a0.drop a1.toNat).take (((a0.length : Int).toNat) - a1.toNat)).length ((((cpy ((a0.take a1.toNat) ++ List.replicate (IntKind.i64.wrap ((IntKind.i64.wrap ((a0.length : Int) + (a2.length : Int))) - a1)).toNat PerfOp.zero) a1.toNat ((((a0.take a1.toNat) ++ List.replicate (IntKind.i64.wrap ((IntKind.i64.wrap ((a0.length : Int) + (a2.length : Int))) - a1)).toNat PerfOp.zero).length : Int).toNat) a2).length : Int).toNat) - ((IntKind.i64.wrap (a1 + (a2.length : Int))).toNat)) : Nat) : Int)), (0, v21), (1, .int .i64 a1), (2, .int .i64 (a2.length : Int)), (3, .int .i64 (IntKind.i64.wrap (a1 + (a2.length : Int)))), (4, (slv v21 ((IntKind.i64.wrap (a1 + (a2.length : Int))).toNat) (((cpy ((a0.take a1.toNat) ++ List.replicate (IntKind.i64.wrap ((IntKind.i64.wrap ((a0.length : Int) + (a2.length : Int))) - a1)).toNat PerfOp.zero) a1.toNat ((((a0.take a1.toNat) ++ List.replicate (IntKind.i64.wrap ((IntKind.i64.wrap ((a0.length : Int) + (a2.length : Int))) - a1)).toNat PerfOp.zero).length : Int).toNat) a2).length : Int).toNat) 2)), (5, v0), (6, .int .i64 a1), (7, (slv v0 a1.toNat ((a0.length : Int).toNat) 2))], [], (fun _ => True), (fun w => St M w0 w [osl K_api_PerfOp v21 (cpy (cpy ((a0.take a1.toNat) ++ List.replicate (IntKind.i64.wrap ((IntKind.i64.wrap ((a0.length : Int) + (a2.length : Int))) - a1)).toNat PerfOp.zero) a1.toNat ((((a0.take a1.toNat) ++ List.replicate (IntKind.i64.wrap ((IntKind.i64.wrap ((a0.length : Int) + (a2.length : Int))) - a1)).toNat PerfOp.zero).length : Int).toNat) a2) ((IntKind.i64.wrap (a1 + (a2.length : Int))).toNat) (((cpy ((a0.take a1.toNat) ++ List.replicate (IntKind.i64.wrap ((IntKind.i64.wrap ((a0.length : Int) + (a2.length : Int))) - a1)).toNat PerfOp.zero) a1.toNat ((((a0.take a1.toNat) ++ List.replicate (IntKind.i64.wrap ((IntKind.i64.wrap ((a0.length : Int) + (a2.length : Int))) - a1)).toNat PerfOp.zero).length : Int).toNat) a2).length : Int).toNat) ((a0.drop a1.toNat).take (((a0.length : Int).toNat) - a1.toNat))), osl K_api_PerfOp v0 a0]), rfl, rfl, ⟨hs.get (i := 1) rfl, trivial⟩, trivial, hs, (by kernel_rfl), .nil, ?_⟩
        refine RW.zero (by kernel_rfl) (by kernel_rfl) [(9, v21)] ⟨rfl, trivial⟩ (fun a w hR hs hf => ?_)
        refine hK27 _ _ ?_
        refine hN25 _ _ ?_
        refine seq_reg (fun K28 hK28 => ?_)
        refine stq hf rfl rfl rfl (ex_move hf rfl) (fun a hf => ?_)
        refine stq hf rfl rfl rfl (ex_assign hf rfl) (fun a hf => ?_)
        refine hK28 _ _ ?_
        refine wp_ret ?_
        refine hR16 _ _ ?_
        have eR := some_eq H; subst eR
        replace hs := hs.keep (.k (.d .nil))
        exact ret1 Try.results36 hf rfl ⟨_, rfl, ⟨v21, rfl, hs⟩⟩
      · -- not (a0.length : Int) < (IntKind.i64.wrap ((a0.length : Int) + (
        replace hf := hf.castB (t := 31) rfl (dec_f hc18)
        refine cond_F hf rfl ?_
        refine wp_skip ?_
        refine hN16 _ _ ?_
        refine ck_some H (fun hc29 H => ?_)
        refine seq_reg (fun K30 hK30 => ?_)
        refine stq hf rfl rfl rfl (ex_move hf rfl) (fun a hf => ?_)
        refine stq hf rfl rfl rfl (ex_move hf rfl) (fun a hf => ?_)
        refine stq hf rfl rfl rfl (ex_move hf rfl) (fun a hf => ?_)
        refine stq hf rfl rfl rfl (ex_add hf rfl rfl) (fun a hf => ?_)
        refine stq hf rfl rfl rfl (ex_slice_h sa_35 (rsl_isSl (osl_rsl _ (hs.get (i := 0) rfl))) hc29 hf rfl rfl) (fun a hf => ?_)
        refine stq hf rfl rfl rfl (ex_assign hf rfl) (fun a hf => ?_)
        refine hK30 _ _ ?_
        refine seq_n (fun Q31 hN31 hR31 hX31 => ?_)
        refine ck_some H (fun hc32 H => ?_)
        cases H

set_option maxRecDepth 100000 in
theorem perf_Transition.calls {M : Nat → Prop} {w0 : World} (k : Nat) (a0 : (List OperatingPoint)) (a1 : Int) (a2 : Int) (v0 : Value) {r : (List PerfOp) × Int} (hs : St M w0 w0 []) (hr : Sr M w0 [rsl K_api_OperatingPoint v0 a0])
    (h : perf_Transition.f k a0 a1 a2 = some r) : Calls Try.prog 19 #[v0, .int .i64 a1, .int .i64 a2] w0 fun e w => ∃ v, e = .returned v ∧ (∃ (g0 : Value), .tuple #[g0, .int .i64 r.2] = v ∧ St M w0 w [osl K_api_PerfOp g0 r.1]) := by
  have H := (perf_Transition.f.eq_1 ..).symm.trans h
  clear h
  refine enter Try.func19 rfl Try.ntmps19 rfl (fun a hf => ?_)
  refine seq_reg (fun K1 hK1 => ?_)
  refine stq hf rfl rfl rfl (ex_assign hf rfl) (fun a hf => ?_)
  refine stq hf rfl rfl rfl (ex_assign hf rfl) (fun a hf => ?_)
  refine hK1 _ _ ?_
  refine seq_n (fun Q2 hN2 hR2 hX2 => ?_)
  refine bnd H (fun s3 hs3 H => ?_)
  refine seq_reg (fun K4 hK4 => ?_)
  refine stq hf rfl rfl rfl (ex_move hf rfl) (fun a hf => ?_)
  refine stepF hf rfl rfl rfl (ex_call cf_17 hf rfl) (perf_Check.calls k a0 v0 (hs.enter .nil) (Sr.old hr hs .nil (i := 0) rfl (fun _ h => h) (fun _ h => h) (Sr.nil _ _)) hs3) (fun v w hR a hf => ?_)
  obtain ⟨rfl, hs'⟩ := hR
  replace hs := hs.step .nil hs'
  clear hs'
  refine stq hf rfl rfl rfl (ex_assign hf rfl) (fun a hf => ?_)
  refine hK4 _ _ ?_
  refine seq_reg (fun K5 hK5 => ?_)
  refine stq hf rfl rfl rfl (ex_move hf rfl) (fun a hf => ?_)
  refine stq hf rfl rfl rfl (ex_neq hf rfl rfl) (fun a hf => ?_)
  refine hK5 _ _ ?_
  refine itt H (fun hc6 H => ?_) (fun hc6 H => ?_)
  · -- s3 = 0
    replace hf := hf.castB (t := 14) rfl (ndec_f hc6)
    refine cond_F hf rfl ?_
    refine wp_skip ?_
    refine hN2 _ _ ?_
    refine seq_n (fun Q7 hN7 hR7 hX7 => ?_)
    refine bnd H (fun x8 H8 HO8 => ?_)
    clear H
    refine seq_cut (fun a w => Fr a 61 [(0, v0), (1, .int .i64 a1), (2, .int .i64 a2), (25, .bool x8)] ∧ St M w0 w []) (fun Q8 hJ8 hR8 hX8 => ?_) (fun a w hJ => ?_)
    · replace H := H8
      refine bnd H (fun s9 hs9 H => ?_)
      refine itt H (fun hc10 H => ?_) (fun hc10 H => ?_)
      · -- s9 = true
        refine bnd H (fun s11 hs11 H => ?_)
        refine region_k (fun K12 hK12 => ?_)
        refine stq hf rfl rfl rfl (ex_move hf rfl) (fun a hf => ?_)
        refine stq hf rfl rfl rfl (ex_move hf rfl) (fun a hf => ?_)
        refine stepF hf rfl rfl rfl (ex_call cf_35 hf rfl) (perf_has.calls k a0 a1 v0 (hs.enter .nil) (Sr.old hr hs .nil (i := 0) rfl (fun _ h => h) (fun _ h => h) (Sr.nil _ _)) hs9) (fun v w hR a hf => ?_)
        obtain ⟨rfl, hs'⟩ := hR
        replace hs := hs.step .nil hs'
        clear hs'
        refine stq hf rfl rfl rfl (ex_not hf rfl) (fun a hf => ?_)
        refine stq hf rfl rfl rfl (ex_move hf rfl) (fun a hf => ?_)
        replace hf := hf.castB (t := 18) rfl hc10
        replace hf := hf.castB (t := 19) rfl (nbool_f hc10)
        replace hf := hf.castB (t := 20) rfl (nbool_f hc10)
        refine stq hf rfl rfl rfl (ex_move hf rfl) (fun a hf => ?_)
        refine stq hf rfl rfl rfl (ex_move hf rfl) (fun a hf => ?_)
        refine stepF hf rfl rfl rfl (ex_call cf_35 hf rfl) (perf_has.calls k a0 a2 v0 (hs.enter .nil) (Sr.old hr hs .nil (i := 0) rfl (fun _ h => h) (fun _ h => h) (Sr.nil _ _)) hs11) (fun v w hR a hf => ?_)
        obtain ⟨rfl, hs'⟩ := hR
        replace hs := hs.step .nil hs'
        clear hs'
        refine stq hf rfl rfl rfl (ex_not hf rfl) (fun a hf => ?_)
        refine stq hf rfl rfl rfl (ex_pickF hf rfl rfl) (fun a hf => ?_)
        refine hK12 _ _ ?_
        have e8 := some_eq H; subst e8
        exact hJ8 _ _ ⟨hf.sub ⟨rfl, rfl, rfl, rfl, trivial⟩, hs⟩
      · -- not s9 = true
        refine region_k (fun K13 hK13 => ?_)
        refine stq hf rfl rfl rfl (ex_move hf rfl) (fun a hf => ?_)
        refine stq hf rfl rfl rfl (ex_move hf rfl) (fun a hf => ?_)
        refine stepF hf rfl rfl rfl (ex_call cf_35 hf rfl) (perf_has.calls k a0 a1 v0 (hs.enter .nil) (Sr.old hr hs .nil (i := 0) rfl (fun _ h => h) (fun _ h => h) (Sr.nil _ _)) hs9) (fun v w hR a hf => ?_)
        obtain ⟨rfl, hs'⟩ := hR
        replace hs := hs.step .nil hs'
        clear hs'
        refine stq hf rfl rfl rfl (ex_not hf rfl) (fun a hf => ?_)
        refine stq hf rfl rfl rfl (ex_move hf rfl) (fun a hf => ?_)
        replace hf := hf.castB (t := 18) rfl (bool_f hc10)
        replace hf := hf.castB (t := 19) rfl (nbool_t hc10)
        replace hf := hf.castB (t := 20) rfl (nbool_t hc10)
        refine stepN hf rfl rfl rfl (fun a hf => ?_)
        refine stepN hf rfl rfl rfl (fun a hf => ?_)
        refine stepN hf rfl rfl rfl (fun a hf => ?_)
        refine stepN hf rfl rfl rfl (fun a hf => ?_)
        refine stq hf rfl rfl rfl (ex_pickT hf rfl rfl) (fun a hf => ?_)
        refine hK13 _ _ ?_
        have e8 := some_eq H; subst e8
        exact hJ8 _ _ ⟨hf.sub ⟨rfl, rfl, rfl, rfl, trivial⟩, hs⟩
    · obtain ⟨hf, hs⟩ := hJ
      replace H := HO8
      clear HO8
      refine itt H (fun hc14 H => ?_) (fun hc14 H => ?_)
      · -- x8 = true
        replace hf := hf.castB (t := 25) rfl hc14
        refine cond_T hf rfl ?_
        refine seq_reg (fun K15 hK15 => ?_)
        refine stq hf rfl rfl rfl (ex_assign hf rfl) (fun a hf => ?_)
        refine stq hf rfl rfl rfl (ex_assign hf rfl) (fun a hf => ?_)
        refine hK15 _ _ ?_
        refine wp_ret ?_
        refine hR7 _ _ ?_
        have eR := some_eq H; subst eR
        replace hs := hs.nilS K_api_PerfOp
        exact ret2 Try.results19 hf rfl rfl ⟨_, rfl, ⟨(.slice none 0 0), rfl, hs⟩⟩
      · -- not x8 = true
        replace hf := hf.castB (t := 25) rfl (bool_f hc14)
        refine cond_F hf rfl ?_
        refine wp_skip ?_
        refine hN7 _ _ ?_
        refine seq_n (fun Q16 hN16 hR16 hX16 => ?_)
        refine seq_reg (fun K17 hK17 => ?_)
        refine stq hf rfl rfl rfl (ex_move hf rfl) (fun a hf => ?_)
        refine stq hf rfl rfl rfl (ex_move hf rfl) (fun a hf => ?_)
        refine stq hf rfl rfl rfl (ex_eql hf rfl rfl) (fun a hf => ?_)
        refine hK17 _ _ ?_
        refine itt H (fun hc18 H => ?_) (fun hc18 H => ?_)
        · -- a1 = a2
          replace hf := hf.castB (t := 28) rfl (dec_t hc18)
          refine cond_T hf rfl ?_
          refine seq_reg (fun K19 hK19 => ?_)
          refine stq hf rfl rfl rfl (ex_assign hf rfl) (fun a hf => ?_)
          refine stq hf rfl rfl rfl (ex_assign hf rfl) (fun a hf => ?_)
          refine hK19 _ _ ?_
          refine wp_ret ?_
          refine hR16 _ _ ?_
          have eR := some_eq H; subst eR
          replace hs := hs.nilS K_api_PerfOp
          exact ret2 Try.results19 hf rfl rfl ⟨_, rfl, ⟨(.slice none 0 0), rfl, hs⟩⟩
        · -- not a1 = a2
          replace hf := hf.castB (t := 28) rfl (dec_f hc18)
          refine cond_F hf rfl ?_
          refine wp_skip ?_
          refine hN16 _ _ ?_
          refine ck_some H (fun hc20 H => ?_)
          refine seq_reg (fun K22 hK22 => ?_)
          refine stq hf rfl rfl rfl (ex_move hf rfl) (fun a hf => ?_)
          refine stq hf rfl rfl rfl (ex_move hf rfl) (fun a hf => ?_)
          refine stq hf rfl rfl rfl (ex_indexAddr sa_22 (rsl_isSl (hr.now hs (i := 0) rfl)) hc20.1 hc20.2 hf rfl rfl) (fun a hf => ?_)
          refine stq hf rfl rfl rfl (ex_fieldAddrS fa_25_0 rfl hf rfl) (fun a hf => ?_)
          refine stq hf rfl rfl rfl (ex_load sc_23 hf rfl (el_cell (K := K_api_OperatingPoint) (f := 0) (rsl_rd (hr.now hs (i := 0) rfl)) hc20.1 hc20.2 rfl)) (fun a hf => ?_)
          refine stq hf rfl rfl rfl (ex_build (cs := [.bool false, .int .u64 ((gd OperatingPoint.zero a0 a2).Frequency)]) bt_40 hf rfl (.cons rfl .nil) rfl) (fun a hf => ?_)
          refine stepV hf rfl rfl rfl (er_buildSliceX (K := K_api_PerfOp) (xs := [(⟨false, ((gd OperatingPoint.zero a0 a2).Frequency)⟩ : PerfOp)]) hs Try.underlying35 ep_40 rfl rfl hf rfl (.cons rfl .nil) rfl rfl) (fun v21 w hR a hf => ?_)
          obtain ⟨hcap_v21, hs⟩ := hR
          refine stq hf rfl rfl rfl (ex_assign hf rfl) (fun a hf => ?_)
          refine hK22 _ _ ?_
          refine seq_n (fun Q23 hN23 hR23 hX23 => ?_)
          refine seq_n (fun Q24 hN24 hR24 hX24 => ?_)
          refine ck_some H (fun hc25 H => ?_)
          refine region_d fol 11 [(0, v0), (1, .int .i64 a1), (2, .int .i64 a2), (9, v21)] [(0, v0), (1, .int .i64 a1), (2, .pointer (some (sla v0 (a1.toNat * 3)))), (3, .pointer (some (sla v0 (a1.toNat * 3 + 1)))), (4, .int .u64 ((gd OperatingPoint.zero a0 a1).Voltage)), (5, v0), (6, .int .i64 a2), (7, .pointer (some (sla v0 (a2.toNat * 3)))), (8, .pointer (some (sla v0 (a2.toNat * 3 + 1)))), (9, .int .u64 ((gd OperatingPoint.zero a0 a2).Voltage)), (10, .bool (decide (((gd OperatingPoint.zero a0 a1).Voltage) = ((gd OperatingPoint.zero a0 a2).Voltage))))] [] (fun w => (rsl K_api_OperatingPoint v0 a0).ok w ∧ True) (fun w => St M w0 w [osl K_api_PerfOp v21 [(⟨false, ((gd OperatingPoint.zero a0 a2).Frequency)⟩ : PerfOp)]]) hf ⟨rfl, rfl, rfl, rfl, trivial⟩ (by kernel_rfl) (by kernel_rfl) rfl (by decide) ⟨hr.now hs.drew (i := 0) rfl, trivial⟩ hs.drew (.cons (⟨_, _, rfl, rfl, rfl, rfl, fun a w hR hf => .inl ⟨wanted_yes hf rfl, ex_move hf rfl⟩⟩) (.cons (⟨_, _, rfl, rfl, rfl, rfl, fun a w hR hf => .inl ⟨wanted_yes hf rfl, ex_move hf rfl⟩⟩) (.cons (⟨_, _, rfl, rfl, rfl, rfl, fun a w hR hf => .inl ⟨wanted_yes hf rfl, ex_indexAddr sa_22 (rsl_isSl hR.1) hc25.1 hc25.2 hf rfl rfl⟩⟩) (.cons (⟨_, _, rfl, rfl, rfl, rfl, fun a w hR hf => .inl ⟨wanted_yes hf rfl, ex_fieldAddrS fa_25_1 rfl hf rfl⟩⟩) (.cons (⟨_, _, rfl, rfl, rfl, rfl, fun a w hR hf => .inl ⟨wanted_yes hf rfl, ex_load sc_23 hf rfl (el_cell (K := K_api_OperatingPoint) (f := 1) (rsl_rd hR.1) hc25.1 hc25.2 rfl)⟩⟩) (.cons (⟨_, _, rfl, rfl, rfl, rfl, fun a w hR hf => .inl ⟨wanted_yes hf rfl, ex_move hf rfl⟩⟩) (.cons (⟨_, _, rfl, rfl, rfl, rfl, fun a w hR hf => .inl ⟨wanted_yes hf rfl, ex_move hf rfl⟩⟩) (.cons (⟨_, _, rfl, rfl, rfl, rfl, fun a w hR hf => .inl ⟨wanted_yes hf rfl, ex_indexAddr sa_22 (rsl_isSl hR.1) hc20.1 hc20.2 hf rfl rfl⟩⟩) (.cons (⟨_, _, rfl, rfl, rfl, rfl, fun a w hR hf => .inl ⟨wanted_yes hf rfl, ex_fieldAddrS fa_25_1 rfl hf rfl⟩⟩) (.cons (⟨_, _, rfl, rfl, rfl, rfl, fun a w hR hf => .inl ⟨wanted_yes hf rfl, ex_load sc_23 hf rfl (el_cell (K := K_api_OperatingPoint) (f := 1) (rsl_rd hR.1) hc20.1 hc20.2 rfl)⟩⟩) (.cons (⟨_, _, rfl, rfl, rfl, rfl, fun a w hR hf => .inl ⟨wanted_yes hf rfl, ex_eql hf rfl rfl⟩⟩) (.nil)))))))))))) (fun K26 hK26 => ?_)
          refine RW.zero (by kernel_rfl) (by kernel_rfl) [(0, v0), (1, .int .i64 a1), (2, .int .i64 a2), (9, v21), (46, .bool (decide (((gd OperatingPoint.zero a0 a1).Voltage) = ((gd OperatingPoint.zero a0 a2).Voltage))))] ⟨rfl, rfl, rfl, rfl, rfl, trivial⟩ (fun a w hR hs hf => ?_)
          refine hK26 _ _ ?_
          refine hN24 _ _ ?_
          refine itt H (fun hc27 H => ?_) (fun hc27 H => ?_)
          · -- ((gd OperatingPoint.zero a0 a1).Voltage) = ((gd OperatingPoi
            replace hf := hf.castB (t := 46) rfl (dec_t hc27)
            refine cond_T hf rfl ?_
            refine seq_reg (fun K28 hK28 => ?_)
            refine stq hf rfl rfl rfl (ex_move hf rfl) (fun a hf => ?_)
            refine stq hf rfl rfl rfl (ex_assign hf rfl) (fun a hf => ?_)
            refine stq hf rfl rfl rfl (ex_assign hf rfl) (fun a hf => ?_)
            refine hK28 _ _ ?_
            refine wp_ret ?_
            refine hR23 _ _ ?_
            have eR := some_eq H; subst eR
            exact ret2 Try.results19 hf rfl rfl ⟨_, rfl, ⟨v21, rfl, hs⟩⟩
          · -- not ((gd OperatingPoint.zero a0 a1).Voltage) = ((gd OperatingPoi
            replace hf := hf.castB (t := 46) rfl (dec_f hc27)
            refine cond_F hf rfl ?_
            refine wp_skip ?_
            refine hN23 _ _ ?_
            refine seq_reg (fun K29 hK29 => ?_)
            refine stq hf rfl rfl rfl (ex_assign hf rfl) (fun a hf => ?_)
            refine hK29 _ _ ?_
            refine bnd H (fun x30 H30 HO30 => ?_)
            clear H
            refine seq_cut (fun a w => Fr a 61 [(0, v0), (2, .int .i64 a2), (9, v21), (10, .int .i64 x30)] ∧ St M w0 w [osl K_api_PerfOp v21 [(⟨false, ((gd OperatingPoint.zero a0 a2).Frequency)⟩ : PerfOp)]]) (fun Q30 hJ30 hR30 hX30 => ?_) (fun a w hJ => ?_)
            · replace H := H30
              refine seq_reg (fun K31 hK31 => ?_)
              refine stq hf rfl rfl rfl (ex_move hf rfl) (fun a hf => ?_)
              refine stq hf rfl rfl rfl (ex_move hf rfl) (fun a hf => ?_)
              refine stq hf rfl rfl rfl (ex_lss hf rfl rfl) (fun a hf => ?_)
              refine hK31 _ _ ?_
              refine itt H (fun hc32 H => ?_) (fun hc32 H => ?_)
              · -- a2 < a1
                replace hf := hf.castB (t := 50) rfl (dec_t hc32)
                refine cond_T hf rfl ?_
                refine region_k (fun K33 hK33 => ?_)
                refine stq hf rfl rfl rfl (ex_assign hf rfl) (fun a hf => ?_)
                refine hK33 _ _ ?_
                have e30 := some_eq H; subst e30
                exact hJ30 _ _ ⟨hf.sub ⟨rfl, rfl, rfl, rfl, trivial⟩, hs⟩
              · -- not a2 < a1
                replace hf := hf.castB (t := 50) rfl (dec_f hc32)
                refine cond_F hf rfl ?_
                refine wp_skip ?_
                have e30 := some_eq H; subst e30
                exact hJ30 _ _ ⟨hf.sub ⟨rfl, rfl, rfl, rfl, trivial⟩, hs⟩
            · obtain ⟨hf, hs⟩ := hJ
              replace H := HO30
              clear HO30
              refine bnd H (fun s35 hs35 H => ?_)
              refine seq_reg (fun K37 hK37 => ?_)
              refine stq hf rfl rfl rfl (ex_move hf rfl) (fun a hf => ?_)
              refine stq hf rfl rfl rfl (ex_move hf rfl) (fun a hf => ?_)
              refine stq hf rfl rfl rfl (ex_move hf rfl) (fun a hf => ?_)
              refine stq hf rfl rfl rfl (ex_move hf rfl) (fun a hf => ?_)
              refine stq hf rfl rfl rfl (ex_indexAddr sa_22 (rsl_isSl (hr.now hs (i := 0) rfl)) hc20.1 hc20.2 hf rfl rfl) (fun a hf => ?_)
              refine stq hf rfl rfl rfl (ex_fieldAddrS fa_25_1 rfl hf rfl) (fun a hf => ?_)
              refine stq hf rfl rfl rfl (ex_load sc_23 hf rfl (el_cell (K := K_api_OperatingPoint) (f := 1) (rsl_rd (hr.now hs (i := 0) rfl)) hc20.1 hc20.2 rfl)) (fun a hf => ?_)
              refine stq hf rfl rfl rfl (ex_build (cs := [.bool true, .int .u64 ((gd OperatingPoint.zero a0 a2).Voltage)]) bt_40 hf rfl (.cons rfl (.cons rfl .nil)) rfl) (fun a hf => ?_)
              refine stepV hf rfl rfl rfl (er_buildSliceX (K := K_api_PerfOp) (xs := [(⟨true, ((gd OperatingPoint.zero a0 a2).Voltage)⟩ : PerfOp)]) hs Try.underlying35 ep_40 rfl rfl hf rfl (.cons rfl .nil) rfl rfl) (fun v34 w hR a hf => ?_)
              obtain ⟨hcap_v34, hs⟩ := hR
              refine stepF hf rfl rfl rfl (ex_call cf_36 hf rfl) (slices_Insert_api_PerfOp_api_PerfOp.calls k [(⟨false, ((gd OperatingPoint.zero a0 a2).Frequency)⟩ : PerfOp)] x30 [(⟨true, ((gd OperatingPoint.zero a0 a2).Voltage)⟩ : PerfOp)] v21 v34 hcap_v21 (hs.enter (.k (.c .nil))) (Sr.own hs (.k (.c .nil)) (i := 0) rfl osl_rsl (fun _ h => h.1) (Sr.nil _ _)) hs35) (fun v w hR a hf => ?_)
              obtain ⟨v36, rfl, hs'⟩ := hR
              replace hs := hs.step (.k (.c .nil)) hs'
              clear hs'
              refine stq hf rfl rfl rfl (ex_assign hf rfl) (fun a hf => ?_)
              refine stq hf rfl rfl rfl (ex_assign hf rfl) (fun a hf => ?_)
              refine hK37 _ _ ?_
              refine wp_ret ?_
              have eR := some_eq H; subst eR
              replace hs := hs.keep (.k (.d .nil))
              exact ret2 Try.results19 hf rfl rfl ⟨_, rfl, ⟨v36, rfl, hs⟩⟩
  · -- not s3 = 0
    replace hf := hf.castB (t := 14) rfl (ndec_t hc6)
    refine cond_T hf rfl ?_
    refine seq_reg (fun K38 hK38 => ?_)
    refine stq hf rfl rfl rfl (ex_move hf rfl) (fun a hf => ?_)
    refine stq hf rfl rfl rfl (ex_assign hf rfl) (fun a hf => ?_)
    refine stq hf rfl rfl rfl (ex_assign hf rfl) (fun a hf => ?_)
    refine hK38 _ _ ?_
    refine wp_ret ?_
    refine hR2 _ _ ?_
    have eR := some_eq H; subst eR
    replace hs := hs.nilS K_api_PerfOp
    exact ret2 Try.results19 hf rfl rfl ⟨_, rfl, ⟨(.slice none 0 0), rfl, hs⟩⟩

set_option maxRecDepth 100000 in
theorem perf_Find_1.calls {M : Nat → Prop} {w0 : World} (k : Nat) (a0 : OperatingPoint) (a1 : Int) (b1 : Nat) {r : Bool} (hs : St M w0 w0 []) (hr : Sr M w0 [bx b1 23 [.int .u64 a1]])
    (h : perf_Find_1.f k a0 a1 = some r) : Calls Try.prog 34 #[.agg #[.int .u64 a0.Frequency, .int .u64 a0.Voltage, .int .u64 a0.Power], .pointer (some ⟨b1, 0, none⟩)] w0 fun e w => ∃ v, e = .returned v ∧ (.bool r = v ∧ St M w0 w []) := by
  have H := (perf_Find_1.f.eq_1 ..).symm.trans h
  clear h
  refine enter Try.func34 rfl Try.ntmps34 rfl (fun a hf => ?_)
  refine seq_reg (fun K2 hK2 => ?_)
  refine stepV hf rfl rfl rfl (er_box (cs := [.int .u64 a0.Frequency, .int .u64 a0.Voltage, .int .u64 a0.Power]) hs hf rfl rfl) (fun v w hR a hf => ?_)
  obtain ⟨b1, rfl, hs⟩ := hR
  refine stq hf rfl rfl rfl (ex_assign hf rfl) (fun a hf => ?_)
  refine hK2 _ _ ?_
  refine seq_reg (fun K3 hK3 => ?_)
  refine stq hf rfl rfl rfl (ex_fieldAddrB fa_25_0 rfl hf rfl) (fun a hf => ?_)
  refine stq hf rfl rfl rfl (ex_load sc_23 hf rfl (bx_cell (hs.get (i := 0) rfl) _ rfl)) (fun a hf => ?_)
  refine stq hf rfl rfl rfl (ex_load sc_23 hf rfl (bx_cell (hr.now hs (i := 0) rfl) _ rfl)) (fun a hf => ?_)
  refine stq hf rfl rfl rfl (ex_geq hf rfl rfl) (fun a hf => ?_)
  refine stq hf rfl rfl rfl (ex_assign hf rfl) (fun a hf => ?_)
  refine hK3 _ _ ?_
  refine wp_ret ?_
  have eR := some_eq H; subst eR
  replace hs := hs.keep (.d .nil)
  exact ret1 Try.results34 hf rfl ⟨_, rfl, ⟨rfl, hs⟩⟩

set_option maxRecDepth 100000 in
theorem slices_IndexFunc_api_OperatingPoint_api_OperatingPoint__Find_1.calls {M : Nat → Prop} {w0 : World} (k : Nat) (a0 : (List OperatingPoint)) (a1_0 : Int) (v0 : Value) (b1_0 : Nat) {r : Int} (hs : St M w0 w0 []) (hr : Sr M w0 [rsl K_api_OperatingPoint v0 a0, bx b1_0 23 [.int .u64 a1_0]])
    (h : slices_IndexFunc_api_OperatingPoint_api_OperatingPoint__Find_1.f k a0 a1_0 = some r) : Calls Try.prog 33 #[v0, .func (.func 34) #[] #[.pointer (some ⟨b1_0, 0, none⟩)]] w0 fun e w => ∃ v, e = .returned v ∧ (.int .i64 r = v ∧ St M w0 w []) := by
  have H := (slices_IndexFunc_api_OperatingPoint_api_OperatingPoint__Find_1.f.eq_1 ..).symm.trans h
  clear h
  refine enter Try.func33 rfl Try.ntmps33 rfl (fun a hf => ?_)
  refine seq_reg (fun K1 hK1 => ?_)
  refine stq hf rfl rfl rfl (ex_assign hf rfl) (fun a hf => ?_)
  refine hK1 _ _ ?_
  refine bnd H (fun x2 H2 HO2 => ?_)
  clear H
  refine seq_cut (fun a w => ∃ (x2s : Unit), x2 = .go x2s ∧ Fr a 19 [] ∧ St M w0 w []) (fun Q2 hJ2 hR2 hX2 => ?_) (fun a w hJ => ?_)
  · replace H := H2
    refine seq_reg (fun K3 hK3 => ?_)
    refine stq hf rfl rfl rfl (ex_move hf rfl) (fun a hf => ?_)
    refine stq hf rfl rfl rfl (ex_lenS Try.underlying22 (rsl_isSl (hr.now hs (i := 0) rfl)) hf rfl) (fun a hf => ?_)
    refine stq hf rfl rfl rfl (ex_move hf rfl) (fun a hf => ?_)
    refine hK3 _ _ ?_
    refine block_k (fun Q4 hN4 hR4 hX4 hY4 => ?_)
    refine loop_k (fun n a w => ∃ (y5 : Int), Fr a 19 [(0, v0), (1, .func (.func 34) #[] #[.pointer (some ⟨b1_0, 0, none⟩)]), (7, .int .i64 (a0.length : Int)), (8, .int .i64 y5)] ∧ St M w0 w [] ∧ slices_IndexFunc_api_OperatingPoint_api_OperatingPoint__Find_1.l1 n a0 a1_0 y5 = some x2) k ?_ (fun n7 a w hI Q7 hL7 hR7 hX7 => ?_)
    · -- at the start
      exact ⟨0, hf.sub ⟨rfl, rfl, rfl, rfl, trivial⟩, hs, H⟩
    · obtain ⟨y5, hf, hs, H⟩ := hI
      cases n7 with
      | zero => exact absurd H (by rw [slices_IndexFunc_api_OperatingPoint_api_OperatingPoint__Find_1.l1.eq_1]; intro h; cases h)
      | succ k7 =>
        replace H := (slices_IndexFunc_api_OperatingPoint_api_OperatingPoint__Find_1.l1.eq_2 ..).symm.trans H
        refine seq_reg (fun K8 hK8 => ?_)
        refine stq hf rfl rfl rfl (ex_lss hf rfl rfl) (fun a hf => ?_)
        refine hK8 _ _ ?_
        refine seq_n (fun Q9 hN9 hR9 hX9 => ?_)
        refine itt H (fun hc10 H => ?_) (fun hc10 H => ?_)
        · -- y5 < (a0.length : Int)
          replace hf := hf.castB (t := 9) rfl (dec_t hc10)
          refine cond_T hf rfl ?_
          refine wp_skip ?_
          refine hN9 _ _ ?_
          refine seq_n (fun Q11 hN11 hR11 hX11 => ?_)
          refine block_k (fun Q12 hN12 hR12 hX12 hY12 => ?_)
          refine seq_reg (fun K13 hK13 => ?_)
          refine stq hf rfl rfl rfl (ex_move hf rfl) (fun a hf => ?_)
          refine stq hf rfl rfl rfl (ex_assign hf rfl) (fun a hf => ?_)
          refine hK13 _ _ ?_
          refine ck_some H (fun hc14 H => ?_)
          refine bnd H (fun s15 hs15 H => ?_)
          refine seq_reg (fun K16 hK16 => ?_)
          refine stq hf rfl rfl rfl (ex_move hf rfl) (fun a hf => ?_)
          refine stq hf rfl rfl rfl (ex_move hf rfl) (fun a hf => ?_)
          refine stq hf rfl rfl rfl (ex_move hf rfl) (fun a hf => ?_)
          refine stq hf rfl rfl rfl (ex_indexAddr sa_22 (rsl_isSl (hr.now hs (i := 0) rfl)) hc14.1 hc14.2 hf rfl rfl) (fun a hf => ?_)
          refine stq hf rfl rfl rfl (ex_loadA (cs := [.int .u64 ((gd OperatingPoint.zero a0 y5).Frequency), .int .u64 ((gd OperatingPoint.zero a0 y5).Voltage), .int .u64 ((gd OperatingPoint.zero a0 y5).Power)]) ag_25 hf rfl (el_cells (K := K_api_OperatingPoint) (rsl_rd (hr.now hs (i := 0) rfl)) hc14.1 hc14.2 rfl)) (fun a hf => ?_)
          refine stepF hf rfl rfl rfl (ex_callV cf_34 hf rfl rfl) (perf_Find_1.calls k7 (⟨((gd OperatingPoint.zero a0 y5).Frequency), ((gd OperatingPoint.zero a0 y5).Voltage), ((gd OperatingPoint.zero a0 y5).Power)⟩ : OperatingPoint) a1_0 b1_0 (hs.enter .nil) (Sr.old hr hs .nil (i := 1) rfl (fun _ h => h) (fun _ h => h) (Sr.nil _ _)) hs15) (fun v w hR a hf => ?_)
          obtain ⟨rfl, hs'⟩ := hR
          replace hs := hs.step .nil hs'
          clear hs'
          refine hK16 _ _ ?_
          refine itt H (fun hc17 H => ?_) (fun hc17 H => ?_)
          · -- s15 = true
            replace hf := hf.castB (t := 16) rfl hc17
            refine cond_T hf rfl ?_
            refine seq_reg (fun K18 hK18 => ?_)
            refine stq hf rfl rfl rfl (ex_move hf rfl) (fun a hf => ?_)
            refine stq hf rfl rfl rfl (ex_assign hf rfl) (fun a hf => ?_)
            refine hK18 _ _ ?_
            refine wp_ret ?_
            refine hR12 _ _ ?_
            refine hR11 _ _ ?_
            refine hR7 _ _ ?_
            refine hR4 _ _ ?_
            have e2 := some_eq H; subst e2; replace H := el_rt HO2
            refine hR2 _ _ ?_
            have eR := some_eq H; subst eR
            exact ret1 Try.results33 hf rfl ⟨_, rfl, ⟨rfl, hs⟩⟩
          · -- not s15 = true
            replace hf := hf.castB (t := 16) rfl (bool_f hc17)
            refine cond_F hf rfl ?_
            refine wp_skip ?_
            refine hN12 _ _ ?_
            refine hN11 _ _ ?_
            refine region_k (fun K19 hK19 => ?_)
            refine stq hf rfl rfl rfl (ex_add hf rfl rfl) (fun a hf => ?_)
            refine stq hf rfl rfl rfl (ex_move hf rfl) (fun a hf => ?_)
            refine hK19 _ _ ?_
            exact hL7 k7 _ _ (Nat.lt_succ_self _) ⟨(IntKind.i64.wrap (y5 + 1)), hf.sub ⟨rfl, rfl, rfl, rfl, trivial⟩, hs, H⟩
        · -- not y5 < (a0.length : Int)
          replace hf := hf.castB (t := 9) rfl (dec_f hc10)
          refine cond_F hf rfl ?_
          refine wp_exit ?_
          refine hX9 0 _ _ ?_
          refine hX7 0 _ _ ?_
          refine hX4 _ _ ?_
          have e2 := some_eq H; subst e2
          exact hJ2 _ _ ⟨_, rfl, hf.sub trivial, hs⟩
  · obtain ⟨x2s, rfl, hf, hs⟩ := hJ
    replace H := el_go HO2
    clear HO2
    refine seq_reg (fun K20 hK20 => ?_)
    refine stq hf rfl rfl rfl (ex_assign hf rfl) (fun a hf => ?_)
    refine hK20 _ _ ?_
    refine wp_ret ?_
    have eR := some_eq H; subst eR
    exact ret1 Try.results33 hf rfl ⟨_, rfl, ⟨rfl, hs⟩⟩

set_option maxRecDepth 100000 in
theorem perf_Find.calls {M : Nat → Prop} {w0 : World} (k : Nat) (a0 : (List OperatingPoint)) (a1 : Int) (v0 : Value) {r : Int × Int} (hs : St M w0 w0 []) (hr : Sr M w0 [rsl K_api_OperatingPoint v0 a0])
    (h : perf_Find.f k a0 a1 = some r) : Calls Try.prog 15 #[v0, .int .u64 a1] w0 fun e w => ∃ v, e = .returned v ∧ (.tuple #[.int .i64 r.1, .int .i64 r.2] = v ∧ St M w0 w []) := by
  have H := (perf_Find.f.eq_1 ..).symm.trans h
  clear h
  refine enter Try.func15 rfl Try.ntmps15 rfl (fun a hf => ?_)
  refine seq_reg (fun K2 hK2 => ?_)
  refine stepV hf rfl rfl rfl (er_box (cs := [.int .u64 a1]) hs hf rfl rfl) (fun v w hR a hf => ?_)
  obtain ⟨b1, rfl, hs⟩ := hR
  refine stq hf rfl rfl rfl (ex_assign hf rfl) (fun a hf => ?_)
  refine stq hf rfl rfl rfl (ex_assign hf rfl) (fun a hf => ?_)
  refine hK2 _ _ ?_
  refine seq_n (fun Q3 hN3 hR3 hX3 => ?_)
  refine bnd H (fun s4 hs4 H => ?_)
  refine seq_reg (fun K5 hK5 => ?_)
  refine stq hf rfl rfl rfl (ex_move hf rfl) (fun a hf => ?_)
  refine stepF hf rfl rfl rfl (ex_call cf_17 hf rfl) (perf_Check.calls k a0 v0 (hs.enter (.k .nil)) (Sr.old hr hs (.k .nil) (i := 0) rfl (fun _ h => h) (fun _ h => h) (Sr.nil _ _)) hs4) (fun v w hR a hf => ?_)
  obtain ⟨rfl, hs'⟩ := hR
  replace hs := hs.step (.k .nil) hs'
  clear hs'
  refine stq hf rfl rfl rfl (ex_assign hf rfl) (fun a hf => ?_)
  refine hK5 _ _ ?_
  refine seq_reg (fun K6 hK6 => ?_)
  refine stq hf rfl rfl rfl (ex_move hf rfl) (fun a hf => ?_)
  refine stq hf rfl rfl rfl (ex_neq hf rfl rfl) (fun a hf => ?_)
  refine hK6 _ _ ?_
  refine itt H (fun hc7 H => ?_) (fun hc7 H => ?_)
  · -- s4 = 0
    replace hf := hf.castB (t := 11) rfl (ndec_f hc7)
    refine cond_F hf rfl ?_
    refine wp_skip ?_
    refine hN3 _ _ ?_
    refine bnd H (fun s8 hs8 H => ?_)
    refine seq_reg (fun K9 hK9 => ?_)
    refine stq hf rfl rfl rfl (ex_move hf rfl) (fun a hf => ?_)
    refine stq hf rfl rfl rfl (ex_makeFunc hf rfl) (fun a hf => ?_)
    refine stepF hf rfl rfl rfl (ex_call cf_33 hf rfl) (slices_IndexFunc_api_OperatingPoint_api_OperatingPoint__Find_1.calls k a0 a1 v0 b1 (hs.enter (.k .nil)) (Sr.old hr hs (.k .nil) (i := 0) rfl (fun _ h => h) (fun _ h => h) (Sr.own hs (.k .nil) (i := 0) rfl (fun _ h => h) (fun _ h => h) (Sr.nil _ _))) hs8) (fun v w hR a hf => ?_)
    obtain ⟨rfl, hs'⟩ := hR
    replace hs := hs.step (.k .nil) hs'
    clear hs'
    refine stq hf rfl rfl rfl (ex_assign hf rfl) (fun a hf => ?_)
    refine hK9 _ _ ?_
    refine seq_n (fun Q10 hN10 hR10 hX10 => ?_)
    refine seq_reg (fun K11 hK11 => ?_)
    refine stq hf rfl rfl rfl (ex_move hf rfl) (fun a hf => ?_)
    refine stq hf rfl rfl rfl (ex_lss hf rfl rfl) (fun a hf => ?_)
    refine hK11 _ _ ?_
    refine itt H (fun hc12 H => ?_) (fun hc12 H => ?_)
    · -- s8 < 0
      replace hf := hf.castB (t := 17) rfl (dec_t hc12)
      refine cond_T hf rfl ?_
      refine seq_reg (fun K13 hK13 => ?_)
      refine stq hf rfl rfl rfl (ex_assign hf rfl) (fun a hf => ?_)
      refine stq hf rfl rfl rfl (ex_assign hf rfl) (fun a hf => ?_)
      refine hK13 _ _ ?_
      refine wp_ret ?_
      refine hR10 _ _ ?_
      have eR := some_eq H; subst eR
      replace hs := hs.keep (.d .nil)
      exact ret2 Try.results15 hf rfl rfl ⟨_, rfl, ⟨rfl, hs⟩⟩
    · -- not s8 < 0
      replace hf := hf.castB (t := 17) rfl (dec_f hc12)
      refine cond_F hf rfl ?_
      refine wp_skip ?_
      refine hN10 _ _ ?_
      refine seq_reg (fun K14 hK14 => ?_)
      refine stq hf rfl rfl rfl (ex_move hf rfl) (fun a hf => ?_)
      refine stq hf rfl rfl rfl (ex_assign hf rfl) (fun a hf => ?_)
      refine stq hf rfl rfl rfl (ex_assign hf rfl) (fun a hf => ?_)
      refine hK14 _ _ ?_
      refine wp_ret ?_
      have eR := some_eq H; subst eR
      replace hs := hs.keep (.d .nil)
      exact ret2 Try.results15 hf rfl rfl ⟨_, rfl, ⟨rfl, hs⟩⟩
  · -- not s4 = 0
    replace hf := hf.castB (t := 11) rfl (ndec_t hc7)
    refine cond_T hf rfl ?_
    refine seq_reg (fun K15 hK15 => ?_)
    refine stq hf rfl rfl rfl (ex_move hf rfl) (fun a hf => ?_)
    refine stq hf rfl rfl rfl (ex_assign hf rfl) (fun a hf => ?_)
    refine stq hf rfl rfl rfl (ex_assign hf rfl) (fun a hf => ?_)
    refine hK15 _ _ ?_
    refine wp_ret ?_
    refine hR3 _ _ ?_
    have eR := some_eq H; subst eR
    replace hs := hs.keep (.d .nil)
    exact ret2 Try.results15 hf rfl rfl ⟨_, rfl, ⟨rfl, hs⟩⟩

set_option maxRecDepth 100000 in
theorem help_Equal_api_PerfOp.calls {M : Nat → Prop} {w0 : World} (k : Nat) (a0 : (List PerfOp)) (a1 : (List PerfOp)) (v0 : Value) (v1 : Value) {r : Bool} (hs : St M w0 w0 []) (hr : Sr M w0 [rsl K_api_PerfOp v0 a0, rsl K_api_PerfOp v1 a1])
    (h : help_Equal_api_PerfOp.f k a0 a1 = some r) : Calls Try.prog 21 #[v0, v1] w0 fun e w => ∃ v, e = .returned v ∧ (.bool r = v ∧ St M w0 w []) := by
  have H := (help_Equal_api_PerfOp.f.eq_1 ..).symm.trans h
  clear h
  refine enter Try.func21 rfl Try.ntmps21 rfl (fun a hf => ?_)
  refine seq_reg (fun K1 hK1 => ?_)
  refine stq hf rfl rfl rfl (ex_assign hf rfl) (fun a hf => ?_)
  refine hK1 _ _ ?_
  refine seq_n (fun Q2 hN2 hR2 hX2 => ?_)
  refine seq_reg (fun K3 hK3 => ?_)
  refine stq hf rfl rfl rfl (ex_move hf rfl) (fun a hf => ?_)
  refine stq hf rfl rfl rfl (ex_lenS Try.underlying35 (rsl_isSl (hr.now hs (i := 0) rfl)) hf rfl) (fun a hf => ?_)
  refine stq hf rfl rfl rfl (ex_move hf rfl) (fun a hf => ?_)
  refine stq hf rfl rfl rfl (ex_lenS Try.underlying35 (rsl_isSl (hr.now hs (i := 1) rfl)) hf rfl) (fun a hf => ?_)
  refine stq hf rfl rfl rfl (ex_neq hf rfl rfl) (fun a hf => ?_)
  refine hK3 _ _ ?_
  refine itt H (fun hc4 H => ?_) (fun hc4 H => ?_)
  · -- (a0.length : Int) = (a1.length : Int)
    replace hf := hf.castB (t := 10) rfl (ndec_f hc4)
    refine cond_F hf rfl ?_
    refine wp_skip ?_
    refine hN2 _ _ ?_
    refine bnd H (fun x5 H5 HO5 => ?_)
    clear H
    refine seq_cut (fun a w => ∃ (x5s : Unit), x5 = .go x5s ∧ Fr a 26 [] ∧ St M w0 w []) (fun Q5 hJ5 hR5 hX5 => ?_) (fun a w hJ => ?_)
    · replace H := H5
      refine seq_reg (fun K6 hK6 => ?_)
      refine stq hf rfl rfl rfl (ex_assign hf rfl) (fun a hf => ?_)
      refine hK6 _ _ ?_
      refine block_k (fun Q7 hN7 hR7 hX7 hY7 => ?_)
      refine loop_k (fun n a w => ∃ (y8 : Int), Fr a 26 [(0, v0), (1, v1), (5, .int .i64 y8)] ∧ St M w0 w [] ∧ help_Equal_api_PerfOp.l1 n a0 a1 y8 = some x5) k ?_ (fun n10 a w hI Q10 hL10 hR10 hX10 => ?_)
      · -- at the start
        exact ⟨0, hf.sub ⟨rfl, rfl, rfl, trivial⟩, hs, H⟩
      · obtain ⟨y8, hf, hs, H⟩ := hI
        cases n10 with
        | zero => exact absurd H (by rw [help_Equal_api_PerfOp.l1.eq_1]; intro h; cases h)
        | succ k10 =>
          replace H := (help_Equal_api_PerfOp.l1.eq_2 ..).symm.trans H
          refine seq_n (fun Q11 hN11 hR11 hX11 => ?_)
          refine seq_reg (fun K12 hK12 => ?_)
          refine stq hf rfl rfl rfl (ex_move hf rfl) (fun a hf => ?_)
          refine stq hf rfl rfl rfl (ex_move hf rfl) (fun a hf => ?_)
          refine stq hf rfl rfl rfl (ex_lenS Try.underlying35 (rsl_isSl (hr.now hs (i := 0) rfl)) hf rfl) (fun a hf => ?_)
          refine stq hf rfl rfl rfl (ex_lss hf rfl rfl) (fun a hf => ?_)
          refine hK12 _ _ ?_
          refine itt H (fun hc13 H => ?_) (fun hc13 H => ?_)
          · -- y8 < (a0.length : Int)
            replace hf := hf.castB (t := 14) rfl (dec_t hc13)
            refine cond_T hf rfl ?_
            refine wp_skip ?_
            refine hN11 _ _ ?_
            refine seq_n (fun Q14 hN14 hR14 hX14 => ?_)
            refine block_k (fun Q15 hN15 hR15 hX15 hY15 => ?_)
            refine seq_n (fun Q16 hN16 hR16 hX16 => ?_)
            refine ck_some H (fun hc17 H => ?_)
            refine ck_some H (fun hc18 H => ?_)
            refine region_d fol 9 [(0, v0), (1, v1), (5, .int .i64 y8)] [(0, v0), (1, .int .i64 y8), (2, .pointer (some (sla v0 (y8.toNat * 2)))), (3, .agg #[.bool ((gd PerfOp.zero a0 y8).Voltage), .int .u64 ((gd PerfOp.zero a0 y8).Value)]), (4, v1), (5, .int .i64 y8), (6, .pointer (some (sla v1 (y8.toNat * 2)))), (7, .agg #[.bool ((gd PerfOp.zero a1 y8).Voltage), .int .u64 ((gd PerfOp.zero a1 y8).Value)]), (8, .bool (!((((gd PerfOp.zero a0 y8).Voltage) == ((gd PerfOp.zero a1 y8).Voltage)) && ((((gd PerfOp.zero a0 y8).Value) == ((gd PerfOp.zero a1 y8).Value)) && true))))] [] (fun w => (rsl K_api_PerfOp v0 a0).ok w ∧ (rsl K_api_PerfOp v1 a1).ok w ∧ True) (fun w => St M w0 w []) hf ⟨rfl, rfl, rfl, trivial⟩ (by kernel_rfl) (by kernel_rfl) rfl (by decide) ⟨hr.now hs.drew (i := 0) rfl, hr.now hs.drew (i := 1) rfl, trivial⟩ hs.drew (.cons (⟨_, _, rfl, rfl, rfl, rfl, fun a w hR hf => .inl ⟨wanted_yes hf rfl, ex_move hf rfl⟩⟩) (.cons (⟨_, _, rfl, rfl, rfl, rfl, fun a w hR hf => .inl ⟨wanted_yes hf rfl, ex_move hf rfl⟩⟩) (.cons (⟨_, _, rfl, rfl, rfl, rfl, fun a w hR hf => .inl ⟨wanted_yes hf rfl, ex_indexAddr sa_35 (rsl_isSl hR.1) hc17.1 hc17.2 hf rfl rfl⟩⟩) (.cons (⟨_, _, rfl, rfl, rfl, rfl, fun a w hR hf => .inl ⟨wanted_yes hf rfl, ex_loadA (cs := [.bool ((gd PerfOp.zero a0 y8).Voltage), .int .u64 ((gd PerfOp.zero a0 y8).Value)]) ag_40 hf rfl (el_cells (K := K_api_PerfOp) (rsl_rd hR.1) hc17.1 hc17.2 rfl)⟩⟩) (.cons (⟨_, _, rfl, rfl, rfl, rfl, fun a w hR hf => .inl ⟨wanted_yes hf rfl, ex_move hf rfl⟩⟩) (.cons (⟨_, _, rfl, rfl, rfl, rfl, fun a w hR hf => .inl ⟨wanted_yes hf rfl, ex_move hf rfl⟩⟩) (.cons (⟨_, _, rfl, rfl, rfl, rfl, fun a w hR hf => .inl ⟨wanted_yes hf rfl, ex_indexAddr sa_35 (rsl_isSl hR.2.1) hc18.1 hc18.2 hf rfl rfl⟩⟩) (.cons (⟨_, _, rfl, rfl, rfl, rfl, fun a w hR hf => .inl ⟨wanted_yes hf rfl, ex_loadA (cs := [.bool ((gd PerfOp.zero a1 y8).Voltage), .int .u64 ((gd PerfOp.zero a1 y8).Value)]) ag_40 hf rfl (el_cells (K := K_api_PerfOp) (rsl_rd hR.2.1) hc18.1 hc18.2 rfl)⟩⟩) (.cons (⟨_, _, rfl, rfl, rfl, rfl, fun a w hR hf => .inl ⟨wanted_yes hf rfl, ex_neS (FE.mk Try.underlying40 (by kernel_rfl) (by kernel_rfl) (.b (by decide) Try.underlying4 rfl rfl (.i (by decide) Try.underlying23 rfl rfl .nil))) hf rfl rfl⟩⟩) (.nil)))))))))) (fun K19 hK19 => ?_)
            refine RW.zero (by kernel_rfl) (by kernel_rfl) [(0, v0), (1, v1), (5, .int .i64 y8), (25, .bool (!((((gd PerfOp.zero a0 y8).Voltage) == ((gd PerfOp.zero a1 y8).Voltage)) && ((((gd PerfOp.zero a0 y8).Value) == ((gd PerfOp.zero a1 y8).Value)) && true))))] ⟨rfl, rfl, rfl, rfl, trivial⟩ (fun a w hR hs hf => ?_)
            refine hK19 _ _ ?_
            refine hN16 _ _ ?_
            refine itt H (fun hc20 H => ?_) (fun hc20 H => ?_)
            · -- ((((gd PerfOp.zero a0 y8).Voltage) == ((gd PerfOp.zero a1 y8
              replace hf := hf.castB (t := 25) rfl (nbool_f hc20)
              refine cond_F hf rfl ?_
              refine wp_skip ?_
              refine hN15 _ _ ?_
              refine hN14 _ _ ?_
              refine region_k (fun K21 hK21 => ?_)
              refine stq hf rfl rfl rfl (ex_move hf rfl) (fun a hf => ?_)
              refine stq hf rfl rfl rfl (ex_add hf rfl rfl) (fun a hf => ?_)
              refine stq hf rfl rfl rfl (ex_assign hf rfl) (fun a hf => ?_)
              refine hK21 _ _ ?_
              exact hL10 k10 _ _ (Nat.lt_succ_self _) ⟨(IntKind.i64.wrap (y8 + 1)), hf.sub ⟨rfl, rfl, rfl, trivial⟩, hs, H⟩
            · -- not ((((gd PerfOp.zero a0 y8).Voltage) == ((gd PerfOp.zero a1 y8
              replace hf := hf.castB (t := 25) rfl (nbool_t hc20)
              refine cond_T hf rfl ?_
              refine seq_reg (fun K22 hK22 => ?_)
              refine stq hf rfl rfl rfl (ex_assign hf rfl) (fun a hf => ?_)
              refine hK22 _ _ ?_
              refine wp_ret ?_
              refine hR15 _ _ ?_
              refine hR14 _ _ ?_
              refine hR10 _ _ ?_
              refine hR7 _ _ ?_
              have e5 := some_eq H; subst e5; replace H := el_rt HO5
              refine hR5 _ _ ?_
              have eR := some_eq H; subst eR
              exact ret1 Try.results21 hf rfl ⟨_, rfl, ⟨rfl, hs⟩⟩
          · -- not y8 < (a0.length : Int)
            replace hf := hf.castB (t := 14) rfl (dec_f hc13)
            refine cond_F hf rfl ?_
            refine wp_exit ?_
            refine hX11 0 _ _ ?_
            refine hX10 0 _ _ ?_
            refine hX7 _ _ ?_
            have e5 := some_eq H; subst e5
            exact hJ5 _ _ ⟨_, rfl, hf.sub trivial, hs⟩
    · obtain ⟨x5s, rfl, hf, hs⟩ := hJ
      replace H := el_go HO5
      clear HO5
      refine seq_reg (fun K23 hK23 => ?_)
      refine stq hf rfl rfl rfl (ex_assign hf rfl) (fun a hf => ?_)
      refine hK23 _ _ ?_
      refine wp_ret ?_
      have eR := some_eq H; subst eR
      exact ret1 Try.results21 hf rfl ⟨_, rfl, ⟨rfl, hs⟩⟩
  · -- not (a0.length : Int) = (a1.length : Int)
    replace hf := hf.castB (t := 10) rfl (ndec_t hc4)
    refine cond_T hf rfl ?_
    refine seq_reg (fun K24 hK24 => ?_)
    refine stq hf rfl rfl rfl (ex_assign hf rfl) (fun a hf => ?_)
    refine hK24 _ _ ?_
    refine wp_ret ?_
    refine hR2 _ _ ?_
    have eR := some_eq H; subst eR
    exact ret1 Try.results21 hf rfl ⟨_, rfl, ⟨rfl, hs⟩⟩

set_option maxRecDepth 100000 in
theorem perf_Safe_1.calls {M : Nat → Prop} {w0 : World} (k : Nat) (a0 : OperatingPoint) (a1 : Int) (b1 : Nat) {r : Bool} (hs : St M w0 w0 []) (hr : Sr M w0 [bx b1 23 [.int .u64 a1]])
    (h : perf_Safe_1.f k a0 a1 = some r) : Calls Try.prog 37 #[.agg #[.int .u64 a0.Frequency, .int .u64 a0.Voltage, .int .u64 a0.Power], .pointer (some ⟨b1, 0, none⟩)] w0 fun e w => ∃ v, e = .returned v ∧ (.bool r = v ∧ St M w0 w []) := by
  have H := (perf_Safe_1.f.eq_1 ..).symm.trans h
  clear h
  refine enter Try.func37 rfl Try.ntmps37 rfl (fun a hf => ?_)
  refine seq_reg (fun K2 hK2 => ?_)
  refine stepV hf rfl rfl rfl (er_box (cs := [.int .u64 a0.Frequency, .int .u64 a0.Voltage, .int .u64 a0.Power]) hs hf rfl rfl) (fun v w hR a hf => ?_)
  obtain ⟨b1, rfl, hs⟩ := hR
  refine stq hf rfl rfl rfl (ex_assign hf rfl) (fun a hf => ?_)
  refine hK2 _ _ ?_
  refine seq_reg (fun K3 hK3 => ?_)
  refine stq hf rfl rfl rfl (ex_fieldAddrB fa_25_0 rfl hf rfl) (fun a hf => ?_)
  refine stq hf rfl rfl rfl (ex_load sc_23 hf rfl (bx_cell (hs.get (i := 0) rfl) _ rfl)) (fun a hf => ?_)
  refine stq hf rfl rfl rfl (ex_load sc_23 hf rfl (bx_cell (hr.now hs (i := 0) rfl) _ rfl)) (fun a hf => ?_)
  refine stq hf rfl rfl rfl (ex_eql hf rfl rfl) (fun a hf => ?_)
  refine stq hf rfl rfl rfl (ex_assign hf rfl) (fun a hf => ?_)
  refine hK3 _ _ ?_
  refine wp_ret ?_
  have eR := some_eq H; subst eR
  replace hs := hs.keep (.d .nil)
  exact ret1 Try.results37 hf rfl ⟨_, rfl, ⟨rfl, hs⟩⟩

set_option maxRecDepth 100000 in
theorem slices_IndexFunc_api_OperatingPoint_api_OperatingPoint__Safe_1.calls {M : Nat → Prop} {w0 : World} (k : Nat) (a0 : (List OperatingPoint)) (a1_0 : Int) (v0 : Value) (b1_0 : Nat) {r : Int} (hs : St M w0 w0 []) (hr : Sr M w0 [rsl K_api_OperatingPoint v0 a0, bx b1_0 23 [.int .u64 a1_0]])
    (h : slices_IndexFunc_api_OperatingPoint_api_OperatingPoint__Safe_1.f k a0 a1_0 = some r) : Calls Try.prog 33 #[v0, .func (.func 37) #[] #[.pointer (some ⟨b1_0, 0, none⟩)]] w0 fun e w => ∃ v, e = .returned v ∧ (.int .i64 r = v ∧ St M w0 w []) := by
  have H := (slices_IndexFunc_api_OperatingPoint_api_OperatingPoint__Safe_1.f.eq_1 ..).symm.trans h
  clear h
  refine enter Try.func33 rfl Try.ntmps33 rfl (fun a hf => ?_)
  refine seq_reg (fun K1 hK1 => ?_)
  refine stq hf rfl rfl rfl (ex_assign hf rfl) (fun a hf => ?_)
  refine hK1 _ _ ?_
  refine bnd H (fun x2 H2 HO2 => ?_)
  clear H
  refine seq_cut (fun a w => ∃ (x2s : Unit), x2 = .go x2s ∧ Fr a 19 [] ∧ St M w0 w []) (fun Q2 hJ2 hR2 hX2 => ?_) (fun a w hJ => ?_)
  · replace H := H2
    refine seq_reg (fun K3 hK3 => ?_)
    refine stq hf rfl rfl rfl (ex_move hf rfl) (fun a hf => ?_)
    refine stq hf rfl rfl rfl (ex_lenS Try.underlying22 (rsl_isSl (hr.now hs (i := 0) rfl)) hf rfl) (fun a hf => ?_)
    refine stq hf rfl rfl rfl (ex_move hf rfl) (fun a hf => ?_)
    refine hK3 _ _ ?_
    refine block_k (fun Q4 hN4 hR4 hX4 hY4 => ?_)
    refine loop_k (fun n a w => ∃ (y5 : Int), Fr a 19 [(0, v0), (1, .func (.func 37) #[] #[.pointer (some ⟨b1_0, 0, none⟩)]), (7, .int .i64 (a0.length : Int)), (8, .int .i64 y5)] ∧ St M w0 w [] ∧ slices_IndexFunc_api_OperatingPoint_api_OperatingPoint__Safe_1.l1 n a0 a1_0 y5 = some x2) k ?_ (fun n7 a w hI Q7 hL7 hR7 hX7 => ?_)
    · -- at the start
      exact ⟨0, hf.sub ⟨rfl, rfl, rfl, rfl, trivial⟩, hs, H⟩
    · obtain ⟨y5, hf, hs, H⟩ := hI
      cases n7 with
      | zero => exact absurd H (by rw [slices_IndexFunc_api_OperatingPoint_api_OperatingPoint__Safe_1.l1.eq_1]; intro h; cases h)
      | succ k7 =>
        replace H := (slices_IndexFunc_api_OperatingPoint_api_OperatingPoint__Safe_1.l1.eq_2 ..).symm.trans H
        refine seq_reg (fun K8 hK8 => ?_)
        refine stq hf rfl rfl rfl (ex_lss hf rfl rfl) (fun a hf => ?_)
        refine hK8 _ _ ?_
        refine seq_n (fun Q9 hN9 hR9 hX9 => ?_)
        refine itt H (fun hc10 H => ?_) (fun hc10 H => ?_)
        · -- y5 < (a0.length : Int)
          replace hf := hf.castB (t := 9) rfl (dec_t hc10)
          refine cond_T hf rfl ?_
          refine wp_skip ?_
          refine hN9 _ _ ?_
          refine seq_n (fun Q11 hN11 hR11 hX11 => ?_)
          refine block_k (fun Q12 hN12 hR12 hX12 hY12 => ?_)
          refine seq_reg (fun K13 hK13 => ?_)
          refine stq hf rfl rfl rfl (ex_move hf rfl) (fun a hf => ?_)
          refine stq hf rfl rfl rfl (ex_assign hf rfl) (fun a hf => ?_)
          refine hK13 _ _ ?_
          refine ck_some H (fun hc14 H => ?_)
          refine bnd H (fun s15 hs15 H => ?_)
          refine seq_reg (fun K16 hK16 => ?_)
          refine stq hf rfl rfl rfl (ex_move hf rfl) (fun a hf => ?_)
          refine stq hf rfl rfl rfl (ex_move hf rfl) (fun a hf => ?_)
          refine stq hf rfl rfl rfl (ex_move hf rfl) (fun a hf => ?_)
          refine stq hf rfl rfl rfl (ex_indexAddr sa_22 (rsl_isSl (hr.now hs (i := 0) rfl)) hc14.1 hc14.2 hf rfl rfl) (fun a hf => ?_)
          refine stq hf rfl rfl rfl (ex_loadA (cs := [.int .u64 ((gd OperatingPoint.zero a0 y5).Frequency), .int .u64 ((gd OperatingPoint.zero a0 y5).Voltage), .int .u64 ((gd OperatingPoint.zero a0 y5).Power)]) ag_25 hf rfl (el_cells (K := K_api_OperatingPoint) (rsl_rd (hr.now hs (i := 0) rfl)) hc14.1 hc14.2 rfl)) (fun a hf => ?_)
          refine stepF hf rfl rfl rfl (ex_callV cf_37 hf rfl rfl) (perf_Safe_1.calls k7 (⟨((gd OperatingPoint.zero a0 y5).Frequency), ((gd OperatingPoint.zero a0 y5).Voltage), ((gd OperatingPoint.zero a0 y5).Power)⟩ : OperatingPoint) a1_0 b1_0 (hs.enter .nil) (Sr.old hr hs .nil (i := 1) rfl (fun _ h => h) (fun _ h => h) (Sr.nil _ _)) hs15) (fun v w hR a hf => ?_)
          obtain ⟨rfl, hs'⟩ := hR
          replace hs := hs.step .nil hs'
          clear hs'
          refine hK16 _ _ ?_
          refine itt H (fun hc17 H => ?_) (fun hc17 H => ?_)
          · -- s15 = true
            replace hf := hf.castB (t := 16) rfl hc17
            refine cond_T hf rfl ?_
            refine seq_reg (fun K18 hK18 => ?_)
            refine stq hf rfl rfl rfl (ex_move hf rfl) (fun a hf => ?_)
            refine stq hf rfl rfl rfl (ex_assign hf rfl) (fun a hf => ?_)
            refine hK18 _ _ ?_
            refine wp_ret ?_
            refine hR12 _ _ ?_
            refine hR11 _ _ ?_
            refine hR7 _ _ ?_
            refine hR4 _ _ ?_
            have e2 := some_eq H; subst e2; replace H := el_rt HO2
            refine hR2 _ _ ?_
            have eR := some_eq H; subst eR
            exact ret1 Try.results33 hf rfl ⟨_, rfl, ⟨rfl, hs⟩⟩
          · -- not s15 = true
            replace hf := hf.castB (t := 16) rfl (bool_f hc17)
            refine cond_F hf rfl ?_
            refine wp_skip ?_
            refine hN12 _ _ ?_
            refine hN11 _ _ ?_
            refine region_k (fun K19 hK19 => ?_)
            refine stq hf rfl rfl rfl (ex_add hf rfl rfl) (fun a hf => ?_)
            refine stq hf rfl rfl rfl (ex_move hf rfl) (fun a hf => ?_)
            refine hK19 _ _ ?_
            exact hL7 k7 _ _ (Nat.lt_succ_self _) ⟨(IntKind.i64.wrap (y5 + 1)), hf.sub ⟨rfl, rfl, rfl, rfl, trivial⟩, hs, H⟩
        · -- not y5 < (a0.length : Int)
          replace hf := hf.castB (t := 9) rfl (dec_f hc10)
          refine cond_F hf rfl ?_
          refine wp_exit ?_
          refine hX9 0 _ _ ?_
          refine hX7 0 _ _ ?_
          refine hX4 _ _ ?_
          have e2 := some_eq H; subst e2
          exact hJ2 _ _ ⟨_, rfl, hf.sub trivial, hs⟩
  · obtain ⟨x2s, rfl, hf, hs⟩ := hJ
    replace H := el_go HO2
    clear HO2
    refine seq_reg (fun K20 hK20 => ?_)
    refine stq hf rfl rfl rfl (ex_assign hf rfl) (fun a hf => ?_)
    refine hK20 _ _ ?_
    refine wp_ret ?_
    have eR := some_eq H; subst eR
    exact ret1 Try.results33 hf rfl ⟨_, rfl, ⟨rfl, hs⟩⟩

set_option maxRecDepth 100000 in
theorem perf_Safe.calls {M : Nat → Prop} {w0 : World} (k : Nat) (a0 : (List OperatingPoint)) (a1 : Int) (a2 : (List PerfOp)) (v0 : Value) (v2 : Value) {r : Bool} (hs : St M w0 w0 []) (hr : Sr M w0 [rsl K_api_OperatingPoint v0 a0, rsl K_api_PerfOp v2 a2])
    (h : perf_Safe.f k a0 a1 a2 = some r) : Calls Try.prog 22 #[v0, .int .i64 a1, v2] w0 fun e w => ∃ v, e = .returned v ∧ (.bool r = v ∧ St M w0 w []) := by
  have H := (perf_Safe.f.eq_1 ..).symm.trans h
  clear h
  refine enter Try.func22 rfl Try.ntmps22 rfl (fun a hf => ?_)
  refine seq_reg (fun K1 hK1 => ?_)
  refine stq hf rfl rfl rfl (ex_assign hf rfl) (fun a hf => ?_)
  refine hK1 _ _ ?_
  refine seq_n (fun Q2 hN2 hR2 hX2 => ?_)
  refine bnd H (fun x3 H3 HO3 => ?_)
  clear H
  refine seq_cut (fun a w => Fr a 58 [(0, v0), (1, .int .i64 a1), (2, v2), (20, .bool x3)] ∧ St M w0 w []) (fun Q3 hJ3 hR3 hX3 => ?_) (fun a w hJ => ?_)
  · replace H := H3
    refine bnd H (fun s4 hs4 H => ?_)
    refine itt H (fun hc5 H => ?_) (fun hc5 H => ?_)
    · -- s4 = 0
      refine bnd H (fun s6 hs6 H => ?_)
      refine region_k (fun K7 hK7 => ?_)
      refine stq hf rfl rfl rfl (ex_move hf rfl) (fun a hf => ?_)
      refine stepF hf rfl rfl rfl (ex_call cf_17 hf rfl) (perf_Check.calls k a0 v0 (hs.enter .nil) (Sr.old hr hs .nil (i := 0) rfl (fun _ h => h) (fun _ h => h) (Sr.nil _ _)) hs4) (fun v w hR a hf => ?_)
      obtain ⟨rfl, hs'⟩ := hR
      replace hs := hs.step .nil hs'
      clear hs'
      refine stq hf rfl rfl rfl (ex_neq hf rfl rfl) (fun a hf => ?_)
      refine stq hf rfl rfl rfl (ex_move hf rfl) (fun a hf => ?_)
      replace hf := hf.castB (t := 14) rfl (ndec_f hc5)
      replace hf := hf.castB (t := 15) rfl (ndec_f hc5)
      refine stq hf rfl rfl rfl (ex_move hf rfl) (fun a hf => ?_)
      refine stq hf rfl rfl rfl (ex_move hf rfl) (fun a hf => ?_)
      refine stepF hf rfl rfl rfl (ex_call cf_35 hf rfl) (perf_has.calls k a0 a1 v0 (hs.enter .nil) (Sr.old hr hs .nil (i := 0) rfl (fun _ h => h) (fun _ h => h) (Sr.nil _ _)) hs6) (fun v w hR a hf => ?_)
      obtain ⟨rfl, hs'⟩ := hR
      replace hs := hs.step .nil hs'
      clear hs'
      refine stq hf rfl rfl rfl (ex_not hf rfl) (fun a hf => ?_)
      refine stq hf rfl rfl rfl (ex_pickF hf rfl rfl) (fun a hf => ?_)
      refine hK7 _ _ ?_
      have e3 := some_eq H; subst e3
      exact hJ3 _ _ ⟨hf.sub ⟨rfl, rfl, rfl, rfl, trivial⟩, hs⟩
    · -- not s4 = 0
      refine region_k (fun K8 hK8 => ?_)
      refine stq hf rfl rfl rfl (ex_move hf rfl) (fun a hf => ?_)
      refine stepF hf rfl rfl rfl (ex_call cf_17 hf rfl) (perf_Check.calls k a0 v0 (hs.enter .nil) (Sr.old hr hs .nil (i := 0) rfl (fun _ h => h) (fun _ h => h) (Sr.nil _ _)) hs4) (fun v w hR a hf => ?_)
      obtain ⟨rfl, hs'⟩ := hR
      replace hs := hs.step .nil hs'
      clear hs'
      refine stq hf rfl rfl rfl (ex_neq hf rfl rfl) (fun a hf => ?_)
      refine stq hf rfl rfl rfl (ex_move hf rfl) (fun a hf => ?_)
      replace hf := hf.castB (t := 14) rfl (ndec_t hc5)
      replace hf := hf.castB (t := 15) rfl (ndec_t hc5)
      refine stepN hf rfl rfl rfl (fun a hf => ?_)
      refine stepN hf rfl rfl rfl (fun a hf => ?_)
      refine stepN hf rfl rfl rfl (fun a hf => ?_)
      refine stepN hf rfl rfl rfl (fun a hf => ?_)
      refine stq hf rfl rfl rfl (ex_pickT hf rfl rfl) (fun a hf => ?_)
      refine hK8 _ _ ?_
      have e3 := some_eq H; subst e3
      exact hJ3 _ _ ⟨hf.sub ⟨rfl, rfl, rfl, rfl, trivial⟩, hs⟩
  · obtain ⟨hf, hs⟩ := hJ
    replace H := HO3
    clear HO3
    refine itt H (fun hc9 H => ?_) (fun hc9 H => ?_)
    · -- x3 = true
      replace hf := hf.castB (t := 20) rfl hc9
      refine cond_T hf rfl ?_
      refine seq_reg (fun K10 hK10 => ?_)
      refine stq hf rfl rfl rfl (ex_assign hf rfl) (fun a hf => ?_)
      refine hK10 _ _ ?_
      refine wp_ret ?_
      refine hR2 _ _ ?_
      have eR := some_eq H; subst eR
      exact ret1 Try.results22 hf rfl ⟨_, rfl, ⟨rfl, hs⟩⟩
    · -- not x3 = true
      replace hf := hf.castB (t := 20) rfl (bool_f hc9)
      refine cond_F hf rfl ?_
      refine wp_skip ?_
      refine hN2 _ _ ?_
      refine seq_n (fun Q11 hN11 hR11 hX11 => ?_)
      refine ck_some H (fun hc12 H => ?_)
      refine region_d fol 12 [(0, v0), (1, .int .i64 a1), (2, v2)] [(0, v0), (1, .int .i64 a1), (2, .pointer (some (sla v0 (a1.toNat * 3)))), (3, .pointer (some (sla v0 (a1.toNat * 3 + 0)))), (4, .int .u64 ((gd OperatingPoint.zero a0 a1).Frequency)), (5, v0), (6, .int .i64 a1), (7, .pointer (some (sla v0 (a1.toNat * 3)))), (8, .pointer (some (sla v0 (a1.toNat * 3 + 1)))), (9, .int .u64 ((gd OperatingPoint.zero a0 a1).Voltage))] [10, 11] (fun w => (rsl K_api_OperatingPoint v0 a0).ok w ∧ True) (fun w => St M w0 w []) hf ⟨rfl, rfl, rfl, trivial⟩ (by kernel_rfl) (by kernel_rfl) rfl (by decide) ⟨hr.now hs.drew (i := 0) rfl, trivial⟩ hs.drew (.cons (⟨_, _, rfl, rfl, rfl, rfl, fun a w hR hf => .inl ⟨wanted_yes hf rfl, ex_move hf rfl⟩⟩) (.cons (⟨_, _, rfl, rfl, rfl, rfl, fun a w hR hf => .inl ⟨wanted_yes hf rfl, ex_move hf rfl⟩⟩) (.cons (⟨_, _, rfl, rfl, rfl, rfl, fun a w hR hf => .inl ⟨wanted_yes hf rfl, ex_indexAddr sa_22 (rsl_isSl hR.1) hc12.1 hc12.2 hf rfl rfl⟩⟩) (.cons (⟨_, _, rfl, rfl, rfl, rfl, fun a w hR hf => .inl ⟨wanted_yes hf rfl, ex_fieldAddrS fa_25_0 rfl hf rfl⟩⟩) (.cons (⟨_, _, rfl, rfl, rfl, rfl, fun a w hR hf => .inl ⟨wanted_yes hf rfl, ex_load sc_23 hf rfl (el_cell (K := K_api_OperatingPoint) (f := 0) (rsl_rd hR.1) hc12.1 hc12.2 rfl)⟩⟩) (.cons (⟨_, _, rfl, rfl, rfl, rfl, fun a w hR hf => .inl ⟨wanted_yes hf rfl, ex_move hf rfl⟩⟩) (.cons (⟨_, _, rfl, rfl, rfl, rfl, fun a w hR hf => .inl ⟨wanted_yes hf rfl, ex_move hf rfl⟩⟩) (.cons (⟨_, _, rfl, rfl, rfl, rfl, fun a w hR hf => .inl ⟨wanted_yes hf rfl, ex_indexAddr sa_22 (rsl_isSl hR.1) hc12.1 hc12.2 hf rfl rfl⟩⟩) (.cons (⟨_, _, rfl, rfl, rfl, rfl, fun a w hR hf => .inl ⟨wanted_yes hf rfl, ex_fieldAddrS fa_25_1 rfl hf rfl⟩⟩) (.cons (⟨_, _, rfl, rfl, rfl, rfl, fun a w hR hf => .inl ⟨wanted_yes hf rfl, ex_load sc_23 hf rfl (el_cell (K := K_api_OperatingPoint) (f := 1) (rsl_rd hR.1) hc12.1 hc12.2 rfl)⟩⟩) (.nil))))))))))) (fun K14 hK14 => ?_)
      refine RW.one 10 (by kernel_rfl) (by kernel_rfl) rfl (fun d hd => by cases hd; rfl) [] trivial (fun a w hR hs hf => ⟨wanted_yes hf rfl, ?_⟩)
      refine estep_v (er_alloc hs ti_23 (cs := [.int .u64 0]) rfl) (fun v w hR => ?_)
      obtain ⟨b13, rfl, hs⟩ := hR
      refine ⟨[], [(10, .pointer (some ⟨b13, 0, none⟩)), (0, v0), (1, .int .i64 a1), (2, .pointer (some (sla v0 (a1.toNat * 3)))), (3, .pointer (some (sla v0 (a1.toNat * 3 + 0)))), (4, .int .u64 ((gd OperatingPoint.zero a0 a1).Frequency)), (5, v0), (6, .int .i64 a1), (7, .pointer (some (sla v0 (a1.toNat * 3)))), (8, .pointer (some (sla v0 (a1.toNat * 3 + 1)))), (9, .int .u64 ((gd OperatingPoint.zero a0 a1).Voltage))], [11], (fun _ => True), (fun w => St M w0 w [bx b13 23 [.int .u64 0]]), rfl, rfl, ⟨hr.now hs (i := 0) rfl, trivial⟩, trivial, hs, (by kernel_rfl), .nil, ?_⟩
      refine RW.one 11 (by kernel_rfl) (by kernel_rfl) rfl (fun d hd => by cases hd) [(7, .pointer (some ⟨b13, 0, none⟩)), (25, .int .u64 ((gd OperatingPoint.zero a0 a1).Frequency))] ⟨rfl, rfl, trivial⟩ (fun a w hR hs hf => ⟨wanted_yes hf rfl, ?_⟩)
      refine estep_s (er_storeB hs (.c .nil) hf rfl rfl rfl sz_23 rfl) (fun w hs => ?_)
      refine ⟨[], [(11, undef), (10, .pointer (some ⟨b13, 0, none⟩)), (0, v0), (1, .int .i64 a1), (2, .pointer (some (sla v0 (a1.toNat * 3)))), (3, .pointer (some (sla v0 (a1.toNat * 3 + 0)))), (4, .int .u64 ((gd OperatingPoint.zero a0 a1).Frequency)), (5, v0), (6, .int .i64 a1), (7, .pointer (some (sla v0 (a1.toNat * 3)))), (8, .pointer (some (sla v0 (a1.toNat * 3 + 1)))), (9, .int .u64 ((gd OperatingPoint.zero a0 a1).Voltage))], [], (fun _ => True), (fun w => St M w0 w [bx b13 23 [.int .u64 ((gd OperatingPoint.zero a0 a1).Frequency)]]), rfl, rfl, ⟨⟨hr.now hs (i := 0) rfl, trivial⟩, trivial⟩, trivial, hs, (by kernel_rfl), .nil, ?_⟩
      refine RW.zero (by kernel_rfl) (by kernel_rfl) [(0, v0), (2, v2), (7, .pointer (some ⟨b13, 0, none⟩)), (30, .int .u64 ((gd OperatingPoint.zero a0 a1).Voltage))] ⟨rfl, rfl, rfl, rfl, trivial⟩ (fun a w hR hs hf => ?_)
      refine stq hf rfl rfl rfl (ex_assign hf rfl) (fun a hf => ?_)
      refine hK14 _ _ ?_
      refine hN11 _ _ ?_
      refine bnd H (fun x15 H15 HO15 => ?_)
      clear H
      refine seq_cut (fun a w => ∃ (x15s : Unit), x15 = .go x15s ∧ Fr a 58 [] ∧ St M w0 w []) (fun Q15 hJ15 hR15 hX15 => ?_) (fun a w hJ => ?_)
      · replace H := H15
        refine seq_reg (fun K16 hK16 => ?_)
        refine stq hf rfl rfl rfl (ex_move hf rfl) (fun a hf => ?_)
        refine stq hf rfl rfl rfl (ex_lenS Try.underlying35 (rsl_isSl (hr.now hs (i := 1) rfl)) hf rfl) (fun a hf => ?_)
        refine stq hf rfl rfl rfl (ex_move hf rfl) (fun a hf => ?_)
        refine hK16 _ _ ?_
        refine block_k (fun Q17 hN17 hR17 hX17 hY17 => ?_)
        refine loop_k (fun n a w => ∃ (y18 : Int) (y19 : Int) (y20 : Int), Fr a 58 [(0, v0), (7, .pointer (some ⟨b13, 0, none⟩)), (8, .int .u64 y19), (31, v2), (32, .int .i64 (a2.length : Int)), (33, .int .i64 y20)] ∧ St M w0 w [bx b13 23 [.int .u64 y18]] ∧ perf_Safe.l1 n a2 a0 y18 y19 y20 = some x15) k ?_ (fun n22 a w hI Q22 hL22 hR22 hX22 => ?_)
        · -- at the start
          exact ⟨((gd OperatingPoint.zero a0 a1).Frequency), ((gd OperatingPoint.zero a0 a1).Voltage), 0, hf.sub ⟨rfl, rfl, rfl, rfl, rfl, rfl, trivial⟩, hs, H⟩
        · obtain ⟨y18, y19, y20, hf, hs, H⟩ := hI
          cases n22 with
          | zero => exact absurd H (by rw [perf_Safe.l1.eq_1]; intro h; cases h)
          | succ k22 =>
            replace H := (perf_Safe.l1.eq_2 ..).symm.trans H
            refine seq_reg (fun K23 hK23 => ?_)
            refine stq hf rfl rfl rfl (ex_lss hf rfl rfl) (fun a hf => ?_)
            refine hK23 _ _ ?_
            refine seq_n (fun Q24 hN24 hR24 hX24 => ?_)
            refine itt H (fun hc25 H => ?_) (fun hc25 H => ?_)
            · -- y20 < (a2.length : Int)
              replace hf := hf.castB (t := 34) rfl (dec_t hc25)
              refine cond_T hf rfl ?_
              refine wp_skip ?_
              refine hN24 _ _ ?_
              refine seq_n (fun Q26 hN26 hR26 hX26 => ?_)
              refine block_k (fun Q27 hN27 hR27 hX27 hY27 => ?_)
              refine ck_some H (fun hc28 H => ?_)
              refine seq_reg (fun K30 hK30 => ?_)
              refine stq hf rfl rfl rfl (ex_indexAddr sa_35 (rsl_isSl (hr.now hs (i := 1) rfl)) hc28.1 hc28.2 hf rfl rfl) (fun a hf => ?_)
              refine stq hf rfl rfl rfl (ex_loadA (cs := [.bool ((gd PerfOp.zero a2 y20).Voltage), .int .u64 ((gd PerfOp.zero a2 y20).Value)]) ag_40 hf rfl (el_cells (K := K_api_PerfOp) (rsl_rd (hr.now hs (i := 1) rfl)) hc28.1 hc28.2 rfl)) (fun a hf => ?_)
              refine stepV hf rfl rfl rfl (er_alloc hs ti_40 (cs := [.bool false, .int .u64 0]) rfl) (fun v w hR a hf => ?_)
              obtain ⟨b29, rfl, hs⟩ := hR
              refine stepS hf rfl rfl (er_storeAB (vs := [.bool ((gd PerfOp.zero a2 y20).Voltage), .int .u64 ((gd PerfOp.zero a2 y20).Value)]) (cs' := [.bool ((gd PerfOp.zero a2 y20).Voltage), .int .u64 ((gd PerfOp.zero a2 y20).Value)]) hs (.c (.k .nil)) sz_40 hf rfl rfl (all1 rfl (all1 rfl (all1_nil))) rfl rfl) (fun w hs => ?_)
              refine hK30 _ _ ?_
              refine bnd H (fun x31 H31 HO31 => ?_)
              clear H
              refine seq_cut (fun a w => Fr a 58 [(0, v0), (7, .pointer (some ⟨b13, 0, none⟩)), (8, .int .u64 x31.2), (31, v2), (32, .int .i64 (a2.length : Int)), (33, .int .i64 y20)] ∧ St M w0 w [bx b13 23 [.int .u64 x31.1]]) (fun Q31 hJ31 hR31 hX31 => ?_) (fun a w hJ => ?_)
              · replace H := H31
                refine seq_reg (fun K32 hK32 => ?_)
                refine stq hf rfl rfl rfl (ex_fieldAddrB fa_40_0 rfl hf rfl) (fun a hf => ?_)
                refine stq hf rfl rfl rfl (ex_load sc_4 hf rfl (bx_cell (hs.get (i := 0) rfl) _ rfl)) (fun a hf => ?_)
                refine hK32 _ _ ?_
                refine itt H (fun hc33 H => ?_) (fun hc33 H => ?_)
                · -- ((gd PerfOp.zero a2 y20).Voltage) = true
                  replace hf := hf.castB (t := 38) rfl hc33
                  refine cond_T hf rfl ?_
                  refine region_k (fun K34 hK34 => ?_)
                  refine stq hf rfl rfl rfl (ex_fieldAddrB fa_40_1 rfl hf rfl) (fun a hf => ?_)
                  refine stq hf rfl rfl rfl (ex_load sc_23 hf rfl (bx_cell (hs.get (i := 0) rfl) _ rfl)) (fun a hf => ?_)
                  refine stq hf rfl rfl rfl (ex_assign hf rfl) (fun a hf => ?_)
                  refine hK34 _ _ ?_
                  replace hs := hs.keep (.d (.k .nil))
                  have e31 := some_eq H; subst e31
                  exact hJ31 _ _ ⟨hf.sub ⟨rfl, rfl, rfl, rfl, rfl, rfl, trivial⟩, hs⟩
                · -- not ((gd PerfOp.zero a2 y20).Voltage) = true
                  replace hf := hf.castB (t := 38) rfl (bool_f hc33)
                  refine cond_F hf rfl ?_
                  refine region_k (fun K35 hK35 => ?_)
                  refine stq hf rfl rfl rfl (ex_fieldAddrB fa_40_1 rfl hf rfl) (fun a hf => ?_)
                  refine stq hf rfl rfl rfl (ex_load sc_23 hf rfl (bx_cell (hs.get (i := 0) rfl) _ rfl)) (fun a hf => ?_)
                  refine stepS hf rfl rfl (er_storeB hs (.k (.c .nil)) hf rfl rfl rfl sz_23 rfl) (fun w hs => ?_)
                  refine hK35 _ _ ?_
                  replace hs := hs.keep (.k (.d .nil))
                  have e31 := some_eq H; subst e31
                  exact hJ31 _ _ ⟨hf.sub ⟨rfl, rfl, rfl, rfl, rfl, rfl, trivial⟩, hs⟩
              · obtain ⟨hf, hs⟩ := hJ
                replace H := HO31
                clear HO31
                refine bnd H (fun s36 hs36 H => ?_)
                refine seq_reg (fun K37 hK37 => ?_)
                refine stq hf rfl rfl rfl (ex_move hf rfl) (fun a hf => ?_)
                refine stq hf rfl rfl rfl (ex_makeFunc hf rfl) (fun a hf => ?_)
                refine stepF hf rfl rfl rfl (ex_call cf_33 hf rfl) (slices_IndexFunc_api_OperatingPoint_api_OperatingPoint__Safe_1.calls k22 a0 x31.1 v0 b13 (hs.enter (.k .nil)) (Sr.old hr hs (.k .nil) (i := 0) rfl (fun _ h => h) (fun _ h => h) (Sr.own hs (.k .nil) (i := 0) rfl (fun _ h => h) (fun _ h => h) (Sr.nil _ _))) hs36) (fun v w hR a hf => ?_)
                obtain ⟨rfl, hs'⟩ := hR
                replace hs := hs.step (.k .nil) hs'
                clear hs'
                refine stq hf rfl rfl rfl (ex_assign hf rfl) (fun a hf => ?_)
                refine hK37 _ _ ?_
                refine bnd H (fun x38 H38 HO38 => ?_)
                clear H
                refine seq_cut (fun a w => Fr a 58 [(0, v0), (7, .pointer (some ⟨b13, 0, none⟩)), (8, .int .u64 x31.2), (31, v2), (32, .int .i64 (a2.length : Int)), (33, .int .i64 y20), (56, .bool x38)] ∧ St M w0 w [bx b13 23 [.int .u64 x31.1]]) (fun Q38 hJ38 hR38 hX38 => ?_) (fun a w hJ => ?_)
                · replace H := H38
                  refine itt H (fun hc39 H => ?_) (fun hc39 H => ?_)
                  · -- s36 < 0
                    refine region_k (fun K40 hK40 => ?_)
                    refine stq hf rfl rfl rfl (ex_move hf rfl) (fun a hf => ?_)
                    refine stq hf rfl rfl rfl (ex_lss hf rfl rfl) (fun a hf => ?_)
                    refine stq hf rfl rfl rfl (ex_move hf rfl) (fun a hf => ?_)
                    replace hf := hf.castB (t := 47) rfl (dec_t hc39)
                    replace hf := hf.castB (t := 48) rfl (dec_t hc39)
                    refine stepN hf rfl rfl rfl (fun a hf => ?_)
                    refine stepN hf rfl rfl rfl (fun a hf => ?_)
                    refine stepN hf rfl rfl rfl (fun a hf => ?_)
                    refine stepN hf rfl rfl rfl (fun a hf => ?_)
                    refine stepN hf rfl rfl rfl (fun a hf => ?_)
                    refine stepN hf rfl rfl rfl (fun a hf => ?_)
                    refine stepN hf rfl rfl rfl (fun a hf => ?_)
                    refine stq hf rfl rfl rfl (ex_pickT hf rfl rfl) (fun a hf => ?_)
                    refine hK40 _ _ ?_
                    have e38 := some_eq H; subst e38
                    exact hJ38 _ _ ⟨hf.sub ⟨rfl, rfl, rfl, rfl, rfl, rfl, rfl, trivial⟩, hs⟩
                  · -- not s36 < 0
                    refine ck_some H (fun hc41 H => ?_)
                    refine region_k (fun K42 hK42 => ?_)
                    refine stq hf rfl rfl rfl (ex_move hf rfl) (fun a hf => ?_)
                    refine stq hf rfl rfl rfl (ex_lss hf rfl rfl) (fun a hf => ?_)
                    refine stq hf rfl rfl rfl (ex_move hf rfl) (fun a hf => ?_)
                    replace hf := hf.castB (t := 47) rfl (dec_f hc39)
                    replace hf := hf.castB (t := 48) rfl (dec_f hc39)
                    refine stq hf rfl rfl rfl (ex_move hf rfl) (fun a hf => ?_)
                    refine stq hf rfl rfl rfl (ex_move hf rfl) (fun a hf => ?_)
                    refine stq hf rfl rfl rfl (ex_move hf rfl) (fun a hf => ?_)
                    refine stq hf rfl rfl rfl (ex_indexAddr sa_22 (rsl_isSl (hr.now hs (i := 0) rfl)) hc41.1 hc41.2 hf rfl rfl) (fun a hf => ?_)
                    refine stq hf rfl rfl rfl (ex_fieldAddrS fa_25_1 rfl hf rfl) (fun a hf => ?_)
                    refine stq hf rfl rfl rfl (ex_load sc_23 hf rfl (el_cell (K := K_api_OperatingPoint) (f := 1) (rsl_rd (hr.now hs (i := 0) rfl)) hc41.1 hc41.2 rfl)) (fun a hf => ?_)
                    refine stq hf rfl rfl rfl (ex_lss hf rfl rfl) (fun a hf => ?_)
                    refine stq hf rfl rfl rfl (ex_pickF hf rfl rfl) (fun a hf => ?_)
                    refine hK42 _ _ ?_
                    have e38 := some_eq H; subst e38
                    exact hJ38 _ _ ⟨hf.sub ⟨rfl, rfl, rfl, rfl, rfl, rfl, rfl, trivial⟩, hs⟩
                · obtain ⟨hf, hs⟩ := hJ
                  replace H := HO38
                  clear HO38
                  refine itt H (fun hc43 H => ?_) (fun hc43 H => ?_)
                  · -- x38 = true
                    replace hf := hf.castB (t := 56) rfl hc43
                    refine cond_T hf rfl ?_
                    refine seq_reg (fun K44 hK44 => ?_)
                    refine stq hf rfl rfl rfl (ex_assign hf rfl) (fun a hf => ?_)
                    refine hK44 _ _ ?_
                    refine wp_ret ?_
                    refine hR27 _ _ ?_
                    refine hR26 _ _ ?_
                    refine hR22 _ _ ?_
                    refine hR17 _ _ ?_
                    have e15 := some_eq H; subst e15; replace H := el_rt HO15
                    refine hR15 _ _ ?_
                    have eR := some_eq H; subst eR
                    replace hs := hs.keep (.d .nil)
                    exact ret1 Try.results22 hf rfl ⟨_, rfl, ⟨rfl, hs⟩⟩
                  · -- not x38 = true
                    replace hf := hf.castB (t := 56) rfl (bool_f hc43)
                    refine cond_F hf rfl ?_
                    refine wp_skip ?_
                    refine hN27 _ _ ?_
                    refine hN26 _ _ ?_
                    refine region_k (fun K45 hK45 => ?_)
                    refine stq hf rfl rfl rfl (ex_add hf rfl rfl) (fun a hf => ?_)
                    refine stq hf rfl rfl rfl (ex_move hf rfl) (fun a hf => ?_)
                    refine hK45 _ _ ?_
                    exact hL22 k22 _ _ (Nat.lt_succ_self _) ⟨x31.1, x31.2, (IntKind.i64.wrap (y20 + 1)), hf.sub ⟨rfl, rfl, rfl, rfl, rfl, rfl, trivial⟩, hs, H⟩
            · -- not y20 < (a2.length : Int)
              replace hf := hf.castB (t := 34) rfl (dec_f hc25)
              refine cond_F hf rfl ?_
              refine wp_exit ?_
              refine hX24 0 _ _ ?_
              refine hX22 0 _ _ ?_
              refine hX17 _ _ ?_
              replace hs := hs.keep (.d .nil)
              have e15 := some_eq H; subst e15
              exact hJ15 _ _ ⟨_, rfl, hf.sub trivial, hs⟩
      · obtain ⟨x15s, rfl, hf, hs⟩ := hJ
        replace H := el_go HO15
        clear HO15
        refine seq_reg (fun K46 hK46 => ?_)
        refine stq hf rfl rfl rfl (ex_assign hf rfl) (fun a hf => ?_)
        refine hK46 _ _ ?_
        refine wp_ret ?_
        have eR := some_eq H; subst eR
        exact ret1 Try.results22 hf rfl ⟨_, rfl, ⟨rfl, hs⟩⟩

end Go.Proofs.Ythemeobgfgmblaa.X
