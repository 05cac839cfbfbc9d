/- Each function of the machine comes to what its pure function says. -/
import Derived.Test.YtannodkbindlbaaFb
namespace Go.Proofs.Ytannodkbindlbaa.X
open Go Go.RowKit Go.Sx
set_option linter.unusedVariables false

set_option maxRecDepth 100000 in
theorem ref36_Check.calls {M : Nat → Prop} {w0 : World} (k : Nat) (a0 : (List OperatingPoint)) (v0 : Value) {r : Int} (hs : St M w0 w0 []) (hr : Sr M w0 [rsl K_api_OperatingPoint v0 a0])
    (h : ref36_Check.f k a0 = some r) : Calls Try.prog 29 #[v0] w0 fun e w => ∃ v, e = .returned v ∧ (.int .i64 r = v ∧ St M w0 w []) := by
  have H := (ref36_Check.f.eq_1 ..).symm.trans h
  clear h
  refine enter Try.func29 rfl Try.ntmps29 rfl (fun a hf => ?_)
  refine seq_reg (fun K1 hK1 => ?_)
  refine stq hf rfl rfl rfl (ex_assign hf rfl) (fun a hf => ?_)
  refine hK1 _ _ ?_
  refine seq_n (fun Q2 hN2 hR2 hX2 => ?_)
  refine bnd H (fun x3 H3 HO3 => ?_)
  clear H
  refine seq_cut (fun a w => Fr a 76 [(0, v0), (12, .bool x3)] ∧ St M w0 w []) (fun Q3 hJ3 hR3 hX3 => ?_) (fun a w hJ => ?_)
  · replace H := H3
    refine itt H (fun hc4 H => ?_) (fun hc4 H => ?_)
    · -- (a0.length : Int) < 1
      refine region_k (fun K5 hK5 => ?_)
      refine stq hf rfl rfl rfl (ex_move hf rfl) (fun a hf => ?_)
      refine stq hf rfl rfl rfl (ex_lenS Try.underlying22 (rsl_isSl (hr.now hs (i := 0) rfl)) hf rfl) (fun a hf => ?_)
      refine stq hf rfl rfl rfl (ex_lss hf rfl rfl) (fun a hf => ?_)
      refine stq hf rfl rfl rfl (ex_move hf rfl) (fun a hf => ?_)
      replace hf := hf.castB (t := 7) rfl (dec_t hc4)
      replace hf := hf.castB (t := 8) rfl (dec_t hc4)
      refine stepN hf rfl rfl rfl (fun a hf => ?_)
      refine stepN hf rfl rfl rfl (fun a hf => ?_)
      refine stepN hf rfl rfl rfl (fun a hf => ?_)
      refine stq hf rfl rfl rfl (ex_pickT hf rfl rfl) (fun a hf => ?_)
      refine hK5 _ _ ?_
      have e3 := some_eq H; subst e3
      exact hJ3 _ _ ⟨hf.sub ⟨rfl, rfl, trivial⟩, hs⟩
    · -- not (a0.length : Int) < 1
      refine region_k (fun K6 hK6 => ?_)
      refine stq hf rfl rfl rfl (ex_move hf rfl) (fun a hf => ?_)
      refine stq hf rfl rfl rfl (ex_lenS Try.underlying22 (rsl_isSl (hr.now hs (i := 0) rfl)) hf rfl) (fun a hf => ?_)
      refine stq hf rfl rfl rfl (ex_lss hf rfl rfl) (fun a hf => ?_)
      refine stq hf rfl rfl rfl (ex_move hf rfl) (fun a hf => ?_)
      replace hf := hf.castB (t := 7) rfl (dec_f hc4)
      replace hf := hf.castB (t := 8) rfl (dec_f hc4)
      refine stq hf rfl rfl rfl (ex_move hf rfl) (fun a hf => ?_)
      refine stq hf rfl rfl rfl (ex_lenS Try.underlying22 (rsl_isSl (hr.now hs (i := 0) rfl)) hf rfl) (fun a hf => ?_)
      refine stq hf rfl rfl rfl (ex_gtr hf rfl rfl) (fun a hf => ?_)
      refine stq hf rfl rfl rfl (ex_pickF hf rfl rfl) (fun a hf => ?_)
      refine hK6 _ _ ?_
      have e3 := some_eq H; subst e3
      exact hJ3 _ _ ⟨hf.sub ⟨rfl, rfl, trivial⟩, hs⟩
  · obtain ⟨hf, hs⟩ := hJ
    replace H := HO3
    clear HO3
    refine itt H (fun hc7 H => ?_) (fun hc7 H => ?_)
    · -- x3 = true
      replace hf := hf.castB (t := 12) rfl hc7
      refine cond_T hf rfl ?_
      refine seq_reg (fun K8 hK8 => ?_)
      refine stq hf rfl rfl rfl (ex_assign hf rfl) (fun a hf => ?_)
      refine hK8 _ _ ?_
      refine wp_ret ?_
      refine hR2 _ _ ?_
      have eR := some_eq H; subst eR
      exact ret1 Try.results29 hf rfl ⟨_, rfl, ⟨rfl, hs⟩⟩
    · -- not x3 = true
      replace hf := hf.castB (t := 12) rfl (bool_f hc7)
      refine cond_F hf rfl ?_
      refine wp_skip ?_
      refine hN2 _ _ ?_
      refine bnd H (fun x9 H9 HO9 => ?_)
      clear H
      refine seq_cut (fun a w => ∃ (x9s : Unit), x9 = .go x9s ∧ Fr a 76 [] ∧ St M w0 w []) (fun Q9 hJ9 hR9 hX9 => ?_) (fun a w hJ => ?_)
      · replace H := H9
        refine seq_reg (fun K10 hK10 => ?_)
        refine stq hf rfl rfl rfl (ex_assign hf rfl) (fun a hf => ?_)
        refine hK10 _ _ ?_
        refine block_k (fun Q11 hN11 hR11 hX11 hY11 => ?_)
        refine loop_k (fun n a w => ∃ (y12 : Int), Fr a 76 [(0, v0), (3, .int .i64 y12)] ∧ St M w0 w [] ∧ ref36_Check.l1 n a0 y12 = some x9) k ?_ (fun n14 a w hI Q14 hL14 hR14 hX14 => ?_)
        · -- at the start
          exact ⟨0, hf.sub ⟨rfl, rfl, trivial⟩, hs, H⟩
        · obtain ⟨y12, hf, hs, H⟩ := hI
          cases n14 with
          | zero => exact absurd H (by rw [ref36_Check.l1.eq_1]; intro h; cases h)
          | succ k14 =>
            replace H := (ref36_Check.l1.eq_2 ..).symm.trans H
            refine seq_n (fun Q15 hN15 hR15 hX15 => ?_)
            refine seq_reg (fun K16 hK16 => ?_)
            refine stq hf rfl rfl rfl (ex_move hf rfl) (fun a hf => ?_)
            refine stq hf rfl rfl rfl (ex_move hf rfl) (fun a hf => ?_)
            refine stq hf rfl rfl rfl (ex_lenS Try.underlying22 (rsl_isSl (hr.now hs (i := 0) rfl)) hf rfl) (fun a hf => ?_)
            refine stq hf rfl rfl rfl (ex_lss hf rfl rfl) (fun a hf => ?_)
            refine hK16 _ _ ?_
            refine itt H (fun hc17 H => ?_) (fun hc17 H => ?_)
            · -- y12 < (a0.length : Int)
              replace hf := hf.castB (t := 16) rfl (dec_t hc17)
              refine cond_T hf rfl ?_
              refine wp_skip ?_
              refine hN15 _ _ ?_
              refine seq_n (fun Q18 hN18 hR18 hX18 => ?_)
              refine block_k (fun Q19 hN19 hR19 hX19 hY19 => ?_)
              refine ck_some H (fun hc20 H => ?_)
              refine seq_reg (fun K22 hK22 => ?_)
              refine stq hf rfl rfl rfl (ex_move hf rfl) (fun a hf => ?_)
              refine stq hf rfl rfl rfl (ex_move hf rfl) (fun a hf => ?_)
              refine stq hf rfl rfl rfl (ex_indexAddr sa_22 (rsl_isSl (hr.now hs (i := 0) rfl)) hc20.1 hc20.2 hf rfl rfl) (fun a hf => ?_)
              refine stq hf rfl rfl rfl (ex_loadA (cs := [.int .u64 ((gd OperatingPoint.zero a0 y12).Frequency), .int .u64 ((gd OperatingPoint.zero a0 y12).Voltage), .int .u64 ((gd OperatingPoint.zero a0 y12).Power)]) ag_30 hf rfl (el_cells (K := K_api_OperatingPoint) (rsl_rd (hr.now hs (i := 0) rfl)) hc20.1 hc20.2 rfl)) (fun a hf => ?_)
              refine stepV hf rfl rfl rfl (er_alloc hs ti_30 (cs := [.int .u64 0, .int .u64 0, .int .u64 0]) rfl) (fun v w hR a hf => ?_)
              obtain ⟨b21, rfl, hs⟩ := hR
              refine stepS hf rfl rfl (er_storeAB (vs := [.int .u64 ((gd OperatingPoint.zero a0 y12).Frequency), .int .u64 ((gd OperatingPoint.zero a0 y12).Voltage), .int .u64 ((gd OperatingPoint.zero a0 y12).Power)]) (cs' := [.int .u64 ((gd OperatingPoint.zero a0 y12).Frequency), .int .u64 ((gd OperatingPoint.zero a0 y12).Voltage), .int .u64 ((gd OperatingPoint.zero a0 y12).Power)]) hs (.c .nil) sz_30 hf rfl rfl (all1 rfl (all1 rfl (all1 rfl (all1_nil)))) rfl rfl) (fun w hs => ?_)
              refine hK22 _ _ ?_
              refine seq_n (fun Q23 hN23 hR23 hX23 => ?_)
              refine bnd H (fun x24 H24 HO24 => ?_)
              clear H
              refine seq_cut (fun a w => Fr a 76 [(0, v0), (3, .int .i64 y12), (4, .pointer (some ⟨b21, 0, none⟩)), (40, .bool x24)] ∧ St M w0 w [bx b21 30 [.int .u64 ((gd OperatingPoint.zero a0 y12).Frequency), .int .u64 ((gd OperatingPoint.zero a0 y12).Voltage), .int .u64 ((gd OperatingPoint.zero a0 y12).Power)]]) (fun Q24 hJ24 hR24 hX24 => ?_) (fun a w hJ => ?_)
              · replace H := H24
                refine itt H (fun hc25 H => ?_) (fun hc25 H => ?_)
                · -- ((gd OperatingPoint.zero a0 y12).Frequency) < 1
                  refine region_k (fun K26 hK26 => ?_)
                  refine stq hf rfl rfl rfl (ex_fieldAddrB fa_30_0 rfl hf rfl) (fun a hf => ?_)
                  refine stq hf rfl rfl rfl (ex_load sc_23 hf rfl (bx_cell (hs.get (i := 0) rfl) _ rfl)) (fun a hf => ?_)
                  refine stq hf rfl rfl rfl (ex_lss hf rfl rfl) (fun a hf => ?_)
                  refine stq hf rfl rfl rfl (ex_move hf rfl) (fun a hf => ?_)
                  replace hf := hf.castB (t := 25) rfl (dec_t hc25)
                  replace hf := hf.castB (t := 26) rfl (dec_t hc25)
                  refine stepN hf rfl rfl rfl (fun a hf => ?_)
                  refine stepN hf rfl rfl rfl (fun a hf => ?_)
                  refine stepN hf rfl rfl rfl (fun a hf => ?_)
                  refine stq hf rfl rfl rfl (ex_pickT hf rfl rfl) (fun a hf => ?_)
                  refine stq hf rfl rfl rfl (ex_move hf rfl) (fun a hf => ?_)
                  refine stepN hf rfl rfl rfl (fun a hf => ?_)
                  refine stepN hf rfl rfl rfl (fun a hf => ?_)
                  refine stepN hf rfl rfl rfl (fun a hf => ?_)
                  refine stq hf rfl rfl rfl (ex_pickT hf rfl rfl) (fun a hf => ?_)
                  refine stq hf rfl rfl rfl (ex_move hf rfl) (fun a hf => ?_)
                  refine stepN hf rfl rfl rfl (fun a hf => ?_)
                  refine stepN hf rfl rfl rfl (fun a hf => ?_)
                  refine stepN hf rfl rfl rfl (fun a hf => ?_)
                  refine stq hf rfl rfl rfl (ex_pickT hf rfl rfl) (fun a hf => ?_)
                  refine hK26 _ _ ?_
                  have e24 := some_eq H; subst e24
                  exact hJ24 _ _ ⟨hf.sub ⟨rfl, rfl, rfl, rfl, trivial⟩, hs⟩
                · -- not ((gd OperatingPoint.zero a0 y12).Frequency) < 1
                  refine itt H (fun hc27 H => ?_) (fun hc27 H => ?_)
                  · -- 1099511627776 < ((gd OperatingPoint.zero a0 y12).Frequency)
                    refine region_k (fun K28 hK28 => ?_)
                    refine stq hf rfl rfl rfl (ex_fieldAddrB fa_30_0 rfl hf rfl) (fun a hf => ?_)
                    refine stq hf rfl rfl rfl (ex_load sc_23 hf rfl (bx_cell (hs.get (i := 0) rfl) _ rfl)) (fun a hf => ?_)
                    refine stq hf rfl rfl rfl (ex_lss hf rfl rfl) (fun a hf => ?_)
                    refine stq hf rfl rfl rfl (ex_move hf rfl) (fun a hf => ?_)
                    replace hf := hf.castB (t := 25) rfl (dec_f hc25)
                    replace hf := hf.castB (t := 26) rfl (dec_f hc25)
                    refine stq hf rfl rfl rfl (ex_fieldAddrB fa_30_0 rfl hf rfl) (fun a hf => ?_)
                    refine stq hf rfl rfl rfl (ex_load sc_23 hf rfl (bx_cell (hs.get (i := 0) rfl) _ rfl)) (fun a hf => ?_)
                    refine stq hf rfl rfl rfl (ex_gtr hf rfl rfl) (fun a hf => ?_)
                    refine stq hf rfl rfl rfl (ex_pickF hf rfl rfl) (fun a hf => ?_)
                    refine stq hf rfl rfl rfl (ex_move hf rfl) (fun a hf => ?_)
                    replace hf := hf.castB (t := 29) rfl (dec_t hc27)
                    replace hf := hf.castB (t := 30) rfl (dec_t hc27)
                    replace hf := hf.castB (t := 31) rfl (dec_t hc27)
                    refine stepN hf rfl rfl rfl (fun a hf => ?_)
                    refine stepN hf rfl rfl rfl (fun a hf => ?_)
                    refine stepN hf rfl rfl rfl (fun a hf => ?_)
                    refine stq hf rfl rfl rfl (ex_pickT hf rfl rfl) (fun a hf => ?_)
                    refine stq hf rfl rfl rfl (ex_move hf rfl) (fun a hf => ?_)
                    refine stepN hf rfl rfl rfl (fun a hf => ?_)
                    refine stepN hf rfl rfl rfl (fun a hf => ?_)
                    refine stepN hf rfl rfl rfl (fun a hf => ?_)
                    refine stq hf rfl rfl rfl (ex_pickT hf rfl rfl) (fun a hf => ?_)
                    refine hK28 _ _ ?_
                    have e24 := some_eq H; subst e24
                    exact hJ24 _ _ ⟨hf.sub ⟨rfl, rfl, rfl, rfl, trivial⟩, hs⟩
                  · -- not 1099511627776 < ((gd OperatingPoint.zero a0 y12).Frequency)
                    refine itt H (fun hc29 H => ?_) (fun hc29 H => ?_)
                    · -- 1099511627776 < ((gd OperatingPoint.zero a0 y12).Voltage)
                      refine region_k (fun K30 hK30 => ?_)
                      refine stq hf rfl rfl rfl (ex_fieldAddrB fa_30_0 rfl hf rfl) (fun a hf => ?_)
                      refine stq hf rfl rfl rfl (ex_load sc_23 hf rfl (bx_cell (hs.get (i := 0) rfl) _ rfl)) (fun a hf => ?_)
                      refine stq hf rfl rfl rfl (ex_lss hf rfl rfl) (fun a hf => ?_)
                      refine stq hf rfl rfl rfl (ex_move hf rfl) (fun a hf => ?_)
                      replace hf := hf.castB (t := 25) rfl (dec_f hc25)
                      replace hf := hf.castB (t := 26) rfl (dec_f hc25)
                      refine stq hf rfl rfl rfl (ex_fieldAddrB fa_30_0 rfl hf rfl) (fun a hf => ?_)
                      refine stq hf rfl rfl rfl (ex_load sc_23 hf rfl (bx_cell (hs.get (i := 0) rfl) _ rfl)) (fun a hf => ?_)
                      refine stq hf rfl rfl rfl (ex_gtr hf rfl rfl) (fun a hf => ?_)
                      refine stq hf rfl rfl rfl (ex_pickF hf rfl rfl) (fun a hf => ?_)
                      refine stq hf rfl rfl rfl (ex_move hf rfl) (fun a hf => ?_)
                      replace hf := hf.castB (t := 29) rfl (dec_f hc27)
                      replace hf := hf.castB (t := 30) rfl (dec_f hc27)
                      replace hf := hf.castB (t := 31) rfl (dec_f hc27)
                      refine stq hf rfl rfl rfl (ex_fieldAddrB fa_30_1 rfl hf rfl) (fun a hf => ?_)
                      refine stq hf rfl rfl rfl (ex_load sc_23 hf rfl (bx_cell (hs.get (i := 0) rfl) _ rfl)) (fun a hf => ?_)
                      refine stq hf rfl rfl rfl (ex_gtr hf rfl rfl) (fun a hf => ?_)
                      refine stq hf rfl rfl rfl (ex_pickF hf rfl rfl) (fun a hf => ?_)
                      refine stq hf rfl rfl rfl (ex_move hf rfl) (fun a hf => ?_)
                      replace hf := hf.castB (t := 34) rfl (dec_t hc29)
                      replace hf := hf.castB (t := 35) rfl (dec_t hc29)
                      replace hf := hf.castB (t := 36) rfl (dec_t hc29)
                      refine stepN hf rfl rfl rfl (fun a hf => ?_)
                      refine stepN hf rfl rfl rfl (fun a hf => ?_)
                      refine stepN hf rfl rfl rfl (fun a hf => ?_)
                      refine stq hf rfl rfl rfl (ex_pickT hf rfl rfl) (fun a hf => ?_)
                      refine hK30 _ _ ?_
                      have e24 := some_eq H; subst e24
                      exact hJ24 _ _ ⟨hf.sub ⟨rfl, rfl, rfl, rfl, trivial⟩, hs⟩
                    · -- not 1099511627776 < ((gd OperatingPoint.zero a0 y12).Voltage)
                      refine region_k (fun K31 hK31 => ?_)
                      refine stq hf rfl rfl rfl (ex_fieldAddrB fa_30_0 rfl hf rfl) (fun a hf => ?_)
                      refine stq hf rfl rfl rfl (ex_load sc_23 hf rfl (bx_cell (hs.get (i := 0) rfl) _ rfl)) (fun a hf => ?_)
                      refine stq hf rfl rfl rfl (ex_lss hf rfl rfl) (fun a hf => ?_)
                      refine stq hf rfl rfl rfl (ex_move hf rfl) (fun a hf => ?_)
                      replace hf := hf.castB (t := 25) rfl (dec_f hc25)
                      replace hf := hf.castB (t := 26) rfl (dec_f hc25)
                      refine stq hf rfl rfl rfl (ex_fieldAddrB fa_30_0 rfl hf rfl) (fun a hf => ?_)
                      refine stq hf rfl rfl rfl (ex_load sc_23 hf rfl (bx_cell (hs.get (i := 0) rfl) _ rfl)) (fun a hf => ?_)
                      refine stq hf rfl rfl rfl (ex_gtr hf rfl rfl) (fun a hf => ?_)
                      refine stq hf rfl rfl rfl (ex_pickF hf rfl rfl) (fun a hf => ?_)
                      refine stq hf rfl rfl rfl (ex_move hf rfl) (fun a hf => ?_)
                      replace hf := hf.castB (t := 29) rfl (dec_f hc27)
                      replace hf := hf.castB (t := 30) rfl (dec_f hc27)
                      replace hf := hf.castB (t := 31) rfl (dec_f hc27)
                      refine stq hf rfl rfl rfl (ex_fieldAddrB fa_30_1 rfl hf rfl) (fun a hf => ?_)
                      refine stq hf rfl rfl rfl (ex_load sc_23 hf rfl (bx_cell (hs.get (i := 0) rfl) _ rfl)) (fun a hf => ?_)
                      refine stq hf rfl rfl rfl (ex_gtr hf rfl rfl) (fun a hf => ?_)
                      refine stq hf rfl rfl rfl (ex_pickF hf rfl rfl) (fun a hf => ?_)
                      refine stq hf rfl rfl rfl (ex_move hf rfl) (fun a hf => ?_)
                      replace hf := hf.castB (t := 34) rfl (dec_f hc29)
                      replace hf := hf.castB (t := 35) rfl (dec_f hc29)
                      replace hf := hf.castB (t := 36) rfl (dec_f hc29)
                      refine stq hf rfl rfl rfl (ex_fieldAddrB fa_30_2 rfl hf rfl) (fun a hf => ?_)
                      refine stq hf rfl rfl rfl (ex_load sc_23 hf rfl (bx_cell (hs.get (i := 0) rfl) _ rfl)) (fun a hf => ?_)
                      refine stq hf rfl rfl rfl (ex_gtr hf rfl rfl) (fun a hf => ?_)
                      refine stq hf rfl rfl rfl (ex_pickF hf rfl rfl) (fun a hf => ?_)
                      refine hK31 _ _ ?_
                      have e24 := some_eq H; subst e24
                      exact hJ24 _ _ ⟨hf.sub ⟨rfl, rfl, rfl, rfl, trivial⟩, hs⟩
              · obtain ⟨hf, hs⟩ := hJ
                replace H := HO24
                clear HO24
                refine itt H (fun hc32 H => ?_) (fun hc32 H => ?_)
                · -- x24 = true
                  replace hf := hf.castB (t := 40) rfl hc32
                  refine cond_T hf rfl ?_
                  refine seq_reg (fun K33 hK33 => ?_)
                  refine stq hf rfl rfl rfl (ex_assign hf rfl) (fun a hf => ?_)
                  refine hK33 _ _ ?_
                  refine wp_ret ?_
                  refine hR23 _ _ ?_
                  refine hR19 _ _ ?_
                  refine hR18 _ _ ?_
                  refine hR14 _ _ ?_
                  refine hR11 _ _ ?_
                  have e9 := some_eq H; subst e9; replace H := el_rt HO9
                  refine hR9 _ _ ?_
                  have eR := some_eq H; subst eR
                  replace hs := hs.keep (.d .nil)
                  exact ret1 Try.results29 hf rfl ⟨_, rfl, ⟨rfl, hs⟩⟩
                · -- not x24 = true
                  replace hf := hf.castB (t := 40) rfl (bool_f hc32)
                  refine cond_F hf rfl ?_
                  refine wp_skip ?_
                  refine hN23 _ _ ?_
                  refine bnd H (fun x34 H34 HO34 => ?_)
                  clear H
                  refine seq_cut (fun a w => Fr a 76 [(0, v0), (3, .int .i64 y12), (75, .bool x34)] ∧ St M w0 w []) (fun Q34 hJ34 hR34 hX34 => ?_) (fun a w hJ => ?_)
                  · replace H := H34
                    refine itt H (fun hc35 H => ?_) (fun hc35 H => ?_)
                    · -- 0 < y12
                      refine ck_some H (fun hc36 H => ?_)
                      refine itt H (fun hc37 H => ?_) (fun hc37 H => ?_)
                      · -- ((gd OperatingPoint.zero a0 y12).Frequency) ≤ ((gd Operating
                        refine region_d fol 35 [(0, v0), (3, .int .i64 y12), (4, .pointer (some ⟨b21, 0, none⟩))] [(0, .int .i64 y12), (1, .bool true), (2, .bool true), (3, .pointer (some ⟨b21, 0, none⟩)), (4, .int .u64 ((gd OperatingPoint.zero a0 y12).Frequency)), (5, v0), (6, .int .i64 y12), (7, .int .i64 (IntKind.i64.wrap (y12 - 1))), (8, .pointer (some (sla v0 ((IntKind.i64.wrap (y12 - 1)).toNat * 3)))), (9, .pointer (some (sla v0 ((IntKind.i64.wrap (y12 - 1)).toNat * 3 + 0)))), (10, .int .u64 ((gd OperatingPoint.zero a0 (IntKind.i64.wrap (y12 - 1))).Frequency)), (11, .bool true), (12, .bool true), (13, undef), (14, undef), (15, undef), (16, undef), (17, undef), (18, undef), (19, undef), (20, undef), (21, undef), (22, .bool true), (23, .bool true), (24, undef), (25, undef), (26, undef), (27, undef), (28, undef), (29, undef), (30, undef), (31, undef), (32, undef), (33, .bool true), (34, .bool true)] [] (fun w => (bx b21 30 [.int .u64 ((gd OperatingPoint.zero a0 y12).Frequency), .int .u64 ((gd OperatingPoint.zero a0 y12).Voltage), .int .u64 ((gd OperatingPoint.zero a0 y12).Power)]).ok w ∧ (rsl K_api_OperatingPoint v0 a0).ok w ∧ True) (fun w => St M w0 w [bx b21 30 [.int .u64 ((gd OperatingPoint.zero a0 y12).Frequency), .int .u64 ((gd OperatingPoint.zero a0 y12).Voltage), .int .u64 ((gd OperatingPoint.zero a0 y12).Power)]]) hf ⟨rfl, rfl, rfl, trivial⟩ (by kernel_rfl) (by kernel_rfl) rfl (by decide) ⟨hs.drew.get (i := 0) rfl, hr.now hs.drew (i := 0) rfl, trivial⟩ hs.drew (.cons (⟨_, _, rfl, rfl, rfl, rfl, fun a w hR hf => .inl ⟨wanted_yes hf rfl, ex_move hf rfl⟩⟩) (.cons (⟨_, _, rfl, rfl, rfl, rfl, fun a w hR hf => .inl ⟨wanted_yes hf rfl, ex_castB (ex_gtr hf rfl rfl) (dec_t hc35)⟩⟩) (.cons (⟨_, _, rfl, rfl, rfl, rfl, fun a w hR hf => .inl ⟨wanted_yes hf rfl, ex_move hf rfl⟩⟩) (.cons (⟨_, _, rfl, rfl, rfl, rfl, fun a w hR hf => .inl ⟨wanted_yes hf rfl, ex_fieldAddrB fa_30_0 rfl hf rfl⟩⟩) (.cons (⟨_, _, rfl, rfl, rfl, rfl, fun a w hR hf => .inl ⟨wanted_yes hf rfl, ex_load sc_23 hf rfl (bx_cell (hR.1) _ rfl)⟩⟩) (.cons (⟨_, _, rfl, rfl, rfl, rfl, fun a w hR hf => .inl ⟨wanted_yes hf rfl, ex_move hf rfl⟩⟩) (.cons (⟨_, _, rfl, rfl, rfl, rfl, fun a w hR hf => .inl ⟨wanted_yes hf rfl, ex_move hf rfl⟩⟩) (.cons (⟨_, _, rfl, rfl, rfl, rfl, fun a w hR hf => .inl ⟨wanted_yes hf rfl, ex_sub hf rfl rfl⟩⟩) (.cons (⟨_, _, rfl, rfl, rfl, rfl, fun a w hR hf => .inl ⟨wanted_yes hf rfl, ex_indexAddr sa_22 (rsl_isSl hR.2.1) hc36.1 hc36.2 hf rfl rfl⟩⟩) (.cons (⟨_, _, rfl, rfl, rfl, rfl, fun a w hR hf => .inl ⟨wanted_yes hf rfl, ex_fieldAddrS fa_30_0 rfl hf rfl⟩⟩) (.cons (⟨_, _, rfl, rfl, rfl, rfl, fun a w hR hf => .inl ⟨wanted_yes hf rfl, ex_load sc_23 hf rfl (el_cell (K := K_api_OperatingPoint) (f := 0) (rsl_rd hR.2.1) hc36.1 hc36.2 rfl)⟩⟩) (.cons (⟨_, _, rfl, rfl, rfl, rfl, fun a w hR hf => .inl ⟨wanted_yes hf rfl, ex_castB (ex_leq hf rfl rfl) (dec_t hc37)⟩⟩) (.cons (⟨_, _, rfl, rfl, rfl, rfl, fun a w hR hf => .inl ⟨wanted_yes hf rfl, ex_move hf rfl⟩⟩) (.cons (⟨_, _, rfl, rfl, rfl, rfl, fun a w hR hf => .inr ⟨wanted_no hf rfl, rfl⟩⟩) (.cons (⟨_, _, rfl, rfl, rfl, rfl, fun a w hR hf => .inr ⟨wanted_no hf rfl, rfl⟩⟩) (.cons (⟨_, _, rfl, rfl, rfl, rfl, fun a w hR hf => .inr ⟨wanted_no hf rfl, rfl⟩⟩) (.cons (⟨_, _, rfl, rfl, rfl, rfl, fun a w hR hf => .inr ⟨wanted_no hf rfl, rfl⟩⟩) (.cons (⟨_, _, rfl, rfl, rfl, rfl, fun a w hR hf => .inr ⟨wanted_no hf rfl, rfl⟩⟩) (.cons (⟨_, _, rfl, rfl, rfl, rfl, fun a w hR hf => .inr ⟨wanted_no hf rfl, rfl⟩⟩) (.cons (⟨_, _, rfl, rfl, rfl, rfl, fun a w hR hf => .inr ⟨wanted_no hf rfl, rfl⟩⟩) (.cons (⟨_, _, rfl, rfl, rfl, rfl, fun a w hR hf => .inr ⟨wanted_no hf rfl, rfl⟩⟩) (.cons (⟨_, _, rfl, rfl, rfl, rfl, fun a w hR hf => .inr ⟨wanted_no hf rfl, rfl⟩⟩) (.cons (⟨_, _, rfl, rfl, rfl, rfl, fun a w hR hf => .inl ⟨wanted_yes hf rfl, ex_pickT hf rfl rfl⟩⟩) (.cons (⟨_, _, rfl, rfl, rfl, rfl, fun a w hR hf => .inl ⟨wanted_yes hf rfl, ex_move hf rfl⟩⟩) (.cons (⟨_, _, rfl, rfl, rfl, rfl, fun a w hR hf => .inr ⟨wanted_no hf rfl, rfl⟩⟩) (.cons (⟨_, _, rfl, rfl, rfl, rfl, fun a w hR hf => .inr ⟨wanted_no hf rfl, rfl⟩⟩) (.cons (⟨_, _, rfl, rfl, rfl, rfl, fun a w hR hf => .inr ⟨wanted_no hf rfl, rfl⟩⟩) (.cons (⟨_, _, rfl, rfl, rfl, rfl, fun a w hR hf => .inr ⟨wanted_no hf rfl, rfl⟩⟩) (.cons (⟨_, _, rfl, rfl, rfl, rfl, fun a w hR hf => .inr ⟨wanted_no hf rfl, rfl⟩⟩) (.cons (⟨_, _, rfl, rfl, rfl, rfl, fun a w hR hf => .inr ⟨wanted_no hf rfl, rfl⟩⟩) (.cons (⟨_, _, rfl, rfl, rfl, rfl, fun a w hR hf => .inr ⟨wanted_no hf rfl, rfl⟩⟩) (.cons (⟨_, _, rfl, rfl, rfl, rfl, fun a w hR hf => .inr ⟨wanted_no hf rfl, rfl⟩⟩) (.cons (⟨_, _, rfl, rfl, rfl, rfl, fun a w hR hf => .inr ⟨wanted_no hf rfl, rfl⟩⟩) (.cons (⟨_, _, rfl, rfl, rfl, rfl, fun a w hR hf => .inl ⟨wanted_yes hf rfl, ex_pickT hf rfl rfl⟩⟩) (.cons (⟨_, _, rfl, rfl, rfl, rfl, fun a w hR hf => .inl ⟨wanted_yes hf rfl, ex_pickT hf rfl rfl⟩⟩) (.nil)))))))))))))))))))))))))))))))))))) (fun K38 hK38 => ?_)
                        refine RW.zero (by kernel_rfl) (by kernel_rfl) [(0, v0), (3, .int .i64 y12), (75, .bool true)] ⟨rfl, rfl, rfl, trivial⟩ (fun a w hR hs hf => ?_)
                        refine hK38 _ _ ?_
                        replace hs := hs.keep (.d .nil)
                        have e34 := some_eq H; subst e34
                        exact hJ34 _ _ ⟨hf.sub ⟨rfl, rfl, rfl, trivial⟩, hs⟩
                      · -- not ((gd OperatingPoint.zero a0 y12).Frequency) ≤ ((gd Operating
                        refine itt H (fun hc39 H => ?_) (fun hc39 H => ?_)
                        · -- ((gd OperatingPoint.zero a0 y12).Voltage) < ((gd OperatingPo
                          refine region_d fol 35 [(0, v0), (3, .int .i64 y12), (4, .pointer (some ⟨b21, 0, none⟩))] [(0, .int .i64 y12), (1, .bool true), (2, .bool true), (3, .pointer (some ⟨b21, 0, none⟩)), (4, .int .u64 ((gd OperatingPoint.zero a0 y12).Frequency)), (5, v0), (6, .int .i64 y12), (7, .int .i64 (IntKind.i64.wrap (y12 - 1))), (8, .pointer (some (sla v0 ((IntKind.i64.wrap (y12 - 1)).toNat * 3)))), (9, .pointer (some (sla v0 ((IntKind.i64.wrap (y12 - 1)).toNat * 3 + 0)))), (10, .int .u64 ((gd OperatingPoint.zero a0 (IntKind.i64.wrap (y12 - 1))).Frequency)), (11, .bool false), (12, .bool false), (13, .pointer (some ⟨b21, 1, none⟩)), (14, .int .u64 ((gd OperatingPoint.zero a0 y12).Voltage)), (15, v0), (16, .int .i64 y12), (17, .int .i64 (IntKind.i64.wrap (y12 - 1))), (18, .pointer (some (sla v0 ((IntKind.i64.wrap (y12 - 1)).toNat * 3)))), (19, .pointer (some (sla v0 ((IntKind.i64.wrap (y12 - 1)).toNat * 3 + 1)))), (20, .int .u64 ((gd OperatingPoint.zero a0 (IntKind.i64.wrap (y12 - 1))).Voltage)), (21, .bool true), (22, .bool true), (23, .bool true), (24, undef), (25, undef), (26, undef), (27, undef), (28, undef), (29, undef), (30, undef), (31, undef), (32, undef), (33, .bool true), (34, .bool true)] [] (fun w => (bx b21 30 [.int .u64 ((gd OperatingPoint.zero a0 y12).Frequency), .int .u64 ((gd OperatingPoint.zero a0 y12).Voltage), .int .u64 ((gd OperatingPoint.zero a0 y12).Power)]).ok w ∧ (rsl K_api_OperatingPoint v0 a0).ok w ∧ True) (fun w => St M w0 w [bx b21 30 [.int .u64 ((gd OperatingPoint.zero a0 y12).Frequency), .int .u64 ((gd OperatingPoint.zero a0 y12).Voltage), .int .u64 ((gd OperatingPoint.zero a0 y12).Power)]]) hf ⟨rfl, rfl, rfl, trivial⟩ (by kernel_rfl) (by kernel_rfl) rfl (by decide) ⟨hs.drew.get (i := 0) rfl, hr.now hs.drew (i := 0) rfl, trivial⟩ hs.drew (.cons (⟨_, _, rfl, rfl, rfl, rfl, fun a w hR hf => .inl ⟨wanted_yes hf rfl, ex_move hf rfl⟩⟩) (.cons (⟨_, _, rfl, rfl, rfl, rfl, fun a w hR hf => .inl ⟨wanted_yes hf rfl, ex_castB (ex_gtr hf rfl rfl) (dec_t hc35)⟩⟩) (.cons (⟨_, _, rfl, rfl, rfl, rfl, fun a w hR hf => .inl ⟨wanted_yes hf rfl, ex_move hf rfl⟩⟩) (.cons (⟨_, _, rfl, rfl, rfl, rfl, fun a w hR hf => .inl ⟨wanted_yes hf rfl, ex_fieldAddrB fa_30_0 rfl hf rfl⟩⟩) (.cons (⟨_, _, rfl, rfl, rfl, rfl, fun a w hR hf => .inl ⟨wanted_yes hf rfl, ex_load sc_23 hf rfl (bx_cell (hR.1) _ rfl)⟩⟩) (.cons (⟨_, _, rfl, rfl, rfl, rfl, fun a w hR hf => .inl ⟨wanted_yes hf rfl, ex_move hf rfl⟩⟩) (.cons (⟨_, _, rfl, rfl, rfl, rfl, fun a w hR hf => .inl ⟨wanted_yes hf rfl, ex_move hf rfl⟩⟩) (.cons (⟨_, _, rfl, rfl, rfl, rfl, fun a w hR hf => .inl ⟨wanted_yes hf rfl, ex_sub hf rfl rfl⟩⟩) (.cons (⟨_, _, rfl, rfl, rfl, rfl, fun a w hR hf => .inl ⟨wanted_yes hf rfl, ex_indexAddr sa_22 (rsl_isSl hR.2.1) hc36.1 hc36.2 hf rfl rfl⟩⟩) (.cons (⟨_, _, rfl, rfl, rfl, rfl, fun a w hR hf => .inl ⟨wanted_yes hf rfl, ex_fieldAddrS fa_30_0 rfl hf rfl⟩⟩) (.cons (⟨_, _, rfl, rfl, rfl, rfl, fun a w hR hf => .inl ⟨wanted_yes hf rfl, ex_load sc_23 hf rfl (el_cell (K := K_api_OperatingPoint) (f := 0) (rsl_rd hR.2.1) hc36.1 hc36.2 rfl)⟩⟩) (.cons (⟨_, _, rfl, rfl, rfl, rfl, fun a w hR hf => .inl ⟨wanted_yes hf rfl, ex_castB (ex_leq hf rfl rfl) (dec_f hc37)⟩⟩) (.cons (⟨_, _, rfl, rfl, rfl, rfl, fun a w hR hf => .inl ⟨wanted_yes hf rfl, ex_move hf rfl⟩⟩) (.cons (⟨_, _, rfl, rfl, rfl, rfl, fun a w hR hf => .inl ⟨wanted_yes hf rfl, ex_fieldAddrB fa_30_1 rfl hf rfl⟩⟩) (.cons (⟨_, _, rfl, rfl, rfl, rfl, fun a w hR hf => .inl ⟨wanted_yes hf rfl, ex_load sc_23 hf rfl (bx_cell (hR.1) _ rfl)⟩⟩) (.cons (⟨_, _, rfl, rfl, rfl, rfl, fun a w hR hf => .inl ⟨wanted_yes hf rfl, ex_move hf rfl⟩⟩) (.cons (⟨_, _, rfl, rfl, rfl, rfl, fun a w hR hf => .inl ⟨wanted_yes hf rfl, ex_move hf rfl⟩⟩) (.cons (⟨_, _, rfl, rfl, rfl, rfl, fun a w hR hf => .inl ⟨wanted_yes hf rfl, ex_sub hf rfl rfl⟩⟩) (.cons (⟨_, _, rfl, rfl, rfl, rfl, fun a w hR hf => .inl ⟨wanted_yes hf rfl, ex_indexAddr sa_22 (rsl_isSl hR.2.1) hc36.1 hc36.2 hf rfl rfl⟩⟩) (.cons (⟨_, _, rfl, rfl, rfl, rfl, fun a w hR hf => .inl ⟨wanted_yes hf rfl, ex_fieldAddrS fa_30_1 rfl hf rfl⟩⟩) (.cons (⟨_, _, rfl, rfl, rfl, rfl, fun a w hR hf => .inl ⟨wanted_yes hf rfl, ex_load sc_23 hf rfl (el_cell (K := K_api_OperatingPoint) (f := 1) (rsl_rd hR.2.1) hc36.1 hc36.2 rfl)⟩⟩) (.cons (⟨_, _, rfl, rfl, rfl, rfl, fun a w hR hf => .inl ⟨wanted_yes hf rfl, ex_castB (ex_lss hf rfl rfl) (dec_t hc39)⟩⟩) (.cons (⟨_, _, rfl, rfl, rfl, rfl, fun a w hR hf => .inl ⟨wanted_yes hf rfl, ex_pickF hf rfl rfl⟩⟩) (.cons (⟨_, _, rfl, rfl, rfl, rfl, fun a w hR hf => .inl ⟨wanted_yes hf rfl, ex_move hf rfl⟩⟩) (.cons (⟨_, _, rfl, rfl, rfl, rfl, fun a w hR hf => .inr ⟨wanted_no hf rfl, rfl⟩⟩) (.cons (⟨_, _, rfl, rfl, rfl, rfl, fun a w hR hf => .inr ⟨wanted_no hf rfl, rfl⟩⟩) (.cons (⟨_, _, rfl, rfl, rfl, rfl, fun a w hR hf => .inr ⟨wanted_no hf rfl, rfl⟩⟩) (.cons (⟨_, _, rfl, rfl, rfl, rfl, fun a w hR hf => .inr ⟨wanted_no hf rfl, rfl⟩⟩) (.cons (⟨_, _, rfl, rfl, rfl, rfl, fun a w hR hf => .inr ⟨wanted_no hf rfl, rfl⟩⟩) (.cons (⟨_, _, rfl, rfl, rfl, rfl, fun a w hR hf => .inr ⟨wanted_no hf rfl, rfl⟩⟩) (.cons (⟨_, _, rfl, rfl, rfl, rfl, fun a w hR hf => .inr ⟨wanted_no hf rfl, rfl⟩⟩) (.cons (⟨_, _, rfl, rfl, rfl, rfl, fun a w hR hf => .inr ⟨wanted_no hf rfl, rfl⟩⟩) (.cons (⟨_, _, rfl, rfl, rfl, rfl, fun a w hR hf => .inr ⟨wanted_no hf rfl, rfl⟩⟩) (.cons (⟨_, _, rfl, rfl, rfl, rfl, fun a w hR hf => .inl ⟨wanted_yes hf rfl, ex_pickT hf rfl rfl⟩⟩) (.cons (⟨_, _, rfl, rfl, rfl, rfl, fun a w hR hf => .inl ⟨wanted_yes hf rfl, ex_pickT hf rfl rfl⟩⟩) (.nil)))))))))))))))))))))))))))))))))))) (fun K40 hK40 => ?_)
                          refine RW.zero (by kernel_rfl) (by kernel_rfl) [(0, v0), (3, .int .i64 y12), (75, .bool true)] ⟨rfl, rfl, rfl, trivial⟩ (fun a w hR hs hf => ?_)
                          refine hK40 _ _ ?_
                          replace hs := hs.keep (.d .nil)
                          have e34 := some_eq H; subst e34
                          exact hJ34 _ _ ⟨hf.sub ⟨rfl, rfl, rfl, trivial⟩, hs⟩
                        · -- not ((gd OperatingPoint.zero a0 y12).Voltage) < ((gd OperatingPo
                          refine region_d fol 35 [(0, v0), (3, .int .i64 y12), (4, .pointer (some ⟨b21, 0, none⟩))] [(0, .int .i64 y12), (1, .bool true), (2, .bool true), (3, .pointer (some ⟨b21, 0, none⟩)), (4, .int .u64 ((gd OperatingPoint.zero a0 y12).Frequency)), (5, v0), (6, .int .i64 y12), (7, .int .i64 (IntKind.i64.wrap (y12 - 1))), (8, .pointer (some (sla v0 ((IntKind.i64.wrap (y12 - 1)).toNat * 3)))), (9, .pointer (some (sla v0 ((IntKind.i64.wrap (y12 - 1)).toNat * 3 + 0)))), (10, .int .u64 ((gd OperatingPoint.zero a0 (IntKind.i64.wrap (y12 - 1))).Frequency)), (11, .bool false), (12, .bool false), (13, .pointer (some ⟨b21, 1, none⟩)), (14, .int .u64 ((gd OperatingPoint.zero a0 y12).Voltage)), (15, v0), (16, .int .i64 y12), (17, .int .i64 (IntKind.i64.wrap (y12 - 1))), (18, .pointer (some (sla v0 ((IntKind.i64.wrap (y12 - 1)).toNat * 3)))), (19, .pointer (some (sla v0 ((IntKind.i64.wrap (y12 - 1)).toNat * 3 + 1)))), (20, .int .u64 ((gd OperatingPoint.zero a0 (IntKind.i64.wrap (y12 - 1))).Voltage)), (21, .bool false), (22, .bool false), (23, .bool false), (24, .pointer (some ⟨b21, 2, none⟩)), (25, .int .u64 ((gd OperatingPoint.zero a0 y12).Power)), (26, v0), (27, .int .i64 y12), (28, .int .i64 (IntKind.i64.wrap (y12 - 1))), (29, .pointer (some (sla v0 ((IntKind.i64.wrap (y12 - 1)).toNat * 3)))), (30, .pointer (some (sla v0 ((IntKind.i64.wrap (y12 - 1)).toNat * 3 + 2)))), (31, .int .u64 ((gd OperatingPoint.zero a0 (IntKind.i64.wrap (y12 - 1))).Power)), (32, .bool (decide (((gd OperatingPoint.zero a0 y12).Power) < ((gd OperatingPoint.zero a0 (IntKind.i64.wrap (y12 - 1))).Power)))), (33, .bool (decide (((gd OperatingPoint.zero a0 y12).Power) < ((gd OperatingPoint.zero a0 (IntKind.i64.wrap (y12 - 1))).Power)))), (34, .bool (decide (((gd OperatingPoint.zero a0 y12).Power) < ((gd OperatingPoint.zero a0 (IntKind.i64.wrap (y12 - 1))).Power))))] [] (fun w => (bx b21 30 [.int .u64 ((gd OperatingPoint.zero a0 y12).Frequency), .int .u64 ((gd OperatingPoint.zero a0 y12).Voltage), .int .u64 ((gd OperatingPoint.zero a0 y12).Power)]).ok w ∧ (rsl K_api_OperatingPoint v0 a0).ok w ∧ True) (fun w => St M w0 w [bx b21 30 [.int .u64 ((gd OperatingPoint.zero a0 y12).Frequency), .int .u64 ((gd OperatingPoint.zero a0 y12).Voltage), .int .u64 ((gd OperatingPoint.zero a0 y12).Power)]]) hf ⟨rfl, rfl, rfl, trivial⟩ (by kernel_rfl) (by kernel_rfl) rfl (by decide) ⟨hs.drew.get (i := 0) rfl, hr.now hs.drew (i := 0) rfl, trivial⟩ hs.drew (.cons (⟨_, _, rfl, rfl, rfl, rfl, fun a w hR hf => .inl ⟨wanted_yes hf rfl, ex_move hf rfl⟩⟩) (.cons (⟨_, _, rfl, rfl, rfl, rfl, fun a w hR hf => .inl ⟨wanted_yes hf rfl, ex_castB (ex_gtr hf rfl rfl) (dec_t hc35)⟩⟩) (.cons (⟨_, _, rfl, rfl, rfl, rfl, fun a w hR hf => .inl ⟨wanted_yes hf rfl, ex_move hf rfl⟩⟩) (.cons (⟨_, _, rfl, rfl, rfl, rfl, fun a w hR hf => .inl ⟨wanted_yes hf rfl, ex_fieldAddrB fa_30_0 rfl hf rfl⟩⟩) (.cons (⟨_, _, rfl, rfl, rfl, rfl, fun a w hR hf => .inl ⟨wanted_yes hf rfl, ex_load sc_23 hf rfl (bx_cell (hR.1) _ rfl)⟩⟩) (.cons (⟨_, _, rfl, rfl, rfl, rfl, fun a w hR hf => .inl ⟨wanted_yes hf rfl, ex_move hf rfl⟩⟩) (.cons (⟨_, _, rfl, rfl, rfl, rfl, fun a w hR hf => .inl ⟨wanted_yes hf rfl, ex_move hf rfl⟩⟩) (.cons (⟨_, _, rfl, rfl, rfl, rfl, fun a w hR hf => .inl ⟨wanted_yes hf rfl, ex_sub hf rfl rfl⟩⟩) (.cons (⟨_, _, rfl, rfl, rfl, rfl, fun a w hR hf => .inl ⟨wanted_yes hf rfl, ex_indexAddr sa_22 (rsl_isSl hR.2.1) hc36.1 hc36.2 hf rfl rfl⟩⟩) (.cons (⟨_, _, rfl, rfl, rfl, rfl, fun a w hR hf => .inl ⟨wanted_yes hf rfl, ex_fieldAddrS fa_30_0 rfl hf rfl⟩⟩) (.cons (⟨_, _, rfl, rfl, rfl, rfl, fun a w hR hf => .inl ⟨wanted_yes hf rfl, ex_load sc_23 hf rfl (el_cell (K := K_api_OperatingPoint) (f := 0) (rsl_rd hR.2.1) hc36.1 hc36.2 rfl)⟩⟩) (.cons (⟨_, _, rfl, rfl, rfl, rfl, fun a w hR hf => .inl ⟨wanted_yes hf rfl, ex_castB (ex_leq hf rfl rfl) (dec_f hc37)⟩⟩) (.cons (⟨_, _, rfl, rfl, rfl, rfl, fun a w hR hf => .inl ⟨wanted_yes hf rfl, ex_move hf rfl⟩⟩) (.cons (⟨_, _, rfl, rfl, rfl, rfl, fun a w hR hf => .inl ⟨wanted_yes hf rfl, ex_fieldAddrB fa_30_1 rfl hf rfl⟩⟩) (.cons (⟨_, _, rfl, rfl, rfl, rfl, fun a w hR hf => .inl ⟨wanted_yes hf rfl, ex_load sc_23 hf rfl (bx_cell (hR.1) _ rfl)⟩⟩) (.cons (⟨_, _, rfl, rfl, rfl, rfl, fun a w hR hf => .inl ⟨wanted_yes hf rfl, ex_move hf rfl⟩⟩) (.cons (⟨_, _, rfl, rfl, rfl, rfl, fun a w hR hf => .inl ⟨wanted_yes hf rfl, ex_move hf rfl⟩⟩) (.cons (⟨_, _, rfl, rfl, rfl, rfl, fun a w hR hf => .inl ⟨wanted_yes hf rfl, ex_sub hf rfl rfl⟩⟩) (.cons (⟨_, _, rfl, rfl, rfl, rfl, fun a w hR hf => .inl ⟨wanted_yes hf rfl, ex_indexAddr sa_22 (rsl_isSl hR.2.1) hc36.1 hc36.2 hf rfl rfl⟩⟩) (.cons (⟨_, _, rfl, rfl, rfl, rfl, fun a w hR hf => .inl ⟨wanted_yes hf rfl, ex_fieldAddrS fa_30_1 rfl hf rfl⟩⟩) (.cons (⟨_, _, rfl, rfl, rfl, rfl, fun a w hR hf => .inl ⟨wanted_yes hf rfl, ex_load sc_23 hf rfl (el_cell (K := K_api_OperatingPoint) (f := 1) (rsl_rd hR.2.1) hc36.1 hc36.2 rfl)⟩⟩) (.cons (⟨_, _, rfl, rfl, rfl, rfl, fun a w hR hf => .inl ⟨wanted_yes hf rfl, ex_castB (ex_lss hf rfl rfl) (dec_f hc39)⟩⟩) (.cons (⟨_, _, rfl, rfl, rfl, rfl, fun a w hR hf => .inl ⟨wanted_yes hf rfl, ex_pickF hf rfl rfl⟩⟩) (.cons (⟨_, _, rfl, rfl, rfl, rfl, fun a w hR hf => .inl ⟨wanted_yes hf rfl, ex_move hf rfl⟩⟩) (.cons (⟨_, _, rfl, rfl, rfl, rfl, fun a w hR hf => .inl ⟨wanted_yes hf rfl, ex_fieldAddrB fa_30_2 rfl hf rfl⟩⟩) (.cons (⟨_, _, rfl, rfl, rfl, rfl, fun a w hR hf => .inl ⟨wanted_yes hf rfl, ex_load sc_23 hf rfl (bx_cell (hR.1) _ rfl)⟩⟩) (.cons (⟨_, _, rfl, rfl, rfl, rfl, fun a w hR hf => .inl ⟨wanted_yes hf rfl, ex_move hf rfl⟩⟩) (.cons (⟨_, _, rfl, rfl, rfl, rfl, fun a w hR hf => .inl ⟨wanted_yes hf rfl, ex_move hf rfl⟩⟩) (.cons (⟨_, _, rfl, rfl, rfl, rfl, fun a w hR hf => .inl ⟨wanted_yes hf rfl, ex_sub hf rfl rfl⟩⟩) (.cons (⟨_, _, rfl, rfl, rfl, rfl, fun a w hR hf => .inl ⟨wanted_yes hf rfl, ex_indexAddr sa_22 (rsl_isSl hR.2.1) hc36.1 hc36.2 hf rfl rfl⟩⟩) (.cons (⟨_, _, rfl, rfl, rfl, rfl, fun a w hR hf => .inl ⟨wanted_yes hf rfl, ex_fieldAddrS fa_30_2 rfl hf rfl⟩⟩) (.cons (⟨_, _, rfl, rfl, rfl, rfl, fun a w hR hf => .inl ⟨wanted_yes hf rfl, ex_load sc_23 hf rfl (el_cell (K := K_api_OperatingPoint) (f := 2) (rsl_rd hR.2.1) hc36.1 hc36.2 rfl)⟩⟩) (.cons (⟨_, _, rfl, rfl, rfl, rfl, fun a w hR hf => .inl ⟨wanted_yes hf rfl, ex_lss hf rfl rfl⟩⟩) (.cons (⟨_, _, rfl, rfl, rfl, rfl, fun a w hR hf => .inl ⟨wanted_yes hf rfl, ex_pickF hf rfl rfl⟩⟩) (.cons (⟨_, _, rfl, rfl, rfl, rfl, fun a w hR hf => .inl ⟨wanted_yes hf rfl, ex_pickT hf rfl rfl⟩⟩) (.nil)))))))))))))))))))))))))))))))))))) (fun K41 hK41 => ?_)
                          refine RW.zero (by kernel_rfl) (by kernel_rfl) [(0, v0), (3, .int .i64 y12), (75, .bool (decide (((gd OperatingPoint.zero a0 y12).Power) < ((gd OperatingPoint.zero a0 (IntKind.i64.wrap (y12 - 1))).Power))))] ⟨rfl, rfl, rfl, trivial⟩ (fun a w hR hs hf => ?_)
                          refine hK41 _ _ ?_
                          replace hs := hs.keep (.d .nil)
                          have e34 := some_eq H; subst e34
                          exact hJ34 _ _ ⟨hf.sub ⟨rfl, rfl, rfl, trivial⟩, hs⟩
                    · -- not 0 < y12
                      refine region_d fol 35 [(0, v0), (3, .int .i64 y12), (4, .pointer (some ⟨b21, 0, none⟩))] [(0, .int .i64 y12), (1, .bool false), (2, .bool false), (3, undef), (4, undef), (5, undef), (6, undef), (7, undef), (8, undef), (9, undef), (10, undef), (11, undef), (12, undef), (13, undef), (14, undef), (15, undef), (16, undef), (17, undef), (18, undef), (19, undef), (20, undef), (21, undef), (22, undef), (23, undef), (24, undef), (25, undef), (26, undef), (27, undef), (28, undef), (29, undef), (30, undef), (31, undef), (32, undef), (33, undef), (34, .bool false)] [] (fun w => (bx b21 30 [.int .u64 ((gd OperatingPoint.zero a0 y12).Frequency), .int .u64 ((gd OperatingPoint.zero a0 y12).Voltage), .int .u64 ((gd OperatingPoint.zero a0 y12).Power)]).ok w ∧ (rsl K_api_OperatingPoint v0 a0).ok w ∧ True) (fun w => St M w0 w [bx b21 30 [.int .u64 ((gd OperatingPoint.zero a0 y12).Frequency), .int .u64 ((gd OperatingPoint.zero a0 y12).Voltage), .int .u64 ((gd OperatingPoint.zero a0 y12).Power)]]) hf ⟨rfl, rfl, rfl, trivial⟩ (by kernel_rfl) (by kernel_rfl) rfl (by decide) ⟨hs.drew.get (i := 0) rfl, hr.now hs.drew (i := 0) rfl, trivial⟩ hs.drew (.cons (⟨_, _, rfl, rfl, rfl, rfl, fun a w hR hf => .inl ⟨wanted_yes hf rfl, ex_move hf rfl⟩⟩) (.cons (⟨_, _, rfl, rfl, rfl, rfl, fun a w hR hf => .inl ⟨wanted_yes hf rfl, ex_castB (ex_gtr hf rfl rfl) (dec_f hc35)⟩⟩) (.cons (⟨_, _, rfl, rfl, rfl, rfl, fun a w hR hf => .inl ⟨wanted_yes hf rfl, ex_move hf rfl⟩⟩) (.cons (⟨_, _, rfl, rfl, rfl, rfl, fun a w hR hf => .inr ⟨wanted_no hf rfl, rfl⟩⟩) (.cons (⟨_, _, rfl, rfl, rfl, rfl, fun a w hR hf => .inr ⟨wanted_no hf rfl, rfl⟩⟩) (.cons (⟨_, _, rfl, rfl, rfl, rfl, fun a w hR hf => .inr ⟨wanted_no hf rfl, rfl⟩⟩) (.cons (⟨_, _, rfl, rfl, rfl, rfl, fun a w hR hf => .inr ⟨wanted_no hf rfl, rfl⟩⟩) (.cons (⟨_, _, rfl, rfl, rfl, rfl, fun a w hR hf => .inr ⟨wanted_no hf rfl, rfl⟩⟩) (.cons (⟨_, _, rfl, rfl, rfl, rfl, fun a w hR hf => .inr ⟨wanted_no hf rfl, rfl⟩⟩) (.cons (⟨_, _, rfl, rfl, rfl, rfl, fun a w hR hf => .inr ⟨wanted_no hf rfl, rfl⟩⟩) (.cons (⟨_, _, rfl, rfl, rfl, rfl, fun a w hR hf => .inr ⟨wanted_no hf rfl, rfl⟩⟩) (.cons (⟨_, _, rfl, rfl, rfl, rfl, fun a w hR hf => .inr ⟨wanted_no hf rfl, rfl⟩⟩) (.cons (⟨_, _, rfl, rfl, rfl, rfl, fun a w hR hf => .inr ⟨wanted_no hf rfl, rfl⟩⟩) (.cons (⟨_, _, rfl, rfl, rfl, rfl, fun a w hR hf => .inr ⟨wanted_no hf rfl, rfl⟩⟩) (.cons (⟨_, _, rfl, rfl, rfl, rfl, fun a w hR hf => .inr ⟨wanted_no hf rfl, rfl⟩⟩) (.cons (⟨_, _, rfl, rfl, rfl, rfl, fun a w hR hf => .inr ⟨wanted_no hf rfl, rfl⟩⟩) (.cons (⟨_, _, rfl, rfl, rfl, rfl, fun a w hR hf => .inr ⟨wanted_no hf rfl, rfl⟩⟩) (.cons (⟨_, _, rfl, rfl, rfl, rfl, fun a w hR hf => .inr ⟨wanted_no hf rfl, rfl⟩⟩) (.cons (⟨_, _, rfl, rfl, rfl, rfl, fun a w hR hf => .inr ⟨wanted_no hf rfl, rfl⟩⟩) (.cons (⟨_, _, rfl, rfl, rfl, rfl, fun a w hR hf => .inr ⟨wanted_no hf rfl, rfl⟩⟩) (.cons (⟨_, _, rfl, rfl, rfl, rfl, fun a w hR hf => .inr ⟨wanted_no hf rfl, rfl⟩⟩) (.cons (⟨_, _, rfl, rfl, rfl, rfl, fun a w hR hf => .inr ⟨wanted_no hf rfl, rfl⟩⟩) (.cons (⟨_, _, rfl, rfl, rfl, rfl, fun a w hR hf => .inr ⟨wanted_no hf rfl, rfl⟩⟩) (.cons (⟨_, _, rfl, rfl, rfl, rfl, fun a w hR hf => .inr ⟨wanted_no hf rfl, rfl⟩⟩) (.cons (⟨_, _, rfl, rfl, rfl, rfl, fun a w hR hf => .inr ⟨wanted_no hf rfl, rfl⟩⟩) (.cons (⟨_, _, rfl, rfl, rfl, rfl, fun a w hR hf => .inr ⟨wanted_no hf rfl, rfl⟩⟩) (.cons (⟨_, _, rfl, rfl, rfl, rfl, fun a w hR hf => .inr ⟨wanted_no hf rfl, rfl⟩⟩) (.cons (⟨_, _, rfl, rfl, rfl, rfl, fun a w hR hf => .inr ⟨wanted_no hf rfl, rfl⟩⟩) (.cons (⟨_, _, rfl, rfl, rfl, rfl, fun a w hR hf => .inr ⟨wanted_no hf rfl, rfl⟩⟩) (.cons (⟨_, _, rfl, rfl, rfl, rfl, fun a w hR hf => .inr ⟨wanted_no hf rfl, rfl⟩⟩) (.cons (⟨_, _, rfl, rfl, rfl, rfl, fun a w hR hf => .inr ⟨wanted_no hf rfl, rfl⟩⟩) (.cons (⟨_, _, rfl, rfl, rfl, rfl, fun a w hR hf => .inr ⟨wanted_no hf rfl, rfl⟩⟩) (.cons (⟨_, _, rfl, rfl, rfl, rfl, fun a w hR hf => .inr ⟨wanted_no hf rfl, rfl⟩⟩) (.cons (⟨_, _, rfl, rfl, rfl, rfl, fun a w hR hf => .inr ⟨wanted_no hf rfl, rfl⟩⟩) (.cons (⟨_, _, rfl, rfl, rfl, rfl, fun a w hR hf => .inl ⟨wanted_yes hf rfl, ex_pickF hf rfl rfl⟩⟩) (.nil)))))))))))))))))))))))))))))))))))) (fun K42 hK42 => ?_)
                      refine RW.zero (by kernel_rfl) (by kernel_rfl) [(0, v0), (3, .int .i64 y12), (75, .bool false)] ⟨rfl, rfl, rfl, trivial⟩ (fun a w hR hs hf => ?_)
                      refine hK42 _ _ ?_
                      replace hs := hs.keep (.d .nil)
                      have e34 := some_eq H; subst e34
                      exact hJ34 _ _ ⟨hf.sub ⟨rfl, rfl, rfl, trivial⟩, hs⟩
                  · obtain ⟨hf, hs⟩ := hJ
                    replace H := HO34
                    clear HO34
                    refine itt H (fun hc43 H => ?_) (fun hc43 H => ?_)
                    · -- x34 = true
                      replace hf := hf.castB (t := 75) rfl hc43
                      refine cond_T hf rfl ?_
                      refine seq_reg (fun K44 hK44 => ?_)
                      refine stq hf rfl rfl rfl (ex_assign hf rfl) (fun a hf => ?_)
                      refine hK44 _ _ ?_
                      refine wp_ret ?_
                      refine hR19 _ _ ?_
                      refine hR18 _ _ ?_
                      refine hR14 _ _ ?_
                      refine hR11 _ _ ?_
                      have e9 := some_eq H; subst e9; replace H := el_rt HO9
                      refine hR9 _ _ ?_
                      have eR := some_eq H; subst eR
                      exact ret1 Try.results29 hf rfl ⟨_, rfl, ⟨rfl, hs⟩⟩
                    · -- not x34 = true
                      replace hf := hf.castB (t := 75) rfl (bool_f hc43)
                      refine cond_F hf rfl ?_
                      refine wp_skip ?_
                      refine hN19 _ _ ?_
                      refine hN18 _ _ ?_
                      refine region_k (fun K45 hK45 => ?_)
                      refine stq hf rfl rfl rfl (ex_move hf rfl) (fun a hf => ?_)
                      refine stq hf rfl rfl rfl (ex_add hf rfl rfl) (fun a hf => ?_)
                      refine stq hf rfl rfl rfl (ex_assign hf rfl) (fun a hf => ?_)
                      refine hK45 _ _ ?_
                      exact hL14 k14 _ _ (Nat.lt_succ_self _) ⟨(IntKind.i64.wrap (y12 + 1)), hf.sub ⟨rfl, rfl, trivial⟩, hs, H⟩
            · -- not y12 < (a0.length : Int)
              replace hf := hf.castB (t := 16) rfl (dec_f hc17)
              refine cond_F hf rfl ?_
              refine wp_exit ?_
              refine hX15 0 _ _ ?_
              refine hX14 0 _ _ ?_
              refine hX11 _ _ ?_
              have e9 := some_eq H; subst e9
              exact hJ9 _ _ ⟨_, rfl, hf.sub trivial, hs⟩
      · obtain ⟨x9s, rfl, hf, hs⟩ := hJ
        replace H := el_go HO9
        clear HO9
        refine seq_reg (fun K46 hK46 => ?_)
        refine stq hf rfl rfl rfl (ex_assign hf rfl) (fun a hf => ?_)
        refine hK46 _ _ ?_
        refine wp_ret ?_
        have eR := some_eq H; subst eR
        exact ret1 Try.results29 hf rfl ⟨_, rfl, ⟨rfl, hs⟩⟩

set_option maxRecDepth 100000 in
theorem ref39_Throttle.calls {M : Nat → Prop} {w0 : World} (k : Nat) (a0 : (List OperatingPoint)) (a1 : Int) (v0 : Value) {r : Int × Int} (hs : St M w0 w0 []) (hr : Sr M w0 [rsl K_api_OperatingPoint v0 a0])
    (h : ref39_Throttle.f k a0 a1 = some r) : Calls Try.prog 12 #[v0, .int .u64 a1] w0 fun e w => ∃ v, e = .returned v ∧ (.tuple #[.int .i64 r.1, .int .i64 r.2] = v ∧ St M w0 w []) := by
  have H := (ref39_Throttle.f.eq_1 ..).symm.trans h
  clear h
  refine enter Try.func12 rfl Try.ntmps12 rfl (fun a hf => ?_)
  refine seq_reg (fun K1 hK1 => ?_)
  refine stq hf rfl rfl rfl (ex_assign hf rfl) (fun a hf => ?_)
  refine stq hf rfl rfl rfl (ex_assign hf rfl) (fun a hf => ?_)
  refine hK1 _ _ ?_
  refine seq_n (fun Q2 hN2 hR2 hX2 => ?_)
  refine bnd H (fun s3 hs3 H => ?_)
  refine seq_reg (fun K4 hK4 => ?_)
  refine stq hf rfl rfl rfl (ex_move hf rfl) (fun a hf => ?_)
  refine stepF hf rfl rfl rfl (ex_call cf_29 hf rfl) (ref36_Check.calls k a0 v0 (hs.enter .nil) (Sr.old hr hs .nil (i := 0) rfl (fun _ h => h) (fun _ h => h) (Sr.nil _ _)) hs3) (fun v w hR a hf => ?_)
  obtain ⟨rfl, hs'⟩ := hR
  replace hs := hs.step .nil hs'
  clear hs'
  refine stq hf rfl rfl rfl (ex_assign hf rfl) (fun a hf => ?_)
  refine hK4 _ _ ?_
  refine seq_reg (fun K5 hK5 => ?_)
  refine stq hf rfl rfl rfl (ex_move hf rfl) (fun a hf => ?_)
  refine stq hf rfl rfl rfl (ex_neq hf rfl rfl) (fun a hf => ?_)
  refine hK5 _ _ ?_
  refine itt H (fun hc6 H => ?_) (fun hc6 H => ?_)
  · -- s3 = 0
    replace hf := hf.castB (t := 11) rfl (ndec_f hc6)
    refine cond_F hf rfl ?_
    refine wp_skip ?_
    refine hN2 _ _ ?_
    refine bnd H (fun x7 H7 HO7 => ?_)
    clear H
    refine seq_cut (fun a w => ∃ (x7s : Unit), x7 = .go x7s ∧ Fr a 28 [] ∧ St M w0 w []) (fun Q7 hJ7 hR7 hX7 => ?_) (fun a w hJ => ?_)
    · replace H := H7
      refine seq_reg (fun K8 hK8 => ?_)
      refine stq hf rfl rfl rfl (ex_move hf rfl) (fun a hf => ?_)
      refine stq hf rfl rfl rfl (ex_lenS Try.underlying22 (rsl_isSl (hr.now hs (i := 0) rfl)) hf rfl) (fun a hf => ?_)
      refine stq hf rfl rfl rfl (ex_sub hf rfl rfl) (fun a hf => ?_)
      refine stq hf rfl rfl rfl (ex_assign hf rfl) (fun a hf => ?_)
      refine hK8 _ _ ?_
      refine block_k (fun Q9 hN9 hR9 hX9 hY9 => ?_)
      refine loop_k (fun n a w => ∃ (y10 : Int), Fr a 28 [(0, v0), (1, .int .u64 a1), (7, .int .i64 y10)] ∧ St M w0 w [] ∧ ref39_Throttle.l1 n a0 a1 y10 = some x7) k ?_ (fun n12 a w hI Q12 hL12 hR12 hX12 => ?_)
      · -- at the start
        exact ⟨(IntKind.i64.wrap ((a0.length : Int) - 1)), hf.sub ⟨rfl, rfl, rfl, trivial⟩, hs, H⟩
      · obtain ⟨y10, hf, hs, H⟩ := hI
        cases n12 with
        | zero => exact absurd H (by rw [ref39_Throttle.l1.eq_1]; intro h; cases h)
        | succ k12 =>
          replace H := (ref39_Throttle.l1.eq_2 ..).symm.trans H
          refine seq_n (fun Q13 hN13 hR13 hX13 => ?_)
          refine seq_reg (fun K14 hK14 => ?_)
          refine stq hf rfl rfl rfl (ex_move hf rfl) (fun a hf => ?_)
          refine stq hf rfl rfl rfl (ex_geq hf rfl rfl) (fun a hf => ?_)
          refine hK14 _ _ ?_
          refine itt H (fun hc15 H => ?_) (fun hc15 H => ?_)
          · -- 0 ≤ y10
            replace hf := hf.castB (t := 17) rfl (dec_t hc15)
            refine cond_T hf rfl ?_
            refine wp_skip ?_
            refine hN13 _ _ ?_
            refine seq_n (fun Q16 hN16 hR16 hX16 => ?_)
            refine block_k (fun Q17 hN17 hR17 hX17 hY17 => ?_)
            refine ck_some H (fun hc18 H => ?_)
            refine seq_reg (fun K19 hK19 => ?_)
            refine stq hf rfl rfl rfl (ex_move hf rfl) (fun a hf => ?_)
            refine stq hf rfl rfl rfl (ex_move hf rfl) (fun a hf => ?_)
            refine stq hf rfl rfl rfl (ex_indexAddr sa_22 (rsl_isSl (hr.now hs (i := 0) rfl)) hc18.1 hc18.2 hf rfl rfl) (fun a hf => ?_)
            refine stq hf rfl rfl rfl (ex_fieldAddrS fa_30_2 rfl hf rfl) (fun a hf => ?_)
            refine stq hf rfl rfl rfl (ex_load sc_23 hf rfl (el_cell (K := K_api_OperatingPoint) (f := 2) (rsl_rd (hr.now hs (i := 0) rfl)) hc18.1 hc18.2 rfl)) (fun a hf => ?_)
            refine stq hf rfl rfl rfl (ex_move hf rfl) (fun a hf => ?_)
            refine stq hf rfl rfl rfl (ex_leq hf rfl rfl) (fun a hf => ?_)
            refine hK19 _ _ ?_
            refine itt H (fun hc20 H => ?_) (fun hc20 H => ?_)
            · -- ((gd OperatingPoint.zero a0 y10).Power) ≤ a1
              replace hf := hf.castB (t := 26) rfl (dec_t hc20)
              refine cond_T hf rfl ?_
              refine seq_reg (fun K21 hK21 => ?_)
              refine stq hf rfl rfl rfl (ex_move hf rfl) (fun a hf => ?_)
              refine stq hf rfl rfl rfl (ex_assign hf rfl) (fun a hf => ?_)
              refine stq hf rfl rfl rfl (ex_assign hf rfl) (fun a hf => ?_)
              refine hK21 _ _ ?_
              refine wp_ret ?_
              refine hR17 _ _ ?_
              refine hR16 _ _ ?_
              refine hR12 _ _ ?_
              refine hR9 _ _ ?_
              have e7 := some_eq H; subst e7; replace H := el_rt HO7
              refine hR7 _ _ ?_
              have eR := some_eq H; subst eR
              exact ret2 Try.results12 hf rfl rfl ⟨_, rfl, ⟨rfl, hs⟩⟩
            · -- not ((gd OperatingPoint.zero a0 y10).Power) ≤ a1
              replace hf := hf.castB (t := 26) rfl (dec_f hc20)
              refine cond_F hf rfl ?_
              refine wp_skip ?_
              refine hN17 _ _ ?_
              refine hN16 _ _ ?_
              refine region_k (fun K22 hK22 => ?_)
              refine stq hf rfl rfl rfl (ex_move hf rfl) (fun a hf => ?_)
              refine stq hf rfl rfl rfl (ex_sub hf rfl rfl) (fun a hf => ?_)
              refine stq hf rfl rfl rfl (ex_assign hf rfl) (fun a hf => ?_)
              refine hK22 _ _ ?_
              exact hL12 k12 _ _ (Nat.lt_succ_self _) ⟨(IntKind.i64.wrap (y10 - 1)), hf.sub ⟨rfl, rfl, rfl, trivial⟩, hs, H⟩
          · -- not 0 ≤ y10
            replace hf := hf.castB (t := 17) rfl (dec_f hc15)
            refine cond_F hf rfl ?_
            refine wp_exit ?_
            refine hX13 0 _ _ ?_
            refine hX12 0 _ _ ?_
            refine hX9 _ _ ?_
            have e7 := some_eq H; subst e7
            exact hJ7 _ _ ⟨_, rfl, hf.sub trivial, hs⟩
    · obtain ⟨x7s, rfl, hf, hs⟩ := hJ
      replace H := el_go HO7
      clear HO7
      refine seq_reg (fun K23 hK23 => ?_)
      refine stq hf rfl rfl rfl (ex_assign hf rfl) (fun a hf => ?_)
      refine stq hf rfl rfl rfl (ex_assign hf rfl) (fun a hf => ?_)
      refine hK23 _ _ ?_
      refine wp_ret ?_
      have eR := some_eq H; subst eR
      exact ret2 Try.results12 hf rfl rfl ⟨_, rfl, ⟨rfl, hs⟩⟩
  · -- not s3 = 0
    replace hf := hf.castB (t := 11) rfl (ndec_t hc6)
    refine cond_T hf rfl ?_
    refine seq_reg (fun K24 hK24 => ?_)
    refine stq hf rfl rfl rfl (ex_move hf rfl) (fun a hf => ?_)
    refine stq hf rfl rfl rfl (ex_assign hf rfl) (fun a hf => ?_)
    refine stq hf rfl rfl rfl (ex_assign hf rfl) (fun a hf => ?_)
    refine hK24 _ _ ?_
    refine wp_ret ?_
    refine hR2 _ _ ?_
    have eR := some_eq H; subst eR
    exact ret2 Try.results12 hf rfl rfl ⟨_, rfl, ⟨rfl, hs⟩⟩

set_option maxRecDepth 100000 in
theorem help_Mod.calls {M : Nat → Prop} {w0 : World} (k : Nat) (a0 : Int) (a1 : Int) {r : Int} (hs : St M w0 w0 []) (hr : Sr M w0 [])
    (h : help_Mod.f k a0 a1 = some r) : Calls Try.prog 18 #[.int .i64 a0, .int .i64 a1] w0 fun e w => ∃ v, e = .returned v ∧ (.int .i64 r = v ∧ St M w0 w []) := by
  have H := (help_Mod.f.eq_1 ..).symm.trans h
  clear h
  refine enter Try.func18 rfl Try.ntmps18 rfl (fun a hf => ?_)
  refine seq_reg (fun K1 hK1 => ?_)
  refine stq hf rfl rfl rfl (ex_assign hf rfl) (fun a hf => ?_)
  refine hK1 _ _ ?_
  refine ck_some H (fun hc2 H => ?_)
  refine seq_reg (fun K3 hK3 => ?_)
  refine stq hf rfl rfl rfl (ex_move hf rfl) (fun a hf => ?_)
  refine stq hf rfl rfl rfl (ex_conv Try.underlying3 Try.underlying65 hf rfl) (fun a hf => ?_)
  refine stq hf rfl rfl rfl (ex_move hf rfl) (fun a hf => ?_)
  refine stq hf rfl rfl rfl (ex_conv Try.underlying3 Try.underlying65 hf rfl) (fun a hf => ?_)
  refine stq hf rfl rfl rfl (ex_rem hf rfl rfl hc2) (fun a hf => ?_)
  refine stq hf rfl rfl rfl (ex_conv Try.underlying65 Try.underlying3 hf rfl) (fun a hf => ?_)
  refine stq hf rfl rfl rfl (ex_assign hf rfl) (fun a hf => ?_)
  refine hK3 _ _ ?_
  refine wp_ret ?_
  have eR := some_eq H; subst eR
  exact ret1 Try.results18 hf rfl ⟨_, rfl, ⟨rfl, hs⟩⟩

end Go.Proofs.Ytannodkbindlbaa.X
