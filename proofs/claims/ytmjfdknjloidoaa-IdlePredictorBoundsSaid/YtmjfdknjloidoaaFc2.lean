/- Each function of the machine comes to what its pure function says. -/
import Derived.Test.YtmjfdknjloidoaaFb
namespace Go.Proofs.Ytmjfdknjloidoaa.X
open Go Go.RowKit Go.Sx
set_option linter.unusedVariables false

set_option maxRecDepth 100000 in
theorem ref37_Check.calls {M : Nat → Prop} {w0 : World} (k : Nat) (a0 : (List IdleState)) (v0 : Value) {r : Int} (hs : St M w0 w0 []) (hr : Sr M w0 [rsl K_api_IdleState v0 a0])
    (h : ref37_Check.f k a0 = some r) : Calls Try.prog 19 #[v0] w0 fun e w => ∃ v, e = .returned v ∧ (.int .i64 r = v ∧ St M w0 w []) := by
  have H := (ref37_Check.f.eq_1 ..).symm.trans h
  clear h
  refine enter Try.func19 rfl Try.ntmps19 rfl (fun a hf => ?_)
  refine seq_reg (fun K1 hK1 => ?_)
  refine stq hf rfl rfl rfl (ex_assign hf rfl) (fun a hf => ?_)
  refine hK1 _ _ ?_
  refine seq_n (fun Q2 hN2 hR2 hX2 => ?_)
  refine bnd H (fun x3 H3 HO3 => ?_)
  clear H
  refine seq_cut (fun a w => Fr a 85 [(0, v0), (26, .bool x3)] ∧ St M w0 w []) (fun Q3 hJ3 hR3 hX3 => ?_) (fun a w hJ => ?_)
  · replace H := H3
    refine itt H (fun hc4 H => ?_) (fun hc4 H => ?_)
    · -- (a0.length : Int) < 1
      refine region_k (fun K5 hK5 => ?_)
      refine stq hf rfl rfl rfl (ex_move hf rfl) (fun a hf => ?_)
      refine stq hf rfl rfl rfl (ex_lenS Try.underlying22 (rsl_isSl (hr.now hs (i := 0) rfl)) hf rfl) (fun a hf => ?_)
      refine stq hf rfl rfl rfl (ex_lss hf rfl rfl) (fun a hf => ?_)
      refine stq hf rfl rfl rfl (ex_move hf rfl) (fun a hf => ?_)
      replace hf := hf.castB (t := 7) rfl (dec_t hc4)
      replace hf := hf.castB (t := 8) rfl (dec_t hc4)
      refine stepN hf rfl rfl rfl (fun a hf => ?_)
      refine stepN hf rfl rfl rfl (fun a hf => ?_)
      refine stepN hf rfl rfl rfl (fun a hf => ?_)
      refine stq hf rfl rfl rfl (ex_pickT hf rfl rfl) (fun a hf => ?_)
      refine stq hf rfl rfl rfl (ex_move hf rfl) (fun a hf => ?_)
      refine stepN hf rfl rfl rfl (fun a hf => ?_)
      refine stepN hf rfl rfl rfl (fun a hf => ?_)
      refine stepN hf rfl rfl rfl (fun a hf => ?_)
      refine stepN hf rfl rfl rfl (fun a hf => ?_)
      refine stepN hf rfl rfl rfl (fun a hf => ?_)
      refine stq hf rfl rfl rfl (ex_pickT hf rfl rfl) (fun a hf => ?_)
      refine stq hf rfl rfl rfl (ex_move hf rfl) (fun a hf => ?_)
      refine stepN hf rfl rfl rfl (fun a hf => ?_)
      refine stepN hf rfl rfl rfl (fun a hf => ?_)
      refine stepN hf rfl rfl rfl (fun a hf => ?_)
      refine stepN hf rfl rfl rfl (fun a hf => ?_)
      refine stepN hf rfl rfl rfl (fun a hf => ?_)
      refine stq hf rfl rfl rfl (ex_pickT hf rfl rfl) (fun a hf => ?_)
      refine hK5 _ _ ?_
      have e3 := some_eq H; subst e3
      exact hJ3 _ _ ⟨hf.sub ⟨rfl, rfl, trivial⟩, hs⟩
    · -- not (a0.length : Int) < 1
      refine itt H (fun hc6 H => ?_) (fun hc6 H => ?_)
      · -- 10 < (a0.length : Int)
        refine region_k (fun K7 hK7 => ?_)
        refine stq hf rfl rfl rfl (ex_move hf rfl) (fun a hf => ?_)
        refine stq hf rfl rfl rfl (ex_lenS Try.underlying22 (rsl_isSl (hr.now hs (i := 0) rfl)) hf rfl) (fun a hf => ?_)
        refine stq hf rfl rfl rfl (ex_lss hf rfl rfl) (fun a hf => ?_)
        refine stq hf rfl rfl rfl (ex_move hf rfl) (fun a hf => ?_)
        replace hf := hf.castB (t := 7) rfl (dec_f hc4)
        replace hf := hf.castB (t := 8) rfl (dec_f hc4)
        refine stq hf rfl rfl rfl (ex_move hf rfl) (fun a hf => ?_)
        refine stq hf rfl rfl rfl (ex_lenS Try.underlying22 (rsl_isSl (hr.now hs (i := 0) rfl)) hf rfl) (fun a hf => ?_)
        refine stq hf rfl rfl rfl (ex_gtr hf rfl rfl) (fun a hf => ?_)
        refine stq hf rfl rfl rfl (ex_pickF hf rfl rfl) (fun a hf => ?_)
        refine stq hf rfl rfl rfl (ex_move hf rfl) (fun a hf => ?_)
        replace hf := hf.castB (t := 11) rfl (dec_t hc6)
        replace hf := hf.castB (t := 12) rfl (dec_t hc6)
        replace hf := hf.castB (t := 13) rfl (dec_t hc6)
        refine stepN hf rfl rfl rfl (fun a hf => ?_)
        refine stepN hf rfl rfl rfl (fun a hf => ?_)
        refine stepN hf rfl rfl rfl (fun a hf => ?_)
        refine stepN hf rfl rfl rfl (fun a hf => ?_)
        refine stepN hf rfl rfl rfl (fun a hf => ?_)
        refine stq hf rfl rfl rfl (ex_pickT hf rfl rfl) (fun a hf => ?_)
        refine stq hf rfl rfl rfl (ex_move hf rfl) (fun a hf => ?_)
        refine stepN hf rfl rfl rfl (fun a hf => ?_)
        refine stepN hf rfl rfl rfl (fun a hf => ?_)
        refine stepN hf rfl rfl rfl (fun a hf => ?_)
        refine stepN hf rfl rfl rfl (fun a hf => ?_)
        refine stepN hf rfl rfl rfl (fun a hf => ?_)
        refine stq hf rfl rfl rfl (ex_pickT hf rfl rfl) (fun a hf => ?_)
        refine hK7 _ _ ?_
        have e3 := some_eq H; subst e3
        exact hJ3 _ _ ⟨hf.sub ⟨rfl, rfl, trivial⟩, hs⟩
      · -- not 10 < (a0.length : Int)
        refine ck_some H (fun hc8 H => ?_)
        refine itt H (fun hc9 H => ?_) (fun hc9 H => ?_)
        · -- ((gd IdleState.zero a0 0).Latency) = 0
          refine region_k (fun K10 hK10 => ?_)
          refine stq hf rfl rfl rfl (ex_move hf rfl) (fun a hf => ?_)
          refine stq hf rfl rfl rfl (ex_lenS Try.underlying22 (rsl_isSl (hr.now hs (i := 0) rfl)) hf rfl) (fun a hf => ?_)
          refine stq hf rfl rfl rfl (ex_lss hf rfl rfl) (fun a hf => ?_)
          refine stq hf rfl rfl rfl (ex_move hf rfl) (fun a hf => ?_)
          replace hf := hf.castB (t := 7) rfl (dec_f hc4)
          replace hf := hf.castB (t := 8) rfl (dec_f hc4)
          refine stq hf rfl rfl rfl (ex_move hf rfl) (fun a hf => ?_)
          refine stq hf rfl rfl rfl (ex_lenS Try.underlying22 (rsl_isSl (hr.now hs (i := 0) rfl)) hf rfl) (fun a hf => ?_)
          refine stq hf rfl rfl rfl (ex_gtr hf rfl rfl) (fun a hf => ?_)
          refine stq hf rfl rfl rfl (ex_pickF hf rfl rfl) (fun a hf => ?_)
          refine stq hf rfl rfl rfl (ex_move hf rfl) (fun a hf => ?_)
          replace hf := hf.castB (t := 11) rfl (dec_f hc6)
          replace hf := hf.castB (t := 12) rfl (dec_f hc6)
          replace hf := hf.castB (t := 13) rfl (dec_f hc6)
          refine stq hf rfl rfl rfl (ex_move hf rfl) (fun a hf => ?_)
          refine stq hf rfl rfl rfl (ex_indexAddr sa_22 (rsl_isSl (hr.now hs (i := 0) rfl)) hc8.1 hc8.2 hf rfl rfl) (fun a hf => ?_)
          refine stq hf rfl rfl rfl (ex_fieldAddrS fa_25_0 rfl hf rfl) (fun a hf => ?_)
          refine stq hf rfl rfl rfl (ex_load sc_23 hf rfl (el_cell (K := K_api_IdleState) (f := 0) (rsl_rd (hr.now hs (i := 0) rfl)) hc8.1 hc8.2 rfl)) (fun a hf => ?_)
          refine stq hf rfl rfl rfl (ex_neq hf rfl rfl) (fun a hf => ?_)
          refine stq hf rfl rfl rfl (ex_pickF hf rfl rfl) (fun a hf => ?_)
          refine stq hf rfl rfl rfl (ex_move hf rfl) (fun a hf => ?_)
          replace hf := hf.castB (t := 18) rfl (ndec_f hc9)
          replace hf := hf.castB (t := 19) rfl (ndec_f hc9)
          replace hf := hf.castB (t := 20) rfl (ndec_f hc9)
          refine stq hf rfl rfl rfl (ex_move hf rfl) (fun a hf => ?_)
          refine stq hf rfl rfl rfl (ex_indexAddr sa_22 (rsl_isSl (hr.now hs (i := 0) rfl)) hc8.1 hc8.2 hf rfl rfl) (fun a hf => ?_)
          refine stq hf rfl rfl rfl (ex_fieldAddrS fa_25_1 rfl hf rfl) (fun a hf => ?_)
          refine stq hf rfl rfl rfl (ex_load sc_23 hf rfl (el_cell (K := K_api_IdleState) (f := 1) (rsl_rd (hr.now hs (i := 0) rfl)) hc8.1 hc8.2 rfl)) (fun a hf => ?_)
          refine stq hf rfl rfl rfl (ex_neq hf rfl rfl) (fun a hf => ?_)
          refine stq hf rfl rfl rfl (ex_pickF hf rfl rfl) (fun a hf => ?_)
          refine hK10 _ _ ?_
          have e3 := some_eq H; subst e3
          exact hJ3 _ _ ⟨hf.sub ⟨rfl, rfl, trivial⟩, hs⟩
        · -- not ((gd IdleState.zero a0 0).Latency) = 0
          refine region_k (fun K11 hK11 => ?_)
          refine stq hf rfl rfl rfl (ex_move hf rfl) (fun a hf => ?_)
          refine stq hf rfl rfl rfl (ex_lenS Try.underlying22 (rsl_isSl (hr.now hs (i := 0) rfl)) hf rfl) (fun a hf => ?_)
          refine stq hf rfl rfl rfl (ex_lss hf rfl rfl) (fun a hf => ?_)
          refine stq hf rfl rfl rfl (ex_move hf rfl) (fun a hf => ?_)
          replace hf := hf.castB (t := 7) rfl (dec_f hc4)
          replace hf := hf.castB (t := 8) rfl (dec_f hc4)
          refine stq hf rfl rfl rfl (ex_move hf rfl) (fun a hf => ?_)
          refine stq hf rfl rfl rfl (ex_lenS Try.underlying22 (rsl_isSl (hr.now hs (i := 0) rfl)) hf rfl) (fun a hf => ?_)
          refine stq hf rfl rfl rfl (ex_gtr hf rfl rfl) (fun a hf => ?_)
          refine stq hf rfl rfl rfl (ex_pickF hf rfl rfl) (fun a hf => ?_)
          refine stq hf rfl rfl rfl (ex_move hf rfl) (fun a hf => ?_)
          replace hf := hf.castB (t := 11) rfl (dec_f hc6)
          replace hf := hf.castB (t := 12) rfl (dec_f hc6)
          replace hf := hf.castB (t := 13) rfl (dec_f hc6)
          refine stq hf rfl rfl rfl (ex_move hf rfl) (fun a hf => ?_)
          refine stq hf rfl rfl rfl (ex_indexAddr sa_22 (rsl_isSl (hr.now hs (i := 0) rfl)) hc8.1 hc8.2 hf rfl rfl) (fun a hf => ?_)
          refine stq hf rfl rfl rfl (ex_fieldAddrS fa_25_0 rfl hf rfl) (fun a hf => ?_)
          refine stq hf rfl rfl rfl (ex_load sc_23 hf rfl (el_cell (K := K_api_IdleState) (f := 0) (rsl_rd (hr.now hs (i := 0) rfl)) hc8.1 hc8.2 rfl)) (fun a hf => ?_)
          refine stq hf rfl rfl rfl (ex_neq hf rfl rfl) (fun a hf => ?_)
          refine stq hf rfl rfl rfl (ex_pickF hf rfl rfl) (fun a hf => ?_)
          refine stq hf rfl rfl rfl (ex_move hf rfl) (fun a hf => ?_)
          replace hf := hf.castB (t := 18) rfl (ndec_t hc9)
          replace hf := hf.castB (t := 19) rfl (ndec_t hc9)
          replace hf := hf.castB (t := 20) rfl (ndec_t hc9)
          refine stepN hf rfl rfl rfl (fun a hf => ?_)
          refine stepN hf rfl rfl rfl (fun a hf => ?_)
          refine stepN hf rfl rfl rfl (fun a hf => ?_)
          refine stepN hf rfl rfl rfl (fun a hf => ?_)
          refine stepN hf rfl rfl rfl (fun a hf => ?_)
          refine stq hf rfl rfl rfl (ex_pickT hf rfl rfl) (fun a hf => ?_)
          refine hK11 _ _ ?_
          have e3 := some_eq H; subst e3
          exact hJ3 _ _ ⟨hf.sub ⟨rfl, rfl, trivial⟩, hs⟩
  · obtain ⟨hf, hs⟩ := hJ
    replace H := HO3
    clear HO3
    refine itt H (fun hc12 H => ?_) (fun hc12 H => ?_)
    · -- x3 = true
      replace hf := hf.castB (t := 26) rfl hc12
      refine cond_T hf rfl ?_
      refine seq_reg (fun K13 hK13 => ?_)
      refine stq hf rfl rfl rfl (ex_assign hf rfl) (fun a hf => ?_)
      refine hK13 _ _ ?_
      refine wp_ret ?_
      refine hR2 _ _ ?_
      have eR := some_eq H; subst eR
      exact ret1 Try.results19 hf rfl ⟨_, rfl, ⟨rfl, hs⟩⟩
    · -- not x3 = true
      replace hf := hf.castB (t := 26) rfl (bool_f hc12)
      refine cond_F hf rfl ?_
      refine wp_skip ?_
      refine hN2 _ _ ?_
      refine bnd H (fun x14 H14 HO14 => ?_)
      clear H
      refine seq_cut (fun a w => ∃ (x14s : Unit), x14 = .go x14s ∧ Fr a 85 [] ∧ St M w0 w []) (fun Q14 hJ14 hR14 hX14 => ?_) (fun a w hJ => ?_)
      · replace H := H14
        refine seq_reg (fun K15 hK15 => ?_)
        refine stq hf rfl rfl rfl (ex_assign hf rfl) (fun a hf => ?_)
        refine hK15 _ _ ?_
        refine block_k (fun Q16 hN16 hR16 hX16 hY16 => ?_)
        refine loop_k (fun n a w => ∃ (y17 : Int), Fr a 85 [(0, v0), (3, .int .i64 y17)] ∧ St M w0 w [] ∧ ref37_Check.l1 n a0 y17 = some x14) k ?_ (fun n19 a w hI Q19 hL19 hR19 hX19 => ?_)
        · -- at the start
          exact ⟨0, hf.sub ⟨rfl, rfl, trivial⟩, hs, H⟩
        · obtain ⟨y17, hf, hs, H⟩ := hI
          cases n19 with
          | zero => exact absurd H (by rw [ref37_Check.l1.eq_1]; intro h; cases h)
          | succ k19 =>
            replace H := (ref37_Check.l1.eq_2 ..).symm.trans H
            refine seq_n (fun Q20 hN20 hR20 hX20 => ?_)
            refine seq_reg (fun K21 hK21 => ?_)
            refine stq hf rfl rfl rfl (ex_move hf rfl) (fun a hf => ?_)
            refine stq hf rfl rfl rfl (ex_move hf rfl) (fun a hf => ?_)
            refine stq hf rfl rfl rfl (ex_lenS Try.underlying22 (rsl_isSl (hr.now hs (i := 0) rfl)) hf rfl) (fun a hf => ?_)
            refine stq hf rfl rfl rfl (ex_lss hf rfl rfl) (fun a hf => ?_)
            refine hK21 _ _ ?_
            refine itt H (fun hc22 H => ?_) (fun hc22 H => ?_)
            · -- y17 < (a0.length : Int)
              replace hf := hf.castB (t := 30) rfl (dec_t hc22)
              refine cond_T hf rfl ?_
              refine wp_skip ?_
              refine hN20 _ _ ?_
              refine seq_n (fun Q23 hN23 hR23 hX23 => ?_)
              refine block_k (fun Q24 hN24 hR24 hX24 hY24 => ?_)
              refine ck_some H (fun hc25 H => ?_)
              refine seq_reg (fun K27 hK27 => ?_)
              refine stq hf rfl rfl rfl (ex_move hf rfl) (fun a hf => ?_)
              refine stq hf rfl rfl rfl (ex_move hf rfl) (fun a hf => ?_)
              refine stq hf rfl rfl rfl (ex_indexAddr sa_22 (rsl_isSl (hr.now hs (i := 0) rfl)) hc25.1 hc25.2 hf rfl rfl) (fun a hf => ?_)
              refine stq hf rfl rfl rfl (ex_loadA (cs := [.int .u64 ((gd IdleState.zero a0 y17).Latency), .int .u64 ((gd IdleState.zero a0 y17).Residency), .int .u64 ((gd IdleState.zero a0 y17).Power)]) ag_25 hf rfl (el_cells (K := K_api_IdleState) (rsl_rd (hr.now hs (i := 0) rfl)) hc25.1 hc25.2 rfl)) (fun a hf => ?_)
              refine stepV hf rfl rfl rfl (er_alloc hs ti_25 (cs := [.int .u64 0, .int .u64 0, .int .u64 0]) rfl) (fun v w hR a hf => ?_)
              obtain ⟨b26, rfl, hs⟩ := hR
              refine stepS hf rfl rfl (er_storeAB (vs := [.int .u64 ((gd IdleState.zero a0 y17).Latency), .int .u64 ((gd IdleState.zero a0 y17).Residency), .int .u64 ((gd IdleState.zero a0 y17).Power)]) (cs' := [.int .u64 ((gd IdleState.zero a0 y17).Latency), .int .u64 ((gd IdleState.zero a0 y17).Residency), .int .u64 ((gd IdleState.zero a0 y17).Power)]) hs (.c .nil) sz_25 hf rfl rfl (all1 rfl (all1 rfl (all1 rfl (all1_nil)))) rfl rfl) (fun w hs => ?_)
              refine hK27 _ _ ?_
              refine seq_n (fun Q28 hN28 hR28 hX28 => ?_)
              refine bnd H (fun x29 H29 HO29 => ?_)
              clear H
              refine seq_cut (fun a w => Fr a 85 [(0, v0), (3, .int .i64 y17), (4, .pointer (some ⟨b26, 0, none⟩)), (49, .bool x29)] ∧ St M w0 w [bx b26 25 [.int .u64 ((gd IdleState.zero a0 y17).Latency), .int .u64 ((gd IdleState.zero a0 y17).Residency), .int .u64 ((gd IdleState.zero a0 y17).Power)]]) (fun Q29 hJ29 hR29 hX29 => ?_) (fun a w hJ => ?_)
              · replace H := H29
                refine itt H (fun hc30 H => ?_) (fun hc30 H => ?_)
                · -- 1073741824 < ((gd IdleState.zero a0 y17).Latency)
                  refine region_k (fun K31 hK31 => ?_)
                  refine stq hf rfl rfl rfl (ex_fieldAddrB fa_25_0 rfl hf rfl) (fun a hf => ?_)
                  refine stq hf rfl rfl rfl (ex_load sc_23 hf rfl (bx_cell (hs.get (i := 0) rfl) _ rfl)) (fun a hf => ?_)
                  refine stq hf rfl rfl rfl (ex_gtr hf rfl rfl) (fun a hf => ?_)
                  refine stq hf rfl rfl rfl (ex_move hf rfl) (fun a hf => ?_)
                  replace hf := hf.castB (t := 39) rfl (dec_t hc30)
                  replace hf := hf.castB (t := 40) rfl (dec_t hc30)
                  refine stepN hf rfl rfl rfl (fun a hf => ?_)
                  refine stepN hf rfl rfl rfl (fun a hf => ?_)
                  refine stepN hf rfl rfl rfl (fun a hf => ?_)
                  refine stq hf rfl rfl rfl (ex_pickT hf rfl rfl) (fun a hf => ?_)
                  refine stq hf rfl rfl rfl (ex_move hf rfl) (fun a hf => ?_)
                  refine stepN hf rfl rfl rfl (fun a hf => ?_)
                  refine stepN hf rfl rfl rfl (fun a hf => ?_)
                  refine stepN hf rfl rfl rfl (fun a hf => ?_)
                  refine stq hf rfl rfl rfl (ex_pickT hf rfl rfl) (fun a hf => ?_)
                  refine hK31 _ _ ?_
                  have e29 := some_eq H; subst e29
                  exact hJ29 _ _ ⟨hf.sub ⟨rfl, rfl, rfl, rfl, trivial⟩, hs⟩
                · -- not 1073741824 < ((gd IdleState.zero a0 y17).Latency)
                  refine itt H (fun hc32 H => ?_) (fun hc32 H => ?_)
                  · -- 1073741824 < ((gd IdleState.zero a0 y17).Residency)
                    refine region_k (fun K33 hK33 => ?_)
                    refine stq hf rfl rfl rfl (ex_fieldAddrB fa_25_0 rfl hf rfl) (fun a hf => ?_)
                    refine stq hf rfl rfl rfl (ex_load sc_23 hf rfl (bx_cell (hs.get (i := 0) rfl) _ rfl)) (fun a hf => ?_)
                    refine stq hf rfl rfl rfl (ex_gtr hf rfl rfl) (fun a hf => ?_)
                    refine stq hf rfl rfl rfl (ex_move hf rfl) (fun a hf => ?_)
                    replace hf := hf.castB (t := 39) rfl (dec_f hc30)
                    replace hf := hf.castB (t := 40) rfl (dec_f hc30)
                    refine stq hf rfl rfl rfl (ex_fieldAddrB fa_25_1 rfl hf rfl) (fun a hf => ?_)
                    refine stq hf rfl rfl rfl (ex_load sc_23 hf rfl (bx_cell (hs.get (i := 0) rfl) _ rfl)) (fun a hf => ?_)
                    refine stq hf rfl rfl rfl (ex_gtr hf rfl rfl) (fun a hf => ?_)
                    refine stq hf rfl rfl rfl (ex_pickF hf rfl rfl) (fun a hf => ?_)
                    refine stq hf rfl rfl rfl (ex_move hf rfl) (fun a hf => ?_)
                    replace hf := hf.castB (t := 43) rfl (dec_t hc32)
                    replace hf := hf.castB (t := 44) rfl (dec_t hc32)
                    replace hf := hf.castB (t := 45) rfl (dec_t hc32)
                    refine stepN hf rfl rfl rfl (fun a hf => ?_)
                    refine stepN hf rfl rfl rfl (fun a hf => ?_)
                    refine stepN hf rfl rfl rfl (fun a hf => ?_)
                    refine stq hf rfl rfl rfl (ex_pickT hf rfl rfl) (fun a hf => ?_)
                    refine hK33 _ _ ?_
                    have e29 := some_eq H; subst e29
                    exact hJ29 _ _ ⟨hf.sub ⟨rfl, rfl, rfl, rfl, trivial⟩, hs⟩
                  · -- not 1073741824 < ((gd IdleState.zero a0 y17).Residency)
                    refine region_k (fun K34 hK34 => ?_)
                    refine stq hf rfl rfl rfl (ex_fieldAddrB fa_25_0 rfl hf rfl) (fun a hf => ?_)
                    refine stq hf rfl rfl rfl (ex_load sc_23 hf rfl (bx_cell (hs.get (i := 0) rfl) _ rfl)) (fun a hf => ?_)
                    refine stq hf rfl rfl rfl (ex_gtr hf rfl rfl) (fun a hf => ?_)
                    refine stq hf rfl rfl rfl (ex_move hf rfl) (fun a hf => ?_)
                    replace hf := hf.castB (t := 39) rfl (dec_f hc30)
                    replace hf := hf.castB (t := 40) rfl (dec_f hc30)
                    refine stq hf rfl rfl rfl (ex_fieldAddrB fa_25_1 rfl hf rfl) (fun a hf => ?_)
                    refine stq hf rfl rfl rfl (ex_load sc_23 hf rfl (bx_cell (hs.get (i := 0) rfl) _ rfl)) (fun a hf => ?_)
                    refine stq hf rfl rfl rfl (ex_gtr hf rfl rfl) (fun a hf => ?_)
                    refine stq hf rfl rfl rfl (ex_pickF hf rfl rfl) (fun a hf => ?_)
                    refine stq hf rfl rfl rfl (ex_move hf rfl) (fun a hf => ?_)
                    replace hf := hf.castB (t := 43) rfl (dec_f hc32)
                    replace hf := hf.castB (t := 44) rfl (dec_f hc32)
                    replace hf := hf.castB (t := 45) rfl (dec_f hc32)
                    refine stq hf rfl rfl rfl (ex_fieldAddrB fa_25_2 rfl hf rfl) (fun a hf => ?_)
                    refine stq hf rfl rfl rfl (ex_load sc_23 hf rfl (bx_cell (hs.get (i := 0) rfl) _ rfl)) (fun a hf => ?_)
                    refine stq hf rfl rfl rfl (ex_gtr hf rfl rfl) (fun a hf => ?_)
                    refine stq hf rfl rfl rfl (ex_pickF hf rfl rfl) (fun a hf => ?_)
                    refine hK34 _ _ ?_
                    have e29 := some_eq H; subst e29
                    exact hJ29 _ _ ⟨hf.sub ⟨rfl, rfl, rfl, rfl, trivial⟩, hs⟩
              · obtain ⟨hf, hs⟩ := hJ
                replace H := HO29
                clear HO29
                refine itt H (fun hc35 H => ?_) (fun hc35 H => ?_)
                · -- x29 = true
                  replace hf := hf.castB (t := 49) rfl hc35
                  refine cond_T hf rfl ?_
                  refine seq_reg (fun K36 hK36 => ?_)
                  refine stq hf rfl rfl rfl (ex_assign hf rfl) (fun a hf => ?_)
                  refine hK36 _ _ ?_
                  refine wp_ret ?_
                  refine hR28 _ _ ?_
                  refine hR24 _ _ ?_
                  refine hR23 _ _ ?_
                  refine hR19 _ _ ?_
                  refine hR16 _ _ ?_
                  have e14 := some_eq H; subst e14; replace H := el_rt HO14
                  refine hR14 _ _ ?_
                  have eR := some_eq H; subst eR
                  replace hs := hs.keep (.d .nil)
                  exact ret1 Try.results19 hf rfl ⟨_, rfl, ⟨rfl, hs⟩⟩
                · -- not x29 = true
                  replace hf := hf.castB (t := 49) rfl (bool_f hc35)
                  refine cond_F hf rfl ?_
                  refine wp_skip ?_
                  refine hN28 _ _ ?_
                  refine bnd H (fun x37 H37 HO37 => ?_)
                  clear H
                  refine seq_cut (fun a w => Fr a 85 [(0, v0), (3, .int .i64 y17), (84, .bool x37)] ∧ St M w0 w []) (fun Q37 hJ37 hR37 hX37 => ?_) (fun a w hJ => ?_)
                  · replace H := H37
                    refine itt H (fun hc38 H => ?_) (fun hc38 H => ?_)
                    · -- 0 < y17
                      refine ck_some H (fun hc39 H => ?_)
                      refine itt H (fun hc40 H => ?_) (fun hc40 H => ?_)
                      · -- ((gd IdleState.zero a0 y17).Latency) ≤ ((gd IdleState.zero a
                        refine region_d fol 35 [(0, v0), (3, .int .i64 y17), (4, .pointer (some ⟨b26, 0, none⟩))] [(0, .int .i64 y17), (1, .bool true), (2, .bool true), (3, .pointer (some ⟨b26, 0, none⟩)), (4, .int .u64 ((gd IdleState.zero a0 y17).Latency)), (5, v0), (6, .int .i64 y17), (7, .int .i64 (IntKind.i64.wrap (y17 - 1))), (8, .pointer (some (sla v0 ((IntKind.i64.wrap (y17 - 1)).toNat * 3)))), (9, .pointer (some (sla v0 ((IntKind.i64.wrap (y17 - 1)).toNat * 3 + 0)))), (10, .int .u64 ((gd IdleState.zero a0 (IntKind.i64.wrap (y17 - 1))).Latency)), (11, .bool true), (12, .bool true), (13, undef), (14, undef), (15, undef), (16, undef), (17, undef), (18, undef), (19, undef), (20, undef), (21, undef), (22, .bool true), (23, .bool true), (24, undef), (25, undef), (26, undef), (27, undef), (28, undef), (29, undef), (30, undef), (31, undef), (32, undef), (33, .bool true), (34, .bool true)] [] (fun w => (bx b26 25 [.int .u64 ((gd IdleState.zero a0 y17).Latency), .int .u64 ((gd IdleState.zero a0 y17).Residency), .int .u64 ((gd IdleState.zero a0 y17).Power)]).ok w ∧ (rsl K_api_IdleState v0 a0).ok w ∧ True) (fun w => St M w0 w [bx b26 25 [.int .u64 ((gd IdleState.zero a0 y17).Latency), .int .u64 ((gd IdleState.zero a0 y17).Residency), .int .u64 ((gd IdleState.zero a0 y17).Power)]]) hf ⟨rfl, rfl, rfl, trivial⟩ (by kernel_rfl) (by kernel_rfl) rfl (by decide) ⟨hs.drew.get (i := 0) rfl, hr.now hs.drew (i := 0) rfl, trivial⟩ hs.drew (.cons (⟨_, _, rfl, rfl, rfl, rfl, fun a w hR hf => .inl ⟨wanted_yes hf rfl, ex_move hf rfl⟩⟩) (.cons (⟨_, _, rfl, rfl, rfl, rfl, fun a w hR hf => .inl ⟨wanted_yes hf rfl, ex_castB (ex_gtr hf rfl rfl) (dec_t hc38)⟩⟩) (.cons (⟨_, _, rfl, rfl, rfl, rfl, fun a w hR hf => .inl ⟨wanted_yes hf rfl, ex_move hf rfl⟩⟩) (.cons (⟨_, _, rfl, rfl, rfl, rfl, fun a w hR hf => .inl ⟨wanted_yes hf rfl, ex_fieldAddrB fa_25_0 rfl hf rfl⟩⟩) (.cons (⟨_, _, rfl, rfl, rfl, rfl, fun a w hR hf => .inl ⟨wanted_yes hf rfl, ex_load sc_23 hf rfl (bx_cell (hR.1) _ rfl)⟩⟩) (.cons (⟨_, _, rfl, rfl, rfl, rfl, fun a w hR hf => .inl ⟨wanted_yes hf rfl, ex_move hf rfl⟩⟩) (.cons (⟨_, _, rfl, rfl, rfl, rfl, fun a w hR hf => .inl ⟨wanted_yes hf rfl, ex_move hf rfl⟩⟩) (.cons (⟨_, _, rfl, rfl, rfl, rfl, fun a w hR hf => .inl ⟨wanted_yes hf rfl, ex_sub hf rfl rfl⟩⟩) (.cons (⟨_, _, rfl, rfl, rfl, rfl, fun a w hR hf => .inl ⟨wanted_yes hf rfl, ex_indexAddr sa_22 (rsl_isSl hR.2.1) hc39.1 hc39.2 hf rfl rfl⟩⟩) (.cons (⟨_, _, rfl, rfl, rfl, rfl, fun a w hR hf => .inl ⟨wanted_yes hf rfl, ex_fieldAddrS fa_25_0 rfl hf rfl⟩⟩) (.cons (⟨_, _, rfl, rfl, rfl, rfl, fun a w hR hf => .inl ⟨wanted_yes hf rfl, ex_load sc_23 hf rfl (el_cell (K := K_api_IdleState) (f := 0) (rsl_rd hR.2.1) hc39.1 hc39.2 rfl)⟩⟩) (.cons (⟨_, _, rfl, rfl, rfl, rfl, fun a w hR hf => .inl ⟨wanted_yes hf rfl, ex_castB (ex_leq hf rfl rfl) (dec_t hc40)⟩⟩) (.cons (⟨_, _, rfl, rfl, rfl, rfl, fun a w hR hf => .inl ⟨wanted_yes hf rfl, ex_move hf rfl⟩⟩) (.cons (⟨_, _, rfl, rfl, rfl, rfl, fun a w hR hf => .inr ⟨wanted_no hf rfl, rfl⟩⟩) (.cons (⟨_, _, rfl, rfl, rfl, rfl, fun a w hR hf => .inr ⟨wanted_no hf rfl, rfl⟩⟩) (.cons (⟨_, _, rfl, rfl, rfl, rfl, fun a w hR hf => .inr ⟨wanted_no hf rfl, rfl⟩⟩) (.cons (⟨_, _, rfl, rfl, rfl, rfl, fun a w hR hf => .inr ⟨wanted_no hf rfl, rfl⟩⟩) (.cons (⟨_, _, rfl, rfl, rfl, rfl, fun a w hR hf => .inr ⟨wanted_no hf rfl, rfl⟩⟩) (.cons (⟨_, _, rfl, rfl, rfl, rfl, fun a w hR hf => .inr ⟨wanted_no hf rfl, rfl⟩⟩) (.cons (⟨_, _, rfl, rfl, rfl, rfl, fun a w hR hf => .inr ⟨wanted_no hf rfl, rfl⟩⟩) (.cons (⟨_, _, rfl, rfl, rfl, rfl, fun a w hR hf => .inr ⟨wanted_no hf rfl, rfl⟩⟩) (.cons (⟨_, _, rfl, rfl, rfl, rfl, fun a w hR hf => .inr ⟨wanted_no hf rfl, rfl⟩⟩) (.cons (⟨_, _, rfl, rfl, rfl, rfl, fun a w hR hf => .inl ⟨wanted_yes hf rfl, ex_pickT hf rfl rfl⟩⟩) (.cons (⟨_, _, rfl, rfl, rfl, rfl, fun a w hR hf => .inl ⟨wanted_yes hf rfl, ex_move hf rfl⟩⟩) (.cons (⟨_, _, rfl, rfl, rfl, rfl, fun a w hR hf => .inr ⟨wanted_no hf rfl, rfl⟩⟩) (.cons (⟨_, _, rfl, rfl, rfl, rfl, fun a w hR hf => .inr ⟨wanted_no hf rfl, rfl⟩⟩) (.cons (⟨_, _, rfl, rfl, rfl, rfl, fun a w hR hf => .inr ⟨wanted_no hf rfl, rfl⟩⟩) (.cons (⟨_, _, rfl, rfl, rfl, rfl, fun a w hR hf => .inr ⟨wanted_no hf rfl, rfl⟩⟩) (.cons (⟨_, _, rfl, rfl, rfl, rfl, fun a w hR hf => .inr ⟨wanted_no hf rfl, rfl⟩⟩) (.cons (⟨_, _, rfl, rfl, rfl, rfl, fun a w hR hf => .inr ⟨wanted_no hf rfl, rfl⟩⟩) (.cons (⟨_, _, rfl, rfl, rfl, rfl, fun a w hR hf => .inr ⟨wanted_no hf rfl, rfl⟩⟩) (.cons (⟨_, _, rfl, rfl, rfl, rfl, fun a w hR hf => .inr ⟨wanted_no hf rfl, rfl⟩⟩) (.cons (⟨_, _, rfl, rfl, rfl, rfl, fun a w hR hf => .inr ⟨wanted_no hf rfl, rfl⟩⟩) (.cons (⟨_, _, rfl, rfl, rfl, rfl, fun a w hR hf => .inl ⟨wanted_yes hf rfl, ex_pickT hf rfl rfl⟩⟩) (.cons (⟨_, _, rfl, rfl, rfl, rfl, fun a w hR hf => .inl ⟨wanted_yes hf rfl, ex_pickT hf rfl rfl⟩⟩) (.nil)))))))))))))))))))))))))))))))))))) (fun K41 hK41 => ?_)
                        refine RW.zero (by kernel_rfl) (by kernel_rfl) [(0, v0), (3, .int .i64 y17), (84, .bool true)] ⟨rfl, rfl, rfl, trivial⟩ (fun a w hR hs hf => ?_)
                        refine hK41 _ _ ?_
                        replace hs := hs.keep (.d .nil)
                        have e37 := some_eq H; subst e37
                        exact hJ37 _ _ ⟨hf.sub ⟨rfl, rfl, rfl, trivial⟩, hs⟩
                      · -- not ((gd IdleState.zero a0 y17).Latency) ≤ ((gd IdleState.zero a
                        refine itt H (fun hc42 H => ?_) (fun hc42 H => ?_)
                        · -- ((gd IdleState.zero a0 y17).Residency) ≤ ((gd IdleState.zero
                          refine region_d fol 35 [(0, v0), (3, .int .i64 y17), (4, .pointer (some ⟨b26, 0, none⟩))] [(0, .int .i64 y17), (1, .bool true), (2, .bool true), (3, .pointer (some ⟨b26, 0, none⟩)), (4, .int .u64 ((gd IdleState.zero a0 y17).Latency)), (5, v0), (6, .int .i64 y17), (7, .int .i64 (IntKind.i64.wrap (y17 - 1))), (8, .pointer (some (sla v0 ((IntKind.i64.wrap (y17 - 1)).toNat * 3)))), (9, .pointer (some (sla v0 ((IntKind.i64.wrap (y17 - 1)).toNat * 3 + 0)))), (10, .int .u64 ((gd IdleState.zero a0 (IntKind.i64.wrap (y17 - 1))).Latency)), (11, .bool false), (12, .bool false), (13, .pointer (some ⟨b26, 1, none⟩)), (14, .int .u64 ((gd IdleState.zero a0 y17).Residency)), (15, v0), (16, .int .i64 y17), (17, .int .i64 (IntKind.i64.wrap (y17 - 1))), (18, .pointer (some (sla v0 ((IntKind.i64.wrap (y17 - 1)).toNat * 3)))), (19, .pointer (some (sla v0 ((IntKind.i64.wrap (y17 - 1)).toNat * 3 + 1)))), (20, .int .u64 ((gd IdleState.zero a0 (IntKind.i64.wrap (y17 - 1))).Residency)), (21, .bool true), (22, .bool true), (23, .bool true), (24, undef), (25, undef), (26, undef), (27, undef), (28, undef), (29, undef), (30, undef), (31, undef), (32, undef), (33, .bool true), (34, .bool true)] [] (fun w => (bx b26 25 [.int .u64 ((gd IdleState.zero a0 y17).Latency), .int .u64 ((gd IdleState.zero a0 y17).Residency), .int .u64 ((gd IdleState.zero a0 y17).Power)]).ok w ∧ (rsl K_api_IdleState v0 a0).ok w ∧ True) (fun w => St M w0 w [bx b26 25 [.int .u64 ((gd IdleState.zero a0 y17).Latency), .int .u64 ((gd IdleState.zero a0 y17).Residency), .int .u64 ((gd IdleState.zero a0 y17).Power)]]) hf ⟨rfl, rfl, rfl, trivial⟩ (by kernel_rfl) (by kernel_rfl) rfl (by decide) ⟨hs.drew.get (i := 0) rfl, hr.now hs.drew (i := 0) rfl, trivial⟩ hs.drew (.cons (⟨_, _, rfl, rfl, rfl, rfl, fun a w hR hf => .inl ⟨wanted_yes hf rfl, ex_move hf rfl⟩⟩) (.cons (⟨_, _, rfl, rfl, rfl, rfl, fun a w hR hf => .inl ⟨wanted_yes hf rfl, ex_castB (ex_gtr hf rfl rfl) (dec_t hc38)⟩⟩) (.cons (⟨_, _, rfl, rfl, rfl, rfl, fun a w hR hf => .inl ⟨wanted_yes hf rfl, ex_move hf rfl⟩⟩) (.cons (⟨_, _, rfl, rfl, rfl, rfl, fun a w hR hf => .inl ⟨wanted_yes hf rfl, ex_fieldAddrB fa_25_0 rfl hf rfl⟩⟩) (.cons (⟨_, _, rfl, rfl, rfl, rfl, fun a w hR hf => .inl ⟨wanted_yes hf rfl, ex_load sc_23 hf rfl (bx_cell (hR.1) _ rfl)⟩⟩) (.cons (⟨_, _, rfl, rfl, rfl, rfl, fun a w hR hf => .inl ⟨wanted_yes hf rfl, ex_move hf rfl⟩⟩) (.cons (⟨_, _, rfl, rfl, rfl, rfl, fun a w hR hf => .inl ⟨wanted_yes hf rfl, ex_move hf rfl⟩⟩) (.cons (⟨_, _, rfl, rfl, rfl, rfl, fun a w hR hf => .inl ⟨wanted_yes hf rfl, ex_sub hf rfl rfl⟩⟩) (.cons (⟨_, _, rfl, rfl, rfl, rfl, fun a w hR hf => .inl ⟨wanted_yes hf rfl, ex_indexAddr sa_22 (rsl_isSl hR.2.1) hc39.1 hc39.2 hf rfl rfl⟩⟩) (.cons (⟨_, _, rfl, rfl, rfl, rfl, fun a w hR hf => .inl ⟨wanted_yes hf rfl, ex_fieldAddrS fa_25_0 rfl hf rfl⟩⟩) (.cons (⟨_, _, rfl, rfl, rfl, rfl, fun a w hR hf => .inl ⟨wanted_yes hf rfl, ex_load sc_23 hf rfl (el_cell (K := K_api_IdleState) (f := 0) (rsl_rd hR.2.1) hc39.1 hc39.2 rfl)⟩⟩) (.cons (⟨_, _, rfl, rfl, rfl, rfl, fun a w hR hf => .inl ⟨wanted_yes hf rfl, ex_castB (ex_leq hf rfl rfl) (dec_f hc40)⟩⟩) (.cons (⟨_, _, rfl, rfl, rfl, rfl, fun a w hR hf => .inl ⟨wanted_yes hf rfl, ex_move hf rfl⟩⟩) (.cons (⟨_, _, rfl, rfl, rfl, rfl, fun a w hR hf => .inl ⟨wanted_yes hf rfl, ex_fieldAddrB fa_25_1 rfl hf rfl⟩⟩) (.cons (⟨_, _, rfl, rfl, rfl, rfl, fun a w hR hf => .inl ⟨wanted_yes hf rfl, ex_load sc_23 hf rfl (bx_cell (hR.1) _ rfl)⟩⟩) (.cons (⟨_, _, rfl, rfl, rfl, rfl, fun a w hR hf => .inl ⟨wanted_yes hf rfl, ex_move hf rfl⟩⟩) (.cons (⟨_, _, rfl, rfl, rfl, rfl, fun a w hR hf => .inl ⟨wanted_yes hf rfl, ex_move hf rfl⟩⟩) (.cons (⟨_, _, rfl, rfl, rfl, rfl, fun a w hR hf => .inl ⟨wanted_yes hf rfl, ex_sub hf rfl rfl⟩⟩) (.cons (⟨_, _, rfl, rfl, rfl, rfl, fun a w hR hf => .inl ⟨wanted_yes hf rfl, ex_indexAddr sa_22 (rsl_isSl hR.2.1) hc39.1 hc39.2 hf rfl rfl⟩⟩) (.cons (⟨_, _, rfl, rfl, rfl, rfl, fun a w hR hf => .inl ⟨wanted_yes hf rfl, ex_fieldAddrS fa_25_1 rfl hf rfl⟩⟩) (.cons (⟨_, _, rfl, rfl, rfl, rfl, fun a w hR hf => .inl ⟨wanted_yes hf rfl, ex_load sc_23 hf rfl (el_cell (K := K_api_IdleState) (f := 1) (rsl_rd hR.2.1) hc39.1 hc39.2 rfl)⟩⟩) (.cons (⟨_, _, rfl, rfl, rfl, rfl, fun a w hR hf => .inl ⟨wanted_yes hf rfl, ex_castB (ex_leq hf rfl rfl) (dec_t hc42)⟩⟩) (.cons (⟨_, _, rfl, rfl, rfl, rfl, fun a w hR hf => .inl ⟨wanted_yes hf rfl, ex_pickF hf rfl rfl⟩⟩) (.cons (⟨_, _, rfl, rfl, rfl, rfl, fun a w hR hf => .inl ⟨wanted_yes hf rfl, ex_move hf rfl⟩⟩) (.cons (⟨_, _, rfl, rfl, rfl, rfl, fun a w hR hf => .inr ⟨wanted_no hf rfl, rfl⟩⟩) (.cons (⟨_, _, rfl, rfl, rfl, rfl, fun a w hR hf => .inr ⟨wanted_no hf rfl, rfl⟩⟩) (.cons (⟨_, _, rfl, rfl, rfl, rfl, fun a w hR hf => .inr ⟨wanted_no hf rfl, rfl⟩⟩) (.cons (⟨_, _, rfl, rfl, rfl, rfl, fun a w hR hf => .inr ⟨wanted_no hf rfl, rfl⟩⟩) (.cons (⟨_, _, rfl, rfl, rfl, rfl, fun a w hR hf => .inr ⟨wanted_no hf rfl, rfl⟩⟩) (.cons (⟨_, _, rfl, rfl, rfl, rfl, fun a w hR hf => .inr ⟨wanted_no hf rfl, rfl⟩⟩) (.cons (⟨_, _, rfl, rfl, rfl, rfl, fun a w hR hf => .inr ⟨wanted_no hf rfl, rfl⟩⟩) (.cons (⟨_, _, rfl, rfl, rfl, rfl, fun a w hR hf => .inr ⟨wanted_no hf rfl, rfl⟩⟩) (.cons (⟨_, _, rfl, rfl, rfl, rfl, fun a w hR hf => .inr ⟨wanted_no hf rfl, rfl⟩⟩) (.cons (⟨_, _, rfl, rfl, rfl, rfl, fun a w hR hf => .inl ⟨wanted_yes hf rfl, ex_pickT hf rfl rfl⟩⟩) (.cons (⟨_, _, rfl, rfl, rfl, rfl, fun a w hR hf => .inl ⟨wanted_yes hf rfl, ex_pickT hf rfl rfl⟩⟩) (.nil)))))))))))))))))))))))))))))))))))) (fun K43 hK43 => ?_)
                          refine RW.zero (by kernel_rfl) (by kernel_rfl) [(0, v0), (3, .int .i64 y17), (84, .bool true)] ⟨rfl, rfl, rfl, trivial⟩ (fun a w hR hs hf => ?_)
                          refine hK43 _ _ ?_
                          replace hs := hs.keep (.d .nil)
                          have e37 := some_eq H; subst e37
                          exact hJ37 _ _ ⟨hf.sub ⟨rfl, rfl, rfl, trivial⟩, hs⟩
                        · -- not ((gd IdleState.zero a0 y17).Residency) ≤ ((gd IdleState.zero
                          refine region_d fol 35 [(0, v0), (3, .int .i64 y17), (4, .pointer (some ⟨b26, 0, none⟩))] [(0, .int .i64 y17), (1, .bool true), (2, .bool true), (3, .pointer (some ⟨b26, 0, none⟩)), (4, .int .u64 ((gd IdleState.zero a0 y17).Latency)), (5, v0), (6, .int .i64 y17), (7, .int .i64 (IntKind.i64.wrap (y17 - 1))), (8, .pointer (some (sla v0 ((IntKind.i64.wrap (y17 - 1)).toNat * 3)))), (9, .pointer (some (sla v0 ((IntKind.i64.wrap (y17 - 1)).toNat * 3 + 0)))), (10, .int .u64 ((gd IdleState.zero a0 (IntKind.i64.wrap (y17 - 1))).Latency)), (11, .bool false), (12, .bool false), (13, .pointer (some ⟨b26, 1, none⟩)), (14, .int .u64 ((gd IdleState.zero a0 y17).Residency)), (15, v0), (16, .int .i64 y17), (17, .int .i64 (IntKind.i64.wrap (y17 - 1))), (18, .pointer (some (sla v0 ((IntKind.i64.wrap (y17 - 1)).toNat * 3)))), (19, .pointer (some (sla v0 ((IntKind.i64.wrap (y17 - 1)).toNat * 3 + 1)))), (20, .int .u64 ((gd IdleState.zero a0 (IntKind.i64.wrap (y17 - 1))).Residency)), (21, .bool false), (22, .bool false), (23, .bool false), (24, .pointer (some ⟨b26, 2, none⟩)), (25, .int .u64 ((gd IdleState.zero a0 y17).Power)), (26, v0), (27, .int .i64 y17), (28, .int .i64 (IntKind.i64.wrap (y17 - 1))), (29, .pointer (some (sla v0 ((IntKind.i64.wrap (y17 - 1)).toNat * 3)))), (30, .pointer (some (sla v0 ((IntKind.i64.wrap (y17 - 1)).toNat * 3 + 2)))), (31, .int .u64 ((gd IdleState.zero a0 (IntKind.i64.wrap (y17 - 1))).Power)), (32, .bool (decide (((gd IdleState.zero a0 (IntKind.i64.wrap (y17 - 1))).Power) ≤ ((gd IdleState.zero a0 y17).Power)))), (33, .bool (decide (((gd IdleState.zero a0 (IntKind.i64.wrap (y17 - 1))).Power) ≤ ((gd IdleState.zero a0 y17).Power)))), (34, .bool (decide (((gd IdleState.zero a0 (IntKind.i64.wrap (y17 - 1))).Power) ≤ ((gd IdleState.zero a0 y17).Power))))] [] (fun w => (bx b26 25 [.int .u64 ((gd IdleState.zero a0 y17).Latency), .int .u64 ((gd IdleState.zero a0 y17).Residency), .int .u64 ((gd IdleState.zero a0 y17).Power)]).ok w ∧ (rsl K_api_IdleState v0 a0).ok w ∧ True) (fun w => St M w0 w [bx b26 25 [.int .u64 ((gd IdleState.zero a0 y17).Latency), .int .u64 ((gd IdleState.zero a0 y17).Residency), .int .u64 ((gd IdleState.zero a0 y17).Power)]]) hf ⟨rfl, rfl, rfl, trivial⟩ (by kernel_rfl) (by kernel_rfl) rfl (by decide) ⟨hs.drew.get (i := 0) rfl, hr.now hs.drew (i := 0) rfl, trivial⟩ hs.drew (.cons (⟨_, _, rfl, rfl, rfl, rfl, fun a w hR hf => .inl ⟨wanted_yes hf rfl, ex_move hf rfl⟩⟩) (.cons (⟨_, _, rfl, rfl, rfl, rfl, fun a w hR hf => .inl ⟨wanted_yes hf rfl, ex_castB (ex_gtr hf rfl rfl) (dec_t hc38)⟩⟩) (.cons (⟨_, _, rfl, rfl, rfl, rfl, fun a w hR hf => .inl ⟨wanted_yes hf rfl, ex_move hf rfl⟩⟩) (.cons (⟨_, _, rfl, rfl, rfl, rfl, fun a w hR hf => .inl ⟨wanted_yes hf rfl, ex_fieldAddrB fa_25_0 rfl hf rfl⟩⟩) (.cons (⟨_, _, rfl, rfl, rfl, rfl, fun a w hR hf => .inl ⟨wanted_yes hf rfl, ex_load sc_23 hf rfl (bx_cell (hR.1) _ rfl)⟩⟩) (.cons (⟨_, _, rfl, rfl, rfl, rfl, fun a w hR hf => .inl ⟨wanted_yes hf rfl, ex_move hf rfl⟩⟩) (.cons (⟨_, _, rfl, rfl, rfl, rfl, fun a w hR hf => .inl ⟨wanted_yes hf rfl, ex_move hf rfl⟩⟩) (.cons (⟨_, _, rfl, rfl, rfl, rfl, fun a w hR hf => .inl ⟨wanted_yes hf rfl, ex_sub hf rfl rfl⟩⟩) (.cons (⟨_, _, rfl, rfl, rfl, rfl, fun a w hR hf => .inl ⟨wanted_yes hf rfl, ex_indexAddr sa_22 (rsl_isSl hR.2.1) hc39.1 hc39.2 hf rfl rfl⟩⟩) (.cons (⟨_, _, rfl, rfl, rfl, rfl, fun a w hR hf => .inl ⟨wanted_yes hf rfl, ex_fieldAddrS fa_25_0 rfl hf rfl⟩⟩) (.cons (⟨_, _, rfl, rfl, rfl, rfl, fun a w hR hf => .inl ⟨wanted_yes hf rfl, ex_load sc_23 hf rfl (el_cell (K := K_api_IdleState) (f := 0) (rsl_rd hR.2.1) hc39.1 hc39.2 rfl)⟩⟩) (.cons (⟨_, _, rfl, rfl, rfl, rfl, fun a w hR hf => .inl ⟨wanted_yes hf rfl, ex_castB (ex_leq hf rfl rfl) (dec_f hc40)⟩⟩) (.cons (⟨_, _, rfl, rfl, rfl, rfl, fun a w hR hf => .inl ⟨wanted_yes hf rfl, ex_move hf rfl⟩⟩) (.cons (⟨_, _, rfl, rfl, rfl, rfl, fun a w hR hf => .inl ⟨wanted_yes hf rfl, ex_fieldAddrB fa_25_1 rfl hf rfl⟩⟩) (.cons (⟨_, _, rfl, rfl, rfl, rfl, fun a w hR hf => .inl ⟨wanted_yes hf rfl, ex_load sc_23 hf rfl (bx_cell (hR.1) _ rfl)⟩⟩) (.cons (⟨_, _, rfl, rfl, rfl, rfl, fun a w hR hf => .inl ⟨wanted_yes hf rfl, ex_move hf rfl⟩⟩) (.cons (⟨_, _, rfl, rfl, rfl, rfl, fun a w hR hf => .inl ⟨wanted_yes hf rfl, ex_move hf rfl⟩⟩) (.cons (⟨_, _, rfl, rfl, rfl, rfl, fun a w hR hf => .inl ⟨wanted_yes hf rfl, ex_sub hf rfl rfl⟩⟩) (.cons (⟨_, _, rfl, rfl, rfl, rfl, fun a w hR hf => .inl ⟨wanted_yes hf rfl, ex_indexAddr sa_22 (rsl_isSl hR.2.1) hc39.1 hc39.2 hf rfl rfl⟩⟩) (.cons (⟨_, _, rfl, rfl, rfl, rfl, fun a w hR hf => .inl ⟨wanted_yes hf rfl, ex_fieldAddrS fa_25_1 rfl hf rfl⟩⟩) (.cons (⟨_, _, rfl, rfl, rfl, rfl, fun a w hR hf => .inl ⟨wanted_yes hf rfl, ex_load sc_23 hf rfl (el_cell (K := K_api_IdleState) (f := 1) (rsl_rd hR.2.1) hc39.1 hc39.2 rfl)⟩⟩) (.cons (⟨_, _, rfl, rfl, rfl, rfl, fun a w hR hf => .inl ⟨wanted_yes hf rfl, ex_castB (ex_leq hf rfl rfl) (dec_f hc42)⟩⟩) (.cons (⟨_, _, rfl, rfl, rfl, rfl, fun a w hR hf => .inl ⟨wanted_yes hf rfl, ex_pickF hf rfl rfl⟩⟩) (.cons (⟨_, _, rfl, rfl, rfl, rfl, fun a w hR hf => .inl ⟨wanted_yes hf rfl, ex_move hf rfl⟩⟩) (.cons (⟨_, _, rfl, rfl, rfl, rfl, fun a w hR hf => .inl ⟨wanted_yes hf rfl, ex_fieldAddrB fa_25_2 rfl hf rfl⟩⟩) (.cons (⟨_, _, rfl, rfl, rfl, rfl, fun a w hR hf => .inl ⟨wanted_yes hf rfl, ex_load sc_23 hf rfl (bx_cell (hR.1) _ rfl)⟩⟩) (.cons (⟨_, _, rfl, rfl, rfl, rfl, fun a w hR hf => .inl ⟨wanted_yes hf rfl, ex_move hf rfl⟩⟩) (.cons (⟨_, _, rfl, rfl, rfl, rfl, fun a w hR hf => .inl ⟨wanted_yes hf rfl, ex_move hf rfl⟩⟩) (.cons (⟨_, _, rfl, rfl, rfl, rfl, fun a w hR hf => .inl ⟨wanted_yes hf rfl, ex_sub hf rfl rfl⟩⟩) (.cons (⟨_, _, rfl, rfl, rfl, rfl, fun a w hR hf => .inl ⟨wanted_yes hf rfl, ex_indexAddr sa_22 (rsl_isSl hR.2.1) hc39.1 hc39.2 hf rfl rfl⟩⟩) (.cons (⟨_, _, rfl, rfl, rfl, rfl, fun a w hR hf => .inl ⟨wanted_yes hf rfl, ex_fieldAddrS fa_25_2 rfl hf rfl⟩⟩) (.cons (⟨_, _, rfl, rfl, rfl, rfl, fun a w hR hf => .inl ⟨wanted_yes hf rfl, ex_load sc_23 hf rfl (el_cell (K := K_api_IdleState) (f := 2) (rsl_rd hR.2.1) hc39.1 hc39.2 rfl)⟩⟩) (.cons (⟨_, _, rfl, rfl, rfl, rfl, fun a w hR hf => .inl ⟨wanted_yes hf rfl, ex_geq hf rfl rfl⟩⟩) (.cons (⟨_, _, rfl, rfl, rfl, rfl, fun a w hR hf => .inl ⟨wanted_yes hf rfl, ex_pickF hf rfl rfl⟩⟩) (.cons (⟨_, _, rfl, rfl, rfl, rfl, fun a w hR hf => .inl ⟨wanted_yes hf rfl, ex_pickT hf rfl rfl⟩⟩) (.nil)))))))))))))))))))))))))))))))))))) (fun K44 hK44 => ?_)
                          refine RW.zero (by kernel_rfl) (by kernel_rfl) [(0, v0), (3, .int .i64 y17), (84, .bool (decide (((gd IdleState.zero a0 (IntKind.i64.wrap (y17 - 1))).Power) ≤ ((gd IdleState.zero a0 y17).Power))))] ⟨rfl, rfl, rfl, trivial⟩ (fun a w hR hs hf => ?_)
                          refine hK44 _ _ ?_
                          replace hs := hs.keep (.d .nil)
                          have e37 := some_eq H; subst e37
                          exact hJ37 _ _ ⟨hf.sub ⟨rfl, rfl, rfl, trivial⟩, hs⟩
                    · -- not 0 < y17
                      refine region_d fol 35 [(0, v0), (3, .int .i64 y17), (4, .pointer (some ⟨b26, 0, none⟩))] [(0, .int .i64 y17), (1, .bool false), (2, .bool false), (3, undef), (4, undef), (5, undef), (6, undef), (7, undef), (8, undef), (9, undef), (10, undef), (11, undef), (12, undef), (13, undef), (14, undef), (15, undef), (16, undef), (17, undef), (18, undef), (19, undef), (20, undef), (21, undef), (22, undef), (23, undef), (24, undef), (25, undef), (26, undef), (27, undef), (28, undef), (29, undef), (30, undef), (31, undef), (32, undef), (33, undef), (34, .bool false)] [] (fun w => (bx b26 25 [.int .u64 ((gd IdleState.zero a0 y17).Latency), .int .u64 ((gd IdleState.zero a0 y17).Residency), .int .u64 ((gd IdleState.zero a0 y17).Power)]).ok w ∧ (rsl K_api_IdleState v0 a0).ok w ∧ True) (fun w => St M w0 w [bx b26 25 [.int .u64 ((gd IdleState.zero a0 y17).Latency), .int .u64 ((gd IdleState.zero a0 y17).Residency), .int .u64 ((gd IdleState.zero a0 y17).Power)]]) hf ⟨rfl, rfl, rfl, trivial⟩ (by kernel_rfl) (by kernel_rfl) rfl (by decide) ⟨hs.drew.get (i := 0) rfl, hr.now hs.drew (i := 0) rfl, trivial⟩ hs.drew (.cons (⟨_, _, rfl, rfl, rfl, rfl, fun a w hR hf => .inl ⟨wanted_yes hf rfl, ex_move hf rfl⟩⟩) (.cons (⟨_, _, rfl, rfl, rfl, rfl, fun a w hR hf => .inl ⟨wanted_yes hf rfl, ex_castB (ex_gtr hf rfl rfl) (dec_f hc38)⟩⟩) (.cons (⟨_, _, rfl, rfl, rfl, rfl, fun a w hR hf => .inl ⟨wanted_yes hf rfl, ex_move hf rfl⟩⟩) (.cons (⟨_, _, rfl, rfl, rfl, rfl, fun a w hR hf => .inr ⟨wanted_no hf rfl, rfl⟩⟩) (.cons (⟨_, _, rfl, rfl, rfl, rfl, fun a w hR hf => .inr ⟨wanted_no hf rfl, rfl⟩⟩) (.cons (⟨_, _, rfl, rfl, rfl, rfl, fun a w hR hf => .inr ⟨wanted_no hf rfl, rfl⟩⟩) (.cons (⟨_, _, rfl, rfl, rfl, rfl, fun a w hR hf => .inr ⟨wanted_no hf rfl, rfl⟩⟩) (.cons (⟨_, _, rfl, rfl, rfl, rfl, fun a w hR hf => .inr ⟨wanted_no hf rfl, rfl⟩⟩) (.cons (⟨_, _, rfl, rfl, rfl, rfl, fun a w hR hf => .inr ⟨wanted_no hf rfl, rfl⟩⟩) (.cons (⟨_, _, rfl, rfl, rfl, rfl, fun a w hR hf => .inr ⟨wanted_no hf rfl, rfl⟩⟩) (.cons (⟨_, _, rfl, rfl, rfl, rfl, fun a w hR hf => .inr ⟨wanted_no hf rfl, rfl⟩⟩) (.cons (⟨_, _, rfl, rfl, rfl, rfl, fun a w hR hf => .inr ⟨wanted_no hf rfl, rfl⟩⟩) (.cons (⟨_, _, rfl, rfl, rfl, rfl, fun a w hR hf => .inr ⟨wanted_no hf rfl, rfl⟩⟩) (.cons (⟨_, _, rfl, rfl, rfl, rfl, fun a w hR hf => .inr ⟨wanted_no hf rfl, rfl⟩⟩) (.cons (⟨_, _, rfl, rfl, rfl, rfl, fun a w hR hf => .inr ⟨wanted_no hf rfl, rfl⟩⟩) (.cons (⟨_, _, rfl, rfl, rfl, rfl, fun a w hR hf => .inr ⟨wanted_no hf rfl, rfl⟩⟩) (.cons (⟨_, _, rfl, rfl, rfl, rfl, fun a w hR hf => .inr ⟨wanted_no hf rfl, rfl⟩⟩) (.cons (⟨_, _, rfl, rfl, rfl, rfl, fun a w hR hf => .inr ⟨wanted_no hf rfl, rfl⟩⟩) (.cons (⟨_, _, rfl, rfl, rfl, rfl, fun a w hR hf => .inr ⟨wanted_no hf rfl, rfl⟩⟩) (.cons (⟨_, _, rfl, rfl, rfl, rfl, fun a w hR hf => .inr ⟨wanted_no hf rfl, rfl⟩⟩) (.cons (⟨_, _, rfl, rfl, rfl, rfl, fun a w hR hf => .inr ⟨wanted_no hf rfl, rfl⟩⟩) (.cons (⟨_, _, rfl, rfl, rfl, rfl, fun a w hR hf => .inr ⟨wanted_no hf rfl, rfl⟩⟩) (.cons (⟨_, _, rfl, rfl, rfl, rfl, fun a w hR hf => .inr ⟨wanted_no hf rfl, rfl⟩⟩) (.cons (⟨_, _, rfl, rfl, rfl, rfl, fun a w hR hf => .inr ⟨wanted_no hf rfl, rfl⟩⟩) (.cons (⟨_, _, rfl, rfl, rfl, rfl, fun a w hR hf => .inr ⟨wanted_no hf rfl, rfl⟩⟩) (.cons (⟨_, _, rfl, rfl, rfl, rfl, fun a w hR hf => .inr ⟨wanted_no hf rfl, rfl⟩⟩) (.cons (⟨_, _, rfl, rfl, rfl, rfl, fun a w hR hf => .inr ⟨wanted_no hf rfl, rfl⟩⟩) (.cons (⟨_, _, rfl, rfl, rfl, rfl, fun a w hR hf => .inr ⟨wanted_no hf rfl, rfl⟩⟩) (.cons (⟨_, _, rfl, rfl, rfl, rfl, fun a w hR hf => .inr ⟨wanted_no hf rfl, rfl⟩⟩) (.cons (⟨_, _, rfl, rfl, rfl, rfl, fun a w hR hf => .inr ⟨wanted_no hf rfl, rfl⟩⟩) (.cons (⟨_, _, rfl, rfl, rfl, rfl, fun a w hR hf => .inr ⟨wanted_no hf rfl, rfl⟩⟩) (.cons (⟨_, _, rfl, rfl, rfl, rfl, fun a w hR hf => .inr ⟨wanted_no hf rfl, rfl⟩⟩) (.cons (⟨_, _, rfl, rfl, rfl, rfl, fun a w hR hf => .inr ⟨wanted_no hf rfl, rfl⟩⟩) (.cons (⟨_, _, rfl, rfl, rfl, rfl, fun a w hR hf => .inr ⟨wanted_no hf rfl, rfl⟩⟩) (.cons (⟨_, _, rfl, rfl, rfl, rfl, fun a w hR hf => .inl ⟨wanted_yes hf rfl, ex_pickF hf rfl rfl⟩⟩) (.nil)))))))))))))))))))))))))))))))))))) (fun K45 hK45 => ?_)
                      refine RW.zero (by kernel_rfl) (by kernel_rfl) [(0, v0), (3, .int .i64 y17), (84, .bool false)] ⟨rfl, rfl, rfl, trivial⟩ (fun a w hR hs hf => ?_)
                      refine hK45 _ _ ?_
                      replace hs := hs.keep (.d .nil)
                      have e37 := some_eq H; subst e37
                      exact hJ37 _ _ ⟨hf.sub ⟨rfl, rfl, rfl, trivial⟩, hs⟩
                  · obtain ⟨hf, hs⟩ := hJ
                    replace H := HO37
                    clear HO37
                    refine itt H (fun hc46 H => ?_) (fun hc46 H => ?_)
                    · -- x37 = true
                      replace hf := hf.castB (t := 84) rfl hc46
                      refine cond_T hf rfl ?_
                      refine seq_reg (fun K47 hK47 => ?_)
                      refine stq hf rfl rfl rfl (ex_assign hf rfl) (fun a hf => ?_)
                      refine hK47 _ _ ?_
                      refine wp_ret ?_
                      refine hR24 _ _ ?_
                      refine hR23 _ _ ?_
                      refine hR19 _ _ ?_
                      refine hR16 _ _ ?_
                      have e14 := some_eq H; subst e14; replace H := el_rt HO14
                      refine hR14 _ _ ?_
                      have eR := some_eq H; subst eR
                      exact ret1 Try.results19 hf rfl ⟨_, rfl, ⟨rfl, hs⟩⟩
                    · -- not x37 = true
                      replace hf := hf.castB (t := 84) rfl (bool_f hc46)
                      refine cond_F hf rfl ?_
                      refine wp_skip ?_
                      refine hN24 _ _ ?_
                      refine hN23 _ _ ?_
                      refine region_k (fun K48 hK48 => ?_)
                      refine stq hf rfl rfl rfl (ex_move hf rfl) (fun a hf => ?_)
                      refine stq hf rfl rfl rfl (ex_add hf rfl rfl) (fun a hf => ?_)
                      refine stq hf rfl rfl rfl (ex_assign hf rfl) (fun a hf => ?_)
                      refine hK48 _ _ ?_
                      exact hL19 k19 _ _ (Nat.lt_succ_self _) ⟨(IntKind.i64.wrap (y17 + 1)), hf.sub ⟨rfl, rfl, trivial⟩, hs, H⟩
            · -- not y17 < (a0.length : Int)
              replace hf := hf.castB (t := 30) rfl (dec_f hc22)
              refine cond_F hf rfl ?_
              refine wp_exit ?_
              refine hX20 0 _ _ ?_
              refine hX19 0 _ _ ?_
              refine hX16 _ _ ?_
              have e14 := some_eq H; subst e14
              exact hJ14 _ _ ⟨_, rfl, hf.sub trivial, hs⟩
      · obtain ⟨x14s, rfl, hf, hs⟩ := hJ
        replace H := el_go HO14
        clear HO14
        refine seq_reg (fun K49 hK49 => ?_)
        refine stq hf rfl rfl rfl (ex_assign hf rfl) (fun a hf => ?_)
        refine hK49 _ _ ?_
        refine wp_ret ?_
        have eR := some_eq H; subst eR
        exact ret1 Try.results19 hf rfl ⟨_, rfl, ⟨rfl, hs⟩⟩

set_option maxRecDepth 100000 in
theorem ref37_Select.calls {M : Nat → Prop} {w0 : World} (k : Nat) (a0 : (List IdleState)) (a1 : Int) (a2 : Int) (v0 : Value) {r : Int × Int} (hs : St M w0 w0 []) (hr : Sr M w0 [rsl K_api_IdleState v0 a0])
    (h : ref37_Select.f k a0 a1 a2 = some r) : Calls Try.prog 17 #[v0, .int .u64 a1, .int .u64 a2] w0 fun e w => ∃ v, e = .returned v ∧ (.tuple #[.int .i64 r.1, .int .i64 r.2] = v ∧ St M w0 w []) := by
  have H := (ref37_Select.f.eq_1 ..).symm.trans h
  clear h
  refine enter Try.func17 rfl Try.ntmps17 rfl (fun a hf => ?_)
  refine seq_reg (fun K1 hK1 => ?_)
  refine stq hf rfl rfl rfl (ex_assign hf rfl) (fun a hf => ?_)
  refine stq hf rfl rfl rfl (ex_assign hf rfl) (fun a hf => ?_)
  refine hK1 _ _ ?_
  refine seq_n (fun Q2 hN2 hR2 hX2 => ?_)
  refine bnd H (fun s3 hs3 H => ?_)
  refine seq_reg (fun K4 hK4 => ?_)
  refine stq hf rfl rfl rfl (ex_move hf rfl) (fun a hf => ?_)
  refine stepF hf rfl rfl rfl (ex_call cf_19 hf rfl) (ref37_Check.calls k a0 v0 (hs.enter .nil) (Sr.old hr hs .nil (i := 0) rfl (fun _ h => h) (fun _ h => h) (Sr.nil _ _)) hs3) (fun v w hR a hf => ?_)
  obtain ⟨rfl, hs'⟩ := hR
  replace hs := hs.step .nil hs'
  clear hs'
  refine stq hf rfl rfl rfl (ex_assign hf rfl) (fun a hf => ?_)
  refine hK4 _ _ ?_
  refine seq_reg (fun K5 hK5 => ?_)
  refine stq hf rfl rfl rfl (ex_move hf rfl) (fun a hf => ?_)
  refine stq hf rfl rfl rfl (ex_neq hf rfl rfl) (fun a hf => ?_)
  refine hK5 _ _ ?_
  refine itt H (fun hc6 H => ?_) (fun hc6 H => ?_)
  · -- s3 = 0
    replace hf := hf.castB (t := 14) rfl (ndec_f hc6)
    refine cond_F hf rfl ?_
    refine wp_skip ?_
    refine hN2 _ _ ?_
    refine seq_reg (fun K7 hK7 => ?_)
    refine stq hf rfl rfl rfl (ex_assign hf rfl) (fun a hf => ?_)
    refine hK7 _ _ ?_
    refine bnd H (fun x8 H8 HO8 => ?_)
    clear H
    refine seq_cut (fun a w => Fr a 40 [(9, .int .i64 x8)] ∧ St M w0 w []) (fun Q8 hJ8 hR8 hX8 => ?_) (fun a w hJ => ?_)
    · replace H := H8
      refine seq_reg (fun K9 hK9 => ?_)
      refine stq hf rfl rfl rfl (ex_assign hf rfl) (fun a hf => ?_)
      refine hK9 _ _ ?_
      refine block_k (fun Q10 hN10 hR10 hX10 hY10 => ?_)
      refine loop_k (fun n a w => ∃ (y11 : Int) (y12 : Int), Fr a 40 [(0, v0), (1, .int .u64 a1), (2, .int .u64 a2), (9, .int .i64 y11), (10, .int .i64 y12)] ∧ St M w0 w [] ∧ ref37_Select.l1 n a0 a2 a1 y11 y12 = some x8) k ?_ (fun n14 a w hI Q14 hL14 hR14 hX14 => ?_)
      · -- at the start
        exact ⟨0, 0, hf.sub ⟨rfl, rfl, rfl, rfl, rfl, trivial⟩, hs, H⟩
      · obtain ⟨y11, y12, hf, hs, H⟩ := hI
        cases n14 with
        | zero => exact absurd H (by rw [ref37_Select.l1.eq_1]; intro h; cases h)
        | succ k14 =>
          replace H := (ref37_Select.l1.eq_2 ..).symm.trans H
          refine seq_n (fun Q15 hN15 hR15 hX15 => ?_)
          refine seq_reg (fun K16 hK16 => ?_)
          refine stq hf rfl rfl rfl (ex_move hf rfl) (fun a hf => ?_)
          refine stq hf rfl rfl rfl (ex_move hf rfl) (fun a hf => ?_)
          refine stq hf rfl rfl rfl (ex_lenS Try.underlying22 (rsl_isSl (hr.now hs (i := 0) rfl)) hf rfl) (fun a hf => ?_)
          refine stq hf rfl rfl rfl (ex_lss hf rfl rfl) (fun a hf => ?_)
          refine hK16 _ _ ?_
          refine itt H (fun hc17 H => ?_) (fun hc17 H => ?_)
          · -- y12 < (a0.length : Int)
            replace hf := hf.castB (t := 19) rfl (dec_t hc17)
            refine cond_T hf rfl ?_
            refine wp_skip ?_
            refine hN15 _ _ ?_
            refine bnd H (fun x18 H18 HO18 => ?_)
            clear H
            refine seq_cut (fun a w => Fr a 40 [(0, v0), (1, .int .u64 a1), (2, .int .u64 a2), (9, .int .i64 x18), (10, .int .i64 y12)] ∧ St M w0 w []) (fun Q18 hJ18 hR18 hX18 => ?_) (fun a w hJ => ?_)
            · replace H := H18
              refine block_k (fun Q19 hN19 hR19 hX19 hY19 => ?_)
              refine bnd H (fun x20 H20 HO20 => ?_)
              clear H
              refine seq_cut (fun a w => Fr a 40 [(0, v0), (1, .int .u64 a1), (2, .int .u64 a2), (9, .int .i64 y11), (10, .int .i64 y12), (37, .bool x20)] ∧ St M w0 w []) (fun Q20 hJ20 hR20 hX20 => ?_) (fun a w hJ => ?_)
              · replace H := H20
                refine ck_some H (fun hc21 H => ?_)
                refine itt H (fun hc22 H => ?_) (fun hc22 H => ?_)
                · -- ((gd IdleState.zero a0 y12).Latency) ≤ a2
                  refine region_k (fun K23 hK23 => ?_)
                  refine stq hf rfl rfl rfl (ex_move hf rfl) (fun a hf => ?_)
                  refine stq hf rfl rfl rfl (ex_move hf rfl) (fun a hf => ?_)
                  refine stq hf rfl rfl rfl (ex_indexAddr sa_22 (rsl_isSl (hr.now hs (i := 0) rfl)) hc21.1 hc21.2 hf rfl rfl) (fun a hf => ?_)
                  refine stq hf rfl rfl rfl (ex_fieldAddrS fa_25_0 rfl hf rfl) (fun a hf => ?_)
                  refine stq hf rfl rfl rfl (ex_load sc_23 hf rfl (el_cell (K := K_api_IdleState) (f := 0) (rsl_rd (hr.now hs (i := 0) rfl)) hc21.1 hc21.2 rfl)) (fun a hf => ?_)
                  refine stq hf rfl rfl rfl (ex_move hf rfl) (fun a hf => ?_)
                  refine stq hf rfl rfl rfl (ex_leq hf rfl rfl) (fun a hf => ?_)
                  refine stq hf rfl rfl rfl (ex_move hf rfl) (fun a hf => ?_)
                  replace hf := hf.castB (t := 28) rfl (dec_t hc22)
                  replace hf := hf.castB (t := 29) rfl (dec_t hc22)
                  refine stq hf rfl rfl rfl (ex_move hf rfl) (fun a hf => ?_)
                  refine stq hf rfl rfl rfl (ex_move hf rfl) (fun a hf => ?_)
                  refine stq hf rfl rfl rfl (ex_indexAddr sa_22 (rsl_isSl (hr.now hs (i := 0) rfl)) hc21.1 hc21.2 hf rfl rfl) (fun a hf => ?_)
                  refine stq hf rfl rfl rfl (ex_fieldAddrS fa_25_1 rfl hf rfl) (fun a hf => ?_)
                  refine stq hf rfl rfl rfl (ex_load sc_23 hf rfl (el_cell (K := K_api_IdleState) (f := 1) (rsl_rd (hr.now hs (i := 0) rfl)) hc21.1 hc21.2 rfl)) (fun a hf => ?_)
                  refine stq hf rfl rfl rfl (ex_move hf rfl) (fun a hf => ?_)
                  refine stq hf rfl rfl rfl (ex_leq hf rfl rfl) (fun a hf => ?_)
                  refine stq hf rfl rfl rfl (ex_pickT hf rfl rfl) (fun a hf => ?_)
                  refine hK23 _ _ ?_
                  have e20 := some_eq H; subst e20
                  exact hJ20 _ _ ⟨hf.sub ⟨rfl, rfl, rfl, rfl, rfl, rfl, trivial⟩, hs⟩
                · -- not ((gd IdleState.zero a0 y12).Latency) ≤ a2
                  refine region_k (fun K24 hK24 => ?_)
                  refine stq hf rfl rfl rfl (ex_move hf rfl) (fun a hf => ?_)
                  refine stq hf rfl rfl rfl (ex_move hf rfl) (fun a hf => ?_)
                  refine stq hf rfl rfl rfl (ex_indexAddr sa_22 (rsl_isSl (hr.now hs (i := 0) rfl)) hc21.1 hc21.2 hf rfl rfl) (fun a hf => ?_)
                  refine stq hf rfl rfl rfl (ex_fieldAddrS fa_25_0 rfl hf rfl) (fun a hf => ?_)
                  refine stq hf rfl rfl rfl (ex_load sc_23 hf rfl (el_cell (K := K_api_IdleState) (f := 0) (rsl_rd (hr.now hs (i := 0) rfl)) hc21.1 hc21.2 rfl)) (fun a hf => ?_)
                  refine stq hf rfl rfl rfl (ex_move hf rfl) (fun a hf => ?_)
                  refine stq hf rfl rfl rfl (ex_leq hf rfl rfl) (fun a hf => ?_)
                  refine stq hf rfl rfl rfl (ex_move hf rfl) (fun a hf => ?_)
                  replace hf := hf.castB (t := 28) rfl (dec_f hc22)
                  replace hf := hf.castB (t := 29) rfl (dec_f hc22)
                  refine stepN hf rfl rfl rfl (fun a hf => ?_)
                  refine stepN hf rfl rfl rfl (fun a hf => ?_)
                  refine stepN hf rfl rfl rfl (fun a hf => ?_)
                  refine stepN hf rfl rfl rfl (fun a hf => ?_)
                  refine stepN hf rfl rfl rfl (fun a hf => ?_)
                  refine stepN hf rfl rfl rfl (fun a hf => ?_)
                  refine stepN hf rfl rfl rfl (fun a hf => ?_)
                  refine stq hf rfl rfl rfl (ex_pickF hf rfl rfl) (fun a hf => ?_)
                  refine hK24 _ _ ?_
                  have e20 := some_eq H; subst e20
                  exact hJ20 _ _ ⟨hf.sub ⟨rfl, rfl, rfl, rfl, rfl, rfl, trivial⟩, hs⟩
              · obtain ⟨hf, hs⟩ := hJ
                replace H := HO20
                clear HO20
                refine itt H (fun hc25 H => ?_) (fun hc25 H => ?_)
                · -- x20 = true
                  replace hf := hf.castB (t := 37) rfl hc25
                  refine cond_T hf rfl ?_
                  refine region_k (fun K26 hK26 => ?_)
                  refine stq hf rfl rfl rfl (ex_move hf rfl) (fun a hf => ?_)
                  refine stq hf rfl rfl rfl (ex_assign hf rfl) (fun a hf => ?_)
                  refine hK26 _ _ ?_
                  refine hN19 _ _ ?_
                  have e18 := some_eq H; subst e18
                  exact hJ18 _ _ ⟨hf.sub ⟨rfl, rfl, rfl, rfl, rfl, trivial⟩, hs⟩
                · -- not x20 = true
                  replace hf := hf.castB (t := 37) rfl (bool_f hc25)
                  refine cond_F hf rfl ?_
                  refine wp_skip ?_
                  refine hN19 _ _ ?_
                  have e18 := some_eq H; subst e18
                  exact hJ18 _ _ ⟨hf.sub ⟨rfl, rfl, rfl, rfl, rfl, trivial⟩, hs⟩
            · obtain ⟨hf, hs⟩ := hJ
              replace H := HO18
              clear HO18
              refine region_k (fun K27 hK27 => ?_)
              refine stq hf rfl rfl rfl (ex_move hf rfl) (fun a hf => ?_)
              refine stq hf rfl rfl rfl (ex_add hf rfl rfl) (fun a hf => ?_)
              refine stq hf rfl rfl rfl (ex_assign hf rfl) (fun a hf => ?_)
              refine hK27 _ _ ?_
              exact hL14 k14 _ _ (Nat.lt_succ_self _) ⟨x18, (IntKind.i64.wrap (y12 + 1)), hf.sub ⟨rfl, rfl, rfl, rfl, rfl, trivial⟩, hs, H⟩
          · -- not y12 < (a0.length : Int)
            replace hf := hf.castB (t := 19) rfl (dec_f hc17)
            refine cond_F hf rfl ?_
            refine wp_exit ?_
            refine hX15 0 _ _ ?_
            refine hX14 0 _ _ ?_
            refine hX10 _ _ ?_
            have e8 := some_eq H; subst e8
            exact hJ8 _ _ ⟨hf.sub ⟨rfl, trivial⟩, hs⟩
    · obtain ⟨hf, hs⟩ := hJ
      replace H := HO8
      clear HO8
      refine seq_reg (fun K28 hK28 => ?_)
      refine stq hf rfl rfl rfl (ex_move hf rfl) (fun a hf => ?_)
      refine stq hf rfl rfl rfl (ex_assign hf rfl) (fun a hf => ?_)
      refine stq hf rfl rfl rfl (ex_assign hf rfl) (fun a hf => ?_)
      refine hK28 _ _ ?_
      refine wp_ret ?_
      have eR := some_eq H; subst eR
      exact ret2 Try.results17 hf rfl rfl ⟨_, rfl, ⟨rfl, hs⟩⟩
  · -- not s3 = 0
    replace hf := hf.castB (t := 14) rfl (ndec_t hc6)
    refine cond_T hf rfl ?_
    refine seq_reg (fun K29 hK29 => ?_)
    refine stq hf rfl rfl rfl (ex_move hf rfl) (fun a hf => ?_)
    refine stq hf rfl rfl rfl (ex_assign hf rfl) (fun a hf => ?_)
    refine stq hf rfl rfl rfl (ex_assign hf rfl) (fun a hf => ?_)
    refine hK29 _ _ ?_
    refine wp_ret ?_
    refine hR2 _ _ ?_
    have eR := some_eq H; subst eR
    exact ret2 Try.results17 hf rfl rfl ⟨_, rfl, ⟨rfl, hs⟩⟩

set_option maxRecDepth 100000 in
theorem ref37_Energy.calls {M : Nat → Prop} {w0 : World} (k : Nat) (a0 : (List IdleState)) (a1 : Int) (a2 : Int) (v0 : Value) {r : Int × Int} (hs : St M w0 w0 []) (hr : Sr M w0 [rsl K_api_IdleState v0 a0])
    (h : ref37_Energy.f k a0 a1 a2 = some r) : Calls Try.prog 21 #[v0, .int .i64 a1, .int .u64 a2] w0 fun e w => ∃ v, e = .returned v ∧ (.tuple #[.int .u64 r.1, .int .i64 r.2] = v ∧ St M w0 w []) := by
  have H := (ref37_Energy.f.eq_1 ..).symm.trans h
  clear h
  refine enter Try.func21 rfl Try.ntmps21 rfl (fun a hf => ?_)
  refine seq_reg (fun K1 hK1 => ?_)
  refine stq hf rfl rfl rfl (ex_assign hf rfl) (fun a hf => ?_)
  refine stq hf rfl rfl rfl (ex_assign hf rfl) (fun a hf => ?_)
  refine hK1 _ _ ?_
  refine seq_n (fun Q2 hN2 hR2 hX2 => ?_)
  refine bnd H (fun s3 hs3 H => ?_)
  refine seq_reg (fun K4 hK4 => ?_)
  refine stq hf rfl rfl rfl (ex_move hf rfl) (fun a hf => ?_)
  refine stepF hf rfl rfl rfl (ex_call cf_19 hf rfl) (ref37_Check.calls k a0 v0 (hs.enter .nil) (Sr.old hr hs .nil (i := 0) rfl (fun _ h => h) (fun _ h => h) (Sr.nil _ _)) hs3) (fun v w hR a hf => ?_)
  obtain ⟨rfl, hs'⟩ := hR
  replace hs := hs.step .nil hs'
  clear hs'
  refine stq hf rfl rfl rfl (ex_assign hf rfl) (fun a hf => ?_)
  refine hK4 _ _ ?_
  refine seq_reg (fun K5 hK5 => ?_)
  refine stq hf rfl rfl rfl (ex_move hf rfl) (fun a hf => ?_)
  refine stq hf rfl rfl rfl (ex_neq hf rfl rfl) (fun a hf => ?_)
  refine hK5 _ _ ?_
  refine itt H (fun hc6 H => ?_) (fun hc6 H => ?_)
  · -- s3 = 0
    replace hf := hf.castB (t := 14) rfl (ndec_f hc6)
    refine cond_F hf rfl ?_
    refine wp_skip ?_
    refine hN2 _ _ ?_
    refine seq_n (fun Q7 hN7 hR7 hX7 => ?_)
    refine bnd H (fun x8 H8 HO8 => ?_)
    clear H
    refine seq_cut (fun a w => Fr a 61 [(0, v0), (1, .int .i64 a1), (2, .int .u64 a2), (27, .bool x8)] ∧ St M w0 w []) (fun Q8 hJ8 hR8 hX8 => ?_) (fun a w hJ => ?_)
    · replace H := H8
      refine itt H (fun hc9 H => ?_) (fun hc9 H => ?_)
      · -- a1 < 0
        refine region_k (fun K10 hK10 => ?_)
        refine stq hf rfl rfl rfl (ex_move hf rfl) (fun a hf => ?_)
        refine stq hf rfl rfl rfl (ex_lss hf rfl rfl) (fun a hf => ?_)
        refine stq hf rfl rfl rfl (ex_move hf rfl) (fun a hf => ?_)
        replace hf := hf.castB (t := 17) rfl (dec_t hc9)
        replace hf := hf.castB (t := 18) rfl (dec_t hc9)
        refine stepN hf rfl rfl rfl (fun a hf => ?_)
        refine stepN hf rfl rfl rfl (fun a hf => ?_)
        refine stepN hf rfl rfl rfl (fun a hf => ?_)
        refine stepN hf rfl rfl rfl (fun a hf => ?_)
        refine stq hf rfl rfl rfl (ex_pickT hf rfl rfl) (fun a hf => ?_)
        refine stq hf rfl rfl rfl (ex_move hf rfl) (fun a hf => ?_)
        refine stepN hf rfl rfl rfl (fun a hf => ?_)
        refine stepN hf rfl rfl rfl (fun a hf => ?_)
        refine stq hf rfl rfl rfl (ex_pickT hf rfl rfl) (fun a hf => ?_)
        refine hK10 _ _ ?_
        have e8 := some_eq H; subst e8
        exact hJ8 _ _ ⟨hf.sub ⟨rfl, rfl, rfl, rfl, trivial⟩, hs⟩
      · -- not a1 < 0
        refine itt H (fun hc11 H => ?_) (fun hc11 H => ?_)
        · -- (a0.length : Int) ≤ a1
          refine region_k (fun K12 hK12 => ?_)
          refine stq hf rfl rfl rfl (ex_move hf rfl) (fun a hf => ?_)
          refine stq hf rfl rfl rfl (ex_lss hf rfl rfl) (fun a hf => ?_)
          refine stq hf rfl rfl rfl (ex_move hf rfl) (fun a hf => ?_)
          replace hf := hf.castB (t := 17) rfl (dec_f hc9)
          replace hf := hf.castB (t := 18) rfl (dec_f hc9)
          refine stq hf rfl rfl rfl (ex_move hf rfl) (fun a hf => ?_)
          refine stq hf rfl rfl rfl (ex_move hf rfl) (fun a hf => ?_)
          refine stq hf rfl rfl rfl (ex_lenS Try.underlying22 (rsl_isSl (hr.now hs (i := 0) rfl)) hf rfl) (fun a hf => ?_)
          refine stq hf rfl rfl rfl (ex_geq hf rfl rfl) (fun a hf => ?_)
          refine stq hf rfl rfl rfl (ex_pickF hf rfl rfl) (fun a hf => ?_)
          refine stq hf rfl rfl rfl (ex_move hf rfl) (fun a hf => ?_)
          replace hf := hf.castB (t := 22) rfl (dec_t hc11)
          replace hf := hf.castB (t := 23) rfl (dec_t hc11)
          replace hf := hf.castB (t := 24) rfl (dec_t hc11)
          refine stepN hf rfl rfl rfl (fun a hf => ?_)
          refine stepN hf rfl rfl rfl (fun a hf => ?_)
          refine stq hf rfl rfl rfl (ex_pickT hf rfl rfl) (fun a hf => ?_)
          refine hK12 _ _ ?_
          have e8 := some_eq H; subst e8
          exact hJ8 _ _ ⟨hf.sub ⟨rfl, rfl, rfl, rfl, trivial⟩, hs⟩
        · -- not (a0.length : Int) ≤ a1
          refine region_k (fun K13 hK13 => ?_)
          refine stq hf rfl rfl rfl (ex_move hf rfl) (fun a hf => ?_)
          refine stq hf rfl rfl rfl (ex_lss hf rfl rfl) (fun a hf => ?_)
          refine stq hf rfl rfl rfl (ex_move hf rfl) (fun a hf => ?_)
          replace hf := hf.castB (t := 17) rfl (dec_f hc9)
          replace hf := hf.castB (t := 18) rfl (dec_f hc9)
          refine stq hf rfl rfl rfl (ex_move hf rfl) (fun a hf => ?_)
          refine stq hf rfl rfl rfl (ex_move hf rfl) (fun a hf => ?_)
          refine stq hf rfl rfl rfl (ex_lenS Try.underlying22 (rsl_isSl (hr.now hs (i := 0) rfl)) hf rfl) (fun a hf => ?_)
          refine stq hf rfl rfl rfl (ex_geq hf rfl rfl) (fun a hf => ?_)
          refine stq hf rfl rfl rfl (ex_pickF hf rfl rfl) (fun a hf => ?_)
          refine stq hf rfl rfl rfl (ex_move hf rfl) (fun a hf => ?_)
          replace hf := hf.castB (t := 22) rfl (dec_f hc11)
          replace hf := hf.castB (t := 23) rfl (dec_f hc11)
          replace hf := hf.castB (t := 24) rfl (dec_f hc11)
          refine stq hf rfl rfl rfl (ex_move hf rfl) (fun a hf => ?_)
          refine stq hf rfl rfl rfl (ex_gtr hf rfl rfl) (fun a hf => ?_)
          refine stq hf rfl rfl rfl (ex_pickF hf rfl rfl) (fun a hf => ?_)
          refine hK13 _ _ ?_
          have e8 := some_eq H; subst e8
          exact hJ8 _ _ ⟨hf.sub ⟨rfl, rfl, rfl, rfl, trivial⟩, hs⟩
    · obtain ⟨hf, hs⟩ := hJ
      replace H := HO8
      clear HO8
      refine itt H (fun hc14 H => ?_) (fun hc14 H => ?_)
      · -- x8 = true
        replace hf := hf.castB (t := 27) rfl hc14
        refine cond_T hf rfl ?_
        refine seq_reg (fun K15 hK15 => ?_)
        refine stq hf rfl rfl rfl (ex_assign hf rfl) (fun a hf => ?_)
        refine stq hf rfl rfl rfl (ex_assign hf rfl) (fun a hf => ?_)
        refine hK15 _ _ ?_
        refine wp_ret ?_
        refine hR7 _ _ ?_
        have eR := some_eq H; subst eR
        exact ret2 Try.results21 hf rfl rfl ⟨_, rfl, ⟨rfl, hs⟩⟩
      · -- not x8 = true
        replace hf := hf.castB (t := 27) rfl (bool_f hc14)
        refine cond_F hf rfl ?_
        refine wp_skip ?_
        refine hN7 _ _ ?_
        refine ck_some H (fun hc16 H => ?_)
        refine seq_reg (fun K17 hK17 => ?_)
        refine stq hf rfl rfl rfl (ex_move hf rfl) (fun a hf => ?_)
        refine stq hf rfl rfl rfl (ex_move hf rfl) (fun a hf => ?_)
        refine stq hf rfl rfl rfl (ex_indexAddr sa_22 (rsl_isSl (hr.now hs (i := 0) rfl)) hc16.1 hc16.2 hf rfl rfl) (fun a hf => ?_)
        refine stq hf rfl rfl rfl (ex_fieldAddrS fa_25_2 rfl hf rfl) (fun a hf => ?_)
        refine stq hf rfl rfl rfl (ex_load sc_23 hf rfl (el_cell (K := K_api_IdleState) (f := 2) (rsl_rd (hr.now hs (i := 0) rfl)) hc16.1 hc16.2 rfl)) (fun a hf => ?_)
        refine stq hf rfl rfl rfl (ex_move hf rfl) (fun a hf => ?_)
        refine stq hf rfl rfl rfl (ex_mul hf rfl rfl) (fun a hf => ?_)
        refine stq hf rfl rfl rfl (ex_assign hf rfl) (fun a hf => ?_)
        refine hK17 _ _ ?_
        refine bnd H (fun x18 H18 HO18 => ?_)
        clear H
        refine seq_cut (fun a w => Fr a 61 [(9, .int .u64 x18)] ∧ St M w0 w []) (fun Q18 hJ18 hR18 hX18 => ?_) (fun a w hJ => ?_)
        · replace H := H18
          refine seq_reg (fun K19 hK19 => ?_)
          refine stq hf rfl rfl rfl (ex_assign hf rfl) (fun a hf => ?_)
          refine hK19 _ _ ?_
          refine block_k (fun Q20 hN20 hR20 hX20 hY20 => ?_)
          refine loop_k (fun n a w => ∃ (y21 : Int) (y22 : Int), Fr a 61 [(0, v0), (1, .int .i64 a1), (9, .int .u64 y21), (10, .int .i64 y22)] ∧ St M w0 w [] ∧ ref37_Energy.l1 n a1 a0 y21 y22 = some x18) k ?_ (fun n24 a w hI Q24 hL24 hR24 hX24 => ?_)
          · -- at the start
            exact ⟨(IntKind.u64.wrap (((gd IdleState.zero a0 a1).Power) * a2)), 1, hf.sub ⟨rfl, rfl, rfl, rfl, trivial⟩, hs, H⟩
          · obtain ⟨y21, y22, hf, hs, H⟩ := hI
            cases n24 with
            | zero => exact absurd H (by rw [ref37_Energy.l1.eq_1]; intro h; cases h)
            | succ k24 =>
              replace H := (ref37_Energy.l1.eq_2 ..).symm.trans H
              refine seq_n (fun Q25 hN25 hR25 hX25 => ?_)
              refine seq_reg (fun K26 hK26 => ?_)
              refine stq hf rfl rfl rfl (ex_move hf rfl) (fun a hf => ?_)
              refine stq hf rfl rfl rfl (ex_move hf rfl) (fun a hf => ?_)
              refine stq hf rfl rfl rfl (ex_leq hf rfl rfl) (fun a hf => ?_)
              refine hK26 _ _ ?_
              refine itt H (fun hc27 H => ?_) (fun hc27 H => ?_)
              · -- y22 ≤ a1
                replace hf := hf.castB (t := 37) rfl (dec_t hc27)
                refine cond_T hf rfl ?_
                refine wp_skip ?_
                refine hN25 _ _ ?_
                refine seq_n (fun Q28 hN28 hR28 hX28 => ?_)
                refine block_k (fun Q29 hN29 hR29 hX29 hY29 => ?_)
                refine ck_some H (fun hc30 H => ?_)
                refine ck_some H (fun hc31 H => ?_)
                refine region_d fol 20 [(0, v0), (1, .int .i64 a1), (9, .int .u64 y21), (10, .int .i64 y22)] [(0, .int .u64 y21), (1, v0), (2, .int .i64 y22), (3, .int .i64 (IntKind.i64.wrap (y22 - 1))), (4, .pointer (some (sla v0 ((IntKind.i64.wrap (y22 - 1)).toNat * 3)))), (5, .pointer (some (sla v0 ((IntKind.i64.wrap (y22 - 1)).toNat * 3 + 2)))), (6, .int .u64 ((gd IdleState.zero a0 (IntKind.i64.wrap (y22 - 1))).Power)), (7, v0), (8, .int .i64 y22), (9, .pointer (some (sla v0 (y22.toNat * 3)))), (10, .pointer (some (sla v0 (y22.toNat * 3 + 2)))), (11, .int .u64 ((gd IdleState.zero a0 y22).Power)), (12, .int .u64 (IntKind.u64.wrap (((gd IdleState.zero a0 (IntKind.i64.wrap (y22 - 1))).Power) - ((gd IdleState.zero a0 y22).Power)))), (13, v0), (14, .int .i64 y22), (15, .pointer (some (sla v0 (y22.toNat * 3)))), (16, .pointer (some (sla v0 (y22.toNat * 3 + 1)))), (17, .int .u64 ((gd IdleState.zero a0 y22).Residency)), (18, .int .u64 (IntKind.u64.wrap ((IntKind.u64.wrap (((gd IdleState.zero a0 (IntKind.i64.wrap (y22 - 1))).Power) - ((gd IdleState.zero a0 y22).Power))) * ((gd IdleState.zero a0 y22).Residency)))), (19, .int .u64 (IntKind.u64.wrap (y21 + (IntKind.u64.wrap ((IntKind.u64.wrap (((gd IdleState.zero a0 (IntKind.i64.wrap (y22 - 1))).Power) - ((gd IdleState.zero a0 y22).Power))) * ((gd IdleState.zero a0 y22).Residency))))))] [] (fun w => (rsl K_api_IdleState v0 a0).ok w ∧ True) (fun w => St M w0 w []) hf ⟨rfl, rfl, rfl, rfl, trivial⟩ (by kernel_rfl) (by kernel_rfl) rfl (by decide) ⟨hr.now hs.drew (i := 0) rfl, trivial⟩ hs.drew (.cons (⟨_, _, rfl, rfl, rfl, rfl, fun a w hR hf => .inl ⟨wanted_yes hf rfl, ex_move hf rfl⟩⟩) (.cons (⟨_, _, rfl, rfl, rfl, rfl, fun a w hR hf => .inl ⟨wanted_yes hf rfl, ex_move hf rfl⟩⟩) (.cons (⟨_, _, rfl, rfl, rfl, rfl, fun a w hR hf => .inl ⟨wanted_yes hf rfl, ex_move hf rfl⟩⟩) (.cons (⟨_, _, rfl, rfl, rfl, rfl, fun a w hR hf => .inl ⟨wanted_yes hf rfl, ex_sub hf rfl rfl⟩⟩) (.cons (⟨_, _, rfl, rfl, rfl, rfl, fun a w hR hf => .inl ⟨wanted_yes hf rfl, ex_indexAddr sa_22 (rsl_isSl hR.1) hc30.1 hc30.2 hf rfl rfl⟩⟩) (.cons (⟨_, _, rfl, rfl, rfl, rfl, fun a w hR hf => .inl ⟨wanted_yes hf rfl, ex_fieldAddrS fa_25_2 rfl hf rfl⟩⟩) (.cons (⟨_, _, rfl, rfl, rfl, rfl, fun a w hR hf => .inl ⟨wanted_yes hf rfl, ex_load sc_23 hf rfl (el_cell (K := K_api_IdleState) (f := 2) (rsl_rd hR.1) hc30.1 hc30.2 rfl)⟩⟩) (.cons (⟨_, _, rfl, rfl, rfl, rfl, fun a w hR hf => .inl ⟨wanted_yes hf rfl, ex_move hf rfl⟩⟩) (.cons (⟨_, _, rfl, rfl, rfl, rfl, fun a w hR hf => .inl ⟨wanted_yes hf rfl, ex_move hf rfl⟩⟩) (.cons (⟨_, _, rfl, rfl, rfl, rfl, fun a w hR hf => .inl ⟨wanted_yes hf rfl, ex_indexAddr sa_22 (rsl_isSl hR.1) hc31.1 hc31.2 hf rfl rfl⟩⟩) (.cons (⟨_, _, rfl, rfl, rfl, rfl, fun a w hR hf => .inl ⟨wanted_yes hf rfl, ex_fieldAddrS fa_25_2 rfl hf rfl⟩⟩) (.cons (⟨_, _, rfl, rfl, rfl, rfl, fun a w hR hf => .inl ⟨wanted_yes hf rfl, ex_load sc_23 hf rfl (el_cell (K := K_api_IdleState) (f := 2) (rsl_rd hR.1) hc31.1 hc31.2 rfl)⟩⟩) (.cons (⟨_, _, rfl, rfl, rfl, rfl, fun a w hR hf => .inl ⟨wanted_yes hf rfl, ex_sub hf rfl rfl⟩⟩) (.cons (⟨_, _, rfl, rfl, rfl, rfl, fun a w hR hf => .inl ⟨wanted_yes hf rfl, ex_move hf rfl⟩⟩) (.cons (⟨_, _, rfl, rfl, rfl, rfl, fun a w hR hf => .inl ⟨wanted_yes hf rfl, ex_move hf rfl⟩⟩) (.cons (⟨_, _, rfl, rfl, rfl, rfl, fun a w hR hf => .inl ⟨wanted_yes hf rfl, ex_indexAddr sa_22 (rsl_isSl hR.1) hc31.1 hc31.2 hf rfl rfl⟩⟩) (.cons (⟨_, _, rfl, rfl, rfl, rfl, fun a w hR hf => .inl ⟨wanted_yes hf rfl, ex_fieldAddrS fa_25_1 rfl hf rfl⟩⟩) (.cons (⟨_, _, rfl, rfl, rfl, rfl, fun a w hR hf => .inl ⟨wanted_yes hf rfl, ex_load sc_23 hf rfl (el_cell (K := K_api_IdleState) (f := 1) (rsl_rd hR.1) hc31.1 hc31.2 rfl)⟩⟩) (.cons (⟨_, _, rfl, rfl, rfl, rfl, fun a w hR hf => .inl ⟨wanted_yes hf rfl, ex_mul hf rfl rfl⟩⟩) (.cons (⟨_, _, rfl, rfl, rfl, rfl, fun a w hR hf => .inl ⟨wanted_yes hf rfl, ex_add hf rfl rfl⟩⟩) (.nil))))))))))))))))))))) (fun K32 hK32 => ?_)
                refine RW.zero (by kernel_rfl) (by kernel_rfl) [(0, v0), (1, .int .i64 a1), (9, .int .u64 y21), (10, .int .i64 y22), (59, .int .u64 (IntKind.u64.wrap (y21 + (IntKind.u64.wrap ((IntKind.u64.wrap (((gd IdleState.zero a0 (IntKind.i64.wrap (y22 - 1))).Power) - ((gd IdleState.zero a0 y22).Power))) * ((gd IdleState.zero a0 y22).Residency))))))] ⟨rfl, rfl, rfl, rfl, rfl, trivial⟩ (fun a w hR hs hf => ?_)
                refine stq hf rfl rfl rfl (ex_assign hf rfl) (fun a hf => ?_)
                refine hK32 _ _ ?_
                refine hN29 _ _ ?_
                refine hN28 _ _ ?_
                refine region_k (fun K33 hK33 => ?_)
                refine stq hf rfl rfl rfl (ex_move hf rfl) (fun a hf => ?_)
                refine stq hf rfl rfl rfl (ex_add hf rfl rfl) (fun a hf => ?_)
                refine stq hf rfl rfl rfl (ex_assign hf rfl) (fun a hf => ?_)
                refine hK33 _ _ ?_
                exact hL24 k24 _ _ (Nat.lt_succ_self _) ⟨(IntKind.u64.wrap (y21 + (IntKind.u64.wrap ((IntKind.u64.wrap (((gd IdleState.zero a0 (IntKind.i64.wrap (y22 - 1))).Power) - ((gd IdleState.zero a0 y22).Power))) * ((gd IdleState.zero a0 y22).Residency))))), (IntKind.i64.wrap (y22 + 1)), hf.sub ⟨rfl, rfl, rfl, rfl, trivial⟩, hs, H⟩
              · -- not y22 ≤ a1
                replace hf := hf.castB (t := 37) rfl (dec_f hc27)
                refine cond_F hf rfl ?_
                refine wp_exit ?_
                refine hX25 0 _ _ ?_
                refine hX24 0 _ _ ?_
                refine hX20 _ _ ?_
                have e18 := some_eq H; subst e18
                exact hJ18 _ _ ⟨hf.sub ⟨rfl, trivial⟩, hs⟩
        · obtain ⟨hf, hs⟩ := hJ
          replace H := HO18
          clear HO18
          refine seq_reg (fun K34 hK34 => ?_)
          refine stq hf rfl rfl rfl (ex_move hf rfl) (fun a hf => ?_)
          refine stq hf rfl rfl rfl (ex_assign hf rfl) (fun a hf => ?_)
          refine stq hf rfl rfl rfl (ex_assign hf rfl) (fun a hf => ?_)
          refine hK34 _ _ ?_
          refine wp_ret ?_
          have eR := some_eq H; subst eR
          exact ret2 Try.results21 hf rfl rfl ⟨_, rfl, ⟨rfl, hs⟩⟩
  · -- not s3 = 0
    replace hf := hf.castB (t := 14) rfl (ndec_t hc6)
    refine cond_T hf rfl ?_
    refine seq_reg (fun K35 hK35 => ?_)
    refine stq hf rfl rfl rfl (ex_move hf rfl) (fun a hf => ?_)
    refine stq hf rfl rfl rfl (ex_assign hf rfl) (fun a hf => ?_)
    refine stq hf rfl rfl rfl (ex_assign hf rfl) (fun a hf => ?_)
    refine hK35 _ _ ?_
    refine wp_ret ?_
    refine hR2 _ _ ?_
    have eR := some_eq H; subst eR
    exact ret2 Try.results21 hf rfl rfl ⟨_, rfl, ⟨rfl, hs⟩⟩

set_option maxRecDepth 100000 in
theorem idle_NewPredictor.calls {M : Nat → Prop} {w0 : World} (k : Nat) {r : (List Int)} (hs : St M w0 w0 []) (hr : Sr M w0 [])
    (h : idle_NewPredictor.f k = some r) : Calls Try.prog 30 #[] w0 fun e w => ∃ v, e = .returned v ∧ (∃ (g0 : Nat) (g1 : Value), .pointer (some ⟨g0, 0, none⟩) = v ∧ St M w0 w [bx g0 72 [g1], osl K_uint64 g1 r]) := by
  have H := (idle_NewPredictor.f.eq_1 ..).symm.trans h
  clear h
  refine enter Try.func30 rfl Try.ntmps30 rfl (fun a hf => ?_)
  refine seq_reg (fun K1 hK1 => ?_)
  refine stq hf rfl rfl rfl (ex_assign hf rfl) (fun a hf => ?_)
  refine hK1 _ _ ?_
  refine seq_reg (fun K3 hK3 => ?_)
  refine stq hf rfl rfl rfl (ex_build (cs := [(.slice none 0 0)]) bt_72 hf rfl .nil rfl) (fun a hf => ?_)
  refine stepV hf rfl rfl rfl (er_box (cs := [(.slice none 0 0)]) hs hf rfl rfl) (fun v w hR a hf => ?_)
  obtain ⟨b2, rfl, hs⟩ := hR
  refine stq hf rfl rfl rfl (ex_assign hf rfl) (fun a hf => ?_)
  refine hK3 _ _ ?_
  refine wp_ret ?_
  have eR := some_eq H; subst eR
  replace hs := hs.nilS K_uint64
  replace hs := hs.pick (.k (.c .nil))
  exact ret1 Try.results30 hf rfl ⟨_, rfl, ⟨b2, (.slice none 0 0), rfl, hs⟩⟩

set_option maxRecDepth 100000 in
theorem ref37_NewPredictor.calls {M : Nat → Prop} {w0 : World} (k : Nat) {r : (List Int)} (hs : St M w0 w0 []) (hr : Sr M w0 [])
    (h : ref37_NewPredictor.f k = some r) : Calls Try.prog 31 #[] w0 fun e w => ∃ v, e = .returned v ∧ (∃ (g0 : Nat) (g1 : Value), .pointer (some ⟨g0, 0, none⟩) = v ∧ St M w0 w [bx g0 74 [g1], osl K_uint64 g1 r]) := by
  have H := (ref37_NewPredictor.f.eq_1 ..).symm.trans h
  clear h
  refine enter Try.func31 rfl Try.ntmps31 rfl (fun a hf => ?_)
  refine seq_reg (fun K1 hK1 => ?_)
  refine stq hf rfl rfl rfl (ex_assign hf rfl) (fun a hf => ?_)
  refine hK1 _ _ ?_
  refine seq_reg (fun K3 hK3 => ?_)
  refine stq hf rfl rfl rfl (ex_build (cs := [(.slice none 0 0)]) bt_74 hf rfl .nil rfl) (fun a hf => ?_)
  refine stepV hf rfl rfl rfl (er_box (cs := [(.slice none 0 0)]) hs hf rfl rfl) (fun v w hR a hf => ?_)
  obtain ⟨b2, rfl, hs⟩ := hR
  refine stq hf rfl rfl rfl (ex_assign hf rfl) (fun a hf => ?_)
  refine hK3 _ _ ?_
  refine wp_ret ?_
  have eR := some_eq H; subst eR
  replace hs := hs.nilS K_uint64
  replace hs := hs.pick (.k (.c .nil))
  exact ret1 Try.results31 hf rfl ⟨_, rfl, ⟨b2, (.slice none 0 0), rfl, hs⟩⟩

set_option maxRecDepth 100000 in
theorem slices_Clone_uint64_uint64.calls {M : Nat → Prop} {w0 : World} (k : Nat) (a0 : (List Int)) (v0 : Value) {r : (List Int)} (hs : St M w0 w0 []) (hr : Sr M w0 [rsl K_uint64 v0 a0])
    (h : slices_Clone_uint64_uint64.f k a0 = some r) : Calls Try.prog 37 #[v0] w0 fun e w => ∃ v, e = .returned v ∧ (∃ (g0 : Value), g0 = v ∧ St M w0 w [osl K_uint64 g0 r]) := by
  have H := (slices_Clone_uint64_uint64.f.eq_1 ..).symm.trans h
  clear h
  refine enter Try.func37 rfl Try.ntmps37 rfl (fun a hf => ?_)
  refine seq_reg (fun K1 hK1 => ?_)
  refine stq hf rfl rfl rfl (ex_assign hf rfl) (fun a hf => ?_)
  refine hK1 _ _ ?_
  refine seq_n (fun Q2 hN2 hR2 hX2 => ?_)
  refine seq_reg (fun K3 hK3 => ?_)
  refine stq hf rfl rfl rfl (ex_move hf rfl) (fun a hf => ?_)
  refine stq hf rfl rfl rfl (ex_eqnil Try.underlying39 (rsl_isSl (hr.now hs (i := 0) rfl)) hf rfl rfl) (fun a hf => ?_)
  refine hK3 _ _ ?_
  by_cases hc4 : (isNil v0) = true
  · -- nil
    have hz5 : a0 = [] := isNil_nil (rsl_isSl (hr.now hs (i := 0) rfl)) hc4
    replace H : (some ([] : List Int)) = some r := by simpa [ck, hz5] using H
    replace hf := hf.castB (t := 4) rfl hc4
    refine cond_T hf rfl ?_
    refine seq_reg (fun K6 hK6 => ?_)
    refine stq hf rfl rfl rfl (ex_assign hf rfl) (fun a hf => ?_)
    refine hK6 _ _ ?_
    refine wp_ret ?_
    refine hR2 _ _ ?_
    have eR := some_eq H; subst eR
    replace hs := hs.nilS K_uint64
    exact ret1 Try.results37 hf rfl ⟨_, rfl, ⟨(.slice none 0 0), rfl, hs⟩⟩
  · -- not nil
    replace hf := hf.castB (t := 4) rfl (bool_f hc4)
    refine cond_F hf rfl ?_
    refine wp_skip ?_
    refine hN2 _ _ ?_
    refine ck_some H (fun hc8 H => ?_)
    refine seq_reg (fun K10 hK10 => ?_)
    refine stepV hf rfl rfl rfl (er_buildSlice (K := K_uint64) (xs := ([] : List Int)) hs Try.underlying39 ep_23 rfl rfl hf rfl .nil rfl rfl) (fun v7 w hs a hf => ?_)
    refine stq hf rfl rfl rfl (ex_move hf rfl) (fun a hf => ?_)
    refine stepV hf rfl rfl rfl (er_append (K := K_uint64) hs (.c .nil) (hr.now hs (i := 0) rfl) rfl Try.underlying39 ep_23 hc8 rfl hf rfl rfl) (fun v9 w hs a hf => ?_)
    refine stq hf rfl rfl rfl (ex_assign hf rfl) (fun a hf => ?_)
    refine hK10 _ _ ?_
    refine wp_ret ?_
    have eR := some_eq H; subst eR
    exact ret1 Try.results37 hf rfl ⟨_, rfl, ⟨v9, rfl, hs⟩⟩

set_option maxRecDepth 100000 in
theorem idle_Predictor_Record.calls {M : Nat → Prop} {w0 : World} (k : Nat) (a0_last : (List Int)) (a1 : Int) (b0 : Nat) (v0_last : Value) {r : (List Int) × Int} (hs : St M w0 w0 [bx b0 72 [v0_last], osl K_uint64 v0_last a0_last]) (hr : Sr M w0 [])
    (h : idle_Predictor_Record.f k a0_last a1 = some r) : Calls Try.prog 32 #[.pointer (some ⟨b0, 0, none⟩), .int .u64 a1] w0 fun e w => ∃ v, e = .returned v ∧ (∃ (g0 : Value), .int .i64 r.2 = v ∧ St M w0 w [bx b0 72 [g0], osl K_uint64 g0 r.1]) := by
  have H := (idle_Predictor_Record.f.eq_1 ..).symm.trans h
  clear h
  refine enter Try.func32 rfl Try.ntmps32 rfl (fun a hf => ?_)
  refine seq_reg (fun K1 hK1 => ?_)
  refine stq hf rfl rfl rfl (ex_assign hf rfl) (fun a hf => ?_)
  refine hK1 _ _ ?_
  refine seq_n (fun Q2 hN2 hR2 hX2 => ?_)
  refine seq_reg (fun K3 hK3 => ?_)
  refine stq hf rfl rfl rfl (ex_move hf rfl) (fun a hf => ?_)
  refine stq hf rfl rfl rfl (ex_gtr hf rfl rfl) (fun a hf => ?_)
  refine hK3 _ _ ?_
  refine itt H (fun hc4 H => ?_) (fun hc4 H => ?_)
  · -- 1152921504606846976 < a1
    replace hf := hf.castB (t := 6) rfl (dec_t hc4)
    refine cond_T hf rfl ?_
    refine seq_reg (fun K5 hK5 => ?_)
    refine stq hf rfl rfl rfl (ex_assign hf rfl) (fun a hf => ?_)
    refine hK5 _ _ ?_
    refine wp_ret ?_
    refine hR2 _ _ ?_
    have eR := some_eq H; subst eR
    exact ret1 Try.results32 hf rfl ⟨_, rfl, ⟨v0_last, rfl, hs⟩⟩
  · -- not 1152921504606846976 < a1
    replace hf := hf.castB (t := 6) rfl (dec_f hc4)
    refine cond_F hf rfl ?_
    refine wp_skip ?_
    refine hN2 _ _ ?_
    refine ck_some H (fun hc7 H => ?_)
    refine seq_reg (fun K9 hK9 => ?_)
    refine stq hf rfl rfl rfl (ex_move hf rfl) (fun a hf => ?_)
    refine stq hf rfl rfl rfl (ex_move hf rfl) (fun a hf => ?_)
    refine stq hf rfl rfl rfl (ex_nilCheck hf rfl) (fun a hf => ?_)
    refine stq hf rfl rfl rfl (ex_fieldAddrB fa_72_0 rfl hf rfl) (fun a hf => ?_)
    refine stq hf rfl rfl rfl (ex_load sc_39 hf rfl (bx_cell (hs.get (i := 0) rfl) _ rfl)) (fun a hf => ?_)
    refine stq hf rfl rfl rfl (ex_move hf rfl) (fun a hf => ?_)
    refine stepV hf rfl rfl rfl (er_buildSlice (K := K_uint64) (xs := [a1]) hs Try.underlying39 ep_23 rfl rfl hf rfl (.cons rfl .nil) rfl rfl) (fun v6 w hs a hf => ?_)
    refine stepV hf rfl rfl rfl (er_append (K := K_uint64) hs (.k (.k (.c .nil))) (osl_rsl _ (hs.get (i := 0) rfl)) rfl Try.underlying39 ep_23 hc7 rfl hf rfl rfl) (fun v8 w hs a hf => ?_)
    refine stq hf rfl rfl rfl (ex_nilCheck hf rfl) (fun a hf => ?_)
    refine stq hf rfl rfl rfl (ex_fieldAddrB fa_72_0 rfl hf rfl) (fun a hf => ?_)
    refine stepS hf rfl rfl (er_storeB hs (.k (.k (.c .nil))) hf rfl rfl (IsSl.one (rsl_isSl (osl_rsl _ (hs.get (i := 0) rfl)))) sz_39 rfl) (fun w hs => ?_)
    refine hK9 _ _ ?_
    refine bnd H (fun x10 H10 HO10 => ?_)
    clear H
    refine seq_cut (fun a w => ∃ (v11 : Value), Fr a 32 [] ∧ St M w0 w [bx b0 72 [v11], osl K_uint64 v11 x10]) (fun Q10 hJ10 hR10 hX10 => ?_) (fun a w hJ => ?_)
    · replace H := H10
      refine seq_reg (fun K12 hK12 => ?_)
      refine stq hf rfl rfl rfl (ex_move hf rfl) (fun a hf => ?_)
      refine stq hf rfl rfl rfl (ex_nilCheck hf rfl) (fun a hf => ?_)
      refine stq hf rfl rfl rfl (ex_fieldAddrB fa_72_0 rfl hf rfl) (fun a hf => ?_)
      refine stq hf rfl rfl rfl (ex_load sc_39 hf rfl (bx_cell (hs.get (i := 0) rfl) _ rfl)) (fun a hf => ?_)
      refine stq hf rfl rfl rfl (ex_lenS Try.underlying39 (rsl_isSl (osl_rsl _ (hs.get (i := 1) rfl))) hf rfl) (fun a hf => ?_)
      refine stq hf rfl rfl rfl (ex_gtr hf rfl rfl) (fun a hf => ?_)
      refine hK12 _ _ ?_
      refine itt H (fun hc13 H => ?_) (fun hc13 H => ?_)
      · -- 8 < ((a0_last ++ [a1]).length : Int)
        replace hf := hf.castB (t := 22) rfl (dec_t hc13)
        refine cond_T hf rfl ?_
        refine ck_some H (fun hc14 H => ?_)
        refine bnd H (fun s15 hs15 H => ?_)
        refine region_k (fun K17 hK17 => ?_)
        refine stq hf rfl rfl rfl (ex_move hf rfl) (fun a hf => ?_)
        refine stq hf rfl rfl rfl (ex_move hf rfl) (fun a hf => ?_)
        refine stq hf rfl rfl rfl (ex_nilCheck hf rfl) (fun a hf => ?_)
        refine stq hf rfl rfl rfl (ex_fieldAddrB fa_72_0 rfl hf rfl) (fun a hf => ?_)
        refine stq hf rfl rfl rfl (ex_load sc_39 hf rfl (bx_cell (hs.get (i := 0) rfl) _ rfl)) (fun a hf => ?_)
        refine stq hf rfl rfl rfl (ex_slice_l sa_39 (rsl_isSl (osl_rsl _ (hs.get (i := 1) rfl))) hc14 hf rfl rfl) (fun a hf => ?_)
        refine stepF hf rfl rfl rfl (ex_call cf_37 hf rfl) (slices_Clone_uint64_uint64.calls k (((a0_last ++ [a1]).drop (1 : Int).toNat).take ((((a0_last ++ [a1]).length : Int).toNat) - (1 : Int).toNat)) (slv v8 (1 : Int).toNat (((a0_last ++ [a1]).length : Int).toNat) 1) (hs.enter (.k (.k (.k .nil)))) (Sr.own hs (.k (.k (.k .nil))) (i := 1) rfl (fun _ h => rsl_slv _ (osl_rsl _ h) (view_1 hc14) (view_2 hc14)) (fun _ h => (slv_fs h).1) (Sr.nil _ _)) hs15) (fun v w hR a hf => ?_)
        obtain ⟨v16, rfl, hs'⟩ := hR
        replace hs := hs.step (.k (.k (.k .nil))) hs'
        clear hs'
        refine stq hf rfl rfl rfl (ex_nilCheck hf rfl) (fun a hf => ?_)
        refine stq hf rfl rfl rfl (ex_fieldAddrB fa_72_0 rfl hf rfl) (fun a hf => ?_)
        refine stepS hf rfl rfl (er_storeB hs (.k (.c (.k (.k .nil)))) hf rfl rfl (IsSl.one (rsl_isSl (osl_rsl _ (hs.get (i := 0) rfl)))) sz_39 rfl) (fun w hs => ?_)
        refine hK17 _ _ ?_
        replace hs := hs.keep (.k (.k (.d (.d .nil))))
        have e10 := some_eq H; subst e10
        exact hJ10 _ _ ⟨v16, hf.sub trivial, hs⟩
      · -- not 8 < ((a0_last ++ [a1]).length : Int)
        replace hf := hf.castB (t := 22) rfl (dec_f hc13)
        refine cond_F hf rfl ?_
        refine wp_skip ?_
        replace hs := hs.keep (.k (.k (.d .nil)))
        have e10 := some_eq H; subst e10
        exact hJ10 _ _ ⟨v8, hf.sub trivial, hs⟩
    · obtain ⟨v11, hf, hs⟩ := hJ
      replace H := HO10
      clear HO10
      refine seq_reg (fun K18 hK18 => ?_)
      refine stq hf rfl rfl rfl (ex_assign hf rfl) (fun a hf => ?_)
      refine hK18 _ _ ?_
      refine wp_ret ?_
      have eR := some_eq H; subst eR
      exact ret1 Try.results32 hf rfl ⟨_, rfl, ⟨v11, rfl, hs⟩⟩

set_option maxRecDepth 100000 in
theorem ref37_Predictor_Record.calls {M : Nat → Prop} {w0 : World} (k : Nat) (a0_All : (List Int)) (a1 : Int) (b0 : Nat) (v0_All : Value) {r : (List Int) × Int} (hs : St M w0 w0 [bx b0 74 [v0_All], osl K_uint64 v0_All a0_All]) (hr : Sr M w0 [])
    (h : ref37_Predictor_Record.f k a0_All a1 = some r) : Calls Try.prog 33 #[.pointer (some ⟨b0, 0, none⟩), .int .u64 a1] w0 fun e w => ∃ v, e = .returned v ∧ (∃ (g0 : Value), .int .i64 r.2 = v ∧ St M w0 w [bx b0 74 [g0], osl K_uint64 g0 r.1]) := by
  have H := (ref37_Predictor_Record.f.eq_1 ..).symm.trans h
  clear h
  refine enter Try.func33 rfl Try.ntmps33 rfl (fun a hf => ?_)
  refine seq_reg (fun K1 hK1 => ?_)
  refine stq hf rfl rfl rfl (ex_assign hf rfl) (fun a hf => ?_)
  refine hK1 _ _ ?_
  refine seq_n (fun Q2 hN2 hR2 hX2 => ?_)
  refine seq_reg (fun K3 hK3 => ?_)
  refine stq hf rfl rfl rfl (ex_move hf rfl) (fun a hf => ?_)
  refine stq hf rfl rfl rfl (ex_gtr hf rfl rfl) (fun a hf => ?_)
  refine hK3 _ _ ?_
  refine itt H (fun hc4 H => ?_) (fun hc4 H => ?_)
  · -- 1152921504606846976 < a1
    replace hf := hf.castB (t := 6) rfl (dec_t hc4)
    refine cond_T hf rfl ?_
    refine seq_reg (fun K5 hK5 => ?_)
    refine stq hf rfl rfl rfl (ex_assign hf rfl) (fun a hf => ?_)
    refine hK5 _ _ ?_
    refine wp_ret ?_
    refine hR2 _ _ ?_
    have eR := some_eq H; subst eR
    exact ret1 Try.results33 hf rfl ⟨_, rfl, ⟨v0_All, rfl, hs⟩⟩
  · -- not 1152921504606846976 < a1
    replace hf := hf.castB (t := 6) rfl (dec_f hc4)
    refine cond_F hf rfl ?_
    refine wp_skip ?_
    refine hN2 _ _ ?_
    refine ck_some H (fun hc7 H => ?_)
    refine seq_reg (fun K9 hK9 => ?_)
    refine stq hf rfl rfl rfl (ex_move hf rfl) (fun a hf => ?_)
    refine stq hf rfl rfl rfl (ex_move hf rfl) (fun a hf => ?_)
    refine stq hf rfl rfl rfl (ex_nilCheck hf rfl) (fun a hf => ?_)
    refine stq hf rfl rfl rfl (ex_fieldAddrB fa_74_0 rfl hf rfl) (fun a hf => ?_)
    refine stq hf rfl rfl rfl (ex_load sc_39 hf rfl (bx_cell (hs.get (i := 0) rfl) _ rfl)) (fun a hf => ?_)
    refine stq hf rfl rfl rfl (ex_move hf rfl) (fun a hf => ?_)
    refine stepV hf rfl rfl rfl (er_buildSlice (K := K_uint64) (xs := [a1]) hs Try.underlying39 ep_23 rfl rfl hf rfl (.cons rfl .nil) rfl rfl) (fun v6 w hs a hf => ?_)
    refine stepV hf rfl rfl rfl (er_append (K := K_uint64) hs (.k (.k (.c .nil))) (osl_rsl _ (hs.get (i := 0) rfl)) rfl Try.underlying39 ep_23 hc7 rfl hf rfl rfl) (fun v8 w hs a hf => ?_)
    refine stq hf rfl rfl rfl (ex_nilCheck hf rfl) (fun a hf => ?_)
    refine stq hf rfl rfl rfl (ex_fieldAddrB fa_74_0 rfl hf rfl) (fun a hf => ?_)
    refine stepS hf rfl rfl (er_storeB hs (.k (.k (.c .nil))) hf rfl rfl (IsSl.one (rsl_isSl (osl_rsl _ (hs.get (i := 0) rfl)))) sz_39 rfl) (fun w hs => ?_)
    refine hK9 _ _ ?_
    refine seq_reg (fun K10 hK10 => ?_)
    refine stq hf rfl rfl rfl (ex_assign hf rfl) (fun a hf => ?_)
    refine hK10 _ _ ?_
    refine wp_ret ?_
    have eR := some_eq H; subst eR
    replace hs := hs.keep (.k (.k (.d .nil)))
    exact ret1 Try.results33 hf rfl ⟨_, rfl, ⟨v8, rfl, hs⟩⟩

set_option maxRecDepth 100000 in
theorem slices_Max_uint64_uint64.calls {M : Nat → Prop} {w0 : World} (k : Nat) (a0 : (List Int)) (v0 : Value) {r : Int} (hs : St M w0 w0 []) (hr : Sr M w0 [rsl K_uint64 v0 a0])
    (h : slices_Max_uint64_uint64.f k a0 = some r) : Calls Try.prog 38 #[v0] w0 fun e w => ∃ v, e = .returned v ∧ (.int .u64 r = v ∧ St M w0 w []) := by
  have H := (slices_Max_uint64_uint64.f.eq_1 ..).symm.trans h
  clear h
  refine enter Try.func38 rfl Try.ntmps38 rfl (fun a hf => ?_)
  refine seq_reg (fun K1 hK1 => ?_)
  refine stq hf rfl rfl rfl (ex_assign hf rfl) (fun a hf => ?_)
  refine hK1 _ _ ?_
  refine seq_n (fun Q2 hN2 hR2 hX2 => ?_)
  refine seq_reg (fun K3 hK3 => ?_)
  refine stq hf rfl rfl rfl (ex_move hf rfl) (fun a hf => ?_)
  refine stq hf rfl rfl rfl (ex_lenS Try.underlying39 (rsl_isSl (hr.now hs (i := 0) rfl)) hf rfl) (fun a hf => ?_)
  refine stq hf rfl rfl rfl (ex_lss hf rfl rfl) (fun a hf => ?_)
  refine hK3 _ _ ?_
  refine itt H (fun hc4 H => ?_) (fun hc4 H => ?_)
  · -- (a0.length : Int) < 1
    replace hf := hf.castB (t := 7) rfl (dec_t hc4)
    refine cond_T hf rfl ?_
    cases H
  · -- not (a0.length : Int) < 1
    replace hf := hf.castB (t := 7) rfl (dec_f hc4)
    refine cond_F hf rfl ?_
    refine wp_skip ?_
    refine hN2 _ _ ?_
    refine ck_some H (fun hc5 H => ?_)
    refine seq_reg (fun K6 hK6 => ?_)
    refine stq hf rfl rfl rfl (ex_move hf rfl) (fun a hf => ?_)
    refine stq hf rfl rfl rfl (ex_indexAddr sa_39 (rsl_isSl (hr.now hs (i := 0) rfl)) hc5.1 hc5.2 hf rfl rfl) (fun a hf => ?_)
    refine stq hf rfl rfl rfl (ex_load sc_23 hf rfl (el_cell (K := K_uint64) (f := 0) (rsl_rd (hr.now hs (i := 0) rfl)) hc5.1 hc5.2 rfl)) (fun a hf => ?_)
    refine stq hf rfl rfl rfl (ex_assign hf rfl) (fun a hf => ?_)
    refine hK6 _ _ ?_
    refine bnd H (fun x7 H7 HO7 => ?_)
    clear H
    refine seq_cut (fun a w => Fr a 25 [(3, .int .u64 x7)] ∧ St M w0 w []) (fun Q7 hJ7 hR7 hX7 => ?_) (fun a w hJ => ?_)
    · replace H := H7
      refine seq_reg (fun K8 hK8 => ?_)
      refine stq hf rfl rfl rfl (ex_assign hf rfl) (fun a hf => ?_)
      refine hK8 _ _ ?_
      refine block_k (fun Q9 hN9 hR9 hX9 hY9 => ?_)
      refine loop_k (fun n a w => ∃ (y10 : Int) (y11 : Int), Fr a 25 [(0, v0), (3, .int .u64 y10), (4, .int .i64 y11)] ∧ St M w0 w [] ∧ slices_Max_uint64_uint64.l1 n a0 y10 y11 = some x7) k ?_ (fun n13 a w hI Q13 hL13 hR13 hX13 => ?_)
      · -- at the start
        exact ⟨(gd 0 a0 0), 1, hf.sub ⟨rfl, rfl, rfl, trivial⟩, hs, H⟩
      · obtain ⟨y10, y11, hf, hs, H⟩ := hI
        cases n13 with
        | zero => exact absurd H (by rw [slices_Max_uint64_uint64.l1.eq_1]; intro h; cases h)
        | succ k13 =>
          replace H := (slices_Max_uint64_uint64.l1.eq_2 ..).symm.trans H
          refine seq_n (fun Q14 hN14 hR14 hX14 => ?_)
          refine seq_reg (fun K15 hK15 => ?_)
          refine stq hf rfl rfl rfl (ex_move hf rfl) (fun a hf => ?_)
          refine stq hf rfl rfl rfl (ex_move hf rfl) (fun a hf => ?_)
          refine stq hf rfl rfl rfl (ex_lenS Try.underlying39 (rsl_isSl (hr.now hs (i := 0) rfl)) hf rfl) (fun a hf => ?_)
          refine stq hf rfl rfl rfl (ex_lss hf rfl rfl) (fun a hf => ?_)
          refine hK15 _ _ ?_
          refine itt H (fun hc16 H => ?_) (fun hc16 H => ?_)
          · -- y11 < (a0.length : Int)
            replace hf := hf.castB (t := 15) rfl (dec_t hc16)
            refine cond_T hf rfl ?_
            refine wp_skip ?_
            refine hN14 _ _ ?_
            refine seq_n (fun Q17 hN17 hR17 hX17 => ?_)
            refine block_k (fun Q18 hN18 hR18 hX18 hY18 => ?_)
            refine ck_some H (fun hc19 H => ?_)
            refine region_k (fun K20 hK20 => ?_)
            refine stq hf rfl rfl rfl (ex_move hf rfl) (fun a hf => ?_)
            refine stq hf rfl rfl rfl (ex_move hf rfl) (fun a hf => ?_)
            refine stq hf rfl rfl rfl (ex_move hf rfl) (fun a hf => ?_)
            refine stq hf rfl rfl rfl (ex_indexAddr sa_39 (rsl_isSl (hr.now hs (i := 0) rfl)) hc19.1 hc19.2 hf rfl rfl) (fun a hf => ?_)
            refine stq hf rfl rfl rfl (ex_load sc_23 hf rfl (el_cell (K := K_uint64) (f := 0) (rsl_rd (hr.now hs (i := 0) rfl)) hc19.1 hc19.2 rfl)) (fun a hf => ?_)
            refine stq hf rfl rfl rfl (ex_max hf rfl rfl) (fun a hf => ?_)
            refine stq hf rfl rfl rfl (ex_assign hf rfl) (fun a hf => ?_)
            refine hK20 _ _ ?_
            refine hN18 _ _ ?_
            refine hN17 _ _ ?_
            refine region_k (fun K21 hK21 => ?_)
            refine stq hf rfl rfl rfl (ex_move hf rfl) (fun a hf => ?_)
            refine stq hf rfl rfl rfl (ex_add hf rfl rfl) (fun a hf => ?_)
            refine stq hf rfl rfl rfl (ex_assign hf rfl) (fun a hf => ?_)
            refine hK21 _ _ ?_
            exact hL13 k13 _ _ (Nat.lt_succ_self _) ⟨(mx y10 (gd 0 a0 y11)), (IntKind.i64.wrap (y11 + 1)), hf.sub ⟨rfl, rfl, rfl, trivial⟩, hs, H⟩
          · -- not y11 < (a0.length : Int)
            replace hf := hf.castB (t := 15) rfl (dec_f hc16)
            refine cond_F hf rfl ?_
            refine wp_exit ?_
            refine hX14 0 _ _ ?_
            refine hX13 0 _ _ ?_
            refine hX9 _ _ ?_
            have e7 := some_eq H; subst e7
            exact hJ7 _ _ ⟨hf.sub ⟨rfl, trivial⟩, hs⟩
    · obtain ⟨hf, hs⟩ := hJ
      replace H := HO7
      clear HO7
      refine seq_reg (fun K22 hK22 => ?_)
      refine stq hf rfl rfl rfl (ex_move hf rfl) (fun a hf => ?_)
      refine stq hf rfl rfl rfl (ex_assign hf rfl) (fun a hf => ?_)
      refine hK22 _ _ ?_
      refine wp_ret ?_
      have eR := some_eq H; subst eR
      exact ret1 Try.results38 hf rfl ⟨_, rfl, ⟨rfl, hs⟩⟩

set_option maxRecDepth 100000 in
theorem idle_Predictor_Expected.calls {M : Nat → Prop} {w0 : World} (k : Nat) (a0_last : (List Int)) (a1 : Int) (b0 : Nat) (v0_last : Value) {r : Int} (hs : St M w0 w0 []) (hr : Sr M w0 [bx b0 72 [v0_last], rsl K_uint64 v0_last a0_last])
    (h : idle_Predictor_Expected.f k a0_last a1 = some r) : Calls Try.prog 34 #[.pointer (some ⟨b0, 0, none⟩), .int .u64 a1] w0 fun e w => ∃ v, e = .returned v ∧ (.int .u64 r = v ∧ St M w0 w []) := by
  have H := (idle_Predictor_Expected.f.eq_1 ..).symm.trans h
  clear h
  refine enter Try.func34 rfl Try.ntmps34 rfl (fun a hf => ?_)
  refine seq_reg (fun K1 hK1 => ?_)
  refine stq hf rfl rfl rfl (ex_assign hf rfl) (fun a hf => ?_)
  refine hK1 _ _ ?_
  refine seq_n (fun Q2 hN2 hR2 hX2 => ?_)
  refine seq_reg (fun K3 hK3 => ?_)
  refine stq hf rfl rfl rfl (ex_move hf rfl) (fun a hf => ?_)
  refine stq hf rfl rfl rfl (ex_nilCheck hf rfl) (fun a hf => ?_)
  refine stq hf rfl rfl rfl (ex_fieldAddrB fa_72_0 rfl hf rfl) (fun a hf => ?_)
  refine stq hf rfl rfl rfl (ex_load sc_39 hf rfl (bx_cell (hr.now hs (i := 0) rfl) _ rfl)) (fun a hf => ?_)
  refine stq hf rfl rfl rfl (ex_lenS Try.underlying39 (rsl_isSl (hr.now hs (i := 1) rfl)) hf rfl) (fun a hf => ?_)
  refine stq hf rfl rfl rfl (ex_lss hf rfl rfl) (fun a hf => ?_)
  refine hK3 _ _ ?_
  refine itt H (fun hc4 H => ?_) (fun hc4 H => ?_)
  · -- (a0_last.length : Int) < 8
    replace hf := hf.castB (t := 13) rfl (dec_t hc4)
    refine cond_T hf rfl ?_
    refine seq_reg (fun K5 hK5 => ?_)
    refine stq hf rfl rfl rfl (ex_move hf rfl) (fun a hf => ?_)
    refine stq hf rfl rfl rfl (ex_assign hf rfl) (fun a hf => ?_)
    refine hK5 _ _ ?_
    refine wp_ret ?_
    refine hR2 _ _ ?_
    have eR := some_eq H; subst eR
    exact ret1 Try.results34 hf rfl ⟨_, rfl, ⟨rfl, hs⟩⟩
  · -- not (a0_last.length : Int) < 8
    replace hf := hf.castB (t := 13) rfl (dec_f hc4)
    refine cond_F hf rfl ?_
    refine wp_skip ?_
    refine hN2 _ _ ?_
    refine seq_reg (fun K6 hK6 => ?_)
    refine stq hf rfl rfl rfl (ex_assign hf rfl) (fun a hf => ?_)
    refine hK6 _ _ ?_
    refine bnd H (fun x7 H7 HO7 => ?_)
    clear H
    refine seq_cut (fun a w => Fr a 38 [(0, .pointer (some ⟨b0, 0, none⟩)), (1, .int .u64 a1), (5, .int .u64 x7)] ∧ St M w0 w []) (fun Q7 hJ7 hR7 hX7 => ?_) (fun a w hJ => ?_)
    · replace H := H7
      refine seq_reg (fun K8 hK8 => ?_)
      refine stq hf rfl rfl rfl (ex_move hf rfl) (fun a hf => ?_)
      refine stq hf rfl rfl rfl (ex_nilCheck hf rfl) (fun a hf => ?_)
      refine stq hf rfl rfl rfl (ex_fieldAddrB fa_72_0 rfl hf rfl) (fun a hf => ?_)
      refine stq hf rfl rfl rfl (ex_load sc_39 hf rfl (bx_cell (hr.now hs (i := 0) rfl) _ rfl)) (fun a hf => ?_)
      refine stq hf rfl rfl rfl (ex_lenS Try.underlying39 (rsl_isSl (hr.now hs (i := 1) rfl)) hf rfl) (fun a hf => ?_)
      refine stq hf rfl rfl rfl (ex_move hf rfl) (fun a hf => ?_)
      refine hK8 _ _ ?_
      refine block_k (fun Q9 hN9 hR9 hX9 hY9 => ?_)
      refine loop_k (fun n a w => ∃ (y10 : Int) (y11 : Int), Fr a 38 [(0, .pointer (some ⟨b0, 0, none⟩)), (1, .int .u64 a1), (5, .int .u64 y10), (18, v0_last), (19, .int .i64 (a0_last.length : Int)), (20, .int .i64 y11)] ∧ St M w0 w [] ∧ idle_Predictor_Expected.l1 n a0_last y10 y11 = some x7) k ?_ (fun n13 a w hI Q13 hL13 hR13 hX13 => ?_)
      · -- at the start
        exact ⟨0, 0, hf.sub ⟨rfl, rfl, rfl, rfl, rfl, rfl, trivial⟩, hs, H⟩
      · obtain ⟨y10, y11, hf, hs, H⟩ := hI
        cases n13 with
        | zero => exact absurd H (by rw [idle_Predictor_Expected.l1.eq_1]; intro h; cases h)
        | succ k13 =>
          replace H := (idle_Predictor_Expected.l1.eq_2 ..).symm.trans H
          refine seq_reg (fun K14 hK14 => ?_)
          refine stq hf rfl rfl rfl (ex_lss hf rfl rfl) (fun a hf => ?_)
          refine hK14 _ _ ?_
          refine seq_n (fun Q15 hN15 hR15 hX15 => ?_)
          refine itt H (fun hc16 H => ?_) (fun hc16 H => ?_)
          · -- y11 < (a0_last.length : Int)
            replace hf := hf.castB (t := 21) rfl (dec_t hc16)
            refine cond_T hf rfl ?_
            refine wp_skip ?_
            refine hN15 _ _ ?_
            refine seq_n (fun Q17 hN17 hR17 hX17 => ?_)
            refine block_k (fun Q18 hN18 hR18 hX18 hY18 => ?_)
            refine ck_some H (fun hc19 H => ?_)
            refine seq_reg (fun K20 hK20 => ?_)
            refine stq hf rfl rfl rfl (ex_indexAddr sa_39 (rsl_isSl (hr.now hs (i := 1) rfl)) hc19.1 hc19.2 hf rfl rfl) (fun a hf => ?_)
            refine stq hf rfl rfl rfl (ex_load sc_23 hf rfl (el_cell (K := K_uint64) (f := 0) (rsl_rd (hr.now hs (i := 1) rfl)) hc19.1 hc19.2 rfl)) (fun a hf => ?_)
            refine stq hf rfl rfl rfl (ex_assign hf rfl) (fun a hf => ?_)
            refine hK20 _ _ ?_
            refine region_k (fun K21 hK21 => ?_)
            refine stq hf rfl rfl rfl (ex_move hf rfl) (fun a hf => ?_)
            refine stq hf rfl rfl rfl (ex_move hf rfl) (fun a hf => ?_)
            refine stq hf rfl rfl rfl (ex_add hf rfl rfl) (fun a hf => ?_)
            refine stq hf rfl rfl rfl (ex_assign hf rfl) (fun a hf => ?_)
            refine hK21 _ _ ?_
            refine hN18 _ _ ?_
            refine hN17 _ _ ?_
            refine region_k (fun K22 hK22 => ?_)
            refine stq hf rfl rfl rfl (ex_add hf rfl rfl) (fun a hf => ?_)
            refine stq hf rfl rfl rfl (ex_move hf rfl) (fun a hf => ?_)
            refine hK22 _ _ ?_
            exact hL13 k13 _ _ (Nat.lt_succ_self _) ⟨(IntKind.u64.wrap (y10 + (gd 0 a0_last y11))), (IntKind.i64.wrap (y11 + 1)), hf.sub ⟨rfl, rfl, rfl, rfl, rfl, rfl, trivial⟩, hs, H⟩
          · -- not y11 < (a0_last.length : Int)
            replace hf := hf.castB (t := 21) rfl (dec_f hc16)
            refine cond_F hf rfl ?_
            refine wp_exit ?_
            refine hX15 0 _ _ ?_
            refine hX13 0 _ _ ?_
            refine hX9 _ _ ?_
            have e7 := some_eq H; subst e7
            exact hJ7 _ _ ⟨hf.sub ⟨rfl, rfl, rfl, trivial⟩, hs⟩
    · obtain ⟨hf, hs⟩ := hJ
      replace H := HO7
      clear HO7
      refine bnd H (fun s23 hs23 H => ?_)
      refine seq_reg (fun K24 hK24 => ?_)
      refine stq hf rfl rfl rfl (ex_move hf rfl) (fun a hf => ?_)
      refine stq hf rfl rfl rfl (ex_move hf rfl) (fun a hf => ?_)
      refine stq hf rfl rfl rfl (ex_move hf rfl) (fun a hf => ?_)
      refine stq hf rfl rfl rfl (ex_nilCheck hf rfl) (fun a hf => ?_)
      refine stq hf rfl rfl rfl (ex_fieldAddrB fa_72_0 rfl hf rfl) (fun a hf => ?_)
      refine stq hf rfl rfl rfl (ex_load sc_39 hf rfl (bx_cell (hr.now hs (i := 0) rfl) _ rfl)) (fun a hf => ?_)
      refine stepF hf rfl rfl rfl (ex_call cf_38 hf rfl) (slices_Max_uint64_uint64.calls k a0_last v0_last (hs.enter .nil) (Sr.old hr hs .nil (i := 1) rfl (fun _ h => h) (fun _ h => h) (Sr.nil _ _)) hs23) (fun v w hR a hf => ?_)
      obtain ⟨rfl, hs'⟩ := hR
      replace hs := hs.step .nil hs'
      clear hs'
      refine stq hf rfl rfl rfl (ex_sub hf rfl rfl) (fun a hf => ?_)
      refine stq hf rfl rfl rfl (ex_quo hf rfl rfl (by decide)) (fun a hf => ?_)
      refine stq hf rfl rfl rfl (ex_min hf rfl rfl) (fun a hf => ?_)
      refine stq hf rfl rfl rfl (ex_assign hf rfl) (fun a hf => ?_)
      refine hK24 _ _ ?_
      refine wp_ret ?_
      have eR := some_eq H; subst eR
      exact ret1 Try.results34 hf rfl ⟨_, rfl, ⟨rfl, hs⟩⟩

set_option maxRecDepth 100000 in
theorem ref37_Predictor_Expected.calls {M : Nat → Prop} {w0 : World} (k : Nat) (a0_All : (List Int)) (a1 : Int) (b0 : Nat) (v0_All : Value) {r : Int} (hs : St M w0 w0 []) (hr : Sr M w0 [bx b0 74 [v0_All], rsl K_uint64 v0_All a0_All])
    (h : ref37_Predictor_Expected.f k a0_All a1 = some r) : Calls Try.prog 35 #[.pointer (some ⟨b0, 0, none⟩), .int .u64 a1] w0 fun e w => ∃ v, e = .returned v ∧ (.int .u64 r = v ∧ St M w0 w []) := by
  have H := (ref37_Predictor_Expected.f.eq_1 ..).symm.trans h
  clear h
  refine enter Try.func35 rfl Try.ntmps35 rfl (fun a hf => ?_)
  refine seq_reg (fun K1 hK1 => ?_)
  refine stq hf rfl rfl rfl (ex_assign hf rfl) (fun a hf => ?_)
  refine hK1 _ _ ?_
  refine seq_n (fun Q2 hN2 hR2 hX2 => ?_)
  refine seq_reg (fun K3 hK3 => ?_)
  refine stq hf rfl rfl rfl (ex_move hf rfl) (fun a hf => ?_)
  refine stq hf rfl rfl rfl (ex_nilCheck hf rfl) (fun a hf => ?_)
  refine stq hf rfl rfl rfl (ex_fieldAddrB fa_74_0 rfl hf rfl) (fun a hf => ?_)
  refine stq hf rfl rfl rfl (ex_load sc_39 hf rfl (bx_cell (hr.now hs (i := 0) rfl) _ rfl)) (fun a hf => ?_)
  refine stq hf rfl rfl rfl (ex_lenS Try.underlying39 (rsl_isSl (hr.now hs (i := 1) rfl)) hf rfl) (fun a hf => ?_)
  refine stq hf rfl rfl rfl (ex_lss hf rfl rfl) (fun a hf => ?_)
  refine hK3 _ _ ?_
  refine itt H (fun hc4 H => ?_) (fun hc4 H => ?_)
  · -- (a0_All.length : Int) < 8
    replace hf := hf.castB (t := 13) rfl (dec_t hc4)
    refine cond_T hf rfl ?_
    refine seq_reg (fun K5 hK5 => ?_)
    refine stq hf rfl rfl rfl (ex_move hf rfl) (fun a hf => ?_)
    refine stq hf rfl rfl rfl (ex_assign hf rfl) (fun a hf => ?_)
    refine hK5 _ _ ?_
    refine wp_ret ?_
    refine hR2 _ _ ?_
    have eR := some_eq H; subst eR
    exact ret1 Try.results35 hf rfl ⟨_, rfl, ⟨rfl, hs⟩⟩
  · -- not (a0_All.length : Int) < 8
    replace hf := hf.castB (t := 13) rfl (dec_f hc4)
    refine cond_F hf rfl ?_
    refine wp_skip ?_
    refine hN2 _ _ ?_
    refine seq_reg (fun K6 hK6 => ?_)
    refine stq hf rfl rfl rfl (ex_assign hf rfl) (fun a hf => ?_)
    refine stq hf rfl rfl rfl (ex_assign hf rfl) (fun a hf => ?_)
    refine hK6 _ _ ?_
    refine bnd H (fun x7 H7 HO7 => ?_)
    clear H
    refine seq_cut (fun a w => Fr a 54 [(1, .int .u64 a1), (5, .int .u64 x7.1), (6, .int .u64 x7.2)] ∧ St M w0 w []) (fun Q7 hJ7 hR7 hX7 => ?_) (fun a w hJ => ?_)
    · replace H := H7
      refine seq_reg (fun K8 hK8 => ?_)
      refine stq hf rfl rfl rfl (ex_move hf rfl) (fun a hf => ?_)
      refine stq hf rfl rfl rfl (ex_nilCheck hf rfl) (fun a hf => ?_)
      refine stq hf rfl rfl rfl (ex_fieldAddrB fa_74_0 rfl hf rfl) (fun a hf => ?_)
      refine stq hf rfl rfl rfl (ex_load sc_39 hf rfl (bx_cell (hr.now hs (i := 0) rfl) _ rfl)) (fun a hf => ?_)
      refine stq hf rfl rfl rfl (ex_lenS Try.underlying39 (rsl_isSl (hr.now hs (i := 1) rfl)) hf rfl) (fun a hf => ?_)
      refine stq hf rfl rfl rfl (ex_sub hf rfl rfl) (fun a hf => ?_)
      refine stq hf rfl rfl rfl (ex_assign hf rfl) (fun a hf => ?_)
      refine hK8 _ _ ?_
      refine block_k (fun Q9 hN9 hR9 hX9 hY9 => ?_)
      refine loop_k (fun n a w => ∃ (y10 : Int) (y11 : Int) (y12 : Int), Fr a 54 [(0, .pointer (some ⟨b0, 0, none⟩)), (1, .int .u64 a1), (5, .int .u64 y10), (6, .int .u64 y11), (7, .int .i64 y12)] ∧ St M w0 w [] ∧ ref37_Predictor_Expected.l1 n a0_All y10 y11 y12 = some x7) k ?_ (fun n14 a w hI Q14 hL14 hR14 hX14 => ?_)
      · -- at the start
        exact ⟨0, 0, (IntKind.i64.wrap ((a0_All.length : Int) - 8)), hf.sub ⟨rfl, rfl, rfl, rfl, rfl, trivial⟩, hs, H⟩
      · obtain ⟨y10, y11, y12, hf, hs, H⟩ := hI
        cases n14 with
        | zero => exact absurd H (by rw [ref37_Predictor_Expected.l1.eq_1]; intro h; cases h)
        | succ k14 =>
          replace H := (ref37_Predictor_Expected.l1.eq_2 ..).symm.trans H
          refine seq_n (fun Q15 hN15 hR15 hX15 => ?_)
          refine seq_reg (fun K16 hK16 => ?_)
          refine stq hf rfl rfl rfl (ex_move hf rfl) (fun a hf => ?_)
          refine stq hf rfl rfl rfl (ex_move hf rfl) (fun a hf => ?_)
          refine stq hf rfl rfl rfl (ex_nilCheck hf rfl) (fun a hf => ?_)
          refine stq hf rfl rfl rfl (ex_fieldAddrB fa_74_0 rfl hf rfl) (fun a hf => ?_)
          refine stq hf rfl rfl rfl (ex_load sc_39 hf rfl (bx_cell (hr.now hs (i := 0) rfl) _ rfl)) (fun a hf => ?_)
          refine stq hf rfl rfl rfl (ex_lenS Try.underlying39 (rsl_isSl (hr.now hs (i := 1) rfl)) hf rfl) (fun a hf => ?_)
          refine stq hf rfl rfl rfl (ex_lss hf rfl rfl) (fun a hf => ?_)
          refine hK16 _ _ ?_
          refine itt H (fun hc17 H => ?_) (fun hc17 H => ?_)
          · -- y12 < (a0_All.length : Int)
            replace hf := hf.castB (t := 27) rfl (dec_t hc17)
            refine cond_T hf rfl ?_
            refine wp_skip ?_
            refine hN15 _ _ ?_
            refine seq_n (fun Q18 hN18 hR18 hX18 => ?_)
            refine block_k (fun Q19 hN19 hR19 hX19 hY19 => ?_)
            refine ck_some H (fun hc20 H => ?_)
            refine seq_reg (fun K21 hK21 => ?_)
            refine stq hf rfl rfl rfl (ex_move hf rfl) (fun a hf => ?_)
            refine stq hf rfl rfl rfl (ex_move hf rfl) (fun a hf => ?_)
            refine stq hf rfl rfl rfl (ex_nilCheck hf rfl) (fun a hf => ?_)
            refine stq hf rfl rfl rfl (ex_fieldAddrB fa_74_0 rfl hf rfl) (fun a hf => ?_)
            refine stq hf rfl rfl rfl (ex_load sc_39 hf rfl (bx_cell (hr.now hs (i := 0) rfl) _ rfl)) (fun a hf => ?_)
            refine stq hf rfl rfl rfl (ex_move hf rfl) (fun a hf => ?_)
            refine stq hf rfl rfl rfl (ex_indexAddr sa_39 (rsl_isSl (hr.now hs (i := 1) rfl)) hc20.1 hc20.2 hf rfl rfl) (fun a hf => ?_)
            refine stq hf rfl rfl rfl (ex_load sc_23 hf rfl (el_cell (K := K_uint64) (f := 0) (rsl_rd (hr.now hs (i := 1) rfl)) hc20.1 hc20.2 rfl)) (fun a hf => ?_)
            refine stq hf rfl rfl rfl (ex_add hf rfl rfl) (fun a hf => ?_)
            refine stq hf rfl rfl rfl (ex_assign hf rfl) (fun a hf => ?_)
            refine hK21 _ _ ?_
            refine region_k (fun K22 hK22 => ?_)
            refine stq hf rfl rfl rfl (ex_move hf rfl) (fun a hf => ?_)
            refine stq hf rfl rfl rfl (ex_move hf rfl) (fun a hf => ?_)
            refine stq hf rfl rfl rfl (ex_nilCheck hf rfl) (fun a hf => ?_)
            refine stq hf rfl rfl rfl (ex_fieldAddrB fa_74_0 rfl hf rfl) (fun a hf => ?_)
            refine stq hf rfl rfl rfl (ex_load sc_39 hf rfl (bx_cell (hr.now hs (i := 0) rfl) _ rfl)) (fun a hf => ?_)
            refine stq hf rfl rfl rfl (ex_move hf rfl) (fun a hf => ?_)
            refine stq hf rfl rfl rfl (ex_indexAddr sa_39 (rsl_isSl (hr.now hs (i := 1) rfl)) hc20.1 hc20.2 hf rfl rfl) (fun a hf => ?_)
            refine stq hf rfl rfl rfl (ex_load sc_23 hf rfl (el_cell (K := K_uint64) (f := 0) (rsl_rd (hr.now hs (i := 1) rfl)) hc20.1 hc20.2 rfl)) (fun a hf => ?_)
            refine stq hf rfl rfl rfl (ex_max hf rfl rfl) (fun a hf => ?_)
            refine stq hf rfl rfl rfl (ex_assign hf rfl) (fun a hf => ?_)
            refine hK22 _ _ ?_
            refine hN19 _ _ ?_
            refine hN18 _ _ ?_
            refine region_k (fun K23 hK23 => ?_)
            refine stq hf rfl rfl rfl (ex_move hf rfl) (fun a hf => ?_)
            refine stq hf rfl rfl rfl (ex_add hf rfl rfl) (fun a hf => ?_)
            refine stq hf rfl rfl rfl (ex_assign hf rfl) (fun a hf => ?_)
            refine hK23 _ _ ?_
            exact hL14 k14 _ _ (Nat.lt_succ_self _) ⟨(IntKind.u64.wrap (y10 + (gd 0 a0_All y12))), (mx y11 (gd 0 a0_All y12)), (IntKind.i64.wrap (y12 + 1)), hf.sub ⟨rfl, rfl, rfl, rfl, rfl, trivial⟩, hs, H⟩
          · -- not y12 < (a0_All.length : Int)
            replace hf := hf.castB (t := 27) rfl (dec_f hc17)
            refine cond_F hf rfl ?_
            refine wp_exit ?_
            refine hX15 0 _ _ ?_
            refine hX14 0 _ _ ?_
            refine hX9 _ _ ?_
            have e7 := some_eq H; subst e7
            exact hJ7 _ _ ⟨hf.sub ⟨rfl, rfl, rfl, trivial⟩, hs⟩
    · obtain ⟨hf, hs⟩ := hJ
      replace H := HO7
      clear HO7
      refine seq_reg (fun K24 hK24 => ?_)
      refine stq hf rfl rfl rfl (ex_move hf rfl) (fun a hf => ?_)
      refine stq hf rfl rfl rfl (ex_move hf rfl) (fun a hf => ?_)
      refine stq hf rfl rfl rfl (ex_move hf rfl) (fun a hf => ?_)
      refine stq hf rfl rfl rfl (ex_sub hf rfl rfl) (fun a hf => ?_)
      refine stq hf rfl rfl rfl (ex_quo hf rfl rfl (by decide)) (fun a hf => ?_)
      refine stq hf rfl rfl rfl (ex_min hf rfl rfl) (fun a hf => ?_)
      refine stq hf rfl rfl rfl (ex_assign hf rfl) (fun a hf => ?_)
      refine hK24 _ _ ?_
      refine wp_ret ?_
      have eR := some_eq H; subst eR
      exact ret1 Try.results35 hf rfl ⟨_, rfl, ⟨rfl, hs⟩⟩

end Go.Proofs.Ytmjfdknjloidoaa.X
