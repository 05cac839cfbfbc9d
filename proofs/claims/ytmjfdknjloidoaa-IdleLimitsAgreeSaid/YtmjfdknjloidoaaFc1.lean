/- Each function of the machine comes to what its pure function says. -/
import Derived.Test.YtmjfdknjloidoaaFb
namespace Go.Proofs.Ytmjfdknjloidoaa.X
open Go Go.RowKit Go.Sx
set_option linter.unusedVariables false

set_option maxRecDepth 100000 in
theorem idle_Check.calls {M : Nat → Prop} {w0 : World} (k : Nat) (a0 : (List IdleState)) (v0 : Value) {r : Int} (hs : St M w0 w0 []) (hr : Sr M w0 [rsl K_api_IdleState v0 a0])
    (h : idle_Check.f k a0 = some r) : Calls Try.prog 18 #[v0] w0 fun e w => ∃ v, e = .returned v ∧ (.int .i64 r = v ∧ St M w0 w []) := by
  have H := (idle_Check.f.eq_1 ..).symm.trans h
  clear h
  refine enter Try.func18 rfl Try.ntmps18 rfl (fun a hf => ?_)
  refine seq_reg (fun K1 hK1 => ?_)
  refine stq hf rfl rfl rfl (ex_assign hf rfl) (fun a hf => ?_)
  refine hK1 _ _ ?_
  refine seq_n (fun Q2 hN2 hR2 hX2 => ?_)
  refine bnd H (fun x3 H3 HO3 => ?_)
  clear H
  refine seq_cut (fun a w => Fr a 83 [(0, v0), (26, .bool x3)] ∧ St M w0 w []) (fun Q3 hJ3 hR3 hX3 => ?_) (fun a w hJ => ?_)
  · replace H := H3
    refine itt H (fun hc4 H => ?_) (fun hc4 H => ?_)
    · -- (a0.length : Int) < 1
      refine region_k (fun K5 hK5 => ?_)
      refine stq hf rfl rfl rfl (ex_move hf rfl) (fun a hf => ?_)
      refine stq hf rfl rfl rfl (ex_lenS Try.underlying22 (rsl_isSl (hr.now hs (i := 0) rfl)) hf rfl) (fun a hf => ?_)
      refine stq hf rfl rfl rfl (ex_lss hf rfl rfl) (fun a hf => ?_)
      refine stq hf rfl rfl rfl (ex_move hf rfl) (fun a hf => ?_)
      replace hf := hf.castB (t := 7) rfl (dec_t hc4)
      replace hf := hf.castB (t := 8) rfl (dec_t hc4)
      refine stepN hf rfl rfl rfl (fun a hf => ?_)
      refine stepN hf rfl rfl rfl (fun a hf => ?_)
      refine stepN hf rfl rfl rfl (fun a hf => ?_)
      refine stq hf rfl rfl rfl (ex_pickT hf rfl rfl) (fun a hf => ?_)
      refine stq hf rfl rfl rfl (ex_move hf rfl) (fun a hf => ?_)
      refine stepN hf rfl rfl rfl (fun a hf => ?_)
      refine stepN hf rfl rfl rfl (fun a hf => ?_)
      refine stepN hf rfl rfl rfl (fun a hf => ?_)
      refine stepN hf rfl rfl rfl (fun a hf => ?_)
      refine stepN hf rfl rfl rfl (fun a hf => ?_)
      refine stq hf rfl rfl rfl (ex_pickT hf rfl rfl) (fun a hf => ?_)
      refine stq hf rfl rfl rfl (ex_move hf rfl) (fun a hf => ?_)
      refine stepN hf rfl rfl rfl (fun a hf => ?_)
      refine stepN hf rfl rfl rfl (fun a hf => ?_)
      refine stepN hf rfl rfl rfl (fun a hf => ?_)
      refine stepN hf rfl rfl rfl (fun a hf => ?_)
      refine stepN hf rfl rfl rfl (fun a hf => ?_)
      refine stq hf rfl rfl rfl (ex_pickT hf rfl rfl) (fun a hf => ?_)
      refine hK5 _ _ ?_
      have e3 := some_eq H; subst e3
      exact hJ3 _ _ ⟨hf.sub ⟨rfl, rfl, trivial⟩, hs⟩
    · -- not (a0.length : Int) < 1
      refine itt H (fun hc6 H => ?_) (fun hc6 H => ?_)
      · -- 10 < (a0.length : Int)
        refine region_k (fun K7 hK7 => ?_)
        refine stq hf rfl rfl rfl (ex_move hf rfl) (fun a hf => ?_)
        refine stq hf rfl rfl rfl (ex_lenS Try.underlying22 (rsl_isSl (hr.now hs (i := 0) rfl)) hf rfl) (fun a hf => ?_)
        refine stq hf rfl rfl rfl (ex_lss hf rfl rfl) (fun a hf => ?_)
        refine stq hf rfl rfl rfl (ex_move hf rfl) (fun a hf => ?_)
        replace hf := hf.castB (t := 7) rfl (dec_f hc4)
        replace hf := hf.castB (t := 8) rfl (dec_f hc4)
        refine stq hf rfl rfl rfl (ex_move hf rfl) (fun a hf => ?_)
        refine stq hf rfl rfl rfl (ex_lenS Try.underlying22 (rsl_isSl (hr.now hs (i := 0) rfl)) hf rfl) (fun a hf => ?_)
        refine stq hf rfl rfl rfl (ex_gtr hf rfl rfl) (fun a hf => ?_)
        refine stq hf rfl rfl rfl (ex_pickF hf rfl rfl) (fun a hf => ?_)
        refine stq hf rfl rfl rfl (ex_move hf rfl) (fun a hf => ?_)
        replace hf := hf.castB (t := 11) rfl (dec_t hc6)
        replace hf := hf.castB (t := 12) rfl (dec_t hc6)
        replace hf := hf.castB (t := 13) rfl (dec_t hc6)
        refine stepN hf rfl rfl rfl (fun a hf => ?_)
        refine stepN hf rfl rfl rfl (fun a hf => ?_)
        refine stepN hf rfl rfl rfl (fun a hf => ?_)
        refine stepN hf rfl rfl rfl (fun a hf => ?_)
        refine stepN hf rfl rfl rfl (fun a hf => ?_)
        refine stq hf rfl rfl rfl (ex_pickT hf rfl rfl) (fun a hf => ?_)
        refine stq hf rfl rfl rfl (ex_move hf rfl) (fun a hf => ?_)
        refine stepN hf rfl rfl rfl (fun a hf => ?_)
        refine stepN hf rfl rfl rfl (fun a hf => ?_)
        refine stepN hf rfl rfl rfl (fun a hf => ?_)
        refine stepN hf rfl rfl rfl (fun a hf => ?_)
        refine stepN hf rfl rfl rfl (fun a hf => ?_)
        refine stq hf rfl rfl rfl (ex_pickT hf rfl rfl) (fun a hf => ?_)
        refine hK7 _ _ ?_
        have e3 := some_eq H; subst e3
        exact hJ3 _ _ ⟨hf.sub ⟨rfl, rfl, trivial⟩, hs⟩
      · -- not 10 < (a0.length : Int)
        refine ck_some H (fun hc8 H => ?_)
        refine itt H (fun hc9 H => ?_) (fun hc9 H => ?_)
        · -- ((gd IdleState.zero a0 0).Latency) = 0
          refine region_k (fun K10 hK10 => ?_)
          refine stq hf rfl rfl rfl (ex_move hf rfl) (fun a hf => ?_)
          refine stq hf rfl rfl rfl (ex_lenS Try.underlying22 (rsl_isSl (hr.now hs (i := 0) rfl)) hf rfl) (fun a hf => ?_)
          refine stq hf rfl rfl rfl (ex_lss hf rfl rfl) (fun a hf => ?_)
          refine stq hf rfl rfl rfl (ex_move hf rfl) (fun a hf => ?_)
          replace hf := hf.castB (t := 7) rfl (dec_f hc4)
          replace hf := hf.castB (t := 8) rfl (dec_f hc4)
          refine stq hf rfl rfl rfl (ex_move hf rfl) (fun a hf => ?_)
          refine stq hf rfl rfl rfl (ex_lenS Try.underlying22 (rsl_isSl (hr.now hs (i := 0) rfl)) hf rfl) (fun a hf => ?_)
          refine stq hf rfl rfl rfl (ex_gtr hf rfl rfl) (fun a hf => ?_)
          refine stq hf rfl rfl rfl (ex_pickF hf rfl rfl) (fun a hf => ?_)
          refine stq hf rfl rfl rfl (ex_move hf rfl) (fun a hf => ?_)
          replace hf := hf.castB (t := 11) rfl (dec_f hc6)
          replace hf := hf.castB (t := 12) rfl (dec_f hc6)
          replace hf := hf.castB (t := 13) rfl (dec_f hc6)
          refine stq hf rfl rfl rfl (ex_move hf rfl) (fun a hf => ?_)
          refine stq hf rfl rfl rfl (ex_indexAddr sa_22 (rsl_isSl (hr.now hs (i := 0) rfl)) hc8.1 hc8.2 hf rfl rfl) (fun a hf => ?_)
          refine stq hf rfl rfl rfl (ex_fieldAddrS fa_25_0 rfl hf rfl) (fun a hf => ?_)
          refine stq hf rfl rfl rfl (ex_load sc_23 hf rfl (el_cell (K := K_api_IdleState) (f := 0) (rsl_rd (hr.now hs (i := 0) rfl)) hc8.1 hc8.2 rfl)) (fun a hf => ?_)
          refine stq hf rfl rfl rfl (ex_neq hf rfl rfl) (fun a hf => ?_)
          refine stq hf rfl rfl rfl (ex_pickF hf rfl rfl) (fun a hf => ?_)
          refine stq hf rfl rfl rfl (ex_move hf rfl) (fun a hf => ?_)
          replace hf := hf.castB (t := 18) rfl (ndec_f hc9)
          replace hf := hf.castB (t := 19) rfl (ndec_f hc9)
          replace hf := hf.castB (t := 20) rfl (ndec_f hc9)
          refine stq hf rfl rfl rfl (ex_move hf rfl) (fun a hf => ?_)
          refine stq hf rfl rfl rfl (ex_indexAddr sa_22 (rsl_isSl (hr.now hs (i := 0) rfl)) hc8.1 hc8.2 hf rfl rfl) (fun a hf => ?_)
          refine stq hf rfl rfl rfl (ex_fieldAddrS fa_25_1 rfl hf rfl) (fun a hf => ?_)
          refine stq hf rfl rfl rfl (ex_load sc_23 hf rfl (el_cell (K := K_api_IdleState) (f := 1) (rsl_rd (hr.now hs (i := 0) rfl)) hc8.1 hc8.2 rfl)) (fun a hf => ?_)
          refine stq hf rfl rfl rfl (ex_neq hf rfl rfl) (fun a hf => ?_)
          refine stq hf rfl rfl rfl (ex_pickF hf rfl rfl) (fun a hf => ?_)
          refine hK10 _ _ ?_
          have e3 := some_eq H; subst e3
          exact hJ3 _ _ ⟨hf.sub ⟨rfl, rfl, trivial⟩, hs⟩
        · -- not ((gd IdleState.zero a0 0).Latency) = 0
          refine region_k (fun K11 hK11 => ?_)
          refine stq hf rfl rfl rfl (ex_move hf rfl) (fun a hf => ?_)
          refine stq hf rfl rfl rfl (ex_lenS Try.underlying22 (rsl_isSl (hr.now hs (i := 0) rfl)) hf rfl) (fun a hf => ?_)
          refine stq hf rfl rfl rfl (ex_lss hf rfl rfl) (fun a hf => ?_)
          refine stq hf rfl rfl rfl (ex_move hf rfl) (fun a hf => ?_)
          replace hf := hf.castB (t := 7) rfl (dec_f hc4)
          replace hf := hf.castB (t := 8) rfl (dec_f hc4)
          refine stq hf rfl rfl rfl (ex_move hf rfl) (fun a hf => ?_)
          refine stq hf rfl rfl rfl (ex_lenS Try.underlying22 (rsl_isSl (hr.now hs (i := 0) rfl)) hf rfl) (fun a hf => ?_)
          refine stq hf rfl rfl rfl (ex_gtr hf rfl rfl) (fun a hf => ?_)
          refine stq hf rfl rfl rfl (ex_pickF hf rfl rfl) (fun a hf => ?_)
          refine stq hf rfl rfl rfl (ex_move hf rfl) (fun a hf => ?_)
          replace hf := hf.castB (t := 11) rfl (dec_f hc6)
          replace hf := hf.castB (t := 12) rfl (dec_f hc6)
          replace hf := hf.castB (t := 13) rfl (dec_f hc6)
          refine stq hf rfl rfl rfl (ex_move hf rfl) (fun a hf => ?_)
          refine stq hf rfl rfl rfl (ex_indexAddr sa_22 (rsl_isSl (hr.now hs (i := 0) rfl)) hc8.1 hc8.2 hf rfl rfl) (fun a hf => ?_)
          refine stq hf rfl rfl rfl (ex_fieldAddrS fa_25_0 rfl hf rfl) (fun a hf => ?_)
          refine stq hf rfl rfl rfl (ex_load sc_23 hf rfl (el_cell (K := K_api_IdleState) (f := 0) (rsl_rd (hr.now hs (i := 0) rfl)) hc8.1 hc8.2 rfl)) (fun a hf => ?_)
          refine stq hf rfl rfl rfl (ex_neq hf rfl rfl) (fun a hf => ?_)
          refine stq hf rfl rfl rfl (ex_pickF hf rfl rfl) (fun a hf => ?_)
          refine stq hf rfl rfl rfl (ex_move hf rfl) (fun a hf => ?_)
          replace hf := hf.castB (t := 18) rfl (ndec_t hc9)
          replace hf := hf.castB (t := 19) rfl (ndec_t hc9)
          replace hf := hf.castB (t := 20) rfl (ndec_t hc9)
          refine stepN hf rfl rfl rfl (fun a hf => ?_)
          refine stepN hf rfl rfl rfl (fun a hf => ?_)
          refine stepN hf rfl rfl rfl (fun a hf => ?_)
          refine stepN hf rfl rfl rfl (fun a hf => ?_)
          refine stepN hf rfl rfl rfl (fun a hf => ?_)
          refine stq hf rfl rfl rfl (ex_pickT hf rfl rfl) (fun a hf => ?_)
          refine hK11 _ _ ?_
          have e3 := some_eq H; subst e3
          exact hJ3 _ _ ⟨hf.sub ⟨rfl, rfl, trivial⟩, hs⟩
  · obtain ⟨hf, hs⟩ := hJ
    replace H := HO3
    clear HO3
    refine itt H (fun hc12 H => ?_) (fun hc12 H => ?_)
    · -- x3 = true
      replace hf := hf.castB (t := 26) rfl hc12
      refine cond_T hf rfl ?_
      refine seq_reg (fun K13 hK13 => ?_)
      refine stq hf rfl rfl rfl (ex_assign hf rfl) (fun a hf => ?_)
      refine hK13 _ _ ?_
      refine wp_ret ?_
      refine hR2 _ _ ?_
      have eR := some_eq H; subst eR
      exact ret1 Try.results18 hf rfl ⟨_, rfl, ⟨rfl, hs⟩⟩
    · -- not x3 = true
      replace hf := hf.castB (t := 26) rfl (bool_f hc12)
      refine cond_F hf rfl ?_
      refine wp_skip ?_
      refine hN2 _ _ ?_
      refine bnd H (fun x14 H14 HO14 => ?_)
      clear H
      refine seq_cut (fun a w => ∃ (x14s : Unit), x14 = .go x14s ∧ Fr a 83 [] ∧ St M w0 w []) (fun Q14 hJ14 hR14 hX14 => ?_) (fun a w hJ => ?_)
      · replace H := H14
        refine seq_reg (fun K15 hK15 => ?_)
        refine stq hf rfl rfl rfl (ex_move hf rfl) (fun a hf => ?_)
        refine stq hf rfl rfl rfl (ex_lenS Try.underlying22 (rsl_isSl (hr.now hs (i := 0) rfl)) hf rfl) (fun a hf => ?_)
        refine stq hf rfl rfl rfl (ex_move hf rfl) (fun a hf => ?_)
        refine hK15 _ _ ?_
        refine block_k (fun Q16 hN16 hR16 hX16 hY16 => ?_)
        refine loop_k (fun n a w => ∃ (y17 : Int), Fr a 83 [(0, v0), (27, v0), (28, .int .i64 (a0.length : Int)), (29, .int .i64 y17)] ∧ St M w0 w [] ∧ idle_Check.l1 n a0 y17 = some x14) k ?_ (fun n19 a w hI Q19 hL19 hR19 hX19 => ?_)
        · -- at the start
          exact ⟨0, hf.sub ⟨rfl, rfl, rfl, rfl, trivial⟩, hs, H⟩
        · obtain ⟨y17, hf, hs, H⟩ := hI
          cases n19 with
          | zero => exact absurd H (by rw [idle_Check.l1.eq_1]; intro h; cases h)
          | succ k19 =>
            replace H := (idle_Check.l1.eq_2 ..).symm.trans H
            refine seq_reg (fun K20 hK20 => ?_)
            refine stq hf rfl rfl rfl (ex_lss hf rfl rfl) (fun a hf => ?_)
            refine hK20 _ _ ?_
            refine seq_n (fun Q21 hN21 hR21 hX21 => ?_)
            refine itt H (fun hc22 H => ?_) (fun hc22 H => ?_)
            · -- y17 < (a0.length : Int)
              replace hf := hf.castB (t := 30) rfl (dec_t hc22)
              refine cond_T hf rfl ?_
              refine wp_skip ?_
              refine hN21 _ _ ?_
              refine seq_n (fun Q23 hN23 hR23 hX23 => ?_)
              refine block_k (fun Q24 hN24 hR24 hX24 hY24 => ?_)
              refine ck_some H (fun hc25 H => ?_)
              refine seq_reg (fun K27 hK27 => ?_)
              refine stq hf rfl rfl rfl (ex_move hf rfl) (fun a hf => ?_)
              refine stq hf rfl rfl rfl (ex_indexAddr sa_22 (rsl_isSl (hr.now hs (i := 0) rfl)) hc25.1 hc25.2 hf rfl rfl) (fun a hf => ?_)
              refine stq hf rfl rfl rfl (ex_loadA (cs := [.int .u64 ((gd IdleState.zero a0 y17).Latency), .int .u64 ((gd IdleState.zero a0 y17).Residency), .int .u64 ((gd IdleState.zero a0 y17).Power)]) ag_25 hf rfl (el_cells (K := K_api_IdleState) (rsl_rd (hr.now hs (i := 0) rfl)) hc25.1 hc25.2 rfl)) (fun a hf => ?_)
              refine stepV hf rfl rfl rfl (er_alloc hs ti_25 (cs := [.int .u64 0, .int .u64 0, .int .u64 0]) rfl) (fun v w hR a hf => ?_)
              obtain ⟨b26, rfl, hs⟩ := hR
              refine stq hf rfl rfl rfl (ex_assign hf rfl) (fun a hf => ?_)
              refine stepS hf rfl rfl (er_storeAB (vs := [.int .u64 ((gd IdleState.zero a0 y17).Latency), .int .u64 ((gd IdleState.zero a0 y17).Residency), .int .u64 ((gd IdleState.zero a0 y17).Power)]) (cs' := [.int .u64 ((gd IdleState.zero a0 y17).Latency), .int .u64 ((gd IdleState.zero a0 y17).Residency), .int .u64 ((gd IdleState.zero a0 y17).Power)]) hs (.c .nil) sz_25 hf rfl rfl (all1 rfl (all1 rfl (all1 rfl (all1_nil)))) rfl rfl) (fun w hs => ?_)
              refine hK27 _ _ ?_
              refine seq_n (fun Q28 hN28 hR28 hX28 => ?_)
              refine bnd H (fun x29 H29 HO29 => ?_)
              clear H
              refine seq_cut (fun a w => Fr a 83 [(0, v0), (3, .int .i64 y17), (4, .pointer (some ⟨b26, 0, none⟩)), (27, v0), (28, .int .i64 (a0.length : Int)), (29, .int .i64 y17), (46, .bool x29)] ∧ St M w0 w [bx b26 25 [.int .u64 ((gd IdleState.zero a0 y17).Latency), .int .u64 ((gd IdleState.zero a0 y17).Residency), .int .u64 ((gd IdleState.zero a0 y17).Power)]]) (fun Q29 hJ29 hR29 hX29 => ?_) (fun a w hJ => ?_)
              · replace H := H29
                refine itt H (fun hc30 H => ?_) (fun hc30 H => ?_)
                · -- 1073741824 < ((gd IdleState.zero a0 y17).Latency)
                  refine region_k (fun K31 hK31 => ?_)
                  refine stq hf rfl rfl rfl (ex_fieldAddrB fa_25_0 rfl hf rfl) (fun a hf => ?_)
                  refine stq hf rfl rfl rfl (ex_load sc_23 hf rfl (bx_cell (hs.get (i := 0) rfl) _ rfl)) (fun a hf => ?_)
                  refine stq hf rfl rfl rfl (ex_gtr hf rfl rfl) (fun a hf => ?_)
                  refine stq hf rfl rfl rfl (ex_move hf rfl) (fun a hf => ?_)
                  replace hf := hf.castB (t := 36) rfl (dec_t hc30)
                  replace hf := hf.castB (t := 37) rfl (dec_t hc30)
                  refine stepN hf rfl rfl rfl (fun a hf => ?_)
                  refine stepN hf rfl rfl rfl (fun a hf => ?_)
                  refine stepN hf rfl rfl rfl (fun a hf => ?_)
                  refine stq hf rfl rfl rfl (ex_pickT hf rfl rfl) (fun a hf => ?_)
                  refine stq hf rfl rfl rfl (ex_move hf rfl) (fun a hf => ?_)
                  refine stepN hf rfl rfl rfl (fun a hf => ?_)
                  refine stepN hf rfl rfl rfl (fun a hf => ?_)
                  refine stepN hf rfl rfl rfl (fun a hf => ?_)
                  refine stq hf rfl rfl rfl (ex_pickT hf rfl rfl) (fun a hf => ?_)
                  refine hK31 _ _ ?_
                  have e29 := some_eq H; subst e29
                  exact hJ29 _ _ ⟨hf.sub ⟨rfl, rfl, rfl, rfl, rfl, rfl, rfl, trivial⟩, hs⟩
                · -- not 1073741824 < ((gd IdleState.zero a0 y17).Latency)
                  refine itt H (fun hc32 H => ?_) (fun hc32 H => ?_)
                  · -- 1073741824 < ((gd IdleState.zero a0 y17).Residency)
                    refine region_k (fun K33 hK33 => ?_)
                    refine stq hf rfl rfl rfl (ex_fieldAddrB fa_25_0 rfl hf rfl) (fun a hf => ?_)
                    refine stq hf rfl rfl rfl (ex_load sc_23 hf rfl (bx_cell (hs.get (i := 0) rfl) _ rfl)) (fun a hf => ?_)
                    refine stq hf rfl rfl rfl (ex_gtr hf rfl rfl) (fun a hf => ?_)
                    refine stq hf rfl rfl rfl (ex_move hf rfl) (fun a hf => ?_)
                    replace hf := hf.castB (t := 36) rfl (dec_f hc30)
                    replace hf := hf.castB (t := 37) rfl (dec_f hc30)
                    refine stq hf rfl rfl rfl (ex_fieldAddrB fa_25_1 rfl hf rfl) (fun a hf => ?_)
                    refine stq hf rfl rfl rfl (ex_load sc_23 hf rfl (bx_cell (hs.get (i := 0) rfl) _ rfl)) (fun a hf => ?_)
                    refine stq hf rfl rfl rfl (ex_gtr hf rfl rfl) (fun a hf => ?_)
                    refine stq hf rfl rfl rfl (ex_pickF hf rfl rfl) (fun a hf => ?_)
                    refine stq hf rfl rfl rfl (ex_move hf rfl) (fun a hf => ?_)
                    replace hf := hf.castB (t := 40) rfl (dec_t hc32)
                    replace hf := hf.castB (t := 41) rfl (dec_t hc32)
                    replace hf := hf.castB (t := 42) rfl (dec_t hc32)
                    refine stepN hf rfl rfl rfl (fun a hf => ?_)
                    refine stepN hf rfl rfl rfl (fun a hf => ?_)
                    refine stepN hf rfl rfl rfl (fun a hf => ?_)
                    refine stq hf rfl rfl rfl (ex_pickT hf rfl rfl) (fun a hf => ?_)
                    refine hK33 _ _ ?_
                    have e29 := some_eq H; subst e29
                    exact hJ29 _ _ ⟨hf.sub ⟨rfl, rfl, rfl, rfl, rfl, rfl, rfl, trivial⟩, hs⟩
                  · -- not 1073741824 < ((gd IdleState.zero a0 y17).Residency)
                    refine region_k (fun K34 hK34 => ?_)
                    refine stq hf rfl rfl rfl (ex_fieldAddrB fa_25_0 rfl hf rfl) (fun a hf => ?_)
                    refine stq hf rfl rfl rfl (ex_load sc_23 hf rfl (bx_cell (hs.get (i := 0) rfl) _ rfl)) (fun a hf => ?_)
                    refine stq hf rfl rfl rfl (ex_gtr hf rfl rfl) (fun a hf => ?_)
                    refine stq hf rfl rfl rfl (ex_move hf rfl) (fun a hf => ?_)
                    replace hf := hf.castB (t := 36) rfl (dec_f hc30)
                    replace hf := hf.castB (t := 37) rfl (dec_f hc30)
                    refine stq hf rfl rfl rfl (ex_fieldAddrB fa_25_1 rfl hf rfl) (fun a hf => ?_)
                    refine stq hf rfl rfl rfl (ex_load sc_23 hf rfl (bx_cell (hs.get (i := 0) rfl) _ rfl)) (fun a hf => ?_)
                    refine stq hf rfl rfl rfl (ex_gtr hf rfl rfl) (fun a hf => ?_)
                    refine stq hf rfl rfl rfl (ex_pickF hf rfl rfl) (fun a hf => ?_)
                    refine stq hf rfl rfl rfl (ex_move hf rfl) (fun a hf => ?_)
                    replace hf := hf.castB (t := 40) rfl (dec_f hc32)
                    replace hf := hf.castB (t := 41) rfl (dec_f hc32)
                    replace hf := hf.castB (t := 42) rfl (dec_f hc32)
                    refine stq hf rfl rfl rfl (ex_fieldAddrB fa_25_2 rfl hf rfl) (fun a hf => ?_)
                    refine stq hf rfl rfl rfl (ex_load sc_23 hf rfl (bx_cell (hs.get (i := 0) rfl) _ rfl)) (fun a hf => ?_)
                    refine stq hf rfl rfl rfl (ex_gtr hf rfl rfl) (fun a hf => ?_)
                    refine stq hf rfl rfl rfl (ex_pickF hf rfl rfl) (fun a hf => ?_)
                    refine hK34 _ _ ?_
                    have e29 := some_eq H; subst e29
                    exact hJ29 _ _ ⟨hf.sub ⟨rfl, rfl, rfl, rfl, rfl, rfl, rfl, trivial⟩, hs⟩
              · obtain ⟨hf, hs⟩ := hJ
                replace H := HO29
                clear HO29
                refine itt H (fun hc35 H => ?_) (fun hc35 H => ?_)
                · -- x29 = true
                  replace hf := hf.castB (t := 46) rfl hc35
                  refine cond_T hf rfl ?_
                  refine seq_reg (fun K36 hK36 => ?_)
                  refine stq hf rfl rfl rfl (ex_assign hf rfl) (fun a hf => ?_)
                  refine hK36 _ _ ?_
                  refine wp_ret ?_
                  refine hR28 _ _ ?_
                  refine hR24 _ _ ?_
                  refine hR23 _ _ ?_
                  refine hR19 _ _ ?_
                  refine hR16 _ _ ?_
                  have e14 := some_eq H; subst e14; replace H := el_rt HO14
                  refine hR14 _ _ ?_
                  have eR := some_eq H; subst eR
                  replace hs := hs.keep (.d .nil)
                  exact ret1 Try.results18 hf rfl ⟨_, rfl, ⟨rfl, hs⟩⟩
                · -- not x29 = true
                  replace hf := hf.castB (t := 46) rfl (bool_f hc35)
                  refine cond_F hf rfl ?_
                  refine wp_skip ?_
                  refine hN28 _ _ ?_
                  refine bnd H (fun x37 H37 HO37 => ?_)
                  clear H
                  refine seq_cut (fun a w => Fr a 83 [(0, v0), (27, v0), (28, .int .i64 (a0.length : Int)), (29, .int .i64 y17), (81, .bool x37)] ∧ St M w0 w []) (fun Q37 hJ37 hR37 hX37 => ?_) (fun a w hJ => ?_)
                  · replace H := H37
                    refine itt H (fun hc38 H => ?_) (fun hc38 H => ?_)
                    · -- 0 < y17
                      refine ck_some H (fun hc39 H => ?_)
                      refine itt H (fun hc40 H => ?_) (fun hc40 H => ?_)
                      · -- ((gd IdleState.zero a0 y17).Latency) ≤ ((gd IdleState.zero a
                        refine region_d fol 35 [(0, v0), (3, .int .i64 y17), (4, .pointer (some ⟨b26, 0, none⟩)), (27, v0), (28, .int .i64 (a0.length : Int)), (29, .int .i64 y17)] [(0, .int .i64 y17), (1, .bool true), (2, .bool true), (3, .pointer (some ⟨b26, 0, none⟩)), (4, .int .u64 ((gd IdleState.zero a0 y17).Latency)), (5, v0), (6, .int .i64 y17), (7, .int .i64 (IntKind.i64.wrap (y17 - 1))), (8, .pointer (some (sla v0 ((IntKind.i64.wrap (y17 - 1)).toNat * 3)))), (9, .pointer (some (sla v0 ((IntKind.i64.wrap (y17 - 1)).toNat * 3 + 0)))), (10, .int .u64 ((gd IdleState.zero a0 (IntKind.i64.wrap (y17 - 1))).Latency)), (11, .bool true), (12, .bool true), (13, undef), (14, undef), (15, undef), (16, undef), (17, undef), (18, undef), (19, undef), (20, undef), (21, undef), (22, .bool true), (23, .bool true), (24, undef), (25, undef), (26, undef), (27, undef), (28, undef), (29, undef), (30, undef), (31, undef), (32, undef), (33, .bool true), (34, .bool true)] [] (fun w => (bx b26 25 [.int .u64 ((gd IdleState.zero a0 y17).Latency), .int .u64 ((gd IdleState.zero a0 y17).Residency), .int .u64 ((gd IdleState.zero a0 y17).Power)]).ok w ∧ (rsl K_api_IdleState v0 a0).ok w ∧ True) (fun w => St M w0 w [bx b26 25 [.int .u64 ((gd IdleState.zero a0 y17).Latency), .int .u64 ((gd IdleState.zero a0 y17).Residency), .int .u64 ((gd IdleState.zero a0 y17).Power)]]) hf ⟨rfl, rfl, rfl, rfl, rfl, rfl, trivial⟩ (by kernel_rfl) (by kernel_rfl) rfl (by decide) ⟨hs.drew.get (i := 0) rfl, hr.now hs.drew (i := 0) rfl, trivial⟩ hs.drew (.cons (⟨_, _, rfl, rfl, rfl, rfl, fun a w hR hf => .inl ⟨wanted_yes hf rfl, ex_move hf rfl⟩⟩) (.cons (⟨_, _, rfl, rfl, rfl, rfl, fun a w hR hf => .inl ⟨wanted_yes hf rfl, ex_castB (ex_gtr hf rfl rfl) (dec_t hc38)⟩⟩) (.cons (⟨_, _, rfl, rfl, rfl, rfl, fun a w hR hf => .inl ⟨wanted_yes hf rfl, ex_move hf rfl⟩⟩) (.cons (⟨_, _, rfl, rfl, rfl, rfl, fun a w hR hf => .inl ⟨wanted_yes hf rfl, ex_fieldAddrB fa_25_0 rfl hf rfl⟩⟩) (.cons (⟨_, _, rfl, rfl, rfl, rfl, fun a w hR hf => .inl ⟨wanted_yes hf rfl, ex_load sc_23 hf rfl (bx_cell (hR.1) _ rfl)⟩⟩) (.cons (⟨_, _, rfl, rfl, rfl, rfl, fun a w hR hf => .inl ⟨wanted_yes hf rfl, ex_move hf rfl⟩⟩) (.cons (⟨_, _, rfl, rfl, rfl, rfl, fun a w hR hf => .inl ⟨wanted_yes hf rfl, ex_move hf rfl⟩⟩) (.cons (⟨_, _, rfl, rfl, rfl, rfl, fun a w hR hf => .inl ⟨wanted_yes hf rfl, ex_sub hf rfl rfl⟩⟩) (.cons (⟨_, _, rfl, rfl, rfl, rfl, fun a w hR hf => .inl ⟨wanted_yes hf rfl, ex_indexAddr sa_22 (rsl_isSl hR.2.1) hc39.1 hc39.2 hf rfl rfl⟩⟩) (.cons (⟨_, _, rfl, rfl, rfl, rfl, fun a w hR hf => .inl ⟨wanted_yes hf rfl, ex_fieldAddrS fa_25_0 rfl hf rfl⟩⟩) (.cons (⟨_, _, rfl, rfl, rfl, rfl, fun a w hR hf => .inl ⟨wanted_yes hf rfl, ex_load sc_23 hf rfl (el_cell (K := K_api_IdleState) (f := 0) (rsl_rd hR.2.1) hc39.1 hc39.2 rfl)⟩⟩) (.cons (⟨_, _, rfl, rfl, rfl, rfl, fun a w hR hf => .inl ⟨wanted_yes hf rfl, ex_castB (ex_leq hf rfl rfl) (dec_t hc40)⟩⟩) (.cons (⟨_, _, rfl, rfl, rfl, rfl, fun a w hR hf => .inl ⟨wanted_yes hf rfl, ex_move hf rfl⟩⟩) (.cons (⟨_, _, rfl, rfl, rfl, rfl, fun a w hR hf => .inr ⟨wanted_no hf rfl, rfl⟩⟩) (.cons (⟨_, _, rfl, rfl, rfl, rfl, fun a w hR hf => .inr ⟨wanted_no hf rfl, rfl⟩⟩) (.cons (⟨_, _, rfl, rfl, rfl, rfl, fun a w hR hf => .inr ⟨wanted_no hf rfl, rfl⟩⟩) (.cons (⟨_, _, rfl, rfl, rfl, rfl, fun a w hR hf => .inr ⟨wanted_no hf rfl, rfl⟩⟩) (.cons (⟨_, _, rfl, rfl, rfl, rfl, fun a w hR hf => .inr ⟨wanted_no hf rfl, rfl⟩⟩) (.cons (⟨_, _, rfl, rfl, rfl, rfl, fun a w hR hf => .inr ⟨wanted_no hf rfl, rfl⟩⟩) (.cons (⟨_, _, rfl, rfl, rfl, rfl, fun a w hR hf => .inr ⟨wanted_no hf rfl, rfl⟩⟩) (.cons (⟨_, _, rfl, rfl, rfl, rfl, fun a w hR hf => .inr ⟨wanted_no hf rfl, rfl⟩⟩) (.cons (⟨_, _, rfl, rfl, rfl, rfl, fun a w hR hf => .inr ⟨wanted_no hf rfl, rfl⟩⟩) (.cons (⟨_, _, rfl, rfl, rfl, rfl, fun a w hR hf => .inl ⟨wanted_yes hf rfl, ex_pickT hf rfl rfl⟩⟩) (.cons (⟨_, _, rfl, rfl, rfl, rfl, fun a w hR hf => .inl ⟨wanted_yes hf rfl, ex_move hf rfl⟩⟩) (.cons (⟨_, _, rfl, rfl, rfl, rfl, fun a w hR hf => .inr ⟨wanted_no hf rfl, rfl⟩⟩) (.cons (⟨_, _, rfl, rfl, rfl, rfl, fun a w hR hf => .inr ⟨wanted_no hf rfl, rfl⟩⟩) (.cons (⟨_, _, rfl, rfl, rfl, rfl, fun a w hR hf => .inr ⟨wanted_no hf rfl, rfl⟩⟩) (.cons (⟨_, _, rfl, rfl, rfl, rfl, fun a w hR hf => .inr ⟨wanted_no hf rfl, rfl⟩⟩) (.cons (⟨_, _, rfl, rfl, rfl, rfl, fun a w hR hf => .inr ⟨wanted_no hf rfl, rfl⟩⟩) (.cons (⟨_, _, rfl, rfl, rfl, rfl, fun a w hR hf => .inr ⟨wanted_no hf rfl, rfl⟩⟩) (.cons (⟨_, _, rfl, rfl, rfl, rfl, fun a w hR hf => .inr ⟨wanted_no hf rfl, rfl⟩⟩) (.cons (⟨_, _, rfl, rfl, rfl, rfl, fun a w hR hf => .inr ⟨wanted_no hf rfl, rfl⟩⟩) (.cons (⟨_, _, rfl, rfl, rfl, rfl, fun a w hR hf => .inr ⟨wanted_no hf rfl, rfl⟩⟩) (.cons (⟨_, _, rfl, rfl, rfl, rfl, fun a w hR hf => .inl ⟨wanted_yes hf rfl, ex_pickT hf rfl rfl⟩⟩) (.cons (⟨_, _, rfl, rfl, rfl, rfl, fun a w hR hf => .inl ⟨wanted_yes hf rfl, ex_pickT hf rfl rfl⟩⟩) (.nil)))))))))))))))))))))))))))))))))))) (fun K41 hK41 => ?_)
                        refine RW.zero (by kernel_rfl) (by kernel_rfl) [(0, v0), (27, v0), (28, .int .i64 (a0.length : Int)), (29, .int .i64 y17), (81, .bool true)] ⟨rfl, rfl, rfl, rfl, rfl, trivial⟩ (fun a w hR hs hf => ?_)
                        refine hK41 _ _ ?_
                        replace hs := hs.keep (.d .nil)
                        have e37 := some_eq H; subst e37
                        exact hJ37 _ _ ⟨hf.sub ⟨rfl, rfl, rfl, rfl, rfl, trivial⟩, hs⟩
                      · -- not ((gd IdleState.zero a0 y17).Latency) ≤ ((gd IdleState.zero a
                        refine itt H (fun hc42 H => ?_) (fun hc42 H => ?_)
                        · -- ((gd IdleState.zero a0 y17).Residency) ≤ ((gd IdleState.zero
                          refine region_d fol 35 [(0, v0), (3, .int .i64 y17), (4, .pointer (some ⟨b26, 0, none⟩)), (27, v0), (28, .int .i64 (a0.length : Int)), (29, .int .i64 y17)] [(0, .int .i64 y17), (1, .bool true), (2, .bool true), (3, .pointer (some ⟨b26, 0, none⟩)), (4, .int .u64 ((gd IdleState.zero a0 y17).Latency)), (5, v0), (6, .int .i64 y17), (7, .int .i64 (IntKind.i64.wrap (y17 - 1))), (8, .pointer (some (sla v0 ((IntKind.i64.wrap (y17 - 1)).toNat * 3)))), (9, .pointer (some (sla v0 ((IntKind.i64.wrap (y17 - 1)).toNat * 3 + 0)))), (10, .int .u64 ((gd IdleState.zero a0 (IntKind.i64.wrap (y17 - 1))).Latency)), (11, .bool false), (12, .bool false), (13, .pointer (some ⟨b26, 1, none⟩)), (14, .int .u64 ((gd IdleState.zero a0 y17).Residency)), (15, v0), (16, .int .i64 y17), (17, .int .i64 (IntKind.i64.wrap (y17 - 1))), (18, .pointer (some (sla v0 ((IntKind.i64.wrap (y17 - 1)).toNat * 3)))), (19, .pointer (some (sla v0 ((IntKind.i64.wrap (y17 - 1)).toNat * 3 + 1)))), (20, .int .u64 ((gd IdleState.zero a0 (IntKind.i64.wrap (y17 - 1))).Residency)), (21, .bool true), (22, .bool true), (23, .bool true), (24, undef), (25, undef), (26, undef), (27, undef), (28, undef), (29, undef), (30, undef), (31, undef), (32, undef), (33, .bool true), (34, .bool true)] [] (fun w => (bx b26 25 [.int .u64 ((gd IdleState.zero a0 y17).Latency), .int .u64 ((gd IdleState.zero a0 y17).Residency), .int .u64 ((gd IdleState.zero a0 y17).Power)]).ok w ∧ (rsl K_api_IdleState v0 a0).ok w ∧ True) (fun w => St M w0 w [bx b26 25 [.int .u64 ((gd IdleState.zero a0 y17).Latency), .int .u64 ((gd IdleState.zero a0 y17).Residency), .int .u64 ((gd IdleState.zero a0 y17).Power)]]) hf ⟨rfl, rfl, rfl, rfl, rfl, rfl, trivial⟩ (by kernel_rfl) (by kernel_rfl) rfl (by decide) ⟨hs.drew.get (i := 0) rfl, hr.now hs.drew (i := 0) rfl, trivial⟩ hs.drew (.cons (⟨_, _, rfl, rfl, rfl, rfl, fun a w hR hf => .inl ⟨wanted_yes hf rfl, ex_move hf rfl⟩⟩) (.cons (⟨_, _, rfl, rfl, rfl, rfl, fun a w hR hf => .inl ⟨wanted_yes hf rfl, ex_castB (ex_gtr hf rfl rfl) (dec_t hc38)⟩⟩) (.cons (⟨_, _, rfl, rfl, rfl, rfl, fun a w hR hf => .inl ⟨wanted_yes hf rfl, ex_move hf rfl⟩⟩) (.cons (⟨_, _, rfl, rfl, rfl, rfl, fun a w hR hf => .inl ⟨wanted_yes hf rfl, ex_fieldAddrB fa_25_0 rfl hf rfl⟩⟩) (.cons (⟨_, _, rfl, rfl, rfl, rfl, fun a w hR hf => .inl ⟨wanted_yes hf rfl, ex_load sc_23 hf rfl (bx_cell (hR.1) _ rfl)⟩⟩) (.cons (⟨_, _, rfl, rfl, rfl, rfl, fun a w hR hf => .inl ⟨wanted_yes hf rfl, ex_move hf rfl⟩⟩) (.cons (⟨_, _, rfl, rfl, rfl, rfl, fun a w hR hf => .inl ⟨wanted_yes hf rfl, ex_move hf rfl⟩⟩) (.cons (⟨_, _, rfl, rfl, rfl, rfl, fun a w hR hf => .inl ⟨wanted_yes hf rfl, ex_sub hf rfl rfl⟩⟩) (.cons (⟨_, _, rfl, rfl, rfl, rfl, fun a w hR hf => .inl ⟨wanted_yes hf rfl, ex_indexAddr sa_22 (rsl_isSl hR.2.1) hc39.1 hc39.2 hf rfl rfl⟩⟩) (.cons (⟨_, _, rfl, rfl, rfl, rfl, fun a w hR hf => .inl ⟨wanted_yes hf rfl, ex_fieldAddrS fa_25_0 rfl hf rfl⟩⟩) (.cons (⟨_, _, rfl, rfl, rfl, rfl, fun a w hR hf => .inl ⟨wanted_yes hf rfl, ex_load sc_23 hf rfl (el_cell (K := K_api_IdleState) (f := 0) (rsl_rd hR.2.1) hc39.1 hc39.2 rfl)⟩⟩) (.cons (⟨_, _, rfl, rfl, rfl, rfl, fun a w hR hf => .inl ⟨wanted_yes hf rfl, ex_castB (ex_leq hf rfl rfl) (dec_f hc40)⟩⟩) (.cons (⟨_, _, rfl, rfl, rfl, rfl, fun a w hR hf => .inl ⟨wanted_yes hf rfl, ex_move hf rfl⟩⟩) (.cons (⟨_, _, rfl, rfl, rfl, rfl, fun a w hR hf => .inl ⟨wanted_yes hf rfl, ex_fieldAddrB fa_25_1 rfl hf rfl⟩⟩) (.cons (⟨_, _, rfl, rfl, rfl, rfl, fun a w hR hf => .inl ⟨wanted_yes hf rfl, ex_load sc_23 hf rfl (bx_cell (hR.1) _ rfl)⟩⟩) (.cons (⟨_, _, rfl, rfl, rfl, rfl, fun a w hR hf => .inl ⟨wanted_yes hf rfl, ex_move hf rfl⟩⟩) (.cons (⟨_, _, rfl, rfl, rfl, rfl, fun a w hR hf => .inl ⟨wanted_yes hf rfl, ex_move hf rfl⟩⟩) (.cons (⟨_, _, rfl, rfl, rfl, rfl, fun a w hR hf => .inl ⟨wanted_yes hf rfl, ex_sub hf rfl rfl⟩⟩) (.cons (⟨_, _, rfl, rfl, rfl, rfl, fun a w hR hf => .inl ⟨wanted_yes hf rfl, ex_indexAddr sa_22 (rsl_isSl hR.2.1) hc39.1 hc39.2 hf rfl rfl⟩⟩) (.cons (⟨_, _, rfl, rfl, rfl, rfl, fun a w hR hf => .inl ⟨wanted_yes hf rfl, ex_fieldAddrS fa_25_1 rfl hf rfl⟩⟩) (.cons (⟨_, _, rfl, rfl, rfl, rfl, fun a w hR hf => .inl ⟨wanted_yes hf rfl, ex_load sc_23 hf rfl (el_cell (K := K_api_IdleState) (f := 1) (rsl_rd hR.2.1) hc39.1 hc39.2 rfl)⟩⟩) (.cons (⟨_, _, rfl, rfl, rfl, rfl, fun a w hR hf => .inl ⟨wanted_yes hf rfl, ex_castB (ex_leq hf rfl rfl) (dec_t hc42)⟩⟩) (.cons (⟨_, _, rfl, rfl, rfl, rfl, fun a w hR hf => .inl ⟨wanted_yes hf rfl, ex_pickF hf rfl rfl⟩⟩) (.cons (⟨_, _, rfl, rfl, rfl, rfl, fun a w hR hf => .inl ⟨wanted_yes hf rfl, ex_move hf rfl⟩⟩) (.cons (⟨_, _, rfl, rfl, rfl, rfl, fun a w hR hf => .inr ⟨wanted_no hf rfl, rfl⟩⟩) (.cons (⟨_, _, rfl, rfl, rfl, rfl, fun a w hR hf => .inr ⟨wanted_no hf rfl, rfl⟩⟩) (.cons (⟨_, _, rfl, rfl, rfl, rfl, fun a w hR hf => .inr ⟨wanted_no hf rfl, rfl⟩⟩) (.cons (⟨_, _, rfl, rfl, rfl, rfl, fun a w hR hf => .inr ⟨wanted_no hf rfl, rfl⟩⟩) (.cons (⟨_, _, rfl, rfl, rfl, rfl, fun a w hR hf => .inr ⟨wanted_no hf rfl, rfl⟩⟩) (.cons (⟨_, _, rfl, rfl, rfl, rfl, fun a w hR hf => .inr ⟨wanted_no hf rfl, rfl⟩⟩) (.cons (⟨_, _, rfl, rfl, rfl, rfl, fun a w hR hf => .inr ⟨wanted_no hf rfl, rfl⟩⟩) (.cons (⟨_, _, rfl, rfl, rfl, rfl, fun a w hR hf => .inr ⟨wanted_no hf rfl, rfl⟩⟩) (.cons (⟨_, _, rfl, rfl, rfl, rfl, fun a w hR hf => .inr ⟨wanted_no hf rfl, rfl⟩⟩) (.cons (⟨_, _, rfl, rfl, rfl, rfl, fun a w hR hf => .inl ⟨wanted_yes hf rfl, ex_pickT hf rfl rfl⟩⟩) (.cons (⟨_, _, rfl, rfl, rfl, rfl, fun a w hR hf => .inl ⟨wanted_yes hf rfl, ex_pickT hf rfl rfl⟩⟩) (.nil)))))))))))))))))))))))))))))))))))) (fun K43 hK43 => ?_)
                          refine RW.zero (by kernel_rfl) (by kernel_rfl) [(0, v0), (27, v0), (28, .int .i64 (a0.length : Int)), (29, .int .i64 y17), (81, .bool true)] ⟨rfl, rfl, rfl, rfl, rfl, trivial⟩ (fun a w hR hs hf => ?_)
                          refine hK43 _ _ ?_
                          replace hs := hs.keep (.d .nil)
                          have e37 := some_eq H; subst e37
                          exact hJ37 _ _ ⟨hf.sub ⟨rfl, rfl, rfl, rfl, rfl, trivial⟩, hs⟩
                        · -- not ((gd IdleState.zero a0 y17).Residency) ≤ ((gd IdleState.zero
                          refine region_d fol 35 [(0, v0), (3, .int .i64 y17), (4, .pointer (some ⟨b26, 0, none⟩)), (27, v0), (28, .int .i64 (a0.length : Int)), (29, .int .i64 y17)] [(0, .int .i64 y17), (1, .bool true), (2, .bool true), (3, .pointer (some ⟨b26, 0, none⟩)), (4, .int .u64 ((gd IdleState.zero a0 y17).Latency)), (5, v0), (6, .int .i64 y17), (7, .int .i64 (IntKind.i64.wrap (y17 - 1))), (8, .pointer (some (sla v0 ((IntKind.i64.wrap (y17 - 1)).toNat * 3)))), (9, .pointer (some (sla v0 ((IntKind.i64.wrap (y17 - 1)).toNat * 3 + 0)))), (10, .int .u64 ((gd IdleState.zero a0 (IntKind.i64.wrap (y17 - 1))).Latency)), (11, .bool false), (12, .bool false), (13, .pointer (some ⟨b26, 1, none⟩)), (14, .int .u64 ((gd IdleState.zero a0 y17).Residency)), (15, v0), (16, .int .i64 y17), (17, .int .i64 (IntKind.i64.wrap (y17 - 1))), (18, .pointer (some (sla v0 ((IntKind.i64.wrap (y17 - 1)).toNat * 3)))), (19, .pointer (some (sla v0 ((IntKind.i64.wrap (y17 - 1)).toNat * 3 + 1)))), (20, .int .u64 ((gd IdleState.zero a0 (IntKind.i64.wrap (y17 - 1))).Residency)), (21, .bool false), (22, .bool false), (23, .bool false), (24, .pointer (some ⟨b26, 2, none⟩)), (25, .int .u64 ((gd IdleState.zero a0 y17).Power)), (26, v0), (27, .int .i64 y17), (28, .int .i64 (IntKind.i64.wrap (y17 - 1))), (29, .pointer (some (sla v0 ((IntKind.i64.wrap (y17 - 1)).toNat * 3)))), (30, .pointer (some (sla v0 ((IntKind.i64.wrap (y17 - 1)).toNat * 3 + 2)))), (31, .int .u64 ((gd IdleState.zero a0 (IntKind.i64.wrap (y17 - 1))).Power)), (32, .bool (decide (((gd IdleState.zero a0 (IntKind.i64.wrap (y17 - 1))).Power) ≤ ((gd IdleState.zero a0 y17).Power)))), (33, .bool (decide (((gd IdleState.zero a0 (IntKind.i64.wrap (y17 - 1))).Power) ≤ ((gd IdleState.zero a0 y17).Power)))), (34, .bool (decide (((gd IdleState.zero a0 (IntKind.i64.wrap (y17 - 1))).Power) ≤ ((gd IdleState.zero a0 y17).Power))))] [] (fun w => (bx b26 25 [.int .u64 ((gd IdleState.zero a0 y17).Latency), .int .u64 ((gd IdleState.zero a0 y17).Residency), .int .u64 ((gd IdleState.zero a0 y17).Power)]).ok w ∧ (rsl K_api_IdleState v0 a0).ok w ∧ True) (fun w => St M w0 w [bx b26 25 [.int .u64 ((gd IdleState.zero a0 y17).Latency), .int .u64 ((gd IdleState.zero a0 y17).Residency), .int .u64 ((gd IdleState.zero a0 y17).Power)]]) hf ⟨rfl, rfl, rfl, rfl, rfl, rfl, trivial⟩ (by kernel_rfl) (by kernel_rfl) rfl (by decide) ⟨hs.drew.get (i := 0) rfl, hr.now hs.drew (i := 0) rfl, trivial⟩ hs.drew (.cons (⟨_, _, rfl, rfl, rfl, rfl, fun a w hR hf => .inl ⟨wanted_yes hf rfl, ex_move hf rfl⟩⟩) (.cons (⟨_, _, rfl, rfl, rfl, rfl, fun a w hR hf => .inl ⟨wanted_yes hf rfl, ex_castB (ex_gtr hf rfl rfl) (dec_t hc38)⟩⟩) (.cons (⟨_, _, rfl, rfl, rfl, rfl, fun a w hR hf => .inl ⟨wanted_yes hf rfl, ex_move hf rfl⟩⟩) (.cons (⟨_, _, rfl, rfl, rfl, rfl, fun a w hR hf => .inl ⟨wanted_yes hf rfl, ex_fieldAddrB fa_25_0 rfl hf rfl⟩⟩) (.cons (⟨_, _, rfl, rfl, rfl, rfl, fun a w hR hf => .inl ⟨wanted_yes hf rfl, ex_load sc_23 hf rfl (bx_cell (hR.1) _ rfl)⟩⟩) (.cons (⟨_, _, rfl, rfl, rfl, rfl, fun a w hR hf => .inl ⟨wanted_yes hf rfl, ex_move hf rfl⟩⟩) (.cons (⟨_, _, rfl, rfl, rfl, rfl, fun a w hR hf => .inl ⟨wanted_yes hf rfl, ex_move hf rfl⟩⟩) (.cons (⟨_, _, rfl, rfl, rfl, rfl, fun a w hR hf => .inl ⟨wanted_yes hf rfl, ex_sub hf rfl rfl⟩⟩) (.cons (⟨_, _, rfl, rfl, rfl, rfl, fun a w hR hf => .inl ⟨wanted_yes hf rfl, ex_indexAddr sa_22 (rsl_isSl hR.2.1) hc39.1 hc39.2 hf rfl rfl⟩⟩) (.cons (⟨_, _, rfl, rfl, rfl, rfl, fun a w hR hf => .inl ⟨wanted_yes hf rfl, ex_fieldAddrS fa_25_0 rfl hf rfl⟩⟩) (.cons (⟨_, _, rfl, rfl, rfl, rfl, fun a w hR hf => .inl ⟨wanted_yes hf rfl, ex_load sc_23 hf rfl (el_cell (K := K_api_IdleState) (f := 0) (rsl_rd hR.2.1) hc39.1 hc39.2 rfl)⟩⟩) (.cons (⟨_, _, rfl, rfl, rfl, rfl, fun a w hR hf => .inl ⟨wanted_yes hf rfl, ex_castB (ex_leq hf rfl rfl) (dec_f hc40)⟩⟩) (.cons (⟨_, _, rfl, rfl, rfl, rfl, fun a w hR hf => .inl ⟨wanted_yes hf rfl, ex_move hf rfl⟩⟩) (.cons (⟨_, _, rfl, rfl, rfl, rfl, fun a w hR hf => .inl ⟨wanted_yes hf rfl, ex_fieldAddrB fa_25_1 rfl hf rfl⟩⟩) (.cons (⟨_, _, rfl, rfl, rfl, rfl, fun a w hR hf => .inl ⟨wanted_yes hf rfl, ex_load sc_23 hf rfl (bx_cell (hR.1) _ rfl)⟩⟩) (.cons (⟨_, _, rfl, rfl, rfl, rfl, fun a w hR hf => .inl ⟨wanted_yes hf rfl, ex_move hf rfl⟩⟩) (.cons (⟨_, _, rfl, rfl, rfl, rfl, fun a w hR hf => .inl ⟨wanted_yes hf rfl, ex_move hf rfl⟩⟩) (.cons (⟨_, _, rfl, rfl, rfl, rfl, fun a w hR hf => .inl ⟨wanted_yes hf rfl, ex_sub hf rfl rfl⟩⟩) (.cons (⟨_, _, rfl, rfl, rfl, rfl, fun a w hR hf => .inl ⟨wanted_yes hf rfl, ex_indexAddr sa_22 (rsl_isSl hR.2.1) hc39.1 hc39.2 hf rfl rfl⟩⟩) (.cons (⟨_, _, rfl, rfl, rfl, rfl, fun a w hR hf => .inl ⟨wanted_yes hf rfl, ex_fieldAddrS fa_25_1 rfl hf rfl⟩⟩) (.cons (⟨_, _, rfl, rfl, rfl, rfl, fun a w hR hf => .inl ⟨wanted_yes hf rfl, ex_load sc_23 hf rfl (el_cell (K := K_api_IdleState) (f := 1) (rsl_rd hR.2.1) hc39.1 hc39.2 rfl)⟩⟩) (.cons (⟨_, _, rfl, rfl, rfl, rfl, fun a w hR hf => .inl ⟨wanted_yes hf rfl, ex_castB (ex_leq hf rfl rfl) (dec_f hc42)⟩⟩) (.cons (⟨_, _, rfl, rfl, rfl, rfl, fun a w hR hf => .inl ⟨wanted_yes hf rfl, ex_pickF hf rfl rfl⟩⟩) (.cons (⟨_, _, rfl, rfl, rfl, rfl, fun a w hR hf => .inl ⟨wanted_yes hf rfl, ex_move hf rfl⟩⟩) (.cons (⟨_, _, rfl, rfl, rfl, rfl, fun a w hR hf => .inl ⟨wanted_yes hf rfl, ex_fieldAddrB fa_25_2 rfl hf rfl⟩⟩) (.cons (⟨_, _, rfl, rfl, rfl, rfl, fun a w hR hf => .inl ⟨wanted_yes hf rfl, ex_load sc_23 hf rfl (bx_cell (hR.1) _ rfl)⟩⟩) (.cons (⟨_, _, rfl, rfl, rfl, rfl, fun a w hR hf => .inl ⟨wanted_yes hf rfl, ex_move hf rfl⟩⟩) (.cons (⟨_, _, rfl, rfl, rfl, rfl, fun a w hR hf => .inl ⟨wanted_yes hf rfl, ex_move hf rfl⟩⟩) (.cons (⟨_, _, rfl, rfl, rfl, rfl, fun a w hR hf => .inl ⟨wanted_yes hf rfl, ex_sub hf rfl rfl⟩⟩) (.cons (⟨_, _, rfl, rfl, rfl, rfl, fun a w hR hf => .inl ⟨wanted_yes hf rfl, ex_indexAddr sa_22 (rsl_isSl hR.2.1) hc39.1 hc39.2 hf rfl rfl⟩⟩) (.cons (⟨_, _, rfl, rfl, rfl, rfl, fun a w hR hf => .inl ⟨wanted_yes hf rfl, ex_fieldAddrS fa_25_2 rfl hf rfl⟩⟩) (.cons (⟨_, _, rfl, rfl, rfl, rfl, fun a w hR hf => .inl ⟨wanted_yes hf rfl, ex_load sc_23 hf rfl (el_cell (K := K_api_IdleState) (f := 2) (rsl_rd hR.2.1) hc39.1 hc39.2 rfl)⟩⟩) (.cons (⟨_, _, rfl, rfl, rfl, rfl, fun a w hR hf => .inl ⟨wanted_yes hf rfl, ex_geq hf rfl rfl⟩⟩) (.cons (⟨_, _, rfl, rfl, rfl, rfl, fun a w hR hf => .inl ⟨wanted_yes hf rfl, ex_pickF hf rfl rfl⟩⟩) (.cons (⟨_, _, rfl, rfl, rfl, rfl, fun a w hR hf => .inl ⟨wanted_yes hf rfl, ex_pickT hf rfl rfl⟩⟩) (.nil)))))))))))))))))))))))))))))))))))) (fun K44 hK44 => ?_)
                          refine RW.zero (by kernel_rfl) (by kernel_rfl) [(0, v0), (27, v0), (28, .int .i64 (a0.length : Int)), (29, .int .i64 y17), (81, .bool (decide (((gd IdleState.zero a0 (IntKind.i64.wrap (y17 - 1))).Power) ≤ ((gd IdleState.zero a0 y17).Power))))] ⟨rfl, rfl, rfl, rfl, rfl, trivial⟩ (fun a w hR hs hf => ?_)
                          refine hK44 _ _ ?_
                          replace hs := hs.keep (.d .nil)
                          have e37 := some_eq H; subst e37
                          exact hJ37 _ _ ⟨hf.sub ⟨rfl, rfl, rfl, rfl, rfl, trivial⟩, hs⟩
                    · -- not 0 < y17
                      refine region_d fol 35 [(0, v0), (3, .int .i64 y17), (4, .pointer (some ⟨b26, 0, none⟩)), (27, v0), (28, .int .i64 (a0.length : Int)), (29, .int .i64 y17)] [(0, .int .i64 y17), (1, .bool false), (2, .bool false), (3, undef), (4, undef), (5, undef), (6, undef), (7, undef), (8, undef), (9, undef), (10, undef), (11, undef), (12, undef), (13, undef), (14, undef), (15, undef), (16, undef), (17, undef), (18, undef), (19, undef), (20, undef), (21, undef), (22, undef), (23, undef), (24, undef), (25, undef), (26, undef), (27, undef), (28, undef), (29, undef), (30, undef), (31, undef), (32, undef), (33, undef), (34, .bool false)] [] (fun w => (bx b26 25 [.int .u64 ((gd IdleState.zero a0 y17).Latency), .int .u64 ((gd IdleState.zero a0 y17).Residency), .int .u64 ((gd IdleState.zero a0 y17).Power)]).ok w ∧ (rsl K_api_IdleState v0 a0).ok w ∧ True) (fun w => St M w0 w [bx b26 25 [.int .u64 ((gd IdleState.zero a0 y17).Latency), .int .u64 ((gd IdleState.zero a0 y17).Residency), .int .u64 ((gd IdleState.zero a0 y17).Power)]]) hf ⟨rfl, rfl, rfl, rfl, rfl, rfl, trivial⟩ (by kernel_rfl) (by kernel_rfl) rfl (by decide) ⟨hs.drew.get (i := 0) rfl, hr.now hs.drew (i := 0) rfl, trivial⟩ hs.drew (.cons (⟨_, _, rfl, rfl, rfl, rfl, fun a w hR hf => .inl ⟨wanted_yes hf rfl, ex_move hf rfl⟩⟩) (.cons (⟨_, _, rfl, rfl, rfl, rfl, fun a w hR hf => .inl ⟨wanted_yes hf rfl, ex_castB (ex_gtr hf rfl rfl) (dec_f hc38)⟩⟩) (.cons (⟨_, _, rfl, rfl, rfl, rfl, fun a w hR hf => .inl ⟨wanted_yes hf rfl, ex_move hf rfl⟩⟩) (.cons (⟨_, _, rfl, rfl, rfl, rfl, fun a w hR hf => .inr ⟨wanted_no hf rfl, rfl⟩⟩) (.cons (⟨_, _, rfl, rfl, rfl, rfl, fun a w hR hf => .inr ⟨wanted_no hf rfl, rfl⟩⟩) (.cons (⟨_, _, rfl, rfl, rfl, rfl, fun a w hR hf => .inr ⟨wanted_no hf rfl, rfl⟩⟩) (.cons (⟨_, _, rfl, rfl, rfl, rfl, fun a w hR hf => .inr ⟨wanted_no hf rfl, rfl⟩⟩) (.cons (⟨_, _, rfl, rfl, rfl, rfl, fun a w hR hf => .inr ⟨wanted_no hf rfl, rfl⟩⟩) (.cons (⟨_, _, rfl, rfl, rfl, rfl, fun a w hR hf => .inr ⟨wanted_no hf rfl, rfl⟩⟩) (.cons (⟨_, _, rfl, rfl, rfl, rfl, fun a w hR hf => .inr ⟨wanted_no hf rfl, rfl⟩⟩) (.cons (⟨_, _, rfl, rfl, rfl, rfl, fun a w hR hf => .inr ⟨wanted_no hf rfl, rfl⟩⟩) (.cons (⟨_, _, rfl, rfl, rfl, rfl, fun a w hR hf => .inr ⟨wanted_no hf rfl, rfl⟩⟩) (.cons (⟨_, _, rfl, rfl, rfl, rfl, fun a w hR hf => .inr ⟨wanted_no hf rfl, rfl⟩⟩) (.cons (⟨_, _, rfl, rfl, rfl, rfl, fun a w hR hf => .inr ⟨wanted_no hf rfl, rfl⟩⟩) (.cons (⟨_, _, rfl, rfl, rfl, rfl, fun a w hR hf => .inr ⟨wanted_no hf rfl, rfl⟩⟩) (.cons (⟨_, _, rfl, rfl, rfl, rfl, fun a w hR hf => .inr ⟨wanted_no hf rfl, rfl⟩⟩) (.cons (⟨_, _, rfl, rfl, rfl, rfl, fun a w hR hf => .inr ⟨wanted_no hf rfl, rfl⟩⟩) (.cons (⟨_, _, rfl, rfl, rfl, rfl, fun a w hR hf => .inr ⟨wanted_no hf rfl, rfl⟩⟩) (.cons (⟨_, _, rfl, rfl, rfl, rfl, fun a w hR hf => .inr ⟨wanted_no hf rfl, rfl⟩⟩) (.cons (⟨_, _, rfl, rfl, rfl, rfl, fun a w hR hf => .inr ⟨wanted_no hf rfl, rfl⟩⟩) (.cons (⟨_, _, rfl, rfl, rfl, rfl, fun a w hR hf => .inr ⟨wanted_no hf rfl, rfl⟩⟩) (.cons (⟨_, _, rfl, rfl, rfl, rfl, fun a w hR hf => .inr ⟨wanted_no hf rfl, rfl⟩⟩) (.cons (⟨_, _, rfl, rfl, rfl, rfl, fun a w hR hf => .inr ⟨wanted_no hf rfl, rfl⟩⟩) (.cons (⟨_, _, rfl, rfl, rfl, rfl, fun a w hR hf => .inr ⟨wanted_no hf rfl, rfl⟩⟩) (.cons (⟨_, _, rfl, rfl, rfl, rfl, fun a w hR hf => .inr ⟨wanted_no hf rfl, rfl⟩⟩) (.cons (⟨_, _, rfl, rfl, rfl, rfl, fun a w hR hf => .inr ⟨wanted_no hf rfl, rfl⟩⟩) (.cons (⟨_, _, rfl, rfl, rfl, rfl, fun a w hR hf => .inr ⟨wanted_no hf rfl, rfl⟩⟩) (.cons (⟨_, _, rfl, rfl, rfl, rfl, fun a w hR hf => .inr ⟨wanted_no hf rfl, rfl⟩⟩) (.cons (⟨_, _, rfl, rfl, rfl, rfl, fun a w hR hf => .inr ⟨wanted_no hf rfl, rfl⟩⟩) (.cons (⟨_, _, rfl, rfl, rfl, rfl, fun a w hR hf => .inr ⟨wanted_no hf rfl, rfl⟩⟩) (.cons (⟨_, _, rfl, rfl, rfl, rfl, fun a w hR hf => .inr ⟨wanted_no hf rfl, rfl⟩⟩) (.cons (⟨_, _, rfl, rfl, rfl, rfl, fun a w hR hf => .inr ⟨wanted_no hf rfl, rfl⟩⟩) (.cons (⟨_, _, rfl, rfl, rfl, rfl, fun a w hR hf => .inr ⟨wanted_no hf rfl, rfl⟩⟩) (.cons (⟨_, _, rfl, rfl, rfl, rfl, fun a w hR hf => .inr ⟨wanted_no hf rfl, rfl⟩⟩) (.cons (⟨_, _, rfl, rfl, rfl, rfl, fun a w hR hf => .inl ⟨wanted_yes hf rfl, ex_pickF hf rfl rfl⟩⟩) (.nil)))))))))))))))))))))))))))))))))))) (fun K45 hK45 => ?_)
                      refine RW.zero (by kernel_rfl) (by kernel_rfl) [(0, v0), (27, v0), (28, .int .i64 (a0.length : Int)), (29, .int .i64 y17), (81, .bool false)] ⟨rfl, rfl, rfl, rfl, rfl, trivial⟩ (fun a w hR hs hf => ?_)
                      refine hK45 _ _ ?_
                      replace hs := hs.keep (.d .nil)
                      have e37 := some_eq H; subst e37
                      exact hJ37 _ _ ⟨hf.sub ⟨rfl, rfl, rfl, rfl, rfl, trivial⟩, hs⟩
                  · obtain ⟨hf, hs⟩ := hJ
                    replace H := HO37
                    clear HO37
                    refine itt H (fun hc46 H => ?_) (fun hc46 H => ?_)
                    · -- x37 = true
                      replace hf := hf.castB (t := 81) rfl hc46
                      refine cond_T hf rfl ?_
                      refine seq_reg (fun K47 hK47 => ?_)
                      refine stq hf rfl rfl rfl (ex_assign hf rfl) (fun a hf => ?_)
                      refine hK47 _ _ ?_
                      refine wp_ret ?_
                      refine hR24 _ _ ?_
                      refine hR23 _ _ ?_
                      refine hR19 _ _ ?_
                      refine hR16 _ _ ?_
                      have e14 := some_eq H; subst e14; replace H := el_rt HO14
                      refine hR14 _ _ ?_
                      have eR := some_eq H; subst eR
                      exact ret1 Try.results18 hf rfl ⟨_, rfl, ⟨rfl, hs⟩⟩
                    · -- not x37 = true
                      replace hf := hf.castB (t := 81) rfl (bool_f hc46)
                      refine cond_F hf rfl ?_
                      refine wp_skip ?_
                      refine hN24 _ _ ?_
                      refine hN23 _ _ ?_
                      refine region_k (fun K48 hK48 => ?_)
                      refine stq hf rfl rfl rfl (ex_add hf rfl rfl) (fun a hf => ?_)
                      refine stq hf rfl rfl rfl (ex_move hf rfl) (fun a hf => ?_)
                      refine hK48 _ _ ?_
                      exact hL19 k19 _ _ (Nat.lt_succ_self _) ⟨(IntKind.i64.wrap (y17 + 1)), hf.sub ⟨rfl, rfl, rfl, rfl, trivial⟩, hs, H⟩
            · -- not y17 < (a0.length : Int)
              replace hf := hf.castB (t := 30) rfl (dec_f hc22)
              refine cond_F hf rfl ?_
              refine wp_exit ?_
              refine hX21 0 _ _ ?_
              refine hX19 0 _ _ ?_
              refine hX16 _ _ ?_
              have e14 := some_eq H; subst e14
              exact hJ14 _ _ ⟨_, rfl, hf.sub trivial, hs⟩
      · obtain ⟨x14s, rfl, hf, hs⟩ := hJ
        replace H := el_go HO14
        clear HO14
        refine seq_reg (fun K49 hK49 => ?_)
        refine stq hf rfl rfl rfl (ex_assign hf rfl) (fun a hf => ?_)
        refine hK49 _ _ ?_
        refine wp_ret ?_
        have eR := some_eq H; subst eR
        exact ret1 Try.results18 hf rfl ⟨_, rfl, ⟨rfl, hs⟩⟩

set_option maxRecDepth 100000 in
theorem idle_Select.calls {M : Nat → Prop} {w0 : World} (k : Nat) (a0 : (List IdleState)) (a1 : Int) (a2 : Int) (v0 : Value) {r : Int × Int} (hs : St M w0 w0 []) (hr : Sr M w0 [rsl K_api_IdleState v0 a0])
    (h : idle_Select.f k a0 a1 a2 = some r) : Calls Try.prog 16 #[v0, .int .u64 a1, .int .u64 a2] w0 fun e w => ∃ v, e = .returned v ∧ (.tuple #[.int .i64 r.1, .int .i64 r.2] = v ∧ St M w0 w []) := by
  have H := (idle_Select.f.eq_1 ..).symm.trans h
  clear h
  refine enter Try.func16 rfl Try.ntmps16 rfl (fun a hf => ?_)
  refine seq_reg (fun K1 hK1 => ?_)
  refine stq hf rfl rfl rfl (ex_assign hf rfl) (fun a hf => ?_)
  refine stq hf rfl rfl rfl (ex_assign hf rfl) (fun a hf => ?_)
  refine hK1 _ _ ?_
  refine seq_n (fun Q2 hN2 hR2 hX2 => ?_)
  refine bnd H (fun s3 hs3 H => ?_)
  refine seq_reg (fun K4 hK4 => ?_)
  refine stq hf rfl rfl rfl (ex_move hf rfl) (fun a hf => ?_)
  refine stepF hf rfl rfl rfl (ex_call cf_18 hf rfl) (idle_Check.calls k a0 v0 (hs.enter .nil) (Sr.old hr hs .nil (i := 0) rfl (fun _ h => h) (fun _ h => h) (Sr.nil _ _)) hs3) (fun v w hR a hf => ?_)
  obtain ⟨rfl, hs'⟩ := hR
  replace hs := hs.step .nil hs'
  clear hs'
  refine stq hf rfl rfl rfl (ex_assign hf rfl) (fun a hf => ?_)
  refine hK4 _ _ ?_
  refine seq_reg (fun K5 hK5 => ?_)
  refine stq hf rfl rfl rfl (ex_move hf rfl) (fun a hf => ?_)
  refine stq hf rfl rfl rfl (ex_neq hf rfl rfl) (fun a hf => ?_)
  refine hK5 _ _ ?_
  refine itt H (fun hc6 H => ?_) (fun hc6 H => ?_)
  · -- s3 = 0
    replace hf := hf.castB (t := 15) rfl (ndec_f hc6)
    refine cond_F hf rfl ?_
    refine wp_skip ?_
    refine hN2 _ _ ?_
    refine seq_reg (fun K7 hK7 => ?_)
    refine stq hf rfl rfl rfl (ex_assign hf rfl) (fun a hf => ?_)
    refine hK7 _ _ ?_
    refine bnd H (fun x8 H8 HO8 => ?_)
    clear H
    refine seq_cut (fun a w => Fr a 37 [(9, .int .i64 x8)] ∧ St M w0 w []) (fun Q8 hJ8 hR8 hX8 => ?_) (fun a w hJ => ?_)
    · replace H := H8
      refine seq_reg (fun K9 hK9 => ?_)
      refine stq hf rfl rfl rfl (ex_move hf rfl) (fun a hf => ?_)
      refine stq hf rfl rfl rfl (ex_lenS Try.underlying22 (rsl_isSl (hr.now hs (i := 0) rfl)) hf rfl) (fun a hf => ?_)
      refine stq hf rfl rfl rfl (ex_move hf rfl) (fun a hf => ?_)
      refine hK9 _ _ ?_
      refine block_k (fun Q10 hN10 hR10 hX10 hY10 => ?_)
      refine loop_k (fun n a w => ∃ (y11 : Int) (y12 : Int), Fr a 37 [(1, .int .u64 a1), (2, .int .u64 a2), (9, .int .i64 y11), (17, v0), (18, .int .i64 (a0.length : Int)), (19, .int .i64 y12)] ∧ St M w0 w [] ∧ idle_Select.l1 n a0 a2 a1 y11 y12 = some x8) k ?_ (fun n14 a w hI Q14 hL14 hR14 hX14 => ?_)
      · -- at the start
        exact ⟨0, 0, hf.sub ⟨rfl, rfl, rfl, rfl, rfl, rfl, trivial⟩, hs, H⟩
      · obtain ⟨y11, y12, hf, hs, H⟩ := hI
        cases n14 with
        | zero => exact absurd H (by rw [idle_Select.l1.eq_1]; intro h; cases h)
        | succ k14 =>
          replace H := (idle_Select.l1.eq_2 ..).symm.trans H
          refine seq_reg (fun K15 hK15 => ?_)
          refine stq hf rfl rfl rfl (ex_lss hf rfl rfl) (fun a hf => ?_)
          refine hK15 _ _ ?_
          refine seq_n (fun Q16 hN16 hR16 hX16 => ?_)
          refine itt H (fun hc17 H => ?_) (fun hc17 H => ?_)
          · -- y12 < (a0.length : Int)
            replace hf := hf.castB (t := 20) rfl (dec_t hc17)
            refine cond_T hf rfl ?_
            refine wp_skip ?_
            refine hN16 _ _ ?_
            refine bnd H (fun x18 H18 HO18 => ?_)
            clear H
            refine seq_cut (fun a w => Fr a 37 [(1, .int .u64 a1), (2, .int .u64 a2), (9, .int .i64 x18), (17, v0), (18, .int .i64 (a0.length : Int)), (19, .int .i64 y12)] ∧ St M w0 w []) (fun Q18 hJ18 hR18 hX18 => ?_) (fun a w hJ => ?_)
            · replace H := H18
              refine block_k (fun Q19 hN19 hR19 hX19 hY19 => ?_)
              refine ck_some H (fun hc20 H => ?_)
              refine seq_reg (fun K22 hK22 => ?_)
              refine stq hf rfl rfl rfl (ex_move hf rfl) (fun a hf => ?_)
              refine stq hf rfl rfl rfl (ex_indexAddr sa_22 (rsl_isSl (hr.now hs (i := 0) rfl)) hc20.1 hc20.2 hf rfl rfl) (fun a hf => ?_)
              refine stq hf rfl rfl rfl (ex_loadA (cs := [.int .u64 ((gd IdleState.zero a0 y12).Latency), .int .u64 ((gd IdleState.zero a0 y12).Residency), .int .u64 ((gd IdleState.zero a0 y12).Power)]) ag_25 hf rfl (el_cells (K := K_api_IdleState) (rsl_rd (hr.now hs (i := 0) rfl)) hc20.1 hc20.2 rfl)) (fun a hf => ?_)
              refine stepV hf rfl rfl rfl (er_alloc hs ti_25 (cs := [.int .u64 0, .int .u64 0, .int .u64 0]) rfl) (fun v w hR a hf => ?_)
              obtain ⟨b21, rfl, hs⟩ := hR
              refine stq hf rfl rfl rfl (ex_assign hf rfl) (fun a hf => ?_)
              refine stepS hf rfl rfl (er_storeAB (vs := [.int .u64 ((gd IdleState.zero a0 y12).Latency), .int .u64 ((gd IdleState.zero a0 y12).Residency), .int .u64 ((gd IdleState.zero a0 y12).Power)]) (cs' := [.int .u64 ((gd IdleState.zero a0 y12).Latency), .int .u64 ((gd IdleState.zero a0 y12).Residency), .int .u64 ((gd IdleState.zero a0 y12).Power)]) hs (.c .nil) sz_25 hf rfl rfl (all1 rfl (all1 rfl (all1 rfl (all1_nil)))) rfl rfl) (fun w hs => ?_)
              refine hK22 _ _ ?_
              refine bnd H (fun x23 H23 HO23 => ?_)
              clear H
              refine seq_cut (fun a w => Fr a 37 [(1, .int .u64 a1), (2, .int .u64 a2), (9, .int .i64 y11), (10, .int .i64 y12), (17, v0), (18, .int .i64 (a0.length : Int)), (19, .int .i64 y12), (33, .bool x23)] ∧ St M w0 w []) (fun Q23 hJ23 hR23 hX23 => ?_) (fun a w hJ => ?_)
              · replace H := H23
                refine itt H (fun hc24 H => ?_) (fun hc24 H => ?_)
                · -- ((gd IdleState.zero a0 y12).Latency) ≤ a2
                  refine region_k (fun K25 hK25 => ?_)
                  refine stq hf rfl rfl rfl (ex_fieldAddrB fa_25_0 rfl hf rfl) (fun a hf => ?_)
                  refine stq hf rfl rfl rfl (ex_load sc_23 hf rfl (bx_cell (hs.get (i := 0) rfl) _ rfl)) (fun a hf => ?_)
                  refine stq hf rfl rfl rfl (ex_move hf rfl) (fun a hf => ?_)
                  refine stq hf rfl rfl rfl (ex_leq hf rfl rfl) (fun a hf => ?_)
                  refine stq hf rfl rfl rfl (ex_move hf rfl) (fun a hf => ?_)
                  replace hf := hf.castB (t := 27) rfl (dec_t hc24)
                  replace hf := hf.castB (t := 28) rfl (dec_t hc24)
                  refine stq hf rfl rfl rfl (ex_fieldAddrB fa_25_1 rfl hf rfl) (fun a hf => ?_)
                  refine stq hf rfl rfl rfl (ex_load sc_23 hf rfl (bx_cell (hs.get (i := 0) rfl) _ rfl)) (fun a hf => ?_)
                  refine stq hf rfl rfl rfl (ex_move hf rfl) (fun a hf => ?_)
                  refine stq hf rfl rfl rfl (ex_leq hf rfl rfl) (fun a hf => ?_)
                  refine stq hf rfl rfl rfl (ex_pickT hf rfl rfl) (fun a hf => ?_)
                  refine hK25 _ _ ?_
                  replace hs := hs.keep (.d .nil)
                  have e23 := some_eq H; subst e23
                  exact hJ23 _ _ ⟨hf.sub ⟨rfl, rfl, rfl, rfl, rfl, rfl, rfl, rfl, trivial⟩, hs⟩
                · -- not ((gd IdleState.zero a0 y12).Latency) ≤ a2
                  refine region_k (fun K26 hK26 => ?_)
                  refine stq hf rfl rfl rfl (ex_fieldAddrB fa_25_0 rfl hf rfl) (fun a hf => ?_)
                  refine stq hf rfl rfl rfl (ex_load sc_23 hf rfl (bx_cell (hs.get (i := 0) rfl) _ rfl)) (fun a hf => ?_)
                  refine stq hf rfl rfl rfl (ex_move hf rfl) (fun a hf => ?_)
                  refine stq hf rfl rfl rfl (ex_leq hf rfl rfl) (fun a hf => ?_)
                  refine stq hf rfl rfl rfl (ex_move hf rfl) (fun a hf => ?_)
                  replace hf := hf.castB (t := 27) rfl (dec_f hc24)
                  replace hf := hf.castB (t := 28) rfl (dec_f hc24)
                  refine stepN hf rfl rfl rfl (fun a hf => ?_)
                  refine stepN hf rfl rfl rfl (fun a hf => ?_)
                  refine stepN hf rfl rfl rfl (fun a hf => ?_)
                  refine stepN hf rfl rfl rfl (fun a hf => ?_)
                  refine stq hf rfl rfl rfl (ex_pickF hf rfl rfl) (fun a hf => ?_)
                  refine hK26 _ _ ?_
                  replace hs := hs.keep (.d .nil)
                  have e23 := some_eq H; subst e23
                  exact hJ23 _ _ ⟨hf.sub ⟨rfl, rfl, rfl, rfl, rfl, rfl, rfl, rfl, trivial⟩, hs⟩
              · obtain ⟨hf, hs⟩ := hJ
                replace H := HO23
                clear HO23
                refine itt H (fun hc27 H => ?_) (fun hc27 H => ?_)
                · -- x23 = true
                  replace hf := hf.castB (t := 33) rfl hc27
                  refine cond_T hf rfl ?_
                  refine region_k (fun K28 hK28 => ?_)
                  refine stq hf rfl rfl rfl (ex_move hf rfl) (fun a hf => ?_)
                  refine stq hf rfl rfl rfl (ex_assign hf rfl) (fun a hf => ?_)
                  refine hK28 _ _ ?_
                  refine hN19 _ _ ?_
                  have e18 := some_eq H; subst e18
                  exact hJ18 _ _ ⟨hf.sub ⟨rfl, rfl, rfl, rfl, rfl, rfl, trivial⟩, hs⟩
                · -- not x23 = true
                  replace hf := hf.castB (t := 33) rfl (bool_f hc27)
                  refine cond_F hf rfl ?_
                  refine wp_skip ?_
                  refine hN19 _ _ ?_
                  have e18 := some_eq H; subst e18
                  exact hJ18 _ _ ⟨hf.sub ⟨rfl, rfl, rfl, rfl, rfl, rfl, trivial⟩, hs⟩
            · obtain ⟨hf, hs⟩ := hJ
              replace H := HO18
              clear HO18
              refine region_k (fun K29 hK29 => ?_)
              refine stq hf rfl rfl rfl (ex_add hf rfl rfl) (fun a hf => ?_)
              refine stq hf rfl rfl rfl (ex_move hf rfl) (fun a hf => ?_)
              refine hK29 _ _ ?_
              exact hL14 k14 _ _ (Nat.lt_succ_self _) ⟨x18, (IntKind.i64.wrap (y12 + 1)), hf.sub ⟨rfl, rfl, rfl, rfl, rfl, rfl, trivial⟩, hs, H⟩
          · -- not y12 < (a0.length : Int)
            replace hf := hf.castB (t := 20) rfl (dec_f hc17)
            refine cond_F hf rfl ?_
            refine wp_exit ?_
            refine hX16 0 _ _ ?_
            refine hX14 0 _ _ ?_
            refine hX10 _ _ ?_
            have e8 := some_eq H; subst e8
            exact hJ8 _ _ ⟨hf.sub ⟨rfl, trivial⟩, hs⟩
    · obtain ⟨hf, hs⟩ := hJ
      replace H := HO8
      clear HO8
      refine seq_reg (fun K30 hK30 => ?_)
      refine stq hf rfl rfl rfl (ex_move hf rfl) (fun a hf => ?_)
      refine stq hf rfl rfl rfl (ex_assign hf rfl) (fun a hf => ?_)
      refine stq hf rfl rfl rfl (ex_assign hf rfl) (fun a hf => ?_)
      refine hK30 _ _ ?_
      refine wp_ret ?_
      have eR := some_eq H; subst eR
      exact ret2 Try.results16 hf rfl rfl ⟨_, rfl, ⟨rfl, hs⟩⟩
  · -- not s3 = 0
    replace hf := hf.castB (t := 15) rfl (ndec_t hc6)
    refine cond_T hf rfl ?_
    refine seq_reg (fun K31 hK31 => ?_)
    refine stq hf rfl rfl rfl (ex_move hf rfl) (fun a hf => ?_)
    refine stq hf rfl rfl rfl (ex_assign hf rfl) (fun a hf => ?_)
    refine stq hf rfl rfl rfl (ex_assign hf rfl) (fun a hf => ?_)
    refine hK31 _ _ ?_
    refine wp_ret ?_
    refine hR2 _ _ ?_
    have eR := some_eq H; subst eR
    exact ret2 Try.results16 hf rfl rfl ⟨_, rfl, ⟨rfl, hs⟩⟩

set_option maxRecDepth 100000 in
theorem idle_Energy.calls {M : Nat → Prop} {w0 : World} (k : Nat) (a0 : (List IdleState)) (a1 : Int) (a2 : Int) (v0 : Value) {r : Int × Int} (hs : St M w0 w0 []) (hr : Sr M w0 [rsl K_api_IdleState v0 a0])
    (h : idle_Energy.f k a0 a1 a2 = some r) : Calls Try.prog 20 #[v0, .int .i64 a1, .int .u64 a2] w0 fun e w => ∃ v, e = .returned v ∧ (.tuple #[.int .u64 r.1, .int .i64 r.2] = v ∧ St M w0 w []) := by
  have H := (idle_Energy.f.eq_1 ..).symm.trans h
  clear h
  refine enter Try.func20 rfl Try.ntmps20 rfl (fun a hf => ?_)
  refine seq_reg (fun K1 hK1 => ?_)
  refine stq hf rfl rfl rfl (ex_assign hf rfl) (fun a hf => ?_)
  refine stq hf rfl rfl rfl (ex_assign hf rfl) (fun a hf => ?_)
  refine hK1 _ _ ?_
  refine seq_n (fun Q2 hN2 hR2 hX2 => ?_)
  refine bnd H (fun s3 hs3 H => ?_)
  refine seq_reg (fun K4 hK4 => ?_)
  refine stq hf rfl rfl rfl (ex_move hf rfl) (fun a hf => ?_)
  refine stepF hf rfl rfl rfl (ex_call cf_18 hf rfl) (idle_Check.calls k a0 v0 (hs.enter .nil) (Sr.old hr hs .nil (i := 0) rfl (fun _ h => h) (fun _ h => h) (Sr.nil _ _)) hs3) (fun v w hR a hf => ?_)
  obtain ⟨rfl, hs'⟩ := hR
  replace hs := hs.step .nil hs'
  clear hs'
  refine stq hf rfl rfl rfl (ex_assign hf rfl) (fun a hf => ?_)
  refine hK4 _ _ ?_
  refine seq_reg (fun K5 hK5 => ?_)
  refine stq hf rfl rfl rfl (ex_move hf rfl) (fun a hf => ?_)
  refine stq hf rfl rfl rfl (ex_neq hf rfl rfl) (fun a hf => ?_)
  refine hK5 _ _ ?_
  refine itt H (fun hc6 H => ?_) (fun hc6 H => ?_)
  · -- s3 = 0
    replace hf := hf.castB (t := 14) rfl (ndec_f hc6)
    refine cond_F hf rfl ?_
    refine wp_skip ?_
    refine hN2 _ _ ?_
    refine seq_n (fun Q7 hN7 hR7 hX7 => ?_)
    refine bnd H (fun x8 H8 HO8 => ?_)
    clear H
    refine seq_cut (fun a w => Fr a 61 [(0, v0), (1, .int .i64 a1), (2, .int .u64 a2), (27, .bool x8)] ∧ St M w0 w []) (fun Q8 hJ8 hR8 hX8 => ?_) (fun a w hJ => ?_)
    · replace H := H8
      refine itt H (fun hc9 H => ?_) (fun hc9 H => ?_)
      · -- a1 < 0
        refine region_k (fun K10 hK10 => ?_)
        refine stq hf rfl rfl rfl (ex_move hf rfl) (fun a hf => ?_)
        refine stq hf rfl rfl rfl (ex_lss hf rfl rfl) (fun a hf => ?_)
        refine stq hf rfl rfl rfl (ex_move hf rfl) (fun a hf => ?_)
        replace hf := hf.castB (t := 17) rfl (dec_t hc9)
        replace hf := hf.castB (t := 18) rfl (dec_t hc9)
        refine stepN hf rfl rfl rfl (fun a hf => ?_)
        refine stepN hf rfl rfl rfl (fun a hf => ?_)
        refine stepN hf rfl rfl rfl (fun a hf => ?_)
        refine stepN hf rfl rfl rfl (fun a hf => ?_)
        refine stq hf rfl rfl rfl (ex_pickT hf rfl rfl) (fun a hf => ?_)
        refine stq hf rfl rfl rfl (ex_move hf rfl) (fun a hf => ?_)
        refine stepN hf rfl rfl rfl (fun a hf => ?_)
        refine stepN hf rfl rfl rfl (fun a hf => ?_)
        refine stq hf rfl rfl rfl (ex_pickT hf rfl rfl) (fun a hf => ?_)
        refine hK10 _ _ ?_
        have e8 := some_eq H; subst e8
        exact hJ8 _ _ ⟨hf.sub ⟨rfl, rfl, rfl, rfl, trivial⟩, hs⟩
      · -- not a1 < 0
        refine itt H (fun hc11 H => ?_) (fun hc11 H => ?_)
        · -- (a0.length : Int) ≤ a1
          refine region_k (fun K12 hK12 => ?_)
          refine stq hf rfl rfl rfl (ex_move hf rfl) (fun a hf => ?_)
          refine stq hf rfl rfl rfl (ex_lss hf rfl rfl) (fun a hf => ?_)
          refine stq hf rfl rfl rfl (ex_move hf rfl) (fun a hf => ?_)
          replace hf := hf.castB (t := 17) rfl (dec_f hc9)
          replace hf := hf.castB (t := 18) rfl (dec_f hc9)
          refine stq hf rfl rfl rfl (ex_move hf rfl) (fun a hf => ?_)
          refine stq hf rfl rfl rfl (ex_move hf rfl) (fun a hf => ?_)
          refine stq hf rfl rfl rfl (ex_lenS Try.underlying22 (rsl_isSl (hr.now hs (i := 0) rfl)) hf rfl) (fun a hf => ?_)
          refine stq hf rfl rfl rfl (ex_geq hf rfl rfl) (fun a hf => ?_)
          refine stq hf rfl rfl rfl (ex_pickF hf rfl rfl) (fun a hf => ?_)
          refine stq hf rfl rfl rfl (ex_move hf rfl) (fun a hf => ?_)
          replace hf := hf.castB (t := 22) rfl (dec_t hc11)
          replace hf := hf.castB (t := 23) rfl (dec_t hc11)
          replace hf := hf.castB (t := 24) rfl (dec_t hc11)
          refine stepN hf rfl rfl rfl (fun a hf => ?_)
          refine stepN hf rfl rfl rfl (fun a hf => ?_)
          refine stq hf rfl rfl rfl (ex_pickT hf rfl rfl) (fun a hf => ?_)
          refine hK12 _ _ ?_
          have e8 := some_eq H; subst e8
          exact hJ8 _ _ ⟨hf.sub ⟨rfl, rfl, rfl, rfl, trivial⟩, hs⟩
        · -- not (a0.length : Int) ≤ a1
          refine region_k (fun K13 hK13 => ?_)
          refine stq hf rfl rfl rfl (ex_move hf rfl) (fun a hf => ?_)
          refine stq hf rfl rfl rfl (ex_lss hf rfl rfl) (fun a hf => ?_)
          refine stq hf rfl rfl rfl (ex_move hf rfl) (fun a hf => ?_)
          replace hf := hf.castB (t := 17) rfl (dec_f hc9)
          replace hf := hf.castB (t := 18) rfl (dec_f hc9)
          refine stq hf rfl rfl rfl (ex_move hf rfl) (fun a hf => ?_)
          refine stq hf rfl rfl rfl (ex_move hf rfl) (fun a hf => ?_)
          refine stq hf rfl rfl rfl (ex_lenS Try.underlying22 (rsl_isSl (hr.now hs (i := 0) rfl)) hf rfl) (fun a hf => ?_)
          refine stq hf rfl rfl rfl (ex_geq hf rfl rfl) (fun a hf => ?_)
          refine stq hf rfl rfl rfl (ex_pickF hf rfl rfl) (fun a hf => ?_)
          refine stq hf rfl rfl rfl (ex_move hf rfl) (fun a hf => ?_)
          replace hf := hf.castB (t := 22) rfl (dec_f hc11)
          replace hf := hf.castB (t := 23) rfl (dec_f hc11)
          replace hf := hf.castB (t := 24) rfl (dec_f hc11)
          refine stq hf rfl rfl rfl (ex_move hf rfl) (fun a hf => ?_)
          refine stq hf rfl rfl rfl (ex_gtr hf rfl rfl) (fun a hf => ?_)
          refine stq hf rfl rfl rfl (ex_pickF hf rfl rfl) (fun a hf => ?_)
          refine hK13 _ _ ?_
          have e8 := some_eq H; subst e8
          exact hJ8 _ _ ⟨hf.sub ⟨rfl, rfl, rfl, rfl, trivial⟩, hs⟩
    · obtain ⟨hf, hs⟩ := hJ
      replace H := HO8
      clear HO8
      refine itt H (fun hc14 H => ?_) (fun hc14 H => ?_)
      · -- x8 = true
        replace hf := hf.castB (t := 27) rfl hc14
        refine cond_T hf rfl ?_
        refine seq_reg (fun K15 hK15 => ?_)
        refine stq hf rfl rfl rfl (ex_assign hf rfl) (fun a hf => ?_)
        refine stq hf rfl rfl rfl (ex_assign hf rfl) (fun a hf => ?_)
        refine hK15 _ _ ?_
        refine wp_ret ?_
        refine hR7 _ _ ?_
        have eR := some_eq H; subst eR
        exact ret2 Try.results20 hf rfl rfl ⟨_, rfl, ⟨rfl, hs⟩⟩
      · -- not x8 = true
        replace hf := hf.castB (t := 27) rfl (bool_f hc14)
        refine cond_F hf rfl ?_
        refine wp_skip ?_
        refine hN7 _ _ ?_
        refine ck_some H (fun hc16 H => ?_)
        refine seq_reg (fun K17 hK17 => ?_)
        refine stq hf rfl rfl rfl (ex_move hf rfl) (fun a hf => ?_)
        refine stq hf rfl rfl rfl (ex_move hf rfl) (fun a hf => ?_)
        refine stq hf rfl rfl rfl (ex_indexAddr sa_22 (rsl_isSl (hr.now hs (i := 0) rfl)) hc16.1 hc16.2 hf rfl rfl) (fun a hf => ?_)
        refine stq hf rfl rfl rfl (ex_fieldAddrS fa_25_2 rfl hf rfl) (fun a hf => ?_)
        refine stq hf rfl rfl rfl (ex_load sc_23 hf rfl (el_cell (K := K_api_IdleState) (f := 2) (rsl_rd (hr.now hs (i := 0) rfl)) hc16.1 hc16.2 rfl)) (fun a hf => ?_)
        refine stq hf rfl rfl rfl (ex_move hf rfl) (fun a hf => ?_)
        refine stq hf rfl rfl rfl (ex_mul hf rfl rfl) (fun a hf => ?_)
        refine stq hf rfl rfl rfl (ex_assign hf rfl) (fun a hf => ?_)
        refine hK17 _ _ ?_
        refine bnd H (fun x18 H18 HO18 => ?_)
        clear H
        refine seq_cut (fun a w => Fr a 61 [(9, .int .u64 x18)] ∧ St M w0 w []) (fun Q18 hJ18 hR18 hX18 => ?_) (fun a w hJ => ?_)
        · replace H := H18
          refine seq_reg (fun K19 hK19 => ?_)
          refine stq hf rfl rfl rfl (ex_assign hf rfl) (fun a hf => ?_)
          refine hK19 _ _ ?_
          refine block_k (fun Q20 hN20 hR20 hX20 hY20 => ?_)
          refine loop_k (fun n a w => ∃ (y21 : Int) (y22 : Int), Fr a 61 [(0, v0), (1, .int .i64 a1), (9, .int .u64 y21), (10, .int .i64 y22)] ∧ St M w0 w [] ∧ idle_Energy.l1 n a1 a0 y21 y22 = some x18) k ?_ (fun n24 a w hI Q24 hL24 hR24 hX24 => ?_)
          · -- at the start
            exact ⟨(IntKind.u64.wrap (((gd IdleState.zero a0 a1).Power) * a2)), 1, hf.sub ⟨rfl, rfl, rfl, rfl, trivial⟩, hs, H⟩
          · obtain ⟨y21, y22, hf, hs, H⟩ := hI
            cases n24 with
            | zero => exact absurd H (by rw [idle_Energy.l1.eq_1]; intro h; cases h)
            | succ k24 =>
              replace H := (idle_Energy.l1.eq_2 ..).symm.trans H
              refine seq_n (fun Q25 hN25 hR25 hX25 => ?_)
              refine seq_reg (fun K26 hK26 => ?_)
              refine stq hf rfl rfl rfl (ex_move hf rfl) (fun a hf => ?_)
              refine stq hf rfl rfl rfl (ex_move hf rfl) (fun a hf => ?_)
              refine stq hf rfl rfl rfl (ex_leq hf rfl rfl) (fun a hf => ?_)
              refine hK26 _ _ ?_
              refine itt H (fun hc27 H => ?_) (fun hc27 H => ?_)
              · -- y22 ≤ a1
                replace hf := hf.castB (t := 37) rfl (dec_t hc27)
                refine cond_T hf rfl ?_
                refine wp_skip ?_
                refine hN25 _ _ ?_
                refine seq_n (fun Q28 hN28 hR28 hX28 => ?_)
                refine block_k (fun Q29 hN29 hR29 hX29 hY29 => ?_)
                refine ck_some H (fun hc30 H => ?_)
                refine ck_some H (fun hc31 H => ?_)
                refine region_d fol 20 [(0, v0), (1, .int .i64 a1), (9, .int .u64 y21), (10, .int .i64 y22)] [(0, .int .u64 y21), (1, v0), (2, .int .i64 y22), (3, .int .i64 (IntKind.i64.wrap (y22 - 1))), (4, .pointer (some (sla v0 ((IntKind.i64.wrap (y22 - 1)).toNat * 3)))), (5, .pointer (some (sla v0 ((IntKind.i64.wrap (y22 - 1)).toNat * 3 + 2)))), (6, .int .u64 ((gd IdleState.zero a0 (IntKind.i64.wrap (y22 - 1))).Power)), (7, v0), (8, .int .i64 y22), (9, .pointer (some (sla v0 (y22.toNat * 3)))), (10, .pointer (some (sla v0 (y22.toNat * 3 + 2)))), (11, .int .u64 ((gd IdleState.zero a0 y22).Power)), (12, .int .u64 (IntKind.u64.wrap (((gd IdleState.zero a0 (IntKind.i64.wrap (y22 - 1))).Power) - ((gd IdleState.zero a0 y22).Power)))), (13, v0), (14, .int .i64 y22), (15, .pointer (some (sla v0 (y22.toNat * 3)))), (16, .pointer (some (sla v0 (y22.toNat * 3 + 1)))), (17, .int .u64 ((gd IdleState.zero a0 y22).Residency)), (18, .int .u64 (IntKind.u64.wrap ((IntKind.u64.wrap (((gd IdleState.zero a0 (IntKind.i64.wrap (y22 - 1))).Power) - ((gd IdleState.zero a0 y22).Power))) * ((gd IdleState.zero a0 y22).Residency)))), (19, .int .u64 (IntKind.u64.wrap (y21 + (IntKind.u64.wrap ((IntKind.u64.wrap (((gd IdleState.zero a0 (IntKind.i64.wrap (y22 - 1))).Power) - ((gd IdleState.zero a0 y22).Power))) * ((gd IdleState.zero a0 y22).Residency))))))] [] (fun w => (rsl K_api_IdleState v0 a0).ok w ∧ True) (fun w => St M w0 w []) hf ⟨rfl, rfl, rfl, rfl, trivial⟩ (by kernel_rfl) (by kernel_rfl) rfl (by decide) ⟨hr.now hs.drew (i := 0) rfl, trivial⟩ hs.drew (.cons (⟨_, _, rfl, rfl, rfl, rfl, fun a w hR hf => .inl ⟨wanted_yes hf rfl, ex_move hf rfl⟩⟩) (.cons (⟨_, _, rfl, rfl, rfl, rfl, fun a w hR hf => .inl ⟨wanted_yes hf rfl, ex_move hf rfl⟩⟩) (.cons (⟨_, _, rfl, rfl, rfl, rfl, fun a w hR hf => .inl ⟨wanted_yes hf rfl, ex_move hf rfl⟩⟩) (.cons (⟨_, _, rfl, rfl, rfl, rfl, fun a w hR hf => .inl ⟨wanted_yes hf rfl, ex_sub hf rfl rfl⟩⟩) (.cons (⟨_, _, rfl, rfl, rfl, rfl, fun a w hR hf => .inl ⟨wanted_yes hf rfl, ex_indexAddr sa_22 (rsl_isSl hR.1) hc30.1 hc30.2 hf rfl rfl⟩⟩) (.cons (⟨_, _, rfl, rfl, rfl, rfl, fun a w hR hf => .inl ⟨wanted_yes hf rfl, ex_fieldAddrS fa_25_2 rfl hf rfl⟩⟩) (.cons (⟨_, _, rfl, rfl, rfl, rfl, fun a w hR hf => .inl ⟨wanted_yes hf rfl, ex_load sc_23 hf rfl (el_cell (K := K_api_IdleState) (f := 2) (rsl_rd hR.1) hc30.1 hc30.2 rfl)⟩⟩) (.cons (⟨_, _, rfl, rfl, rfl, rfl, fun a w hR hf => .inl ⟨wanted_yes hf rfl, ex_move hf rfl⟩⟩) (.cons (⟨_, _, rfl, rfl, rfl, rfl, fun a w hR hf => .inl ⟨wanted_yes hf rfl, ex_move hf rfl⟩⟩) (.cons (⟨_, _, rfl, rfl, rfl, rfl, fun a w hR hf => .inl ⟨wanted_yes hf rfl, ex_indexAddr sa_22 (rsl_isSl hR.1) hc31.1 hc31.2 hf rfl rfl⟩⟩) (.cons (⟨_, _, rfl, rfl, rfl, rfl, fun a w hR hf => .inl ⟨wanted_yes hf rfl, ex_fieldAddrS fa_25_2 rfl hf rfl⟩⟩) (.cons (⟨_, _, rfl, rfl, rfl, rfl, fun a w hR hf => .inl ⟨wanted_yes hf rfl, ex_load sc_23 hf rfl (el_cell (K := K_api_IdleState) (f := 2) (rsl_rd hR.1) hc31.1 hc31.2 rfl)⟩⟩) (.cons (⟨_, _, rfl, rfl, rfl, rfl, fun a w hR hf => .inl ⟨wanted_yes hf rfl, ex_sub hf rfl rfl⟩⟩) (.cons (⟨_, _, rfl, rfl, rfl, rfl, fun a w hR hf => .inl ⟨wanted_yes hf rfl, ex_move hf rfl⟩⟩) (.cons (⟨_, _, rfl, rfl, rfl, rfl, fun a w hR hf => .inl ⟨wanted_yes hf rfl, ex_move hf rfl⟩⟩) (.cons (⟨_, _, rfl, rfl, rfl, rfl, fun a w hR hf => .inl ⟨wanted_yes hf rfl, ex_indexAddr sa_22 (rsl_isSl hR.1) hc31.1 hc31.2 hf rfl rfl⟩⟩) (.cons (⟨_, _, rfl, rfl, rfl, rfl, fun a w hR hf => .inl ⟨wanted_yes hf rfl, ex_fieldAddrS fa_25_1 rfl hf rfl⟩⟩) (.cons (⟨_, _, rfl, rfl, rfl, rfl, fun a w hR hf => .inl ⟨wanted_yes hf rfl, ex_load sc_23 hf rfl (el_cell (K := K_api_IdleState) (f := 1) (rsl_rd hR.1) hc31.1 hc31.2 rfl)⟩⟩) (.cons (⟨_, _, rfl, rfl, rfl, rfl, fun a w hR hf => .inl ⟨wanted_yes hf rfl, ex_mul hf rfl rfl⟩⟩) (.cons (⟨_, _, rfl, rfl, rfl, rfl, fun a w hR hf => .inl ⟨wanted_yes hf rfl, ex_add hf rfl rfl⟩⟩) (.nil))))))))))))))))))))) (fun K32 hK32 => ?_)
                refine RW.zero (by kernel_rfl) (by kernel_rfl) [(0, v0), (1, .int .i64 a1), (9, .int .u64 y21), (10, .int .i64 y22), (59, .int .u64 (IntKind.u64.wrap (y21 + (IntKind.u64.wrap ((IntKind.u64.wrap (((gd IdleState.zero a0 (IntKind.i64.wrap (y22 - 1))).Power) - ((gd IdleState.zero a0 y22).Power))) * ((gd IdleState.zero a0 y22).Residency))))))] ⟨rfl, rfl, rfl, rfl, rfl, trivial⟩ (fun a w hR hs hf => ?_)
                refine stq hf rfl rfl rfl (ex_assign hf rfl) (fun a hf => ?_)
                refine hK32 _ _ ?_
                refine hN29 _ _ ?_
                refine hN28 _ _ ?_
                refine region_k (fun K33 hK33 => ?_)
                refine stq hf rfl rfl rfl (ex_move hf rfl) (fun a hf => ?_)
                refine stq hf rfl rfl rfl (ex_add hf rfl rfl) (fun a hf => ?_)
                refine stq hf rfl rfl rfl (ex_assign hf rfl) (fun a hf => ?_)
                refine hK33 _ _ ?_
                exact hL24 k24 _ _ (Nat.lt_succ_self _) ⟨(IntKind.u64.wrap (y21 + (IntKind.u64.wrap ((IntKind.u64.wrap (((gd IdleState.zero a0 (IntKind.i64.wrap (y22 - 1))).Power) - ((gd IdleState.zero a0 y22).Power))) * ((gd IdleState.zero a0 y22).Residency))))), (IntKind.i64.wrap (y22 + 1)), hf.sub ⟨rfl, rfl, rfl, rfl, trivial⟩, hs, H⟩
              · -- not y22 ≤ a1
                replace hf := hf.castB (t := 37) rfl (dec_f hc27)
                refine cond_F hf rfl ?_
                refine wp_exit ?_
                refine hX25 0 _ _ ?_
                refine hX24 0 _ _ ?_
                refine hX20 _ _ ?_
                have e18 := some_eq H; subst e18
                exact hJ18 _ _ ⟨hf.sub ⟨rfl, trivial⟩, hs⟩
        · obtain ⟨hf, hs⟩ := hJ
          replace H := HO18
          clear HO18
          refine seq_reg (fun K34 hK34 => ?_)
          refine stq hf rfl rfl rfl (ex_move hf rfl) (fun a hf => ?_)
          refine stq hf rfl rfl rfl (ex_assign hf rfl) (fun a hf => ?_)
          refine stq hf rfl rfl rfl (ex_assign hf rfl) (fun a hf => ?_)
          refine hK34 _ _ ?_
          refine wp_ret ?_
          have eR := some_eq H; subst eR
          exact ret2 Try.results20 hf rfl rfl ⟨_, rfl, ⟨rfl, hs⟩⟩
  · -- not s3 = 0
    replace hf := hf.castB (t := 14) rfl (ndec_t hc6)
    refine cond_T hf rfl ?_
    refine seq_reg (fun K35 hK35 => ?_)
    refine stq hf rfl rfl rfl (ex_move hf rfl) (fun a hf => ?_)
    refine stq hf rfl rfl rfl (ex_assign hf rfl) (fun a hf => ?_)
    refine stq hf rfl rfl rfl (ex_assign hf rfl) (fun a hf => ?_)
    refine hK35 _ _ ?_
    refine wp_ret ?_
    refine hR2 _ _ ?_
    have eR := some_eq H; subst eR
    exact ret2 Try.results20 hf rfl rfl ⟨_, rfl, ⟨rfl, hs⟩⟩

set_option maxRecDepth 100000 in
theorem law37_awake.calls {M : Nat → Prop} {w0 : World} (k : Nat) {r : Bool} (hs : St M w0 w0 []) (hr : Sr M w0 [])
    (h : law37_awake.f k = some r) : Calls Try.prog 13 #[] w0 fun e w => ∃ v, e = .returned v ∧ (.bool r = v ∧ St M w0 w []) := by
  have H := (law37_awake.f.eq_1 ..).symm.trans h
  clear h
  refine enter Try.func13 rfl Try.ntmps13 rfl (fun a hf => ?_)
  refine seq_reg (fun K1 hK1 => ?_)
  refine stq hf rfl rfl rfl (ex_assign hf rfl) (fun a hf => ?_)
  refine hK1 _ _ ?_
  refine seq_reg (fun K3 hK3 => ?_)
  refine stq hf rfl rfl rfl (ex_build (cs := [.int .u64 0, .int .u64 0, .int .u64 10]) bt_25 hf rfl (.cons rfl .nil) rfl) (fun a hf => ?_)
  refine stq hf rfl rfl rfl (ex_build (cs := [.int .u64 5, .int .u64 20, .int .u64 4]) bt_25 hf rfl (.cons rfl (.cons rfl (.cons rfl .nil))) rfl) (fun a hf => ?_)
  refine stq hf rfl rfl rfl (ex_build (cs := [.int .u64 50, .int .u64 200, .int .u64 1]) bt_25 hf rfl (.cons rfl (.cons rfl (.cons rfl .nil))) rfl) (fun a hf => ?_)
  refine stepV hf rfl rfl rfl (er_buildSlice (K := K_api_IdleState) (xs := [(⟨0, 0, 10⟩ : IdleState), (⟨5, 20, 4⟩ : IdleState), (⟨50, 200, 1⟩ : IdleState)]) hs Try.underlying22 ep_25 rfl rfl hf rfl (.cons rfl (.cons rfl (.cons rfl .nil))) rfl rfl) (fun v2 w hs a hf => ?_)
  refine stq hf rfl rfl rfl (ex_assign hf rfl) (fun a hf => ?_)
  refine hK3 _ _ ?_
  refine bnd H (fun s4 hs4 H => ?_)
  refine seq_reg (fun K5 hK5 => ?_)
  refine stq hf rfl rfl rfl (ex_move hf rfl) (fun a hf => ?_)
  refine stepF hf rfl rfl rfl (ex_call cf_16 hf rfl) (idle_Select.calls k [(⟨0, 0, 10⟩ : IdleState), (⟨5, 20, 4⟩ : IdleState), (⟨50, 200, 1⟩ : IdleState)] 500 50 v2 (hs.enter (.k .nil)) (Sr.own hs (.k .nil) (i := 0) rfl osl_rsl (fun _ h => h.1) (Sr.nil _ _)) hs4) (fun v w hR a hf => ?_)
  obtain ⟨rfl, hs'⟩ := hR
  replace hs := hs.step (.k .nil) hs'
  clear hs'
  refine stq hf rfl rfl rfl (ex_move hf rfl) (fun a hf => ?_)
  refine stq hf rfl rfl rfl (ex_extract hf rfl rfl) (fun a hf => ?_)
  refine stq hf rfl rfl rfl (ex_extract hf rfl rfl) (fun a hf => ?_)
  refine stq hf rfl rfl rfl (ex_assign hf rfl) (fun a hf => ?_)
  refine stq hf rfl rfl rfl (ex_assign hf rfl) (fun a hf => ?_)
  refine hK5 _ _ ?_
  refine bnd H (fun s6 hs6 H => ?_)
  refine seq_reg (fun K7 hK7 => ?_)
  refine stq hf rfl rfl rfl (ex_move hf rfl) (fun a hf => ?_)
  refine stepF hf rfl rfl rfl (ex_call cf_16 hf rfl) (idle_Select.calls k [(⟨0, 0, 10⟩ : IdleState), (⟨5, 20, 4⟩ : IdleState), (⟨50, 200, 1⟩ : IdleState)] 500 40 v2 (hs.enter (.k .nil)) (Sr.own hs (.k .nil) (i := 0) rfl osl_rsl (fun _ h => h.1) (Sr.nil _ _)) hs6) (fun v w hR a hf => ?_)
  obtain ⟨rfl, hs'⟩ := hR
  replace hs := hs.step (.k .nil) hs'
  clear hs'
  refine stq hf rfl rfl rfl (ex_move hf rfl) (fun a hf => ?_)
  refine stq hf rfl rfl rfl (ex_extract hf rfl rfl) (fun a hf => ?_)
  refine stq hf rfl rfl rfl (ex_extract hf rfl rfl) (fun a hf => ?_)
  refine stq hf rfl rfl rfl (ex_assign hf rfl) (fun a hf => ?_)
  refine stq hf rfl rfl rfl (ex_assign hf rfl) (fun a hf => ?_)
  refine hK7 _ _ ?_
  refine bnd H (fun s8 hs8 H => ?_)
  refine seq_reg (fun K9 hK9 => ?_)
  refine stq hf rfl rfl rfl (ex_move hf rfl) (fun a hf => ?_)
  refine stepF hf rfl rfl rfl (ex_call cf_20 hf rfl) (idle_Energy.calls k [(⟨0, 0, 10⟩ : IdleState), (⟨5, 20, 4⟩ : IdleState), (⟨50, 200, 1⟩ : IdleState)] 2 0 v2 (hs.enter (.k .nil)) (Sr.own hs (.k .nil) (i := 0) rfl osl_rsl (fun _ h => h.1) (Sr.nil _ _)) hs8) (fun v w hR a hf => ?_)
  obtain ⟨rfl, hs'⟩ := hR
  replace hs := hs.step (.k .nil) hs'
  clear hs'
  refine stq hf rfl rfl rfl (ex_move hf rfl) (fun a hf => ?_)
  refine stq hf rfl rfl rfl (ex_extract hf rfl rfl) (fun a hf => ?_)
  refine stq hf rfl rfl rfl (ex_extract hf rfl rfl) (fun a hf => ?_)
  refine stq hf rfl rfl rfl (ex_assign hf rfl) (fun a hf => ?_)
  refine stq hf rfl rfl rfl (ex_assign hf rfl) (fun a hf => ?_)
  refine hK9 _ _ ?_
  refine itt H (fun hc10 H => ?_) (fun hc10 H => ?_)
  · -- s4.2 = 0
    refine itt H (fun hc11 H => ?_) (fun hc11 H => ?_)
    · -- s6.2 = 0
      refine itt H (fun hc12 H => ?_) (fun hc12 H => ?_)
      · -- s8.2 = 0
        refine itt H (fun hc13 H => ?_) (fun hc13 H => ?_)
        · -- s4.1 = 2
          refine itt H (fun hc14 H => ?_) (fun hc14 H => ?_)
          · -- s6.1 = 1
            refine itt H (fun hc15 H => ?_) (fun hc15 H => ?_)
            · -- s8.1 = 720
              refine bnd H (fun s16 hs16 H => ?_)
              refine seq_reg (fun K17 hK17 => ?_)
              refine stq hf rfl rfl rfl (ex_move hf rfl) (fun a hf => ?_)
              refine stq hf rfl rfl rfl (ex_eql hf rfl rfl) (fun a hf => ?_)
              refine stq hf rfl rfl rfl (ex_move hf rfl) (fun a hf => ?_)
              replace hf := hf.castB (t := 28) rfl (dec_t hc10)
              replace hf := hf.castB (t := 29) rfl (dec_t hc10)
              refine stq hf rfl rfl rfl (ex_move hf rfl) (fun a hf => ?_)
              refine stq hf rfl rfl rfl (ex_eql hf rfl rfl) (fun a hf => ?_)
              refine stq hf rfl rfl rfl (ex_pickT hf rfl rfl) (fun a hf => ?_)
              refine stq hf rfl rfl rfl (ex_move hf rfl) (fun a hf => ?_)
              replace hf := hf.castB (t := 31) rfl (dec_t hc11)
              replace hf := hf.castB (t := 32) rfl (dec_t hc11)
              replace hf := hf.castB (t := 33) rfl (dec_t hc11)
              refine stq hf rfl rfl rfl (ex_move hf rfl) (fun a hf => ?_)
              refine stq hf rfl rfl rfl (ex_eql hf rfl rfl) (fun a hf => ?_)
              refine stq hf rfl rfl rfl (ex_pickT hf rfl rfl) (fun a hf => ?_)
              refine stq hf rfl rfl rfl (ex_move hf rfl) (fun a hf => ?_)
              replace hf := hf.castB (t := 35) rfl (dec_t hc12)
              replace hf := hf.castB (t := 36) rfl (dec_t hc12)
              replace hf := hf.castB (t := 37) rfl (dec_t hc12)
              refine stq hf rfl rfl rfl (ex_move hf rfl) (fun a hf => ?_)
              refine stq hf rfl rfl rfl (ex_eql hf rfl rfl) (fun a hf => ?_)
              refine stq hf rfl rfl rfl (ex_pickT hf rfl rfl) (fun a hf => ?_)
              refine stq hf rfl rfl rfl (ex_move hf rfl) (fun a hf => ?_)
              replace hf := hf.castB (t := 39) rfl (dec_t hc13)
              replace hf := hf.castB (t := 40) rfl (dec_t hc13)
              replace hf := hf.castB (t := 41) rfl (dec_t hc13)
              refine stq hf rfl rfl rfl (ex_move hf rfl) (fun a hf => ?_)
              refine stq hf rfl rfl rfl (ex_eql hf rfl rfl) (fun a hf => ?_)
              refine stq hf rfl rfl rfl (ex_pickT hf rfl rfl) (fun a hf => ?_)
              refine stq hf rfl rfl rfl (ex_move hf rfl) (fun a hf => ?_)
              replace hf := hf.castB (t := 43) rfl (dec_t hc14)
              replace hf := hf.castB (t := 44) rfl (dec_t hc14)
              replace hf := hf.castB (t := 45) rfl (dec_t hc14)
              refine stq hf rfl rfl rfl (ex_move hf rfl) (fun a hf => ?_)
              refine stq hf rfl rfl rfl (ex_eql hf rfl rfl) (fun a hf => ?_)
              refine stq hf rfl rfl rfl (ex_pickT hf rfl rfl) (fun a hf => ?_)
              refine stq hf rfl rfl rfl (ex_move hf rfl) (fun a hf => ?_)
              replace hf := hf.castB (t := 47) rfl (dec_t hc15)
              replace hf := hf.castB (t := 48) rfl (dec_t hc15)
              replace hf := hf.castB (t := 49) rfl (dec_t hc15)
              refine stepF hf rfl rfl rfl (ex_call cf_18 hf rfl) (idle_Check.calls k [] (.slice none 0 0) (hs.enter (.k .nil)) (Sr.free (nil_rsl _ _) nil_fs (Sr.nil _ _)) hs16) (fun v w hR a hf => ?_)
              obtain ⟨rfl, hs'⟩ := hR
              replace hs := hs.step (.k .nil) hs'
              clear hs'
              refine stq hf rfl rfl rfl (ex_eql hf rfl rfl) (fun a hf => ?_)
              refine stq hf rfl rfl rfl (ex_pickT hf rfl rfl) (fun a hf => ?_)
              refine stq hf rfl rfl rfl (ex_assign hf rfl) (fun a hf => ?_)
              refine hK17 _ _ ?_
              refine wp_ret ?_
              have eR := some_eq H; subst eR
              replace hs := hs.keep (.d .nil)
              exact ret1 Try.results13 hf rfl ⟨_, rfl, ⟨rfl, hs⟩⟩
            · -- not s8.1 = 720
              refine seq_reg (fun K18 hK18 => ?_)
              refine stq hf rfl rfl rfl (ex_move hf rfl) (fun a hf => ?_)
              refine stq hf rfl rfl rfl (ex_eql hf rfl rfl) (fun a hf => ?_)
              refine stq hf rfl rfl rfl (ex_move hf rfl) (fun a hf => ?_)
              replace hf := hf.castB (t := 28) rfl (dec_t hc10)
              replace hf := hf.castB (t := 29) rfl (dec_t hc10)
              refine stq hf rfl rfl rfl (ex_move hf rfl) (fun a hf => ?_)
              refine stq hf rfl rfl rfl (ex_eql hf rfl rfl) (fun a hf => ?_)
              refine stq hf rfl rfl rfl (ex_pickT hf rfl rfl) (fun a hf => ?_)
              refine stq hf rfl rfl rfl (ex_move hf rfl) (fun a hf => ?_)
              replace hf := hf.castB (t := 31) rfl (dec_t hc11)
              replace hf := hf.castB (t := 32) rfl (dec_t hc11)
              replace hf := hf.castB (t := 33) rfl (dec_t hc11)
              refine stq hf rfl rfl rfl (ex_move hf rfl) (fun a hf => ?_)
              refine stq hf rfl rfl rfl (ex_eql hf rfl rfl) (fun a hf => ?_)
              refine stq hf rfl rfl rfl (ex_pickT hf rfl rfl) (fun a hf => ?_)
              refine stq hf rfl rfl rfl (ex_move hf rfl) (fun a hf => ?_)
              replace hf := hf.castB (t := 35) rfl (dec_t hc12)
              replace hf := hf.castB (t := 36) rfl (dec_t hc12)
              replace hf := hf.castB (t := 37) rfl (dec_t hc12)
              refine stq hf rfl rfl rfl (ex_move hf rfl) (fun a hf => ?_)
              refine stq hf rfl rfl rfl (ex_eql hf rfl rfl) (fun a hf => ?_)
              refine stq hf rfl rfl rfl (ex_pickT hf rfl rfl) (fun a hf => ?_)
              refine stq hf rfl rfl rfl (ex_move hf rfl) (fun a hf => ?_)
              replace hf := hf.castB (t := 39) rfl (dec_t hc13)
              replace hf := hf.castB (t := 40) rfl (dec_t hc13)
              replace hf := hf.castB (t := 41) rfl (dec_t hc13)
              refine stq hf rfl rfl rfl (ex_move hf rfl) (fun a hf => ?_)
              refine stq hf rfl rfl rfl (ex_eql hf rfl rfl) (fun a hf => ?_)
              refine stq hf rfl rfl rfl (ex_pickT hf rfl rfl) (fun a hf => ?_)
              refine stq hf rfl rfl rfl (ex_move hf rfl) (fun a hf => ?_)
              replace hf := hf.castB (t := 43) rfl (dec_t hc14)
              replace hf := hf.castB (t := 44) rfl (dec_t hc14)
              replace hf := hf.castB (t := 45) rfl (dec_t hc14)
              refine stq hf rfl rfl rfl (ex_move hf rfl) (fun a hf => ?_)
              refine stq hf rfl rfl rfl (ex_eql hf rfl rfl) (fun a hf => ?_)
              refine stq hf rfl rfl rfl (ex_pickT hf rfl rfl) (fun a hf => ?_)
              refine stq hf rfl rfl rfl (ex_move hf rfl) (fun a hf => ?_)
              replace hf := hf.castB (t := 47) rfl (dec_f hc15)
              replace hf := hf.castB (t := 48) rfl (dec_f hc15)
              replace hf := hf.castB (t := 49) rfl (dec_f hc15)
              refine stepN hf rfl rfl rfl (fun a hf => ?_)
              refine stepN hf rfl rfl rfl (fun a hf => ?_)
              refine stq hf rfl rfl rfl (ex_pickF hf rfl rfl) (fun a hf => ?_)
              refine stq hf rfl rfl rfl (ex_assign hf rfl) (fun a hf => ?_)
              refine hK18 _ _ ?_
              refine wp_ret ?_
              have eR := some_eq H; subst eR
              replace hs := hs.keep (.d .nil)
              exact ret1 Try.results13 hf rfl ⟨_, rfl, ⟨rfl, hs⟩⟩
          · -- not s6.1 = 1
            refine seq_reg (fun K19 hK19 => ?_)
            refine stq hf rfl rfl rfl (ex_move hf rfl) (fun a hf => ?_)
            refine stq hf rfl rfl rfl (ex_eql hf rfl rfl) (fun a hf => ?_)
            refine stq hf rfl rfl rfl (ex_move hf rfl) (fun a hf => ?_)
            replace hf := hf.castB (t := 28) rfl (dec_t hc10)
            replace hf := hf.castB (t := 29) rfl (dec_t hc10)
            refine stq hf rfl rfl rfl (ex_move hf rfl) (fun a hf => ?_)
            refine stq hf rfl rfl rfl (ex_eql hf rfl rfl) (fun a hf => ?_)
            refine stq hf rfl rfl rfl (ex_pickT hf rfl rfl) (fun a hf => ?_)
            refine stq hf rfl rfl rfl (ex_move hf rfl) (fun a hf => ?_)
            replace hf := hf.castB (t := 31) rfl (dec_t hc11)
            replace hf := hf.castB (t := 32) rfl (dec_t hc11)
            replace hf := hf.castB (t := 33) rfl (dec_t hc11)
            refine stq hf rfl rfl rfl (ex_move hf rfl) (fun a hf => ?_)
            refine stq hf rfl rfl rfl (ex_eql hf rfl rfl) (fun a hf => ?_)
            refine stq hf rfl rfl rfl (ex_pickT hf rfl rfl) (fun a hf => ?_)
            refine stq hf rfl rfl rfl (ex_move hf rfl) (fun a hf => ?_)
            replace hf := hf.castB (t := 35) rfl (dec_t hc12)
            replace hf := hf.castB (t := 36) rfl (dec_t hc12)
            replace hf := hf.castB (t := 37) rfl (dec_t hc12)
            refine stq hf rfl rfl rfl (ex_move hf rfl) (fun a hf => ?_)
            refine stq hf rfl rfl rfl (ex_eql hf rfl rfl) (fun a hf => ?_)
            refine stq hf rfl rfl rfl (ex_pickT hf rfl rfl) (fun a hf => ?_)
            refine stq hf rfl rfl rfl (ex_move hf rfl) (fun a hf => ?_)
            replace hf := hf.castB (t := 39) rfl (dec_t hc13)
            replace hf := hf.castB (t := 40) rfl (dec_t hc13)
            replace hf := hf.castB (t := 41) rfl (dec_t hc13)
            refine stq hf rfl rfl rfl (ex_move hf rfl) (fun a hf => ?_)
            refine stq hf rfl rfl rfl (ex_eql hf rfl rfl) (fun a hf => ?_)
            refine stq hf rfl rfl rfl (ex_pickT hf rfl rfl) (fun a hf => ?_)
            refine stq hf rfl rfl rfl (ex_move hf rfl) (fun a hf => ?_)
            replace hf := hf.castB (t := 43) rfl (dec_f hc14)
            replace hf := hf.castB (t := 44) rfl (dec_f hc14)
            replace hf := hf.castB (t := 45) rfl (dec_f hc14)
            refine stepN hf rfl rfl rfl (fun a hf => ?_)
            refine stepN hf rfl rfl rfl (fun a hf => ?_)
            refine stq hf rfl rfl rfl (ex_pickF hf rfl rfl) (fun a hf => ?_)
            refine stq hf rfl rfl rfl (ex_move hf rfl) (fun a hf => ?_)
            refine stepN hf rfl rfl rfl (fun a hf => ?_)
            refine stepN hf rfl rfl rfl (fun a hf => ?_)
            refine stq hf rfl rfl rfl (ex_pickF hf rfl rfl) (fun a hf => ?_)
            refine stq hf rfl rfl rfl (ex_assign hf rfl) (fun a hf => ?_)
            refine hK19 _ _ ?_
            refine wp_ret ?_
            have eR := some_eq H; subst eR
            replace hs := hs.keep (.d .nil)
            exact ret1 Try.results13 hf rfl ⟨_, rfl, ⟨rfl, hs⟩⟩
        · -- not s4.1 = 2
          refine seq_reg (fun K20 hK20 => ?_)
          refine stq hf rfl rfl rfl (ex_move hf rfl) (fun a hf => ?_)
          refine stq hf rfl rfl rfl (ex_eql hf rfl rfl) (fun a hf => ?_)
          refine stq hf rfl rfl rfl (ex_move hf rfl) (fun a hf => ?_)
          replace hf := hf.castB (t := 28) rfl (dec_t hc10)
          replace hf := hf.castB (t := 29) rfl (dec_t hc10)
          refine stq hf rfl rfl rfl (ex_move hf rfl) (fun a hf => ?_)
          refine stq hf rfl rfl rfl (ex_eql hf rfl rfl) (fun a hf => ?_)
          refine stq hf rfl rfl rfl (ex_pickT hf rfl rfl) (fun a hf => ?_)
          refine stq hf rfl rfl rfl (ex_move hf rfl) (fun a hf => ?_)
          replace hf := hf.castB (t := 31) rfl (dec_t hc11)
          replace hf := hf.castB (t := 32) rfl (dec_t hc11)
          replace hf := hf.castB (t := 33) rfl (dec_t hc11)
          refine stq hf rfl rfl rfl (ex_move hf rfl) (fun a hf => ?_)
          refine stq hf rfl rfl rfl (ex_eql hf rfl rfl) (fun a hf => ?_)
          refine stq hf rfl rfl rfl (ex_pickT hf rfl rfl) (fun a hf => ?_)
          refine stq hf rfl rfl rfl (ex_move hf rfl) (fun a hf => ?_)
          replace hf := hf.castB (t := 35) rfl (dec_t hc12)
          replace hf := hf.castB (t := 36) rfl (dec_t hc12)
          replace hf := hf.castB (t := 37) rfl (dec_t hc12)
          refine stq hf rfl rfl rfl (ex_move hf rfl) (fun a hf => ?_)
          refine stq hf rfl rfl rfl (ex_eql hf rfl rfl) (fun a hf => ?_)
          refine stq hf rfl rfl rfl (ex_pickT hf rfl rfl) (fun a hf => ?_)
          refine stq hf rfl rfl rfl (ex_move hf rfl) (fun a hf => ?_)
          replace hf := hf.castB (t := 39) rfl (dec_f hc13)
          replace hf := hf.castB (t := 40) rfl (dec_f hc13)
          replace hf := hf.castB (t := 41) rfl (dec_f hc13)
          refine stepN hf rfl rfl rfl (fun a hf => ?_)
          refine stepN hf rfl rfl rfl (fun a hf => ?_)
          refine stq hf rfl rfl rfl (ex_pickF hf rfl rfl) (fun a hf => ?_)
          refine stq hf rfl rfl rfl (ex_move hf rfl) (fun a hf => ?_)
          refine stepN hf rfl rfl rfl (fun a hf => ?_)
          refine stepN hf rfl rfl rfl (fun a hf => ?_)
          refine stq hf rfl rfl rfl (ex_pickF hf rfl rfl) (fun a hf => ?_)
          refine stq hf rfl rfl rfl (ex_move hf rfl) (fun a hf => ?_)
          refine stepN hf rfl rfl rfl (fun a hf => ?_)
          refine stepN hf rfl rfl rfl (fun a hf => ?_)
          refine stq hf rfl rfl rfl (ex_pickF hf rfl rfl) (fun a hf => ?_)
          refine stq hf rfl rfl rfl (ex_assign hf rfl) (fun a hf => ?_)
          refine hK20 _ _ ?_
          refine wp_ret ?_
          have eR := some_eq H; subst eR
          replace hs := hs.keep (.d .nil)
          exact ret1 Try.results13 hf rfl ⟨_, rfl, ⟨rfl, hs⟩⟩
      · -- not s8.2 = 0
        refine seq_reg (fun K21 hK21 => ?_)
        refine stq hf rfl rfl rfl (ex_move hf rfl) (fun a hf => ?_)
        refine stq hf rfl rfl rfl (ex_eql hf rfl rfl) (fun a hf => ?_)
        refine stq hf rfl rfl rfl (ex_move hf rfl) (fun a hf => ?_)
        replace hf := hf.castB (t := 28) rfl (dec_t hc10)
        replace hf := hf.castB (t := 29) rfl (dec_t hc10)
        refine stq hf rfl rfl rfl (ex_move hf rfl) (fun a hf => ?_)
        refine stq hf rfl rfl rfl (ex_eql hf rfl rfl) (fun a hf => ?_)
        refine stq hf rfl rfl rfl (ex_pickT hf rfl rfl) (fun a hf => ?_)
        refine stq hf rfl rfl rfl (ex_move hf rfl) (fun a hf => ?_)
        replace hf := hf.castB (t := 31) rfl (dec_t hc11)
        replace hf := hf.castB (t := 32) rfl (dec_t hc11)
        replace hf := hf.castB (t := 33) rfl (dec_t hc11)
        refine stq hf rfl rfl rfl (ex_move hf rfl) (fun a hf => ?_)
        refine stq hf rfl rfl rfl (ex_eql hf rfl rfl) (fun a hf => ?_)
        refine stq hf rfl rfl rfl (ex_pickT hf rfl rfl) (fun a hf => ?_)
        refine stq hf rfl rfl rfl (ex_move hf rfl) (fun a hf => ?_)
        replace hf := hf.castB (t := 35) rfl (dec_f hc12)
        replace hf := hf.castB (t := 36) rfl (dec_f hc12)
        replace hf := hf.castB (t := 37) rfl (dec_f hc12)
        refine stepN hf rfl rfl rfl (fun a hf => ?_)
        refine stepN hf rfl rfl rfl (fun a hf => ?_)
        refine stq hf rfl rfl rfl (ex_pickF hf rfl rfl) (fun a hf => ?_)
        refine stq hf rfl rfl rfl (ex_move hf rfl) (fun a hf => ?_)
        refine stepN hf rfl rfl rfl (fun a hf => ?_)
        refine stepN hf rfl rfl rfl (fun a hf => ?_)
        refine stq hf rfl rfl rfl (ex_pickF hf rfl rfl) (fun a hf => ?_)
        refine stq hf rfl rfl rfl (ex_move hf rfl) (fun a hf => ?_)
        refine stepN hf rfl rfl rfl (fun a hf => ?_)
        refine stepN hf rfl rfl rfl (fun a hf => ?_)
        refine stq hf rfl rfl rfl (ex_pickF hf rfl rfl) (fun a hf => ?_)
        refine stq hf rfl rfl rfl (ex_move hf rfl) (fun a hf => ?_)
        refine stepN hf rfl rfl rfl (fun a hf => ?_)
        refine stepN hf rfl rfl rfl (fun a hf => ?_)
        refine stq hf rfl rfl rfl (ex_pickF hf rfl rfl) (fun a hf => ?_)
        refine stq hf rfl rfl rfl (ex_assign hf rfl) (fun a hf => ?_)
        refine hK21 _ _ ?_
        refine wp_ret ?_
        have eR := some_eq H; subst eR
        replace hs := hs.keep (.d .nil)
        exact ret1 Try.results13 hf rfl ⟨_, rfl, ⟨rfl, hs⟩⟩
    · -- not s6.2 = 0
      refine seq_reg (fun K22 hK22 => ?_)
      refine stq hf rfl rfl rfl (ex_move hf rfl) (fun a hf => ?_)
      refine stq hf rfl rfl rfl (ex_eql hf rfl rfl) (fun a hf => ?_)
      refine stq hf rfl rfl rfl (ex_move hf rfl) (fun a hf => ?_)
      replace hf := hf.castB (t := 28) rfl (dec_t hc10)
      replace hf := hf.castB (t := 29) rfl (dec_t hc10)
      refine stq hf rfl rfl rfl (ex_move hf rfl) (fun a hf => ?_)
      refine stq hf rfl rfl rfl (ex_eql hf rfl rfl) (fun a hf => ?_)
      refine stq hf rfl rfl rfl (ex_pickT hf rfl rfl) (fun a hf => ?_)
      refine stq hf rfl rfl rfl (ex_move hf rfl) (fun a hf => ?_)
      replace hf := hf.castB (t := 31) rfl (dec_f hc11)
      replace hf := hf.castB (t := 32) rfl (dec_f hc11)
      replace hf := hf.castB (t := 33) rfl (dec_f hc11)
      refine stepN hf rfl rfl rfl (fun a hf => ?_)
      refine stepN hf rfl rfl rfl (fun a hf => ?_)
      refine stq hf rfl rfl rfl (ex_pickF hf rfl rfl) (fun a hf => ?_)
      refine stq hf rfl rfl rfl (ex_move hf rfl) (fun a hf => ?_)
      refine stepN hf rfl rfl rfl (fun a hf => ?_)
      refine stepN hf rfl rfl rfl (fun a hf => ?_)
      refine stq hf rfl rfl rfl (ex_pickF hf rfl rfl) (fun a hf => ?_)
      refine stq hf rfl rfl rfl (ex_move hf rfl) (fun a hf => ?_)
      refine stepN hf rfl rfl rfl (fun a hf => ?_)
      refine stepN hf rfl rfl rfl (fun a hf => ?_)
      refine stq hf rfl rfl rfl (ex_pickF hf rfl rfl) (fun a hf => ?_)
      refine stq hf rfl rfl rfl (ex_move hf rfl) (fun a hf => ?_)
      refine stepN hf rfl rfl rfl (fun a hf => ?_)
      refine stepN hf rfl rfl rfl (fun a hf => ?_)
      refine stq hf rfl rfl rfl (ex_pickF hf rfl rfl) (fun a hf => ?_)
      refine stq hf rfl rfl rfl (ex_move hf rfl) (fun a hf => ?_)
      refine stepN hf rfl rfl rfl (fun a hf => ?_)
      refine stepN hf rfl rfl rfl (fun a hf => ?_)
      refine stq hf rfl rfl rfl (ex_pickF hf rfl rfl) (fun a hf => ?_)
      refine stq hf rfl rfl rfl (ex_assign hf rfl) (fun a hf => ?_)
      refine hK22 _ _ ?_
      refine wp_ret ?_
      have eR := some_eq H; subst eR
      replace hs := hs.keep (.d .nil)
      exact ret1 Try.results13 hf rfl ⟨_, rfl, ⟨rfl, hs⟩⟩
  · -- not s4.2 = 0
    refine seq_reg (fun K23 hK23 => ?_)
    refine stq hf rfl rfl rfl (ex_move hf rfl) (fun a hf => ?_)
    refine stq hf rfl rfl rfl (ex_eql hf rfl rfl) (fun a hf => ?_)
    refine stq hf rfl rfl rfl (ex_move hf rfl) (fun a hf => ?_)
    replace hf := hf.castB (t := 28) rfl (dec_f hc10)
    replace hf := hf.castB (t := 29) rfl (dec_f hc10)
    refine stepN hf rfl rfl rfl (fun a hf => ?_)
    refine stepN hf rfl rfl rfl (fun a hf => ?_)
    refine stq hf rfl rfl rfl (ex_pickF hf rfl rfl) (fun a hf => ?_)
    refine stq hf rfl rfl rfl (ex_move hf rfl) (fun a hf => ?_)
    refine stepN hf rfl rfl rfl (fun a hf => ?_)
    refine stepN hf rfl rfl rfl (fun a hf => ?_)
    refine stq hf rfl rfl rfl (ex_pickF hf rfl rfl) (fun a hf => ?_)
    refine stq hf rfl rfl rfl (ex_move hf rfl) (fun a hf => ?_)
    refine stepN hf rfl rfl rfl (fun a hf => ?_)
    refine stepN hf rfl rfl rfl (fun a hf => ?_)
    refine stq hf rfl rfl rfl (ex_pickF hf rfl rfl) (fun a hf => ?_)
    refine stq hf rfl rfl rfl (ex_move hf rfl) (fun a hf => ?_)
    refine stepN hf rfl rfl rfl (fun a hf => ?_)
    refine stepN hf rfl rfl rfl (fun a hf => ?_)
    refine stq hf rfl rfl rfl (ex_pickF hf rfl rfl) (fun a hf => ?_)
    refine stq hf rfl rfl rfl (ex_move hf rfl) (fun a hf => ?_)
    refine stepN hf rfl rfl rfl (fun a hf => ?_)
    refine stepN hf rfl rfl rfl (fun a hf => ?_)
    refine stq hf rfl rfl rfl (ex_pickF hf rfl rfl) (fun a hf => ?_)
    refine stq hf rfl rfl rfl (ex_move hf rfl) (fun a hf => ?_)
    refine stepN hf rfl rfl rfl (fun a hf => ?_)
    refine stepN hf rfl rfl rfl (fun a hf => ?_)
    refine stq hf rfl rfl rfl (ex_pickF hf rfl rfl) (fun a hf => ?_)
    refine stq hf rfl rfl rfl (ex_assign hf rfl) (fun a hf => ?_)
    refine hK23 _ _ ?_
    refine wp_ret ?_
    have eR := some_eq H; subst eR
    replace hs := hs.keep (.d .nil)
    exact ret1 Try.results13 hf rfl ⟨_, rfl, ⟨rfl, hs⟩⟩

set_option maxRecDepth 100000 in
theorem idle_NewLimits.calls {M : Nat → Prop} {w0 : World} (k : Nat) {r : (List (Int × Int))} (hs : St M w0 w0 []) (hr : Sr M w0 [])
    (h : idle_NewLimits.f k = some r) : Calls Try.prog 22 #[] w0 fun e w => ∃ v, e = .returned v ∧ (∃ (g0 : Nat) (g1 : Nat), .pointer (some ⟨g0, 0, none⟩) = v ∧ St M w0 w [bx g0 64 [.map (some g1)], mp g1 .i64 .u64 r]) := by
  have H := (idle_NewLimits.f.eq_1 ..).symm.trans h
  clear h
  refine enter Try.func22 rfl Try.ntmps22 rfl (fun a hf => ?_)
  refine seq_reg (fun K1 hK1 => ?_)
  refine stq hf rfl rfl rfl (ex_assign hf rfl) (fun a hf => ?_)
  refine hK1 _ _ ?_
  refine seq_reg (fun K4 hK4 => ?_)
  refine stepV hf rfl rfl rfl (er_makeMap (kk := .i64) (vk := .u64) hs) (fun v w hR a hf => ?_)
  obtain ⟨b2, rfl, hs⟩ := hR
  refine stq hf rfl rfl rfl (ex_build (cs := [.map (some b2)]) bt_64 hf rfl (.cons rfl .nil) rfl) (fun a hf => ?_)
  refine stepV hf rfl rfl rfl (er_box (cs := [.map (some b2)]) hs hf rfl rfl) (fun v w hR a hf => ?_)
  obtain ⟨b3, rfl, hs⟩ := hR
  refine stq hf rfl rfl rfl (ex_assign hf rfl) (fun a hf => ?_)
  refine hK4 _ _ ?_
  refine wp_ret ?_
  have eR := some_eq H; subst eR
  exact ret1 Try.results22 hf rfl ⟨_, rfl, ⟨b3, b2, rfl, hs⟩⟩

set_option maxRecDepth 100000 in
theorem help_Mod.calls {M : Nat → Prop} {w0 : World} (k : Nat) (a0 : Int) (a1 : Int) {r : Int} (hs : St M w0 w0 []) (hr : Sr M w0 [])
    (h : help_Mod.f k a0 a1 = some r) : Calls Try.prog 15 #[.int .i64 a0, .int .i64 a1] w0 fun e w => ∃ v, e = .returned v ∧ (.int .i64 r = v ∧ St M w0 w []) := by
  have H := (help_Mod.f.eq_1 ..).symm.trans h
  clear h
  refine enter Try.func15 rfl Try.ntmps15 rfl (fun a hf => ?_)
  refine seq_reg (fun K1 hK1 => ?_)
  refine stq hf rfl rfl rfl (ex_assign hf rfl) (fun a hf => ?_)
  refine hK1 _ _ ?_
  refine ck_some H (fun hc2 H => ?_)
  refine seq_reg (fun K3 hK3 => ?_)
  refine stq hf rfl rfl rfl (ex_move hf rfl) (fun a hf => ?_)
  refine stq hf rfl rfl rfl (ex_conv Try.underlying3 Try.underlying61 hf rfl) (fun a hf => ?_)
  refine stq hf rfl rfl rfl (ex_move hf rfl) (fun a hf => ?_)
  refine stq hf rfl rfl rfl (ex_conv Try.underlying3 Try.underlying61 hf rfl) (fun a hf => ?_)
  refine stq hf rfl rfl rfl (ex_rem hf rfl rfl hc2) (fun a hf => ?_)
  refine stq hf rfl rfl rfl (ex_conv Try.underlying61 Try.underlying3 hf rfl) (fun a hf => ?_)
  refine stq hf rfl rfl rfl (ex_assign hf rfl) (fun a hf => ?_)
  refine hK3 _ _ ?_
  refine wp_ret ?_
  have eR := some_eq H; subst eR
  exact ret1 Try.results15 hf rfl ⟨_, rfl, ⟨rfl, hs⟩⟩

set_option maxRecDepth 100000 in
theorem idle_isClient.calls {M : Nat → Prop} {w0 : World} (k : Nat) (a0 : Int) {r : Bool} (hs : St M w0 w0 []) (hr : Sr M w0 [])
    (h : idle_isClient.f k a0 = some r) : Calls Try.prog 36 #[.int .i64 a0] w0 fun e w => ∃ v, e = .returned v ∧ (.bool r = v ∧ St M w0 w []) := by
  have H := (idle_isClient.f.eq_1 ..).symm.trans h
  clear h
  refine enter Try.func36 rfl Try.ntmps36 rfl (fun a hf => ?_)
  refine seq_reg (fun K1 hK1 => ?_)
  refine stq hf rfl rfl rfl (ex_assign hf rfl) (fun a hf => ?_)
  refine hK1 _ _ ?_
  refine itt H (fun hc2 H => ?_) (fun hc2 H => ?_)
  · -- 0 ≤ a0
    refine seq_reg (fun K3 hK3 => ?_)
    refine stq hf rfl rfl rfl (ex_move hf rfl) (fun a hf => ?_)
    refine stq hf rfl rfl rfl (ex_geq hf rfl rfl) (fun a hf => ?_)
    refine stq hf rfl rfl rfl (ex_move hf rfl) (fun a hf => ?_)
    replace hf := hf.castB (t := 4) rfl (dec_t hc2)
    replace hf := hf.castB (t := 5) rfl (dec_t hc2)
    refine stq hf rfl rfl rfl (ex_move hf rfl) (fun a hf => ?_)
    refine stq hf rfl rfl rfl (ex_lss hf rfl rfl) (fun a hf => ?_)
    refine stq hf rfl rfl rfl (ex_pickT hf rfl rfl) (fun a hf => ?_)
    refine stq hf rfl rfl rfl (ex_assign hf rfl) (fun a hf => ?_)
    refine hK3 _ _ ?_
    refine wp_ret ?_
    have eR := some_eq H; subst eR
    exact ret1 Try.results36 hf rfl ⟨_, rfl, ⟨rfl, hs⟩⟩
  · -- not 0 ≤ a0
    refine seq_reg (fun K4 hK4 => ?_)
    refine stq hf rfl rfl rfl (ex_move hf rfl) (fun a hf => ?_)
    refine stq hf rfl rfl rfl (ex_geq hf rfl rfl) (fun a hf => ?_)
    refine stq hf rfl rfl rfl (ex_move hf rfl) (fun a hf => ?_)
    replace hf := hf.castB (t := 4) rfl (dec_f hc2)
    replace hf := hf.castB (t := 5) rfl (dec_f hc2)
    refine stepN hf rfl rfl rfl (fun a hf => ?_)
    refine stepN hf rfl rfl rfl (fun a hf => ?_)
    refine stq hf rfl rfl rfl (ex_pickF hf rfl rfl) (fun a hf => ?_)
    refine stq hf rfl rfl rfl (ex_assign hf rfl) (fun a hf => ?_)
    refine hK4 _ _ ?_
    refine wp_ret ?_
    have eR := some_eq H; subst eR
    exact ret1 Try.results36 hf rfl ⟨_, rfl, ⟨rfl, hs⟩⟩

set_option maxRecDepth 100000 in
theorem idle_Limits_Set.calls {M : Nat → Prop} {w0 : World} (k : Nat) (a0_requests : (List (Int × Int))) (a1 : Int) (a2 : Int) (b0 : Nat) (m0_requests : Nat) {r : (List (Int × Int)) × Int} (hs : St M w0 w0 [bx b0 64 [.map (some m0_requests)], mp m0_requests .i64 .u64 a0_requests]) (hr : Sr M w0 [])
    (h : idle_Limits_Set.f k a0_requests a1 a2 = some r) : Calls Try.prog 23 #[.pointer (some ⟨b0, 0, none⟩), .int .i64 a1, .int .u64 a2] w0 fun e w => ∃ v, e = .returned v ∧ (.int .i64 r.2 = v ∧ St M w0 w [bx b0 64 [.map (some m0_requests)], mp m0_requests .i64 .u64 r.1]) := by
  have H := (idle_Limits_Set.f.eq_1 ..).symm.trans h
  clear h
  refine enter Try.func23 rfl Try.ntmps23 rfl (fun a hf => ?_)
  refine seq_reg (fun K1 hK1 => ?_)
  refine stq hf rfl rfl rfl (ex_assign hf rfl) (fun a hf => ?_)
  refine hK1 _ _ ?_
  refine seq_n (fun Q2 hN2 hR2 hX2 => ?_)
  refine bnd H (fun s3 hs3 H => ?_)
  refine seq_reg (fun K4 hK4 => ?_)
  refine stq hf rfl rfl rfl (ex_move hf rfl) (fun a hf => ?_)
  refine stepF hf rfl rfl rfl (ex_call cf_36 hf rfl) (idle_isClient.calls k a1 (hs.enter (.k (.k .nil))) (Sr.nil _ _) hs3) (fun v w hR a hf => ?_)
  obtain ⟨rfl, hs'⟩ := hR
  replace hs := hs.step (.k (.k .nil)) hs'
  clear hs'
  refine stq hf rfl rfl rfl (ex_not hf rfl) (fun a hf => ?_)
  refine hK4 _ _ ?_
  refine itt H (fun hc5 H => ?_) (fun hc5 H => ?_)
  · -- s3 = true
    replace hf := hf.castB (t := 8) rfl hc5
    replace hf := hf.castB (t := 9) rfl (nbool_f hc5)
    refine cond_F hf rfl ?_
    refine wp_skip ?_
    refine hN2 _ _ ?_
    refine seq_reg (fun K6 hK6 => ?_)
    refine stq hf rfl rfl rfl (ex_move hf rfl) (fun a hf => ?_)
    refine stq hf rfl rfl rfl (ex_nilCheck hf rfl) (fun a hf => ?_)
    refine stq hf rfl rfl rfl (ex_fieldAddrB fa_64_0 rfl hf rfl) (fun a hf => ?_)
    refine stq hf rfl rfl rfl (ex_load sc_62 hf rfl (bx_cell (hs.get (i := 0) rfl) _ rfl)) (fun a hf => ?_)
    refine stq hf rfl rfl rfl (ex_move hf rfl) (fun a hf => ?_)
    refine stq hf rfl rfl rfl (ex_move hf rfl) (fun a hf => ?_)
    refine stepS hf rfl rfl (er_mapUpdate hs (.k (.c .nil)) mt_62 hf rfl rfl rfl) (fun w hs => ?_)
    refine hK6 _ _ ?_
    refine seq_reg (fun K7 hK7 => ?_)
    refine stq hf rfl rfl rfl (ex_assign hf rfl) (fun a hf => ?_)
    refine hK7 _ _ ?_
    refine wp_ret ?_
    have eR := some_eq H; subst eR
    replace hs := hs.pick (.k (.c .nil))
    exact ret1 Try.results23 hf rfl ⟨_, rfl, ⟨rfl, hs⟩⟩
  · -- not s3 = true
    replace hf := hf.castB (t := 8) rfl (bool_f hc5)
    replace hf := hf.castB (t := 9) rfl (nbool_t hc5)
    refine cond_T hf rfl ?_
    refine seq_reg (fun K8 hK8 => ?_)
    refine stq hf rfl rfl rfl (ex_assign hf rfl) (fun a hf => ?_)
    refine hK8 _ _ ?_
    refine wp_ret ?_
    refine hR2 _ _ ?_
    have eR := some_eq H; subst eR
    exact ret1 Try.results23 hf rfl ⟨_, rfl, ⟨rfl, hs⟩⟩

set_option maxRecDepth 100000 in
theorem idle_Limits_Limit.calls {M : Nat → Prop} {w0 : World} (k : Nat) (a0_requests : (List (Int × Int))) (b0 : Nat) (m0_requests : Nat) {r : Int} (hs : St M w0 w0 []) (hr : Sr M w0 [bx b0 64 [.map (some m0_requests)], mp m0_requests .i64 .u64 a0_requests])
    (h : idle_Limits_Limit.f k a0_requests = some r) : Calls Try.prog 24 #[.pointer (some ⟨b0, 0, none⟩)] w0 fun e w => ∃ v, e = .returned v ∧ (.int .u64 r = v ∧ St M w0 w []) := by
  have H := (idle_Limits_Limit.f.eq_1 ..).symm.trans h
  clear h
  refine enter Try.func24 rfl Try.ntmps24 rfl (fun a hf => ?_)
  refine seq_reg (fun K1 hK1 => ?_)
  refine stq hf rfl rfl rfl (ex_assign hf rfl) (fun a hf => ?_)
  refine hK1 _ _ ?_
  refine seq_n (fun Q2 hN2 hR2 hX2 => ?_)
  refine seq_reg (fun K3 hK3 => ?_)
  refine stq hf rfl rfl rfl (ex_move hf rfl) (fun a hf => ?_)
  refine stq hf rfl rfl rfl (ex_nilCheck hf rfl) (fun a hf => ?_)
  refine stq hf rfl rfl rfl (ex_fieldAddrB fa_64_0 rfl hf rfl) (fun a hf => ?_)
  refine stq hf rfl rfl rfl (ex_load sc_62 hf rfl (bx_cell (hr.now hs (i := 0) rfl) _ rfl)) (fun a hf => ?_)
  refine stq hf rfl rfl rfl (ex_lenM mt_62 (hr.now hs (i := 1) rfl) hf rfl) (fun a hf => ?_)
  refine stq hf rfl rfl rfl (ex_eql hf rfl rfl) (fun a hf => ?_)
  refine hK3 _ _ ?_
  refine itt H (fun hc4 H => ?_) (fun hc4 H => ?_)
  · replace hf := hf.castB (t := 11) rfl (dec_t hc4)
    refine cond_T hf rfl ?_
    refine seq_reg (fun K5 hK5 => ?_)
    refine stq hf rfl rfl rfl (ex_assign hf rfl) (fun a hf => ?_)
    refine hK5 _ _ ?_
    refine wp_ret ?_
    refine hR2 _ _ ?_
    have eR := some_eq H; subst eR
    exact ret1 Try.results24 hf rfl ⟨_, rfl, ⟨rfl, hs⟩⟩
  · replace hf := hf.castB (t := 11) rfl (dec_f hc4)
    refine cond_F hf rfl ?_
    refine wp_skip ?_
    refine hN2 _ _ ?_
    refine seq_reg (fun K6 hK6 => ?_)
    refine stq hf rfl rfl rfl (ex_assign hf rfl) (fun a hf => ?_)
    refine hK6 _ _ ?_
    obtain ⟨es, clock, hr', hkv, hnd, hbn⟩ := sr_mpe hr
    refine seq_cut (fun a w => Fr a 25 [(3, .int .u64 (mmin a0_requests))] ∧ St M w0 w []) (fun Q7 hJ7 hR7 hX7 => ?_) (fun a w hJ => ?_)
    · refine seq_reg (fun K8 hK8 => ?_)
      refine stq hf rfl rfl rfl (ex_move hf rfl) (fun a hf => ?_)
      refine stq hf rfl rfl rfl (ex_nilCheck hf rfl) (fun a hf => ?_)
      refine stq hf rfl rfl rfl (ex_fieldAddrB fa_64_0 rfl hf rfl) (fun a hf => ?_)
      refine stq hf rfl rfl rfl (ex_load sc_62 hf rfl (bx_cell (hr.now hs (i := 0) rfl) _ rfl)) (fun a hf => ?_)
      refine stepV hf rfl rfl rfl (er_range hs Try.underlying62 (hr'.now hs (i := 1) rfl) hf rfl) (fun v w hR a hf => ?_)
      obtain ⟨ri, rfl, hs⟩ := hR
      refine hK8 _ _ ?_
      refine block_k (fun Q9 hN9 hR9 hX9 hY9 => ?_)
      refine loop_k (fun n a w => ∃ (y : Int) (c : Nat) (seen : Array Nat), (leftOf es seen).size = n ∧ Fr a 25 [(3, .int .u64 y), (16, .pointer (some ⟨ri, 0, none⟩))] ∧ St M w0 w [it ri m0_requests clock c seen] ∧ clock ≤ c ∧ LInv es seen a0_requests y) (leftOf es #[]).size ?_ (fun n13 a w hI Q13 hL13 hR13 hX13 => ?_)
      · exact ⟨18446744073709551615, clock, #[], rfl, hf.sub ⟨rfl, rfl, trivial⟩, hs, Nat.le_refl _, LInv.start es a0_requests⟩
      · obtain ⟨y, c, seen, hn, hf, hs, hsc, hI⟩ := hI
        refine seq_reg (fun K14 hK14 => ?_)
        refine stepV hf rfl rfl rfl (er_next hs (.c .nil) (hr'.now hs (i := 1) rfl) hbn hsc hkv hf rfl) (fun v w hR a hf => ?_)
        rcases hR with ⟨rfl, h0, hs⟩ | ⟨e, he, u, hu, rfl, hs⟩
        · refine stq hf rfl rfl rfl (ex_extract hf rfl rfl) (fun a hf => ?_)
          refine hK14 _ _ ?_
          refine seq_n (fun Q15 hN15 hR15 hX15 => ?_)
          refine cond_F hf rfl ?_
          refine wp_exit ?_
          refine hX15 0 _ _ ?_
          refine hX13 0 _ _ ?_
          refine hX9 _ _ ?_
          have ey := hI.stop hkv h0
          subst ey
          exact hJ7 _ _ ⟨hf.sub ⟨rfl, trivial⟩, hs.pick (.d .nil)⟩
        · refine stq hf rfl rfl rfl (ex_extract hf rfl rfl) (fun a hf => ?_)
          refine hK14 _ _ ?_
          refine seq_n (fun Q15 hN15 hR15 hX15 => ?_)
          refine cond_T hf rfl ?_
          refine wp_skip ?_
          refine hN15 _ _ ?_
          refine block_k (fun Q18 hN18 hR18 hX18 hY18 => ?_)
          refine seq_reg (fun K20 hK20 => ?_)
          refine stq hf rfl rfl rfl (ex_entry (hs.get (i := 0) rfl) (hr'.now hs (i := 1) rfl) (mem_left he).1 hnd hu hf rfl) (fun a hf => ?_)
          refine stq hf rfl rfl rfl (ex_extract hf rfl rfl) (fun a hf => ?_)
          refine stq hf rfl rfl rfl (ex_assign hf rfl) (fun a hf => ?_)
          refine hK20 _ _ ?_
          refine region_k (fun K21 hK21 => ?_)
          refine stq hf rfl rfl rfl (ex_move hf rfl) (fun a hf => ?_)
          refine stq hf rfl rfl rfl (ex_move hf rfl) (fun a hf => ?_)
          refine stq hf rfl rfl rfl (ex_min hf rfl rfl) (fun a hf => ?_)
          refine stq hf rfl rfl rfl (ex_assign hf rfl) (fun a hf => ?_)
          refine hK21 _ _ ?_
          refine hN18 _ _ ?_
          exact hL13 (leftOf es (seen.push e.born)).size _ _ (hn ▸ left_shrinks es seen e he) ⟨(if u < y then u else y), clock, seen.push e.born, rfl, hf.sub ⟨rfl, rfl, trivial⟩, hs, Nat.le_refl _, hI.step hkv hnd (mem_left he).1 hu⟩
    · obtain ⟨hf, hs⟩ := hJ
      refine seq_reg (fun K24 hK24 => ?_)
      refine stq hf rfl rfl rfl (ex_move hf rfl) (fun a hf => ?_)
      refine stq hf rfl rfl rfl (ex_assign hf rfl) (fun a hf => ?_)
      refine hK24 _ _ ?_
      refine wp_ret ?_
      have eR := some_eq H; subst eR
      exact ret1 Try.results24 hf rfl ⟨_, rfl, ⟨rfl, hs⟩⟩

set_option maxRecDepth 100000 in
theorem ref37_NewLimits.calls {M : Nat → Prop} {w0 : World} (k : Nat) {r : (List Bool) × (List Int)} (hs : St M w0 w0 []) (hr : Sr M w0 [])
    (h : ref37_NewLimits.f k = some r) : Calls Try.prog 25 #[] w0 fun e w => ∃ v, e = .returned v ∧ (∃ (g0 : Nat), .pointer (some ⟨g0, 0, none⟩) = v ∧ St M w0 w [bxs g0 69 [(List.map Value.bool r.1, 32), (List.map (Value.int .u64) r.2, 32)]]) := by
  have H := (ref37_NewLimits.f.eq_1 ..).symm.trans h
  clear h
  refine enter Try.func25 rfl Try.ntmps25 rfl (fun a hf => ?_)
  refine seq_reg (fun K1 hK1 => ?_)
  refine stq hf rfl rfl rfl (ex_assign hf rfl) (fun a hf => ?_)
  refine hK1 _ _ ?_
  refine seq_reg (fun K3 hK3 => ?_)
  refine stq hf rfl rfl rfl (ex_build (cs := [.bool false, .bool false, .bool false, .bool false, .bool false, .bool false, .bool false, .bool false, .bool false, .bool false, .bool false, .bool false, .bool false, .bool false, .bool false, .bool false, .bool false, .bool false, .bool false, .bool false, .bool false, .bool false, .bool false, .bool false, .bool false, .bool false, .bool false, .bool false, .bool false, .bool false, .bool false, .bool false, .int .u64 0, .int .u64 0, .int .u64 0, .int .u64 0, .int .u64 0, .int .u64 0, .int .u64 0, .int .u64 0, .int .u64 0, .int .u64 0, .int .u64 0, .int .u64 0, .int .u64 0, .int .u64 0, .int .u64 0, .int .u64 0, .int .u64 0, .int .u64 0, .int .u64 0, .int .u64 0, .int .u64 0, .int .u64 0, .int .u64 0, .int .u64 0, .int .u64 0, .int .u64 0, .int .u64 0, .int .u64 0, .int .u64 0, .int .u64 0, .int .u64 0, .int .u64 0]) bt_69 hf rfl .nil rfl) (fun a hf => ?_)
  refine stepV hf rfl rfl rfl (er_boxS (S := [(List.map Value.bool (List.replicate 32 false), 32), (List.map (Value.int .u64) (List.replicate 32 0), 32)]) hs hf rfl rfl (by simp [lens])) (fun v w hR a hf => ?_)
  obtain ⟨b2, rfl, hs⟩ := hR
  refine stq hf rfl rfl rfl (ex_assign hf rfl) (fun a hf => ?_)
  refine hK3 _ _ ?_
  refine wp_ret ?_
  have eR := some_eq H; subst eR
  exact ret1 Try.results25 hf rfl ⟨_, rfl, ⟨b2, rfl, hs⟩⟩

set_option maxRecDepth 100000 in
theorem idle_Limits_Remove.calls {M : Nat → Prop} {w0 : World} (k : Nat) (a0_requests : (List (Int × Int))) (a1 : Int) (b0 : Nat) (m0_requests : Nat) {r : (List (Int × Int)) × Int} (hs : St M w0 w0 [bx b0 64 [.map (some m0_requests)], mp m0_requests .i64 .u64 a0_requests]) (hr : Sr M w0 [])
    (h : idle_Limits_Remove.f k a0_requests a1 = some r) : Calls Try.prog 26 #[.pointer (some ⟨b0, 0, none⟩), .int .i64 a1] w0 fun e w => ∃ v, e = .returned v ∧ (.int .i64 r.2 = v ∧ St M w0 w [bx b0 64 [.map (some m0_requests)], mp m0_requests .i64 .u64 r.1]) := by
  have H := (idle_Limits_Remove.f.eq_1 ..).symm.trans h
  clear h
  refine enter Try.func26 rfl Try.ntmps26 rfl (fun a hf => ?_)
  refine seq_reg (fun K1 hK1 => ?_)
  refine stq hf rfl rfl rfl (ex_assign hf rfl) (fun a hf => ?_)
  refine hK1 _ _ ?_
  refine seq_n (fun Q2 hN2 hR2 hX2 => ?_)
  refine bnd H (fun s3 hs3 H => ?_)
  refine seq_reg (fun K4 hK4 => ?_)
  refine stq hf rfl rfl rfl (ex_move hf rfl) (fun a hf => ?_)
  refine stepF hf rfl rfl rfl (ex_call cf_36 hf rfl) (idle_isClient.calls k a1 (hs.enter (.k (.k .nil))) (Sr.nil _ _) hs3) (fun v w hR a hf => ?_)
  obtain ⟨rfl, hs'⟩ := hR
  replace hs := hs.step (.k (.k .nil)) hs'
  clear hs'
  refine stq hf rfl rfl rfl (ex_not hf rfl) (fun a hf => ?_)
  refine hK4 _ _ ?_
  refine itt H (fun hc5 H => ?_) (fun hc5 H => ?_)
  · -- s3 = true
    replace hf := hf.castB (t := 8) rfl hc5
    replace hf := hf.castB (t := 9) rfl (nbool_f hc5)
    refine cond_F hf rfl ?_
    refine wp_skip ?_
    refine hN2 _ _ ?_
    refine seq_n (fun Q6 hN6 hR6 hX6 => ?_)
    refine seq_reg (fun K7 hK7 => ?_)
    refine stq hf rfl rfl rfl (ex_move hf rfl) (fun a hf => ?_)
    refine stq hf rfl rfl rfl (ex_nilCheck hf rfl) (fun a hf => ?_)
    refine stq hf rfl rfl rfl (ex_fieldAddrB fa_64_0 rfl hf rfl) (fun a hf => ?_)
    refine stq hf rfl rfl rfl (ex_load sc_62 hf rfl (bx_cell (hs.get (i := 0) rfl) _ rfl)) (fun a hf => ?_)
    refine stq hf rfl rfl rfl (ex_move hf rfl) (fun a hf => ?_)
    refine stq hf rfl rfl rfl (ex_lookup2 mt_62 (hs.get (i := 1) rfl) hf rfl rfl) (fun a hf => ?_)
    refine stq hf rfl rfl rfl (ex_move hf rfl) (fun a hf => ?_)
    refine stq hf rfl rfl rfl (ex_extract hf rfl rfl) (fun a hf => ?_)
    refine stq hf rfl rfl rfl (ex_extract hf rfl rfl) (fun a hf => ?_)
    refine stq hf rfl rfl rfl (ex_assign hf rfl) (fun a hf => ?_)
    refine stq hf rfl rfl rfl (ex_assign hf rfl) (fun a hf => ?_)
    refine hK7 _ _ ?_
    refine seq_reg (fun K8 hK8 => ?_)
    refine stq hf rfl rfl rfl (ex_move hf rfl) (fun a hf => ?_)
    refine stq hf rfl rfl rfl (ex_not hf rfl) (fun a hf => ?_)
    refine hK8 _ _ ?_
    refine itt H (fun hc9 H => ?_) (fun hc9 H => ?_)
    · -- (mget a0_requests a1).isSome = true
      replace hf := hf.castB (t := 18) rfl hc9
      replace hf := hf.castB (t := 6) rfl hc9
      replace hf := hf.castB (t := 19) rfl hc9
      replace hf := hf.castB (t := 20) rfl (nbool_f hc9)
      refine cond_F hf rfl ?_
      refine wp_skip ?_
      refine hN6 _ _ ?_
      refine seq_reg (fun K10 hK10 => ?_)
      refine stq hf rfl rfl rfl (ex_move hf rfl) (fun a hf => ?_)
      refine stq hf rfl rfl rfl (ex_nilCheck hf rfl) (fun a hf => ?_)
      refine stq hf rfl rfl rfl (ex_fieldAddrB fa_64_0 rfl hf rfl) (fun a hf => ?_)
      refine stq hf rfl rfl rfl (ex_load sc_62 hf rfl (bx_cell (hs.get (i := 0) rfl) _ rfl)) (fun a hf => ?_)
      refine stq hf rfl rfl rfl (ex_move hf rfl) (fun a hf => ?_)
      refine stepVn hf rfl rfl (er_delete hs (.k (.c .nil)) mt_62 hf rfl rfl) (fun v w hR => ?_)
      obtain ⟨rfl, hs⟩ := hR
      refine hK10 _ _ ?_
      refine seq_reg (fun K11 hK11 => ?_)
      refine stq hf rfl rfl rfl (ex_assign hf rfl) (fun a hf => ?_)
      refine hK11 _ _ ?_
      refine wp_ret ?_
      have eR := some_eq H; subst eR
      replace hs := hs.pick (.k (.c .nil))
      exact ret1 Try.results26 hf rfl ⟨_, rfl, ⟨rfl, hs⟩⟩
    · -- not (mget a0_requests a1).isSome = true
      replace hf := hf.castB (t := 18) rfl (bool_f hc9)
      replace hf := hf.castB (t := 6) rfl (bool_f hc9)
      replace hf := hf.castB (t := 19) rfl (bool_f hc9)
      replace hf := hf.castB (t := 20) rfl (nbool_t hc9)
      refine cond_T hf rfl ?_
      refine seq_reg (fun K12 hK12 => ?_)
      refine stq hf rfl rfl rfl (ex_assign hf rfl) (fun a hf => ?_)
      refine hK12 _ _ ?_
      refine wp_ret ?_
      refine hR6 _ _ ?_
      have eR := some_eq H; subst eR
      exact ret1 Try.results26 hf rfl ⟨_, rfl, ⟨rfl, hs⟩⟩
  · -- not s3 = true
    replace hf := hf.castB (t := 8) rfl (bool_f hc5)
    replace hf := hf.castB (t := 9) rfl (nbool_t hc5)
    refine cond_T hf rfl ?_
    refine seq_reg (fun K13 hK13 => ?_)
    refine stq hf rfl rfl rfl (ex_assign hf rfl) (fun a hf => ?_)
    refine hK13 _ _ ?_
    refine wp_ret ?_
    refine hR2 _ _ ?_
    have eR := some_eq H; subst eR
    exact ret1 Try.results26 hf rfl ⟨_, rfl, ⟨rfl, hs⟩⟩

set_option maxRecDepth 100000 in
theorem ref37_Limits_Remove.calls {M : Nat → Prop} {w0 : World} (k : Nat) (a0_Has : (List Bool)) (a0_Value : (List Int)) (a1 : Int) (b0 : Nat) {r : (List Bool) × Int} (hs : St M w0 w0 [bxs b0 69 [(List.map Value.bool a0_Has, 32), (List.map (Value.int .u64) a0_Value, 32)]]) (hr : Sr M w0 [])
    (h : ref37_Limits_Remove.f k a0_Has a0_Value a1 = some r) : Calls Try.prog 27 #[.pointer (some ⟨b0, 0, none⟩), .int .i64 a1] w0 fun e w => ∃ v, e = .returned v ∧ (.int .i64 r.2 = v ∧ St M w0 w [bxs b0 69 [(List.map Value.bool r.1, 32), (List.map (Value.int .u64) a0_Value, 32)]]) := by
  have H := (ref37_Limits_Remove.f.eq_1 ..).symm.trans h
  clear h
  refine enter Try.func27 rfl Try.ntmps27 rfl (fun a hf => ?_)
  refine seq_reg (fun K1 hK1 => ?_)
  refine stq hf rfl rfl rfl (ex_assign hf rfl) (fun a hf => ?_)
  refine hK1 _ _ ?_
  refine seq_n (fun Q2 hN2 hR2 hX2 => ?_)
  refine bnd H (fun x3 H3 HO3 => ?_)
  clear H
  refine seq_cut (fun a w => Fr a 23 [(0, .pointer (some ⟨b0, 0, none⟩)), (1, .int .i64 a1), (10, .bool x3)] ∧ St M w0 w [bxs b0 69 [(List.map Value.bool a0_Has, 32), (List.map (Value.int .u64) a0_Value, 32)]]) (fun Q3 hJ3 hR3 hX3 => ?_) (fun a w hJ => ?_)
  · replace H := H3
    refine itt H (fun hc4 H => ?_) (fun hc4 H => ?_)
    · -- a1 < 0
      refine region_k (fun K5 hK5 => ?_)
      refine stq hf rfl rfl rfl (ex_move hf rfl) (fun a hf => ?_)
      refine stq hf rfl rfl rfl (ex_lss hf rfl rfl) (fun a hf => ?_)
      refine stq hf rfl rfl rfl (ex_move hf rfl) (fun a hf => ?_)
      replace hf := hf.castB (t := 6) rfl (dec_t hc4)
      replace hf := hf.castB (t := 7) rfl (dec_t hc4)
      refine stepN hf rfl rfl rfl (fun a hf => ?_)
      refine stepN hf rfl rfl rfl (fun a hf => ?_)
      refine stq hf rfl rfl rfl (ex_pickT hf rfl rfl) (fun a hf => ?_)
      refine hK5 _ _ ?_
      have e3 := some_eq H; subst e3
      exact hJ3 _ _ ⟨hf.sub ⟨rfl, rfl, rfl, trivial⟩, hs⟩
    · -- not a1 < 0
      refine region_k (fun K6 hK6 => ?_)
      refine stq hf rfl rfl rfl (ex_move hf rfl) (fun a hf => ?_)
      refine stq hf rfl rfl rfl (ex_lss hf rfl rfl) (fun a hf => ?_)
      refine stq hf rfl rfl rfl (ex_move hf rfl) (fun a hf => ?_)
      replace hf := hf.castB (t := 6) rfl (dec_f hc4)
      replace hf := hf.castB (t := 7) rfl (dec_f hc4)
      refine stq hf rfl rfl rfl (ex_move hf rfl) (fun a hf => ?_)
      refine stq hf rfl rfl rfl (ex_geq hf rfl rfl) (fun a hf => ?_)
      refine stq hf rfl rfl rfl (ex_pickF hf rfl rfl) (fun a hf => ?_)
      refine hK6 _ _ ?_
      have e3 := some_eq H; subst e3
      exact hJ3 _ _ ⟨hf.sub ⟨rfl, rfl, rfl, trivial⟩, hs⟩
  · obtain ⟨hf, hs⟩ := hJ
    replace H := HO3
    clear HO3
    refine itt H (fun hc7 H => ?_) (fun hc7 H => ?_)
    · -- x3 = true
      replace hf := hf.castB (t := 10) rfl hc7
      refine cond_T hf rfl ?_
      refine seq_reg (fun K8 hK8 => ?_)
      refine stq hf rfl rfl rfl (ex_assign hf rfl) (fun a hf => ?_)
      refine hK8 _ _ ?_
      refine wp_ret ?_
      refine hR2 _ _ ?_
      have eR := some_eq H; subst eR
      exact ret1 Try.results27 hf rfl ⟨_, rfl, ⟨rfl, hs⟩⟩
    · -- not x3 = true
      replace hf := hf.castB (t := 10) rfl (bool_f hc7)
      refine cond_F hf rfl ?_
      refine wp_skip ?_
      refine hN2 _ _ ?_
      refine seq_n (fun Q9 hN9 hR9 hX9 => ?_)
      refine ck_some H (fun hc10 H => ?_)
      refine seq_reg (fun K11 hK11 => ?_)
      refine stq hf rfl rfl rfl (ex_move hf rfl) (fun a hf => ?_)
      refine stq hf rfl rfl rfl (ex_move hf rfl) (fun a hf => ?_)
      refine stq hf rfl rfl rfl (ex_nilCheck hf rfl) (fun a hf => ?_)
      refine stq hf rfl rfl rfl (ex_fieldAddrB fa_69_0 rfl hf rfl) (fun a hf => ?_)
      refine stq hf rfl rfl rfl (ex_indexAddrA ia_66 rfl hc10.1 hc10.2 hf rfl rfl) (fun a hf => ?_)
      refine stq hf rfl rfl rfl (ex_load sc_4 hf rfl (sb_cell (f := Value.bool) (xs := a0_Has) (i := 0) (z := false) (hs.get (i := 0) rfl) rfl rfl hc10.1 hc10.2)) (fun a hf => ?_)
      refine stq hf rfl rfl rfl (ex_not hf rfl) (fun a hf => ?_)
      refine hK11 _ _ ?_
      refine itt H (fun hc12 H => ?_) (fun hc12 H => ?_)
      · -- (gd false a0_Has a1) = true
        replace hf := hf.castB (t := 16) rfl hc12
        replace hf := hf.castB (t := 17) rfl (nbool_f hc12)
        refine cond_F hf rfl ?_
        refine wp_skip ?_
        refine hN9 _ _ ?_
        refine seq_reg (fun K13 hK13 => ?_)
        refine stq hf rfl rfl rfl (ex_move hf rfl) (fun a hf => ?_)
        refine stq hf rfl rfl rfl (ex_move hf rfl) (fun a hf => ?_)
        refine stq hf rfl rfl rfl (ex_nilCheck hf rfl) (fun a hf => ?_)
        refine stq hf rfl rfl rfl (ex_fieldAddrB fa_69_0 rfl hf rfl) (fun a hf => ?_)
        refine stq hf rfl rfl rfl (ex_indexAddrA ia_66 rfl hc10.1 hc10.2 hf rfl rfl) (fun a hf => ?_)
        refine stepS hf rfl rfl (er_storeS (f := Value.bool) (xs := a0_Has) (u := false) (i := 0) hs (.c .nil) hf rfl rfl rfl sz_4 rfl rfl hc10.1 hc10.2) (fun w hs => ?_)
        refine hK13 _ _ ?_
        refine seq_reg (fun K14 hK14 => ?_)
        refine stq hf rfl rfl rfl (ex_assign hf rfl) (fun a hf => ?_)
        refine hK14 _ _ ?_
        refine wp_ret ?_
        have eR := some_eq H; subst eR
        exact ret1 Try.results27 hf rfl ⟨_, rfl, ⟨rfl, hs⟩⟩
      · -- not (gd false a0_Has a1) = true
        replace hf := hf.castB (t := 16) rfl (bool_f hc12)
        replace hf := hf.castB (t := 17) rfl (nbool_t hc12)
        refine cond_T hf rfl ?_
        refine seq_reg (fun K15 hK15 => ?_)
        refine stq hf rfl rfl rfl (ex_assign hf rfl) (fun a hf => ?_)
        refine hK15 _ _ ?_
        refine wp_ret ?_
        refine hR9 _ _ ?_
        have eR := some_eq H; subst eR
        exact ret1 Try.results27 hf rfl ⟨_, rfl, ⟨rfl, hs⟩⟩

set_option maxRecDepth 100000 in
theorem ref37_Limits_Set.calls {M : Nat → Prop} {w0 : World} (k : Nat) (a0_Has : (List Bool)) (a0_Value : (List Int)) (a1 : Int) (a2 : Int) (b0 : Nat) {r : (List Bool) × (List Int) × Int} (hs : St M w0 w0 [bxs b0 69 [(List.map Value.bool a0_Has, 32), (List.map (Value.int .u64) a0_Value, 32)]]) (hr : Sr M w0 [])
    (h : ref37_Limits_Set.f k a0_Has a0_Value a1 a2 = some r) : Calls Try.prog 28 #[.pointer (some ⟨b0, 0, none⟩), .int .i64 a1, .int .u64 a2] w0 fun e w => ∃ v, e = .returned v ∧ (.int .i64 r.2.2 = v ∧ St M w0 w [bxs b0 69 [(List.map Value.bool r.1, 32), (List.map (Value.int .u64) r.2.1, 32)]]) := by
  have H := (ref37_Limits_Set.f.eq_1 ..).symm.trans h
  clear h
  refine enter Try.func28 rfl Try.ntmps28 rfl (fun a hf => ?_)
  refine seq_reg (fun K1 hK1 => ?_)
  refine stq hf rfl rfl rfl (ex_assign hf rfl) (fun a hf => ?_)
  refine hK1 _ _ ?_
  refine seq_n (fun Q2 hN2 hR2 hX2 => ?_)
  refine bnd H (fun x3 H3 HO3 => ?_)
  clear H
  refine seq_cut (fun a w => Fr a 24 [(0, .pointer (some ⟨b0, 0, none⟩)), (1, .int .i64 a1), (2, .int .u64 a2), (12, .bool x3)] ∧ St M w0 w [bxs b0 69 [(List.map Value.bool a0_Has, 32), (List.map (Value.int .u64) a0_Value, 32)]]) (fun Q3 hJ3 hR3 hX3 => ?_) (fun a w hJ => ?_)
  · replace H := H3
    refine itt H (fun hc4 H => ?_) (fun hc4 H => ?_)
    · -- a1 < 0
      refine region_k (fun K5 hK5 => ?_)
      refine stq hf rfl rfl rfl (ex_move hf rfl) (fun a hf => ?_)
      refine stq hf rfl rfl rfl (ex_lss hf rfl rfl) (fun a hf => ?_)
      refine stq hf rfl rfl rfl (ex_move hf rfl) (fun a hf => ?_)
      replace hf := hf.castB (t := 8) rfl (dec_t hc4)
      replace hf := hf.castB (t := 9) rfl (dec_t hc4)
      refine stepN hf rfl rfl rfl (fun a hf => ?_)
      refine stepN hf rfl rfl rfl (fun a hf => ?_)
      refine stq hf rfl rfl rfl (ex_pickT hf rfl rfl) (fun a hf => ?_)
      refine hK5 _ _ ?_
      have e3 := some_eq H; subst e3
      exact hJ3 _ _ ⟨hf.sub ⟨rfl, rfl, rfl, rfl, trivial⟩, hs⟩
    · -- not a1 < 0
      refine region_k (fun K6 hK6 => ?_)
      refine stq hf rfl rfl rfl (ex_move hf rfl) (fun a hf => ?_)
      refine stq hf rfl rfl rfl (ex_lss hf rfl rfl) (fun a hf => ?_)
      refine stq hf rfl rfl rfl (ex_move hf rfl) (fun a hf => ?_)
      replace hf := hf.castB (t := 8) rfl (dec_f hc4)
      replace hf := hf.castB (t := 9) rfl (dec_f hc4)
      refine stq hf rfl rfl rfl (ex_move hf rfl) (fun a hf => ?_)
      refine stq hf rfl rfl rfl (ex_geq hf rfl rfl) (fun a hf => ?_)
      refine stq hf rfl rfl rfl (ex_pickF hf rfl rfl) (fun a hf => ?_)
      refine hK6 _ _ ?_
      have e3 := some_eq H; subst e3
      exact hJ3 _ _ ⟨hf.sub ⟨rfl, rfl, rfl, rfl, trivial⟩, hs⟩
  · obtain ⟨hf, hs⟩ := hJ
    replace H := HO3
    clear HO3
    refine itt H (fun hc7 H => ?_) (fun hc7 H => ?_)
    · -- x3 = true
      replace hf := hf.castB (t := 12) rfl hc7
      refine cond_T hf rfl ?_
      refine seq_reg (fun K8 hK8 => ?_)
      refine stq hf rfl rfl rfl (ex_assign hf rfl) (fun a hf => ?_)
      refine hK8 _ _ ?_
      refine wp_ret ?_
      refine hR2 _ _ ?_
      have eR := some_eq H; subst eR
      exact ret1 Try.results28 hf rfl ⟨_, rfl, ⟨rfl, hs⟩⟩
    · -- not x3 = true
      replace hf := hf.castB (t := 12) rfl (bool_f hc7)
      refine cond_F hf rfl ?_
      refine wp_skip ?_
      refine hN2 _ _ ?_
      refine seq_n (fun Q9 hN9 hR9 hX9 => ?_)
      refine ck_some H (fun hc10 H => ?_)
      refine region_d fol 13 [(0, .pointer (some ⟨b0, 0, none⟩)), (1, .int .i64 a1), (2, .int .u64 a2)] [(0, .pointer (some ⟨b0, 0, none⟩)), (1, .int .i64 a1), (2, .pointer (some ⟨b0, 0, none⟩)), (3, .int .i64 a1), (4, .int .u64 a2), (5, .pointer (some ⟨b0, 0, none⟩)), (6, .pointer (some ⟨b0, 0, none⟩)), (7, .pointer (some ⟨b0, 0 + a1.toNat, none⟩)), (9, .pointer (some ⟨b0, 0, none⟩)), (10, .pointer (some ⟨b0, 32, none⟩))] [8, 12] (fun w => True) (fun w => St M w0 w [bxs b0 69 [(List.map Value.bool a0_Has, 32), (List.map (Value.int .u64) a0_Value, 32)]]) hf ⟨rfl, rfl, rfl, trivial⟩ (by kernel_rfl) (by kernel_rfl) rfl (by decide) trivial hs.drew (.cons (⟨_, _, rfl, rfl, rfl, rfl, fun a w hR hf => .inl ⟨wanted_yes hf rfl, ex_move hf rfl⟩⟩) (.cons (⟨_, _, rfl, rfl, rfl, rfl, fun a w hR hf => .inl ⟨wanted_yes hf rfl, ex_move hf rfl⟩⟩) (.cons (⟨_, _, rfl, rfl, rfl, rfl, fun a w hR hf => .inl ⟨wanted_yes hf rfl, ex_move hf rfl⟩⟩) (.cons (⟨_, _, rfl, rfl, rfl, rfl, fun a w hR hf => .inl ⟨wanted_yes hf rfl, ex_move hf rfl⟩⟩) (.cons (⟨_, _, rfl, rfl, rfl, rfl, fun a w hR hf => .inl ⟨wanted_yes hf rfl, ex_move hf rfl⟩⟩) (.cons (⟨_, _, rfl, rfl, rfl, rfl, fun a w hR hf => .inl ⟨wanted_yes hf rfl, ex_nilCheck hf rfl⟩⟩) (.cons (⟨_, _, rfl, rfl, rfl, rfl, fun a w hR hf => .inl ⟨wanted_yes hf rfl, ex_fieldAddrB fa_69_0 rfl hf rfl⟩⟩) (.cons (⟨_, _, rfl, rfl, rfl, rfl, fun a w hR hf => .inl ⟨wanted_yes hf rfl, ex_indexAddrA ia_66 rfl hc10.1 hc10.2 hf rfl rfl⟩⟩) (.cons (⟨_, _, rfl, rfl, rfl, rfl, fun a w hR hf => .inl ⟨wanted_yes hf rfl, ex_nilCheck hf rfl⟩⟩) (.cons (⟨_, _, rfl, rfl, rfl, rfl, fun a w hR hf => .inl ⟨wanted_yes hf rfl, ex_fieldAddrB fa_69_1 rfl hf rfl⟩⟩) (.nil))))))))))) (fun K11 hK11 => ?_)
      refine RW.one 8 (by kernel_rfl) (by kernel_rfl) rfl (fun d hd => by cases hd) [(20, .pointer (some ⟨b0, 0 + a1.toNat, none⟩))] ⟨rfl, trivial⟩ (fun a w hR hs hf => ⟨wanted_yes hf rfl, ?_⟩)
      refine estep_s (er_storeS (f := Value.bool) (xs := a0_Has) (u := true) (i := 0) hs (.c .nil) hf rfl rfl rfl sz_4 rfl rfl hc10.1 hc10.2) (fun w hs => ?_)
      refine ⟨[(11, .pointer (some ⟨b0, 32 + a1.toNat, none⟩))], [(11, .pointer (some ⟨b0, 32 + a1.toNat, none⟩)), (8, undef), (0, .pointer (some ⟨b0, 0, none⟩)), (1, .int .i64 a1), (2, .pointer (some ⟨b0, 0, none⟩)), (3, .int .i64 a1), (4, .int .u64 a2), (5, .pointer (some ⟨b0, 0, none⟩)), (6, .pointer (some ⟨b0, 0, none⟩)), (7, .pointer (some ⟨b0, 0 + a1.toNat, none⟩)), (9, .pointer (some ⟨b0, 0, none⟩)), (10, .pointer (some ⟨b0, 32, none⟩))], [12], (fun _ => True), (fun w => St M w0 w [bxs b0 69 [(List.map Value.bool (a0_Has.set a1.toNat true), 32), (List.map (Value.int .u64) a0_Value, 32)]]), rfl, rfl, trivial, trivial, hs, (by kernel_rfl), .cons (⟨_, _, rfl, rfl, rfl, rfl, fun a w hR hf => .inl ⟨wanted_yes hf rfl, ex_indexAddrA ia_67 rfl hc10.1 hc10.2 hf rfl rfl⟩⟩) (.nil), ?_⟩
      refine RW.one 12 (by kernel_rfl) (by kernel_rfl) rfl (fun d hd => by cases hd) [(17, .int .u64 a2), (23, .pointer (some ⟨b0, 32 + a1.toNat, none⟩))] ⟨rfl, rfl, trivial⟩ (fun a w hR hs hf => ⟨wanted_yes hf rfl, ?_⟩)
      refine estep_s (er_storeS (f := (Value.int .u64)) (xs := a0_Value) (u := a2) (i := 1) hs (.c .nil) hf rfl rfl rfl sz_23 rfl rfl hc10.1 hc10.2) (fun w hs => ?_)
      refine ⟨[], [(12, undef), (11, .pointer (some ⟨b0, 32 + a1.toNat, none⟩)), (8, undef), (0, .pointer (some ⟨b0, 0, none⟩)), (1, .int .i64 a1), (2, .pointer (some ⟨b0, 0, none⟩)), (3, .int .i64 a1), (4, .int .u64 a2), (5, .pointer (some ⟨b0, 0, none⟩)), (6, .pointer (some ⟨b0, 0, none⟩)), (7, .pointer (some ⟨b0, 0 + a1.toNat, none⟩)), (9, .pointer (some ⟨b0, 0, none⟩)), (10, .pointer (some ⟨b0, 32, none⟩))], [], (fun _ => True), (fun w => St M w0 w [bxs b0 69 [(List.map Value.bool (a0_Has.set a1.toNat true), 32), (List.map (Value.int .u64) (a0_Value.set a1.toNat a2), 32)]]), rfl, rfl, ⟨trivial, trivial⟩, trivial, hs, (by kernel_rfl), .nil, ?_⟩
      refine RW.zero (by kernel_rfl) (by kernel_rfl) [] trivial (fun a w hR hs hf => ?_)
      refine hK11 _ _ ?_
      refine hN9 _ _ ?_
      refine seq_reg (fun K12 hK12 => ?_)
      refine stq hf rfl rfl rfl (ex_assign hf rfl) (fun a hf => ?_)
      refine hK12 _ _ ?_
      refine wp_ret ?_
      have eR := some_eq H; subst eR
      exact ret1 Try.results28 hf rfl ⟨_, rfl, ⟨rfl, hs⟩⟩

set_option maxRecDepth 100000 in
theorem ref37_Limits_Limit.calls {M : Nat → Prop} {w0 : World} (k : Nat) (a0_Has : (List Bool)) (a0_Value : (List Int)) (b0 : Nat) {r : Int} (hs : St M w0 w0 []) (hr : Sr M w0 [bxs b0 69 [(List.map Value.bool a0_Has, 32), (List.map (Value.int .u64) a0_Value, 32)]])
    (h : ref37_Limits_Limit.f k a0_Has a0_Value = some r) : Calls Try.prog 29 #[.pointer (some ⟨b0, 0, none⟩)] w0 fun e w => ∃ v, e = .returned v ∧ (.int .u64 r = v ∧ St M w0 w []) := by
  have H := (ref37_Limits_Limit.f.eq_1 ..).symm.trans h
  clear h
  refine enter Try.func29 rfl Try.ntmps29 rfl (fun a hf => ?_)
  refine seq_reg (fun K1 hK1 => ?_)
  refine stq hf rfl rfl rfl (ex_assign hf rfl) (fun a hf => ?_)
  refine hK1 _ _ ?_
  refine seq_reg (fun K2 hK2 => ?_)
  refine stq hf rfl rfl rfl (ex_assign hf rfl) (fun a hf => ?_)
  refine stq hf rfl rfl rfl (ex_assign hf rfl) (fun a hf => ?_)
  refine hK2 _ _ ?_
  refine bnd H (fun x3 H3 HO3 => ?_)
  clear H
  refine seq_cut (fun a w => Fr a 37 [(3, .int .u64 x3)] ∧ St M w0 w []) (fun Q3 hJ3 hR3 hX3 => ?_) (fun a w hJ => ?_)
  · replace H := H3
    refine seq_reg (fun K4 hK4 => ?_)
    refine stq hf rfl rfl rfl (ex_assign hf rfl) (fun a hf => ?_)
    refine hK4 _ _ ?_
    refine block_k (fun Q5 hN5 hR5 hX5 hY5 => ?_)
    refine loop_k (fun n a w => ∃ (y6 : Int) (y7 : Bool) (y8 : Int), Fr a 37 [(0, .pointer (some ⟨b0, 0, none⟩)), (3, .int .u64 y6), (4, .bool y7), (5, .int .i64 y8)] ∧ St M w0 w [] ∧ ref37_Limits_Limit.l1 n a0_Has a0_Value y6 y7 y8 = some x3) k ?_ (fun n10 a w hI Q10 hL10 hR10 hX10 => ?_)
    · -- at the start
      exact ⟨1152921504606846976, false, 0, hf.sub ⟨rfl, rfl, rfl, rfl, trivial⟩, hs, H⟩
    · obtain ⟨y6, y7, y8, hf, hs, H⟩ := hI
      cases n10 with
      | zero => exact absurd H (by rw [ref37_Limits_Limit.l1.eq_1]; intro h; cases h)
      | succ k10 =>
        replace H := (ref37_Limits_Limit.l1.eq_2 ..).symm.trans H
        refine seq_n (fun Q11 hN11 hR11 hX11 => ?_)
        refine seq_reg (fun K12 hK12 => ?_)
        refine stq hf rfl rfl rfl (ex_move hf rfl) (fun a hf => ?_)
        refine stq hf rfl rfl rfl (ex_lss hf rfl rfl) (fun a hf => ?_)
        refine hK12 _ _ ?_
        refine itt H (fun hc13 H => ?_) (fun hc13 H => ?_)
        · -- y8 < 32
          replace hf := hf.castB (t := 7) rfl (dec_t hc13)
          refine cond_T hf rfl ?_
          refine wp_skip ?_
          refine hN11 _ _ ?_
          refine bnd H (fun x14 H14 HO14 => ?_)
          clear H
          refine seq_cut (fun a w => Fr a 37 [(0, .pointer (some ⟨b0, 0, none⟩)), (3, .int .u64 x14.1), (4, .bool x14.2), (5, .int .i64 y8)] ∧ St M w0 w []) (fun Q14 hJ14 hR14 hX14 => ?_) (fun a w hJ => ?_)
          · replace H := H14
            refine block_k (fun Q15 hN15 hR15 hX15 hY15 => ?_)
            refine bnd H (fun x16 H16 HO16 => ?_)
            clear H
            refine seq_cut (fun a w => Fr a 37 [(0, .pointer (some ⟨b0, 0, none⟩)), (3, .int .u64 y6), (4, .bool x16.1), (5, .int .i64 y8), (29, .bool x16.2)] ∧ St M w0 w []) (fun Q16 hJ16 hR16 hX16 => ?_) (fun a w hJ => ?_)
            · replace H := H16
              refine ck_some H (fun hc17 H => ?_)
              refine itt H (fun hc18 H => ?_) (fun hc18 H => ?_)
              · -- (gd false a0_Has y8) = true
                refine itt H (fun hc19 H => ?_) (fun hc19 H => ?_)
                · -- y7 = true
                  refine region_k (fun K20 hK20 => ?_)
                  refine stq hf rfl rfl rfl (ex_move hf rfl) (fun a hf => ?_)
                  refine stq hf rfl rfl rfl (ex_move hf rfl) (fun a hf => ?_)
                  refine stq hf rfl rfl rfl (ex_nilCheck hf rfl) (fun a hf => ?_)
                  refine stq hf rfl rfl rfl (ex_fieldAddrB fa_69_0 rfl hf rfl) (fun a hf => ?_)
                  refine stq hf rfl rfl rfl (ex_indexAddrA ia_66 rfl hc17.1 hc17.2 hf rfl rfl) (fun a hf => ?_)
                  refine stq hf rfl rfl rfl (ex_load sc_4 hf rfl (sb_cell (f := Value.bool) (xs := a0_Has) (i := 0) (z := false) (hr.now hs (i := 0) rfl) rfl rfl hc17.1 hc17.2)) (fun a hf => ?_)
                  refine stq hf rfl rfl rfl (ex_move hf rfl) (fun a hf => ?_)
                  replace hf := hf.castB (t := 15) rfl hc18
                  replace hf := hf.castB (t := 16) rfl hc18
                  refine stq hf rfl rfl rfl (ex_move hf rfl) (fun a hf => ?_)
                  refine stq hf rfl rfl rfl (ex_not hf rfl) (fun a hf => ?_)
                  refine stq hf rfl rfl rfl (ex_move hf rfl) (fun a hf => ?_)
                  replace hf := hf.castB (t := 4) rfl hc19
                  replace hf := hf.castB (t := 17) rfl hc19
                  replace hf := hf.castB (t := 18) rfl (nbool_f hc19)
                  replace hf := hf.castB (t := 19) rfl (nbool_f hc19)
                  refine stq hf rfl rfl rfl (ex_move hf rfl) (fun a hf => ?_)
                  refine stq hf rfl rfl rfl (ex_move hf rfl) (fun a hf => ?_)
                  refine stq hf rfl rfl rfl (ex_nilCheck hf rfl) (fun a hf => ?_)
                  refine stq hf rfl rfl rfl (ex_fieldAddrB fa_69_1 rfl hf rfl) (fun a hf => ?_)
                  refine stq hf rfl rfl rfl (ex_indexAddrA ia_67 rfl hc17.1 hc17.2 hf rfl rfl) (fun a hf => ?_)
                  refine stq hf rfl rfl rfl (ex_load sc_23 hf rfl (sb_cell (f := (Value.int .u64)) (xs := a0_Value) (i := 1) (z := 0) (hr.now hs (i := 0) rfl) rfl rfl hc17.1 hc17.2)) (fun a hf => ?_)
                  refine stq hf rfl rfl rfl (ex_move hf rfl) (fun a hf => ?_)
                  refine stq hf rfl rfl rfl (ex_lss hf rfl rfl) (fun a hf => ?_)
                  refine stq hf rfl rfl rfl (ex_pickF hf rfl rfl) (fun a hf => ?_)
                  refine stq hf rfl rfl rfl (ex_pickT hf rfl rfl) (fun a hf => ?_)
                  refine hK20 _ _ ?_
                  have e16 := some_eq H; subst e16
                  exact hJ16 _ _ ⟨hf.sub ⟨rfl, rfl, rfl, rfl, rfl, trivial⟩, hs⟩
                · -- not y7 = true
                  refine region_k (fun K21 hK21 => ?_)
                  refine stq hf rfl rfl rfl (ex_move hf rfl) (fun a hf => ?_)
                  refine stq hf rfl rfl rfl (ex_move hf rfl) (fun a hf => ?_)
                  refine stq hf rfl rfl rfl (ex_nilCheck hf rfl) (fun a hf => ?_)
                  refine stq hf rfl rfl rfl (ex_fieldAddrB fa_69_0 rfl hf rfl) (fun a hf => ?_)
                  refine stq hf rfl rfl rfl (ex_indexAddrA ia_66 rfl hc17.1 hc17.2 hf rfl rfl) (fun a hf => ?_)
                  refine stq hf rfl rfl rfl (ex_load sc_4 hf rfl (sb_cell (f := Value.bool) (xs := a0_Has) (i := 0) (z := false) (hr.now hs (i := 0) rfl) rfl rfl hc17.1 hc17.2)) (fun a hf => ?_)
                  refine stq hf rfl rfl rfl (ex_move hf rfl) (fun a hf => ?_)
                  replace hf := hf.castB (t := 15) rfl hc18
                  replace hf := hf.castB (t := 16) rfl hc18
                  refine stq hf rfl rfl rfl (ex_move hf rfl) (fun a hf => ?_)
                  refine stq hf rfl rfl rfl (ex_not hf rfl) (fun a hf => ?_)
                  refine stq hf rfl rfl rfl (ex_move hf rfl) (fun a hf => ?_)
                  replace hf := hf.castB (t := 4) rfl (bool_f hc19)
                  replace hf := hf.castB (t := 17) rfl (bool_f hc19)
                  replace hf := hf.castB (t := 18) rfl (nbool_t hc19)
                  replace hf := hf.castB (t := 19) rfl (nbool_t hc19)
                  refine stepN hf rfl rfl rfl (fun a hf => ?_)
                  refine stepN hf rfl rfl rfl (fun a hf => ?_)
                  refine stepN hf rfl rfl rfl (fun a hf => ?_)
                  refine stepN hf rfl rfl rfl (fun a hf => ?_)
                  refine stepN hf rfl rfl rfl (fun a hf => ?_)
                  refine stepN hf rfl rfl rfl (fun a hf => ?_)
                  refine stepN hf rfl rfl rfl (fun a hf => ?_)
                  refine stepN hf rfl rfl rfl (fun a hf => ?_)
                  refine stq hf rfl rfl rfl (ex_pickT hf rfl rfl) (fun a hf => ?_)
                  refine stq hf rfl rfl rfl (ex_pickT hf rfl rfl) (fun a hf => ?_)
                  refine hK21 _ _ ?_
                  have e16 := some_eq H; subst e16
                  exact hJ16 _ _ ⟨hf.sub ⟨rfl, rfl, rfl, rfl, rfl, trivial⟩, hs⟩
              · -- not (gd false a0_Has y8) = true
                refine region_k (fun K22 hK22 => ?_)
                refine stq hf rfl rfl rfl (ex_move hf rfl) (fun a hf => ?_)
                refine stq hf rfl rfl rfl (ex_move hf rfl) (fun a hf => ?_)
                refine stq hf rfl rfl rfl (ex_nilCheck hf rfl) (fun a hf => ?_)
                refine stq hf rfl rfl rfl (ex_fieldAddrB fa_69_0 rfl hf rfl) (fun a hf => ?_)
                refine stq hf rfl rfl rfl (ex_indexAddrA ia_66 rfl hc17.1 hc17.2 hf rfl rfl) (fun a hf => ?_)
                refine stq hf rfl rfl rfl (ex_load sc_4 hf rfl (sb_cell (f := Value.bool) (xs := a0_Has) (i := 0) (z := false) (hr.now hs (i := 0) rfl) rfl rfl hc17.1 hc17.2)) (fun a hf => ?_)
                refine stq hf rfl rfl rfl (ex_move hf rfl) (fun a hf => ?_)
                replace hf := hf.castB (t := 15) rfl (bool_f hc18)
                replace hf := hf.castB (t := 16) rfl (bool_f hc18)
                refine stepN hf rfl rfl rfl (fun a hf => ?_)
                refine stepN hf rfl rfl rfl (fun a hf => ?_)
                refine stepN hf rfl rfl rfl (fun a hf => ?_)
                refine stepN hf rfl rfl rfl (fun a hf => ?_)
                refine stepN hf rfl rfl rfl (fun a hf => ?_)
                refine stepN hf rfl rfl rfl (fun a hf => ?_)
                refine stepN hf rfl rfl rfl (fun a hf => ?_)
                refine stepN hf rfl rfl rfl (fun a hf => ?_)
                refine stepN hf rfl rfl rfl (fun a hf => ?_)
                refine stepN hf rfl rfl rfl (fun a hf => ?_)
                refine stepN hf rfl rfl rfl (fun a hf => ?_)
                refine stepN hf rfl rfl rfl (fun a hf => ?_)
                refine stq hf rfl rfl rfl (ex_pickF hf rfl rfl) (fun a hf => ?_)
                refine hK22 _ _ ?_
                have e16 := some_eq H; subst e16
                exact hJ16 _ _ ⟨hf.sub ⟨rfl, rfl, rfl, rfl, rfl, trivial⟩, hs⟩
            · obtain ⟨hf, hs⟩ := hJ
              replace H := HO16
              clear HO16
              refine itt H (fun hc23 H => ?_) (fun hc23 H => ?_)
              · -- x16.2 = true
                replace hf := hf.castB (t := 29) rfl hc23
                refine cond_T hf rfl ?_
                refine ck_some H (fun hc24 H => ?_)
                refine region_k (fun K25 hK25 => ?_)
                refine stq hf rfl rfl rfl (ex_move hf rfl) (fun a hf => ?_)
                refine stq hf rfl rfl rfl (ex_move hf rfl) (fun a hf => ?_)
                refine stq hf rfl rfl rfl (ex_nilCheck hf rfl) (fun a hf => ?_)
                refine stq hf rfl rfl rfl (ex_fieldAddrB fa_69_1 rfl hf rfl) (fun a hf => ?_)
                refine stq hf rfl rfl rfl (ex_indexAddrA ia_67 rfl hc24.1 hc24.2 hf rfl rfl) (fun a hf => ?_)
                refine stq hf rfl rfl rfl (ex_load sc_23 hf rfl (sb_cell (f := (Value.int .u64)) (xs := a0_Value) (i := 1) (z := 0) (hr.now hs (i := 0) rfl) rfl rfl hc24.1 hc24.2)) (fun a hf => ?_)
                refine stq hf rfl rfl rfl (ex_assign hf rfl) (fun a hf => ?_)
                refine stq hf rfl rfl rfl (ex_assign hf rfl) (fun a hf => ?_)
                refine hK25 _ _ ?_
                refine hN15 _ _ ?_
                have e14 := some_eq H; subst e14
                exact hJ14 _ _ ⟨hf.sub ⟨rfl, rfl, rfl, rfl, trivial⟩, hs⟩
              · -- not x16.2 = true
                replace hf := hf.castB (t := 29) rfl (bool_f hc23)
                refine cond_F hf rfl ?_
                refine wp_skip ?_
                refine hN15 _ _ ?_
                have e14 := some_eq H; subst e14
                exact hJ14 _ _ ⟨hf.sub ⟨rfl, rfl, rfl, rfl, trivial⟩, hs⟩
          · obtain ⟨hf, hs⟩ := hJ
            replace H := HO14
            clear HO14
            refine region_k (fun K26 hK26 => ?_)
            refine stq hf rfl rfl rfl (ex_move hf rfl) (fun a hf => ?_)
            refine stq hf rfl rfl rfl (ex_add hf rfl rfl) (fun a hf => ?_)
            refine stq hf rfl rfl rfl (ex_assign hf rfl) (fun a hf => ?_)
            refine hK26 _ _ ?_
            exact hL10 k10 _ _ (Nat.lt_succ_self _) ⟨x14.1, x14.2, (IntKind.i64.wrap (y8 + 1)), hf.sub ⟨rfl, rfl, rfl, rfl, trivial⟩, hs, H⟩
        · -- not y8 < 32
          replace hf := hf.castB (t := 7) rfl (dec_f hc13)
          refine cond_F hf rfl ?_
          refine wp_exit ?_
          refine hX11 0 _ _ ?_
          refine hX10 0 _ _ ?_
          refine hX5 _ _ ?_
          have e3 := some_eq H; subst e3
          exact hJ3 _ _ ⟨hf.sub ⟨rfl, trivial⟩, hs⟩
  · obtain ⟨hf, hs⟩ := hJ
    replace H := HO3
    clear HO3
    refine seq_reg (fun K27 hK27 => ?_)
    refine stq hf rfl rfl rfl (ex_move hf rfl) (fun a hf => ?_)
    refine stq hf rfl rfl rfl (ex_assign hf rfl) (fun a hf => ?_)
    refine hK27 _ _ ?_
    refine wp_ret ?_
    have eR := some_eq H; subst eR
    exact ret1 Try.results29 hf rfl ⟨_, rfl, ⟨rfl, hs⟩⟩

end Go.Proofs.Ytmjfdknjloidoaa.X
