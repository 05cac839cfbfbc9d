/- Each function of the machine comes to what its pure function says. -/
import Derived.Test.YthemeobgfgmblaaFc1
import Derived.Test.YthemeobgfgmblaaFc2
import Derived.Test.YthemeobgfgmblaaFb
namespace Go.Proofs.Ythemeobgfgmblaa.X
open Go Go.RowKit Go.Sx
set_option linter.unusedVariables false

set_option maxRecDepth 100000 in
theorem ref36_Safe.calls {M : Nat → Prop} {w0 : World} (k : Nat) (a0 : (List OperatingPoint)) (a1 : Int) (a2 : (List PerfOp)) (v0 : Value) (v2 : Value) {r : Bool} (hs : St M w0 w0 []) (hr : Sr M w0 [rsl K_api_OperatingPoint v0 a0, rsl K_api_PerfOp v2 a2])
    (h : ref36_Safe.f k a0 a1 a2 = some r) : Calls Try.prog 23 #[v0, .int .i64 a1, v2] w0 fun e w => ∃ v, e = .returned v ∧ (.bool r = v ∧ St M w0 w []) := by
  have H := (ref36_Safe.f.eq_1 ..).symm.trans h
  clear h
  refine enter Try.func23 rfl Try.ntmps23 rfl (fun a hf => ?_)
  refine seq_reg (fun K1 hK1 => ?_)
  refine stq hf rfl rfl rfl (ex_assign hf rfl) (fun a hf => ?_)
  refine hK1 _ _ ?_
  refine seq_n (fun Q2 hN2 hR2 hX2 => ?_)
  refine bnd H (fun x3 H3 HO3 => ?_)
  clear H
  refine seq_cut (fun a w => Fr a 83 [(0, v0), (1, .int .i64 a1), (2, v2), (24, .bool x3)] ∧ St M w0 w []) (fun Q3 hJ3 hR3 hX3 => ?_) (fun a w hJ => ?_)
  · replace H := H3
    refine bnd H (fun s4 hs4 H => ?_)
    refine itt H (fun hc5 H => ?_) (fun hc5 H => ?_)
    · -- s4 = 0
      refine itt H (fun hc6 H => ?_) (fun hc6 H => ?_)
      · -- a1 < 0
        refine region_k (fun K7 hK7 => ?_)
        refine stq hf rfl rfl rfl (ex_move hf rfl) (fun a hf => ?_)
        refine stepF hf rfl rfl rfl (ex_call cf_18 hf rfl) (ref36_Check.calls k a0 v0 (hs.enter .nil) (Sr.old hr hs .nil (i := 0) rfl (fun _ h => h) (fun _ h => h) (Sr.nil _ _)) hs4) (fun v w hR a hf => ?_)
        obtain ⟨rfl, hs'⟩ := hR
        replace hs := hs.step .nil hs'
        clear hs'
        refine stq hf rfl rfl rfl (ex_neq hf rfl rfl) (fun a hf => ?_)
        refine stq hf rfl rfl rfl (ex_move hf rfl) (fun a hf => ?_)
        replace hf := hf.castB (t := 14) rfl (ndec_f hc5)
        replace hf := hf.castB (t := 15) rfl (ndec_f hc5)
        refine stq hf rfl rfl rfl (ex_move hf rfl) (fun a hf => ?_)
        refine stq hf rfl rfl rfl (ex_lss hf rfl rfl) (fun a hf => ?_)
        refine stq hf rfl rfl rfl (ex_pickF hf rfl rfl) (fun a hf => ?_)
        refine stq hf rfl rfl rfl (ex_move hf rfl) (fun a hf => ?_)
        replace hf := hf.castB (t := 17) rfl (dec_t hc6)
        replace hf := hf.castB (t := 18) rfl (dec_t hc6)
        replace hf := hf.castB (t := 19) rfl (dec_t hc6)
        refine stepN hf rfl rfl rfl (fun a hf => ?_)
        refine stepN hf rfl rfl rfl (fun a hf => ?_)
        refine stepN hf rfl rfl rfl (fun a hf => ?_)
        refine stepN hf rfl rfl rfl (fun a hf => ?_)
        refine stq hf rfl rfl rfl (ex_pickT hf rfl rfl) (fun a hf => ?_)
        refine hK7 _ _ ?_
        have e3 := some_eq H; subst e3
        exact hJ3 _ _ ⟨hf.sub ⟨rfl, rfl, rfl, rfl, trivial⟩, hs⟩
      · -- not a1 < 0
        refine region_k (fun K8 hK8 => ?_)
        refine stq hf rfl rfl rfl (ex_move hf rfl) (fun a hf => ?_)
        refine stepF hf rfl rfl rfl (ex_call cf_18 hf rfl) (ref36_Check.calls k a0 v0 (hs.enter .nil) (Sr.old hr hs .nil (i := 0) rfl (fun _ h => h) (fun _ h => h) (Sr.nil _ _)) hs4) (fun v w hR a hf => ?_)
        obtain ⟨rfl, hs'⟩ := hR
        replace hs := hs.step .nil hs'
        clear hs'
        refine stq hf rfl rfl rfl (ex_neq hf rfl rfl) (fun a hf => ?_)
        refine stq hf rfl rfl rfl (ex_move hf rfl) (fun a hf => ?_)
        replace hf := hf.castB (t := 14) rfl (ndec_f hc5)
        replace hf := hf.castB (t := 15) rfl (ndec_f hc5)
        refine stq hf rfl rfl rfl (ex_move hf rfl) (fun a hf => ?_)
        refine stq hf rfl rfl rfl (ex_lss hf rfl rfl) (fun a hf => ?_)
        refine stq hf rfl rfl rfl (ex_pickF hf rfl rfl) (fun a hf => ?_)
        refine stq hf rfl rfl rfl (ex_move hf rfl) (fun a hf => ?_)
        replace hf := hf.castB (t := 17) rfl (dec_f hc6)
        replace hf := hf.castB (t := 18) rfl (dec_f hc6)
        replace hf := hf.castB (t := 19) rfl (dec_f hc6)
        refine stq hf rfl rfl rfl (ex_move hf rfl) (fun a hf => ?_)
        refine stq hf rfl rfl rfl (ex_move hf rfl) (fun a hf => ?_)
        refine stq hf rfl rfl rfl (ex_lenS Try.underlying22 (rsl_isSl (hr.now hs (i := 0) rfl)) hf rfl) (fun a hf => ?_)
        refine stq hf rfl rfl rfl (ex_geq hf rfl rfl) (fun a hf => ?_)
        refine stq hf rfl rfl rfl (ex_pickF hf rfl rfl) (fun a hf => ?_)
        refine hK8 _ _ ?_
        have e3 := some_eq H; subst e3
        exact hJ3 _ _ ⟨hf.sub ⟨rfl, rfl, rfl, rfl, trivial⟩, hs⟩
    · -- not s4 = 0
      refine region_k (fun K9 hK9 => ?_)
      refine stq hf rfl rfl rfl (ex_move hf rfl) (fun a hf => ?_)
      refine stepF hf rfl rfl rfl (ex_call cf_18 hf rfl) (ref36_Check.calls k a0 v0 (hs.enter .nil) (Sr.old hr hs .nil (i := 0) rfl (fun _ h => h) (fun _ h => h) (Sr.nil _ _)) hs4) (fun v w hR a hf => ?_)
      obtain ⟨rfl, hs'⟩ := hR
      replace hs := hs.step .nil hs'
      clear hs'
      refine stq hf rfl rfl rfl (ex_neq hf rfl rfl) (fun a hf => ?_)
      refine stq hf rfl rfl rfl (ex_move hf rfl) (fun a hf => ?_)
      replace hf := hf.castB (t := 14) rfl (ndec_t hc5)
      replace hf := hf.castB (t := 15) rfl (ndec_t hc5)
      refine stepN hf rfl rfl rfl (fun a hf => ?_)
      refine stepN hf rfl rfl rfl (fun a hf => ?_)
      refine stq hf rfl rfl rfl (ex_pickT hf rfl rfl) (fun a hf => ?_)
      refine stq hf rfl rfl rfl (ex_move hf rfl) (fun a hf => ?_)
      refine stepN hf rfl rfl rfl (fun a hf => ?_)
      refine stepN hf rfl rfl rfl (fun a hf => ?_)
      refine stepN hf rfl rfl rfl (fun a hf => ?_)
      refine stepN hf rfl rfl rfl (fun a hf => ?_)
      refine stq hf rfl rfl rfl (ex_pickT hf rfl rfl) (fun a hf => ?_)
      refine hK9 _ _ ?_
      have e3 := some_eq H; subst e3
      exact hJ3 _ _ ⟨hf.sub ⟨rfl, rfl, rfl, rfl, trivial⟩, hs⟩
  · obtain ⟨hf, hs⟩ := hJ
    replace H := HO3
    clear HO3
    refine itt H (fun hc10 H => ?_) (fun hc10 H => ?_)
    · -- x3 = true
      replace hf := hf.castB (t := 24) rfl hc10
      refine cond_T hf rfl ?_
      refine seq_reg (fun K11 hK11 => ?_)
      refine stq hf rfl rfl rfl (ex_assign hf rfl) (fun a hf => ?_)
      refine hK11 _ _ ?_
      refine wp_ret ?_
      refine hR2 _ _ ?_
      have eR := some_eq H; subst eR
      exact ret1 Try.results23 hf rfl ⟨_, rfl, ⟨rfl, hs⟩⟩
    · -- not x3 = true
      replace hf := hf.castB (t := 24) rfl (bool_f hc10)
      refine cond_F hf rfl ?_
      refine wp_skip ?_
      refine hN2 _ _ ?_
      refine seq_n (fun Q12 hN12 hR12 hX12 => ?_)
      refine ck_some H (fun hc13 H => ?_)
      refine region_d fol 11 [(0, v0), (1, .int .i64 a1), (2, v2)] [(0, v0), (1, .int .i64 a1), (2, .pointer (some (sla v0 (a1.toNat * 3)))), (3, .pointer (some (sla v0 (a1.toNat * 3 + 0)))), (4, .int .u64 ((gd OperatingPoint.zero a0 a1).Frequency)), (5, v0), (6, .int .i64 a1), (7, .pointer (some (sla v0 (a1.toNat * 3)))), (8, .pointer (some (sla v0 (a1.toNat * 3 + 1)))), (9, .int .u64 ((gd OperatingPoint.zero a0 a1).Voltage)), (10, .int .u64 ((gd OperatingPoint.zero a0 a1).Frequency))] [] (fun w => (rsl K_api_OperatingPoint v0 a0).ok w ∧ True) (fun w => St M w0 w []) hf ⟨rfl, rfl, rfl, trivial⟩ (by kernel_rfl) (by kernel_rfl) rfl (by decide) ⟨hr.now hs.drew (i := 0) rfl, trivial⟩ hs.drew (.cons (⟨_, _, rfl, rfl, rfl, rfl, fun a w hR hf => .inl ⟨wanted_yes hf rfl, ex_move hf rfl⟩⟩) (.cons (⟨_, _, rfl, rfl, rfl, rfl, fun a w hR hf => .inl ⟨wanted_yes hf rfl, ex_move hf rfl⟩⟩) (.cons (⟨_, _, rfl, rfl, rfl, rfl, fun a w hR hf => .inl ⟨wanted_yes hf rfl, ex_indexAddr sa_22 (rsl_isSl hR.1) hc13.1 hc13.2 hf rfl rfl⟩⟩) (.cons (⟨_, _, rfl, rfl, rfl, rfl, fun a w hR hf => .inl ⟨wanted_yes hf rfl, ex_fieldAddrS fa_25_0 rfl hf rfl⟩⟩) (.cons (⟨_, _, rfl, rfl, rfl, rfl, fun a w hR hf => .inl ⟨wanted_yes hf rfl, ex_load sc_23 hf rfl (el_cell (K := K_api_OperatingPoint) (f := 0) (rsl_rd hR.1) hc13.1 hc13.2 rfl)⟩⟩) (.cons (⟨_, _, rfl, rfl, rfl, rfl, fun a w hR hf => .inl ⟨wanted_yes hf rfl, ex_move hf rfl⟩⟩) (.cons (⟨_, _, rfl, rfl, rfl, rfl, fun a w hR hf => .inl ⟨wanted_yes hf rfl, ex_move hf rfl⟩⟩) (.cons (⟨_, _, rfl, rfl, rfl, rfl, fun a w hR hf => .inl ⟨wanted_yes hf rfl, ex_indexAddr sa_22 (rsl_isSl hR.1) hc13.1 hc13.2 hf rfl rfl⟩⟩) (.cons (⟨_, _, rfl, rfl, rfl, rfl, fun a w hR hf => .inl ⟨wanted_yes hf rfl, ex_fieldAddrS fa_25_1 rfl hf rfl⟩⟩) (.cons (⟨_, _, rfl, rfl, rfl, rfl, fun a w hR hf => .inl ⟨wanted_yes hf rfl, ex_load sc_23 hf rfl (el_cell (K := K_api_OperatingPoint) (f := 1) (rsl_rd hR.1) hc13.1 hc13.2 rfl)⟩⟩) (.cons (⟨_, _, rfl, rfl, rfl, rfl, fun a w hR hf => .inl ⟨wanted_yes hf rfl, ex_assign hf rfl⟩⟩) (.nil)))))))))))) (fun K14 hK14 => ?_)
      refine RW.zero (by kernel_rfl) (by kernel_rfl) [(0, v0), (2, v2), (7, .int .u64 ((gd OperatingPoint.zero a0 a1).Frequency)), (34, .int .u64 ((gd OperatingPoint.zero a0 a1).Voltage))] ⟨rfl, rfl, rfl, rfl, trivial⟩ (fun a w hR hs hf => ?_)
      refine stq hf rfl rfl rfl (ex_assign hf rfl) (fun a hf => ?_)
      refine hK14 _ _ ?_
      refine hN12 _ _ ?_
      refine bnd H (fun x15 H15 HO15 => ?_)
      clear H
      refine seq_cut (fun a w => ∃ (x15s : Unit), x15 = .go x15s ∧ Fr a 83 [] ∧ St M w0 w []) (fun Q15 hJ15 hR15 hX15 => ?_) (fun a w hJ => ?_)
      · replace H := H15
        refine seq_reg (fun K16 hK16 => ?_)
        refine stq hf rfl rfl rfl (ex_assign hf rfl) (fun a hf => ?_)
        refine hK16 _ _ ?_
        refine block_k (fun Q17 hN17 hR17 hX17 hY17 => ?_)
        refine loop_k (fun n a w => ∃ (y18 : Int) (y19 : Int) (y20 : Int), Fr a 83 [(0, v0), (2, v2), (7, .int .u64 y18), (8, .int .u64 y19), (9, .int .i64 y20)] ∧ St M w0 w [] ∧ ref36_Safe.l1 n a2 a0 y18 y19 y20 = some x15) k ?_ (fun n22 a w hI Q22 hL22 hR22 hX22 => ?_)
        · -- at the start
          exact ⟨((gd OperatingPoint.zero a0 a1).Frequency), ((gd OperatingPoint.zero a0 a1).Voltage), 0, hf.sub ⟨rfl, rfl, rfl, rfl, rfl, trivial⟩, hs, H⟩
        · obtain ⟨y18, y19, y20, hf, hs, H⟩ := hI
          cases n22 with
          | zero => exact absurd H (by rw [ref36_Safe.l1.eq_1]; intro h; cases h)
          | succ k22 =>
            replace H := (ref36_Safe.l1.eq_2 ..).symm.trans H
            refine seq_n (fun Q23 hN23 hR23 hX23 => ?_)
            refine seq_reg (fun K24 hK24 => ?_)
            refine stq hf rfl rfl rfl (ex_move hf rfl) (fun a hf => ?_)
            refine stq hf rfl rfl rfl (ex_move hf rfl) (fun a hf => ?_)
            refine stq hf rfl rfl rfl (ex_lenS Try.underlying35 (rsl_isSl (hr.now hs (i := 1) rfl)) hf rfl) (fun a hf => ?_)
            refine stq hf rfl rfl rfl (ex_lss hf rfl rfl) (fun a hf => ?_)
            refine hK24 _ _ ?_
            refine itt H (fun hc25 H => ?_) (fun hc25 H => ?_)
            · -- y20 < (a2.length : Int)
              replace hf := hf.castB (t := 38) rfl (dec_t hc25)
              refine cond_T hf rfl ?_
              refine wp_skip ?_
              refine hN23 _ _ ?_
              refine bnd H (fun x26 H26 HO26 => ?_)
              clear H
              refine seq_cut (fun a w => ∃ (x26s : Int × Int), x26 = .go x26s ∧ Fr a 83 [(0, v0), (2, v2), (7, .int .u64 x26s.1), (8, .int .u64 x26s.2), (9, .int .i64 y20)] ∧ St M w0 w []) (fun Q26 hJ26 hR26 hX26 => ?_) (fun a w hJ => ?_)
              · replace H := H26
                refine block_k (fun Q27 hN27 hR27 hX27 hY27 => ?_)
                refine bnd H (fun x28 H28 HO28 => ?_)
                clear H
                refine seq_cut (fun a w => Fr a 83 [(0, v0), (2, v2), (7, .int .u64 x28.1), (8, .int .u64 x28.2), (9, .int .i64 y20)] ∧ St M w0 w []) (fun Q28 hJ28 hR28 hX28 => ?_) (fun a w hJ => ?_)
                · replace H := H28
                  refine ck_some H (fun hc29 H => ?_)
                  refine seq_reg (fun K30 hK30 => ?_)
                  refine stq hf rfl rfl rfl (ex_move hf rfl) (fun a hf => ?_)
                  refine stq hf rfl rfl rfl (ex_move hf rfl) (fun a hf => ?_)
                  refine stq hf rfl rfl rfl (ex_indexAddr sa_35 (rsl_isSl (hr.now hs (i := 1) rfl)) hc29.1 hc29.2 hf rfl rfl) (fun a hf => ?_)
                  refine stq hf rfl rfl rfl (ex_fieldAddrS fa_40_0 rfl hf rfl) (fun a hf => ?_)
                  refine stq hf rfl rfl rfl (ex_load sc_4 hf rfl (el_cell (K := K_api_PerfOp) (f := 0) (rsl_rd (hr.now hs (i := 1) rfl)) hc29.1 hc29.2 rfl)) (fun a hf => ?_)
                  refine hK30 _ _ ?_
                  refine itt H (fun hc31 H => ?_) (fun hc31 H => ?_)
                  · -- ((gd PerfOp.zero a2 y20).Voltage) = true
                    replace hf := hf.castB (t := 45) rfl hc31
                    refine cond_T hf rfl ?_
                    refine region_k (fun K32 hK32 => ?_)
                    refine stq hf rfl rfl rfl (ex_move hf rfl) (fun a hf => ?_)
                    refine stq hf rfl rfl rfl (ex_move hf rfl) (fun a hf => ?_)
                    refine stq hf rfl rfl rfl (ex_indexAddr sa_35 (rsl_isSl (hr.now hs (i := 1) rfl)) hc29.1 hc29.2 hf rfl rfl) (fun a hf => ?_)
                    refine stq hf rfl rfl rfl (ex_fieldAddrS fa_40_1 rfl hf rfl) (fun a hf => ?_)
                    refine stq hf rfl rfl rfl (ex_load sc_23 hf rfl (el_cell (K := K_api_PerfOp) (f := 1) (rsl_rd (hr.now hs (i := 1) rfl)) hc29.1 hc29.2 rfl)) (fun a hf => ?_)
                    refine stq hf rfl rfl rfl (ex_assign hf rfl) (fun a hf => ?_)
                    refine hK32 _ _ ?_
                    have e28 := some_eq H; subst e28
                    exact hJ28 _ _ ⟨hf.sub ⟨rfl, rfl, rfl, rfl, rfl, trivial⟩, hs⟩
                  · -- not ((gd PerfOp.zero a2 y20).Voltage) = true
                    replace hf := hf.castB (t := 45) rfl (bool_f hc31)
                    refine cond_F hf rfl ?_
                    refine region_k (fun K33 hK33 => ?_)
                    refine stq hf rfl rfl rfl (ex_move hf rfl) (fun a hf => ?_)
                    refine stq hf rfl rfl rfl (ex_move hf rfl) (fun a hf => ?_)
                    refine stq hf rfl rfl rfl (ex_indexAddr sa_35 (rsl_isSl (hr.now hs (i := 1) rfl)) hc29.1 hc29.2 hf rfl rfl) (fun a hf => ?_)
                    refine stq hf rfl rfl rfl (ex_fieldAddrS fa_40_1 rfl hf rfl) (fun a hf => ?_)
                    refine stq hf rfl rfl rfl (ex_load sc_23 hf rfl (el_cell (K := K_api_PerfOp) (f := 1) (rsl_rd (hr.now hs (i := 1) rfl)) hc29.1 hc29.2 rfl)) (fun a hf => ?_)
                    refine stq hf rfl rfl rfl (ex_assign hf rfl) (fun a hf => ?_)
                    refine hK33 _ _ ?_
                    have e28 := some_eq H; subst e28
                    exact hJ28 _ _ ⟨hf.sub ⟨rfl, rfl, rfl, rfl, rfl, trivial⟩, hs⟩
                · obtain ⟨hf, hs⟩ := hJ
                  replace H := HO28
                  clear HO28
                  refine seq_reg (fun K34 hK34 => ?_)
                  refine stq hf rfl rfl rfl (ex_assign hf rfl) (fun a hf => ?_)
                  refine hK34 _ _ ?_
                  refine bnd H (fun x35 H35 HO35 => ?_)
                  clear H
                  refine seq_cut (fun a w => Fr a 83 [(0, v0), (2, v2), (7, .int .u64 x28.1), (8, .int .u64 x28.2), (9, .int .i64 y20), (10, .bool x35)] ∧ St M w0 w []) (fun Q35 hJ35 hR35 hX35 => ?_) (fun a w hJ => ?_)
                  · replace H := H35
                    refine seq_reg (fun K36 hK36 => ?_)
                    refine stq hf rfl rfl rfl (ex_assign hf rfl) (fun a hf => ?_)
                    refine hK36 _ _ ?_
                    refine block_k (fun Q37 hN37 hR37 hX37 hY37 => ?_)
                    refine loop_k (fun n a w => ∃ (y38 : Bool) (y39 : Int), Fr a 83 [(0, v0), (2, v2), (7, .int .u64 x28.1), (8, .int .u64 x28.2), (9, .int .i64 y20), (10, .bool y38), (11, .int .i64 y39)] ∧ St M w0 w [] ∧ ref36_Safe.l2 n a0 x28 y38 y39 = some x35) k22 ?_ (fun n41 a w hI Q41 hL41 hR41 hX41 => ?_)
                    · -- at the start
                      exact ⟨false, 0, hf.sub ⟨rfl, rfl, rfl, rfl, rfl, rfl, rfl, trivial⟩, hs, H⟩
                    · obtain ⟨y38, y39, hf, hs, H⟩ := hI
                      cases n41 with
                      | zero => exact absurd H (by rw [ref36_Safe.l2.eq_1]; intro h; cases h)
                      | succ k41 =>
                        replace H := (ref36_Safe.l2.eq_2 ..).symm.trans H
                        refine seq_n (fun Q42 hN42 hR42 hX42 => ?_)
                        refine seq_reg (fun K43 hK43 => ?_)
                        refine stq hf rfl rfl rfl (ex_move hf rfl) (fun a hf => ?_)
                        refine stq hf rfl rfl rfl (ex_move hf rfl) (fun a hf => ?_)
                        refine stq hf rfl rfl rfl (ex_lenS Try.underlying22 (rsl_isSl (hr.now hs (i := 0) rfl)) hf rfl) (fun a hf => ?_)
                        refine stq hf rfl rfl rfl (ex_lss hf rfl rfl) (fun a hf => ?_)
                        refine hK43 _ _ ?_
                        refine itt H (fun hc44 H => ?_) (fun hc44 H => ?_)
                        · -- y39 < (a0.length : Int)
                          replace hf := hf.castB (t := 59) rfl (dec_t hc44)
                          refine cond_T hf rfl ?_
                          refine wp_skip ?_
                          refine hN42 _ _ ?_
                          refine bnd H (fun x45 H45 HO45 => ?_)
                          clear H
                          refine seq_cut (fun a w => Fr a 83 [(0, v0), (2, v2), (7, .int .u64 x28.1), (8, .int .u64 x28.2), (9, .int .i64 y20), (10, .bool x45), (11, .int .i64 y39)] ∧ St M w0 w []) (fun Q45 hJ45 hR45 hX45 => ?_) (fun a w hJ => ?_)
                          · replace H := H45
                            refine block_k (fun Q46 hN46 hR46 hX46 hY46 => ?_)
                            refine itt H (fun hc47 H => ?_) (fun hc47 H => ?_)
                            · -- y38 = true
                              refine region_k (fun K48 hK48 => ?_)
                              refine stq hf rfl rfl rfl (ex_move hf rfl) (fun a hf => ?_)
                              refine stq hf rfl rfl rfl (ex_move hf rfl) (fun a hf => ?_)
                              replace hf := hf.castB (t := 10) rfl hc47
                              replace hf := hf.castB (t := 62) rfl hc47
                              replace hf := hf.castB (t := 63) rfl hc47
                              refine stepN hf rfl rfl rfl (fun a hf => ?_)
                              refine stepN hf rfl rfl rfl (fun a hf => ?_)
                              refine stepN hf rfl rfl rfl (fun a hf => ?_)
                              refine stepN hf rfl rfl rfl (fun a hf => ?_)
                              refine stepN hf rfl rfl rfl (fun a hf => ?_)
                              refine stepN hf rfl rfl rfl (fun a hf => ?_)
                              refine stepN hf rfl rfl rfl (fun a hf => ?_)
                              refine stepN hf rfl rfl rfl (fun a hf => ?_)
                              refine stepN hf rfl rfl rfl (fun a hf => ?_)
                              refine stepN hf rfl rfl rfl (fun a hf => ?_)
                              refine stepN hf rfl rfl rfl (fun a hf => ?_)
                              refine stepN hf rfl rfl rfl (fun a hf => ?_)
                              refine stepN hf rfl rfl rfl (fun a hf => ?_)
                              refine stepN hf rfl rfl rfl (fun a hf => ?_)
                              refine stepN hf rfl rfl rfl (fun a hf => ?_)
                              refine stepN hf rfl rfl rfl (fun a hf => ?_)
                              refine stq hf rfl rfl rfl (ex_pickT hf rfl rfl) (fun a hf => ?_)
                              refine stq hf rfl rfl rfl (ex_assign hf rfl) (fun a hf => ?_)
                              refine hK48 _ _ ?_
                              refine hN46 _ _ ?_
                              have e45 := some_eq H; subst e45
                              exact hJ45 _ _ ⟨hf.sub ⟨rfl, rfl, rfl, rfl, rfl, rfl, rfl, trivial⟩, hs⟩
                            · -- not y38 = true
                              refine ck_some H (fun hc49 H => ?_)
                              refine itt H (fun hc50 H => ?_) (fun hc50 H => ?_)
                              · -- ((gd OperatingPoint.zero a0 y39).Frequency) = x28.1
                                refine region_k (fun K51 hK51 => ?_)
                                refine stq hf rfl rfl rfl (ex_move hf rfl) (fun a hf => ?_)
                                refine stq hf rfl rfl rfl (ex_move hf rfl) (fun a hf => ?_)
                                replace hf := hf.castB (t := 10) rfl (bool_f hc47)
                                replace hf := hf.castB (t := 62) rfl (bool_f hc47)
                                replace hf := hf.castB (t := 63) rfl (bool_f hc47)
                                refine stq hf rfl rfl rfl (ex_move hf rfl) (fun a hf => ?_)
                                refine stq hf rfl rfl rfl (ex_move hf rfl) (fun a hf => ?_)
                                refine stq hf rfl rfl rfl (ex_indexAddr sa_22 (rsl_isSl (hr.now hs (i := 0) rfl)) hc49.1 hc49.2 hf rfl rfl) (fun a hf => ?_)
                                refine stq hf rfl rfl rfl (ex_fieldAddrS fa_25_0 rfl hf rfl) (fun a hf => ?_)
                                refine stq hf rfl rfl rfl (ex_load sc_23 hf rfl (el_cell (K := K_api_OperatingPoint) (f := 0) (rsl_rd (hr.now hs (i := 0) rfl)) hc49.1 hc49.2 rfl)) (fun a hf => ?_)
                                refine stq hf rfl rfl rfl (ex_move hf rfl) (fun a hf => ?_)
                                refine stq hf rfl rfl rfl (ex_eql hf rfl rfl) (fun a hf => ?_)
                                refine stq hf rfl rfl rfl (ex_move hf rfl) (fun a hf => ?_)
                                replace hf := hf.castB (t := 70) rfl (dec_t hc50)
                                replace hf := hf.castB (t := 71) rfl (dec_t hc50)
                                refine stq hf rfl rfl rfl (ex_move hf rfl) (fun a hf => ?_)
                                refine stq hf rfl rfl rfl (ex_move hf rfl) (fun a hf => ?_)
                                refine stq hf rfl rfl rfl (ex_indexAddr sa_22 (rsl_isSl (hr.now hs (i := 0) rfl)) hc49.1 hc49.2 hf rfl rfl) (fun a hf => ?_)
                                refine stq hf rfl rfl rfl (ex_fieldAddrS fa_25_1 rfl hf rfl) (fun a hf => ?_)
                                refine stq hf rfl rfl rfl (ex_load sc_23 hf rfl (el_cell (K := K_api_OperatingPoint) (f := 1) (rsl_rd (hr.now hs (i := 0) rfl)) hc49.1 hc49.2 rfl)) (fun a hf => ?_)
                                refine stq hf rfl rfl rfl (ex_move hf rfl) (fun a hf => ?_)
                                refine stq hf rfl rfl rfl (ex_leq hf rfl rfl) (fun a hf => ?_)
                                refine stq hf rfl rfl rfl (ex_pickT hf rfl rfl) (fun a hf => ?_)
                                refine stq hf rfl rfl rfl (ex_pickF hf rfl rfl) (fun a hf => ?_)
                                refine stq hf rfl rfl rfl (ex_assign hf rfl) (fun a hf => ?_)
                                refine hK51 _ _ ?_
                                refine hN46 _ _ ?_
                                have e45 := some_eq H; subst e45
                                exact hJ45 _ _ ⟨hf.sub ⟨rfl, rfl, rfl, rfl, rfl, rfl, rfl, trivial⟩, hs⟩
                              · -- not ((gd OperatingPoint.zero a0 y39).Frequency) = x28.1
                                refine region_k (fun K52 hK52 => ?_)
                                refine stq hf rfl rfl rfl (ex_move hf rfl) (fun a hf => ?_)
                                refine stq hf rfl rfl rfl (ex_move hf rfl) (fun a hf => ?_)
                                replace hf := hf.castB (t := 10) rfl (bool_f hc47)
                                replace hf := hf.castB (t := 62) rfl (bool_f hc47)
                                replace hf := hf.castB (t := 63) rfl (bool_f hc47)
                                refine stq hf rfl rfl rfl (ex_move hf rfl) (fun a hf => ?_)
                                refine stq hf rfl rfl rfl (ex_move hf rfl) (fun a hf => ?_)
                                refine stq hf rfl rfl rfl (ex_indexAddr sa_22 (rsl_isSl (hr.now hs (i := 0) rfl)) hc49.1 hc49.2 hf rfl rfl) (fun a hf => ?_)
                                refine stq hf rfl rfl rfl (ex_fieldAddrS fa_25_0 rfl hf rfl) (fun a hf => ?_)
                                refine stq hf rfl rfl rfl (ex_load sc_23 hf rfl (el_cell (K := K_api_OperatingPoint) (f := 0) (rsl_rd (hr.now hs (i := 0) rfl)) hc49.1 hc49.2 rfl)) (fun a hf => ?_)
                                refine stq hf rfl rfl rfl (ex_move hf rfl) (fun a hf => ?_)
                                refine stq hf rfl rfl rfl (ex_eql hf rfl rfl) (fun a hf => ?_)
                                refine stq hf rfl rfl rfl (ex_move hf rfl) (fun a hf => ?_)
                                replace hf := hf.castB (t := 70) rfl (dec_f hc50)
                                replace hf := hf.castB (t := 71) rfl (dec_f hc50)
                                refine stepN hf rfl rfl rfl (fun a hf => ?_)
                                refine stepN hf rfl rfl rfl (fun a hf => ?_)
                                refine stepN hf rfl rfl rfl (fun a hf => ?_)
                                refine stepN hf rfl rfl rfl (fun a hf => ?_)
                                refine stepN hf rfl rfl rfl (fun a hf => ?_)
                                refine stepN hf rfl rfl rfl (fun a hf => ?_)
                                refine stepN hf rfl rfl rfl (fun a hf => ?_)
                                refine stq hf rfl rfl rfl (ex_pickF hf rfl rfl) (fun a hf => ?_)
                                refine stq hf rfl rfl rfl (ex_pickF hf rfl rfl) (fun a hf => ?_)
                                refine stq hf rfl rfl rfl (ex_assign hf rfl) (fun a hf => ?_)
                                refine hK52 _ _ ?_
                                refine hN46 _ _ ?_
                                have e45 := some_eq H; subst e45
                                exact hJ45 _ _ ⟨hf.sub ⟨rfl, rfl, rfl, rfl, rfl, rfl, rfl, trivial⟩, hs⟩
                          · obtain ⟨hf, hs⟩ := hJ
                            replace H := HO45
                            clear HO45
                            refine region_k (fun K53 hK53 => ?_)
                            refine stq hf rfl rfl rfl (ex_move hf rfl) (fun a hf => ?_)
                            refine stq hf rfl rfl rfl (ex_add hf rfl rfl) (fun a hf => ?_)
                            refine stq hf rfl rfl rfl (ex_assign hf rfl) (fun a hf => ?_)
                            refine hK53 _ _ ?_
                            exact hL41 k41 _ _ (Nat.lt_succ_self _) ⟨x45, (IntKind.i64.wrap (y39 + 1)), hf.sub ⟨rfl, rfl, rfl, rfl, rfl, rfl, rfl, trivial⟩, hs, H⟩
                        · -- not y39 < (a0.length : Int)
                          replace hf := hf.castB (t := 59) rfl (dec_f hc44)
                          refine cond_F hf rfl ?_
                          refine wp_exit ?_
                          refine hX42 2 _ _ ?_
                          refine hX41 2 _ _ ?_
                          refine hX37 _ _ ?_
                          have e35 := some_eq H; subst e35
                          exact hJ35 _ _ ⟨hf.sub ⟨rfl, rfl, rfl, rfl, rfl, rfl, trivial⟩, hs⟩
                  · obtain ⟨hf, hs⟩ := hJ
                    replace H := HO35
                    clear HO35
                    refine seq_reg (fun K54 hK54 => ?_)
                    refine stq hf rfl rfl rfl (ex_move hf rfl) (fun a hf => ?_)
                    refine stq hf rfl rfl rfl (ex_not hf rfl) (fun a hf => ?_)
                    refine hK54 _ _ ?_
                    refine itt H (fun hc55 H => ?_) (fun hc55 H => ?_)
                    · -- x35 = true
                      replace hf := hf.castB (t := 10) rfl hc55
                      replace hf := hf.castB (t := 81) rfl hc55
                      replace hf := hf.castB (t := 82) rfl (nbool_f hc55)
                      refine cond_F hf rfl ?_
                      refine wp_skip ?_
                      refine hN27 _ _ ?_
                      have e26 := some_eq H; subst e26
                      exact hJ26 _ _ ⟨_, rfl, hf.sub ⟨rfl, rfl, rfl, rfl, rfl, trivial⟩, hs⟩
                    · -- not x35 = true
                      replace hf := hf.castB (t := 10) rfl (bool_f hc55)
                      replace hf := hf.castB (t := 81) rfl (bool_f hc55)
                      replace hf := hf.castB (t := 82) rfl (nbool_t hc55)
                      refine cond_T hf rfl ?_
                      refine seq_reg (fun K56 hK56 => ?_)
                      refine stq hf rfl rfl rfl (ex_assign hf rfl) (fun a hf => ?_)
                      refine hK56 _ _ ?_
                      refine wp_ret ?_
                      refine hR27 _ _ ?_
                      have e26 := some_eq H; subst e26; replace H := el_rt HO26
                      refine hR26 _ _ ?_
                      refine hR22 _ _ ?_
                      refine hR17 _ _ ?_
                      have e15 := some_eq H; subst e15; replace H := el_rt HO15
                      refine hR15 _ _ ?_
                      have eR := some_eq H; subst eR
                      exact ret1 Try.results23 hf rfl ⟨_, rfl, ⟨rfl, hs⟩⟩
              · obtain ⟨x26s, rfl, hf, hs⟩ := hJ
                replace H := el_go HO26
                clear HO26
                refine region_k (fun K57 hK57 => ?_)
                refine stq hf rfl rfl rfl (ex_move hf rfl) (fun a hf => ?_)
                refine stq hf rfl rfl rfl (ex_add hf rfl rfl) (fun a hf => ?_)
                refine stq hf rfl rfl rfl (ex_assign hf rfl) (fun a hf => ?_)
                refine hK57 _ _ ?_
                exact hL22 k22 _ _ (Nat.lt_succ_self _) ⟨x26s.1, x26s.2, (IntKind.i64.wrap (y20 + 1)), hf.sub ⟨rfl, rfl, rfl, rfl, rfl, trivial⟩, hs, H⟩
            · -- not y20 < (a2.length : Int)
              replace hf := hf.castB (t := 38) rfl (dec_f hc25)
              refine cond_F hf rfl ?_
              refine wp_exit ?_
              refine hX23 0 _ _ ?_
              refine hX22 0 _ _ ?_
              refine hX17 _ _ ?_
              have e15 := some_eq H; subst e15
              exact hJ15 _ _ ⟨_, rfl, hf.sub trivial, hs⟩
      · obtain ⟨x15s, rfl, hf, hs⟩ := hJ
        replace H := el_go HO15
        clear HO15
        refine seq_reg (fun K58 hK58 => ?_)
        refine stq hf rfl rfl rfl (ex_assign hf rfl) (fun a hf => ?_)
        refine hK58 _ _ ?_
        refine wp_ret ?_
        have eR := some_eq H; subst eR
        exact ret1 Try.results23 hf rfl ⟨_, rfl, ⟨rfl, hs⟩⟩

set_option maxRecDepth 100000 in
theorem law36_params.calls {M : Nat → Prop} {w0 : World} (k : Nat) (a0 : GovernorParams) {r : GovernorParams} (hs : St M w0 w0 []) (hr : Sr M w0 [])
    (h : law36_params.f k a0 = some r) : Calls Try.prog 24 #[.agg #[.int .i64 a0.Up, .int .i64 a0.Down, .int .i64 a0.Samples]] w0 fun e w => ∃ v, e = .returned v ∧ (.agg #[.int .i64 r.Up, .int .i64 r.Down, .int .i64 r.Samples] = v ∧ St M w0 w []) := by
  have H := (law36_params.f.eq_1 ..).symm.trans h
  clear h
  refine enter Try.func24 rfl Try.ntmps24 rfl (fun a hf => ?_)
  refine seq_reg (fun K3 hK3 => ?_)
  refine stepV hf rfl rfl rfl (er_box (cs := [.int .i64 a0.Up, .int .i64 a0.Down, .int .i64 a0.Samples]) hs hf rfl rfl) (fun v w hR a hf => ?_)
  obtain ⟨b1, rfl, hs⟩ := hR
  refine stepV hf rfl rfl rfl (er_alloc hs ti_45 (cs := [.int .i64 0, .int .i64 0, .int .i64 0]) rfl) (fun v w hR a hf => ?_)
  obtain ⟨b2, rfl, hs⟩ := hR
  refine hK3 _ _ ?_
  refine bnd H (fun s4 hs4 H => ?_)
  refine seq_reg (fun K5 hK5 => ?_)
  refine stq hf rfl rfl rfl (ex_fieldAddrB fa_45_0 rfl hf rfl) (fun a hf => ?_)
  refine stq hf rfl rfl rfl (ex_load sc_3 hf rfl (bx_cell (hs.get (i := 1) rfl) _ rfl)) (fun a hf => ?_)
  refine stepF hf rfl rfl rfl (ex_call cf_14 hf rfl) (help_Mod.calls k a0.Up 100 (hs.enter (.k (.k .nil))) (Sr.nil _ _) hs4) (fun v w hR a hf => ?_)
  obtain ⟨rfl, hs'⟩ := hR
  replace hs := hs.step (.k (.k .nil)) hs'
  clear hs'
  refine stq hf rfl rfl rfl (ex_add hf rfl rfl) (fun a hf => ?_)
  refine stq hf rfl rfl rfl (ex_assign hf rfl) (fun a hf => ?_)
  refine hK5 _ _ ?_
  refine seq_n (fun Q6 hN6 hR6 hX6 => ?_)
  refine bnd H (fun s7 hs7 H => ?_)
  refine bnd H (fun s8 hs8 H => ?_)
  refine region_d fol 10 [(1, .pointer (some ⟨b1, 0, none⟩)), (2, .pointer (some ⟨b2, 0, none⟩)), (3, .int .i64 (IntKind.i64.wrap (1 + s4)))] [(0, .int .i64 (IntKind.i64.wrap (1 + s4))), (1, .pointer (some ⟨b1, 1, none⟩)), (2, .int .i64 a0.Down), (3, .int .i64 (IntKind.i64.wrap (1 + s4))), (5, .pointer (some ⟨b1, 2, none⟩)), (6, .int .i64 a0.Samples)] [4, 7] (fun w => (bx b1 45 [.int .i64 a0.Up, .int .i64 a0.Down, .int .i64 a0.Samples]).ok w ∧ True) (fun w => St M w0 w [bx b2 45 [.int .i64 0, .int .i64 0, .int .i64 0], bx b1 45 [.int .i64 a0.Up, .int .i64 a0.Down, .int .i64 a0.Samples]]) hf ⟨rfl, rfl, rfl, trivial⟩ (by kernel_rfl) (by kernel_rfl) rfl (by decide) ⟨hs.drew.get (i := 1) rfl, trivial⟩ hs.drew (.cons (⟨_, _, rfl, rfl, rfl, rfl, fun a w hR hf => .inl ⟨wanted_yes hf rfl, ex_move hf rfl⟩⟩) (.cons (⟨_, _, rfl, rfl, rfl, rfl, fun a w hR hf => .inl ⟨wanted_yes hf rfl, ex_fieldAddrB fa_45_1 rfl hf rfl⟩⟩) (.cons (⟨_, _, rfl, rfl, rfl, rfl, fun a w hR hf => .inl ⟨wanted_yes hf rfl, ex_load sc_3 hf rfl (bx_cell (hR.1) _ rfl)⟩⟩) (.cons (⟨_, _, rfl, rfl, rfl, rfl, fun a w hR hf => .inl ⟨wanted_yes hf rfl, ex_move hf rfl⟩⟩) (.cons (⟨_, _, rfl, rfl, rfl, rfl, fun a w hR hf => .inl ⟨wanted_yes hf rfl, ex_fieldAddrB fa_45_2 rfl hf rfl⟩⟩) (.cons (⟨_, _, rfl, rfl, rfl, rfl, fun a w hR hf => .inl ⟨wanted_yes hf rfl, ex_load sc_3 hf rfl (bx_cell (hR.1) _ rfl)⟩⟩) (.nil))))))) (fun K9 hK9 => ?_)
  refine RW.one 4 (by kernel_rfl) (by kernel_rfl) rfl (fun d hd => by cases hd; rfl) [(10, .int .i64 a0.Down), (11, .int .i64 (IntKind.i64.wrap (1 + s4)))] ⟨rfl, rfl, trivial⟩ (fun a w hR hs hf => ⟨wanted_yes hf rfl, ?_⟩)
  refine estep_f (ex_call cf_14 hf rfl) (help_Mod.calls k a0.Down (IntKind.i64.wrap (1 + s4)) (hs.enter (.k (.k .nil))) (Sr.nil _ _) hs7) (fun v w hR => ?_)
  obtain ⟨rfl, hs'⟩ := hR
  replace hs := hs.step (.k (.k .nil)) hs'
  clear hs'
  refine ⟨[], [(4, .int .i64 s7), (0, .int .i64 (IntKind.i64.wrap (1 + s4))), (1, .pointer (some ⟨b1, 1, none⟩)), (2, .int .i64 a0.Down), (3, .int .i64 (IntKind.i64.wrap (1 + s4))), (5, .pointer (some ⟨b1, 2, none⟩)), (6, .int .i64 a0.Samples)], [7], (fun _ => True), (fun w => St M w0 w [bx b2 45 [.int .i64 0, .int .i64 0, .int .i64 0], bx b1 45 [.int .i64 a0.Up, .int .i64 a0.Down, .int .i64 a0.Samples]]), rfl, rfl, ⟨hs.get (i := 1) rfl, trivial⟩, trivial, hs, (by kernel_rfl), .nil, ?_⟩
  refine RW.one 7 (by kernel_rfl) (by kernel_rfl) rfl (fun d hd => by cases hd; rfl) [(14, .int .i64 a0.Samples)] ⟨rfl, trivial⟩ (fun a w hR hs hf => ⟨wanted_yes hf rfl, ?_⟩)
  refine estep_f (ex_call cf_14 hf rfl) (help_Mod.calls k a0.Samples 4 (hs.enter (.k (.k .nil))) (Sr.nil _ _) hs8) (fun v w hR => ?_)
  obtain ⟨rfl, hs'⟩ := hR
  replace hs := hs.step (.k (.k .nil)) hs'
  clear hs'
  refine ⟨[(8, .int .i64 (IntKind.i64.wrap (1 + s8))), (9, .agg #[.int .i64 (IntKind.i64.wrap (1 + s4)), .int .i64 s7, .int .i64 (IntKind.i64.wrap (1 + s8))])], [(8, .int .i64 (IntKind.i64.wrap (1 + s8))), (9, .agg #[.int .i64 (IntKind.i64.wrap (1 + s4)), .int .i64 s7, .int .i64 (IntKind.i64.wrap (1 + s8))]), (7, .int .i64 s8), (4, .int .i64 s7), (0, .int .i64 (IntKind.i64.wrap (1 + s4))), (1, .pointer (some ⟨b1, 1, none⟩)), (2, .int .i64 a0.Down), (3, .int .i64 (IntKind.i64.wrap (1 + s4))), (5, .pointer (some ⟨b1, 2, none⟩)), (6, .int .i64 a0.Samples)], [], (fun _ => True), (fun w => St M w0 w [bx b2 45 [.int .i64 0, .int .i64 0, .int .i64 0], bx b1 45 [.int .i64 a0.Up, .int .i64 a0.Down, .int .i64 a0.Samples]]), rfl, rfl, ⟨⟨hs.get (i := 1) rfl, trivial⟩, trivial⟩, trivial, hs, (by kernel_rfl), .cons (⟨_, _, rfl, rfl, rfl, rfl, fun a w hR hf => .inl ⟨wanted_yes hf rfl, ex_add hf rfl rfl⟩⟩) (.cons (⟨_, _, rfl, rfl, rfl, rfl, fun a w hR hf => .inl ⟨wanted_yes hf rfl, ex_build (cs := [.int .i64 (IntKind.i64.wrap (1 + s4)), .int .i64 s7, .int .i64 (IntKind.i64.wrap (1 + s8))]) bt_45 hf rfl (.cons rfl (.cons rfl (.cons rfl .nil))) rfl⟩⟩) (.nil)), ?_⟩
  refine RW.zero (by kernel_rfl) (by kernel_rfl) [(2, .pointer (some ⟨b2, 0, none⟩)), (17, .agg #[.int .i64 (IntKind.i64.wrap (1 + s4)), .int .i64 s7, .int .i64 (IntKind.i64.wrap (1 + s8))])] ⟨rfl, rfl, trivial⟩ (fun a w hR hs hf => ?_)
  refine stepS hf rfl rfl (er_storeAB (vs := [.int .i64 (IntKind.i64.wrap (1 + s4)), .int .i64 s7, .int .i64 (IntKind.i64.wrap (1 + s8))]) (cs' := [.int .i64 (IntKind.i64.wrap (1 + s4)), .int .i64 s7, .int .i64 (IntKind.i64.wrap (1 + s8))]) hs (.c (.k .nil)) sz_45 hf rfl rfl (all1 rfl (all1 rfl (all1 rfl (all1_nil)))) rfl rfl) (fun w hs => ?_)
  refine hK9 _ _ ?_
  refine hN6 _ _ ?_
  refine wp_ret ?_
  have eR := some_eq H; subst eR
  have hbox := hs.get (i := 0) rfl
  replace hs := hs.keep (.d (.d .nil))
  exact retA (cs := [.int .i64 (IntKind.i64.wrap (1 + s4)), .int .i64 s7, .int .i64 (IntKind.i64.wrap (1 + s8))]) Try.results24 ag_45 hf rfl hbox ⟨_, rfl, ⟨rfl, hs⟩⟩

set_option maxRecDepth 100000 in
theorem slices_Clone_api_OperatingPoint_api_OperatingPoint.calls {M : Nat → Prop} {w0 : World} (k : Nat) (a0 : (List OperatingPoint)) (v0 : Value) {r : (List OperatingPoint)} (hs : St M w0 w0 []) (hr : Sr M w0 [rsl K_api_OperatingPoint v0 a0])
    (h : slices_Clone_api_OperatingPoint_api_OperatingPoint.f k a0 = some r) : Calls Try.prog 38 #[v0] w0 fun e w => ∃ v, e = .returned v ∧ (∃ (g0 : Value), g0 = v ∧ St M w0 w [osl K_api_OperatingPoint g0 r]) := by
  have H := (slices_Clone_api_OperatingPoint_api_OperatingPoint.f.eq_1 ..).symm.trans h
  clear h
  refine enter Try.func38 rfl Try.ntmps38 rfl (fun a hf => ?_)
  refine seq_reg (fun K1 hK1 => ?_)
  refine stq hf rfl rfl rfl (ex_assign hf rfl) (fun a hf => ?_)
  refine hK1 _ _ ?_
  refine seq_n (fun Q2 hN2 hR2 hX2 => ?_)
  refine seq_reg (fun K3 hK3 => ?_)
  refine stq hf rfl rfl rfl (ex_move hf rfl) (fun a hf => ?_)
  refine stq hf rfl rfl rfl (ex_eqnil Try.underlying22 (rsl_isSl (hr.now hs (i := 0) rfl)) hf rfl rfl) (fun a hf => ?_)
  refine hK3 _ _ ?_
  by_cases hc4 : (isNil v0) = true
  · -- nil
    have hz5 : a0 = [] := isNil_nil (rsl_isSl (hr.now hs (i := 0) rfl)) hc4
    replace H : (some ([] : List OperatingPoint)) = some r := by simpa [ck, hz5] using H
    replace hf := hf.castB (t := 4) rfl hc4
    refine cond_T hf rfl ?_
    refine seq_reg (fun K6 hK6 => ?_)
    refine stq hf rfl rfl rfl (ex_assign hf rfl) (fun a hf => ?_)
    refine hK6 _ _ ?_
    refine wp_ret ?_
    refine hR2 _ _ ?_
    have eR := some_eq H; subst eR
    replace hs := hs.nilS K_api_OperatingPoint
    exact ret1 Try.results38 hf rfl ⟨_, rfl, ⟨(.slice none 0 0), rfl, hs⟩⟩
  · -- not nil
    replace hf := hf.castB (t := 4) rfl (bool_f hc4)
    refine cond_F hf rfl ?_
    refine wp_skip ?_
    refine hN2 _ _ ?_
    refine ck_some H (fun hc8 H => ?_)
    refine seq_reg (fun K10 hK10 => ?_)
    refine stepV hf rfl rfl rfl (er_buildSlice (K := K_api_OperatingPoint) (xs := ([] : List OperatingPoint)) hs Try.underlying22 ep_25 rfl rfl hf rfl .nil rfl rfl) (fun v7 w hs a hf => ?_)
    refine stq hf rfl rfl rfl (ex_move hf rfl) (fun a hf => ?_)
    refine stepV hf rfl rfl rfl (er_append (K := K_api_OperatingPoint) hs (.c .nil) (hr.now hs (i := 0) rfl) rfl Try.underlying22 ep_25 hc8 rfl hf rfl rfl) (fun v9 w hs a hf => ?_)
    refine stq hf rfl rfl rfl (ex_assign hf rfl) (fun a hf => ?_)
    refine hK10 _ _ ?_
    refine wp_ret ?_
    have eR := some_eq H; subst eR
    exact ret1 Try.results38 hf rfl ⟨_, rfl, ⟨v9, rfl, hs⟩⟩

set_option maxRecDepth 100000 in
theorem perf_New.calls {M : Nat → Prop} {w0 : World} (k : Nat) (a0 : (List OperatingPoint)) (a1 : GovernorParams) (v0 : Value) {r : (Option ((List OperatingPoint) × Int × Int × Int × Int × Int × Int × Int)) × Int} (hs : St M w0 w0 []) (hr : Sr M w0 [rsl K_api_OperatingPoint v0 a0])
    (h : perf_New.f k a0 a1 = some r) : Calls Try.prog 25 #[v0, .agg #[.int .i64 a1.Up, .int .i64 a1.Down, .int .i64 a1.Samples]] w0 fun e w => ∃ v, e = .returned v ∧ ((r.1 = none ∧ .tuple #[.pointer none, .int .i64 r.2] = v ∧ St M w0 w []) ∨ (∃ c, r.1 = some c ∧ ∃ (g0 : Nat) (g1 : Value), .tuple #[.pointer (some ⟨g0, 0, none⟩), .int .i64 r.2] = v ∧ St M w0 w [bx g0 66 [g1, .int .i64 c.2.1, .int .i64 c.2.2.1, .int .i64 c.2.2.2.1, .int .i64 c.2.2.2.2.1, .int .i64 c.2.2.2.2.2.1, .int .i64 c.2.2.2.2.2.2.1, .int .i64 c.2.2.2.2.2.2.2], osl K_api_OperatingPoint g1 c.1])) := by
  have H := (perf_New.f.eq_1 ..).symm.trans h
  clear h
  refine enter Try.func25 rfl Try.ntmps25 rfl (fun a hf => ?_)
  refine seq_reg (fun K2 hK2 => ?_)
  refine stepV hf rfl rfl rfl (er_box (cs := [.int .i64 a1.Up, .int .i64 a1.Down, .int .i64 a1.Samples]) hs hf rfl rfl) (fun v w hR a hf => ?_)
  obtain ⟨b1, rfl, hs⟩ := hR
  refine stq hf rfl rfl rfl (ex_assign hf rfl) (fun a hf => ?_)
  refine stq hf rfl rfl rfl (ex_assign hf rfl) (fun a hf => ?_)
  refine hK2 _ _ ?_
  refine seq_n (fun Q3 hN3 hR3 hX3 => ?_)
  refine bnd H (fun s4 hs4 H => ?_)
  refine seq_reg (fun K5 hK5 => ?_)
  refine stq hf rfl rfl rfl (ex_move hf rfl) (fun a hf => ?_)
  refine stepF hf rfl rfl rfl (ex_call cf_17 hf rfl) (perf_Check.calls k a0 v0 (hs.enter (.k .nil)) (Sr.old hr hs (.k .nil) (i := 0) rfl (fun _ h => h) (fun _ h => h) (Sr.nil _ _)) hs4) (fun v w hR a hf => ?_)
  obtain ⟨rfl, hs'⟩ := hR
  replace hs := hs.step (.k .nil) hs'
  clear hs'
  refine stq hf rfl rfl rfl (ex_assign hf rfl) (fun a hf => ?_)
  refine hK5 _ _ ?_
  refine seq_reg (fun K6 hK6 => ?_)
  refine stq hf rfl rfl rfl (ex_move hf rfl) (fun a hf => ?_)
  refine stq hf rfl rfl rfl (ex_neq hf rfl rfl) (fun a hf => ?_)
  refine hK6 _ _ ?_
  refine itt H (fun hc7 H => ?_) (fun hc7 H => ?_)
  · -- s4 = 0
    replace hf := hf.castB (t := 10) rfl (ndec_f hc7)
    refine cond_F hf rfl ?_
    refine wp_skip ?_
    refine hN3 _ _ ?_
    refine seq_n (fun Q8 hN8 hR8 hX8 => ?_)
    refine bnd H (fun x9 H9 HO9 => ?_)
    clear H
    refine seq_cut (fun a w => Fr a 50 [(0, v0), (3, .pointer (some ⟨b1, 0, none⟩)), (41, .bool x9)] ∧ St M w0 w [bx b1 45 [.int .i64 a1.Up, .int .i64 a1.Down, .int .i64 a1.Samples]]) (fun Q9 hJ9 hR9 hX9 => ?_) (fun a w hJ => ?_)
    · replace H := H9
      refine itt H (fun hc10 H => ?_) (fun hc10 H => ?_)
      · -- a1.Up < 1
        refine region_k (fun K11 hK11 => ?_)
        refine stq hf rfl rfl rfl (ex_fieldAddrB fa_45_0 rfl hf rfl) (fun a hf => ?_)
        refine stq hf rfl rfl rfl (ex_load sc_3 hf rfl (bx_cell (hs.get (i := 0) rfl) _ rfl)) (fun a hf => ?_)
        refine stq hf rfl rfl rfl (ex_lss hf rfl rfl) (fun a hf => ?_)
        refine stq hf rfl rfl rfl (ex_move hf rfl) (fun a hf => ?_)
        replace hf := hf.castB (t := 14) rfl (dec_t hc10)
        replace hf := hf.castB (t := 15) rfl (dec_t hc10)
        refine stepN hf rfl rfl rfl (fun a hf => ?_)
        refine stepN hf rfl rfl rfl (fun a hf => ?_)
        refine stepN hf rfl rfl rfl (fun a hf => ?_)
        refine stq hf rfl rfl rfl (ex_pickT hf rfl rfl) (fun a hf => ?_)
        refine stq hf rfl rfl rfl (ex_move hf rfl) (fun a hf => ?_)
        refine stepN hf rfl rfl rfl (fun a hf => ?_)
        refine stepN hf rfl rfl rfl (fun a hf => ?_)
        refine stepN hf rfl rfl rfl (fun a hf => ?_)
        refine stq hf rfl rfl rfl (ex_pickT hf rfl rfl) (fun a hf => ?_)
        refine stq hf rfl rfl rfl (ex_move hf rfl) (fun a hf => ?_)
        refine stepN hf rfl rfl rfl (fun a hf => ?_)
        refine stepN hf rfl rfl rfl (fun a hf => ?_)
        refine stepN hf rfl rfl rfl (fun a hf => ?_)
        refine stepN hf rfl rfl rfl (fun a hf => ?_)
        refine stepN hf rfl rfl rfl (fun a hf => ?_)
        refine stq hf rfl rfl rfl (ex_pickT hf rfl rfl) (fun a hf => ?_)
        refine stq hf rfl rfl rfl (ex_move hf rfl) (fun a hf => ?_)
        refine stepN hf rfl rfl rfl (fun a hf => ?_)
        refine stepN hf rfl rfl rfl (fun a hf => ?_)
        refine stepN hf rfl rfl rfl (fun a hf => ?_)
        refine stq hf rfl rfl rfl (ex_pickT hf rfl rfl) (fun a hf => ?_)
        refine stq hf rfl rfl rfl (ex_move hf rfl) (fun a hf => ?_)
        refine stepN hf rfl rfl rfl (fun a hf => ?_)
        refine stepN hf rfl rfl rfl (fun a hf => ?_)
        refine stepN hf rfl rfl rfl (fun a hf => ?_)
        refine stq hf rfl rfl rfl (ex_pickT hf rfl rfl) (fun a hf => ?_)
        refine hK11 _ _ ?_
        have e9 := some_eq H; subst e9
        exact hJ9 _ _ ⟨hf.sub ⟨rfl, rfl, rfl, trivial⟩, hs⟩
      · -- not a1.Up < 1
        refine itt H (fun hc12 H => ?_) (fun hc12 H => ?_)
        · -- 100 < a1.Up
          refine region_k (fun K13 hK13 => ?_)
          refine stq hf rfl rfl rfl (ex_fieldAddrB fa_45_0 rfl hf rfl) (fun a hf => ?_)
          refine stq hf rfl rfl rfl (ex_load sc_3 hf rfl (bx_cell (hs.get (i := 0) rfl) _ rfl)) (fun a hf => ?_)
          refine stq hf rfl rfl rfl (ex_lss hf rfl rfl) (fun a hf => ?_)
          refine stq hf rfl rfl rfl (ex_move hf rfl) (fun a hf => ?_)
          replace hf := hf.castB (t := 14) rfl (dec_f hc10)
          replace hf := hf.castB (t := 15) rfl (dec_f hc10)
          refine stq hf rfl rfl rfl (ex_fieldAddrB fa_45_0 rfl hf rfl) (fun a hf => ?_)
          refine stq hf rfl rfl rfl (ex_load sc_3 hf rfl (bx_cell (hs.get (i := 0) rfl) _ rfl)) (fun a hf => ?_)
          refine stq hf rfl rfl rfl (ex_gtr hf rfl rfl) (fun a hf => ?_)
          refine stq hf rfl rfl rfl (ex_pickF hf rfl rfl) (fun a hf => ?_)
          refine stq hf rfl rfl rfl (ex_move hf rfl) (fun a hf => ?_)
          replace hf := hf.castB (t := 18) rfl (dec_t hc12)
          replace hf := hf.castB (t := 19) rfl (dec_t hc12)
          replace hf := hf.castB (t := 20) rfl (dec_t hc12)
          refine stepN hf rfl rfl rfl (fun a hf => ?_)
          refine stepN hf rfl rfl rfl (fun a hf => ?_)
          refine stepN hf rfl rfl rfl (fun a hf => ?_)
          refine stq hf rfl rfl rfl (ex_pickT hf rfl rfl) (fun a hf => ?_)
          refine stq hf rfl rfl rfl (ex_move hf rfl) (fun a hf => ?_)
          refine stepN hf rfl rfl rfl (fun a hf => ?_)
          refine stepN hf rfl rfl rfl (fun a hf => ?_)
          refine stepN hf rfl rfl rfl (fun a hf => ?_)
          refine stepN hf rfl rfl rfl (fun a hf => ?_)
          refine stepN hf rfl rfl rfl (fun a hf => ?_)
          refine stq hf rfl rfl rfl (ex_pickT hf rfl rfl) (fun a hf => ?_)
          refine stq hf rfl rfl rfl (ex_move hf rfl) (fun a hf => ?_)
          refine stepN hf rfl rfl rfl (fun a hf => ?_)
          refine stepN hf rfl rfl rfl (fun a hf => ?_)
          refine stepN hf rfl rfl rfl (fun a hf => ?_)
          refine stq hf rfl rfl rfl (ex_pickT hf rfl rfl) (fun a hf => ?_)
          refine stq hf rfl rfl rfl (ex_move hf rfl) (fun a hf => ?_)
          refine stepN hf rfl rfl rfl (fun a hf => ?_)
          refine stepN hf rfl rfl rfl (fun a hf => ?_)
          refine stepN hf rfl rfl rfl (fun a hf => ?_)
          refine stq hf rfl rfl rfl (ex_pickT hf rfl rfl) (fun a hf => ?_)
          refine hK13 _ _ ?_
          have e9 := some_eq H; subst e9
          exact hJ9 _ _ ⟨hf.sub ⟨rfl, rfl, rfl, trivial⟩, hs⟩
        · -- not 100 < a1.Up
          refine itt H (fun hc14 H => ?_) (fun hc14 H => ?_)
          · -- a1.Down < 0
            refine region_k (fun K15 hK15 => ?_)
            refine stq hf rfl rfl rfl (ex_fieldAddrB fa_45_0 rfl hf rfl) (fun a hf => ?_)
            refine stq hf rfl rfl rfl (ex_load sc_3 hf rfl (bx_cell (hs.get (i := 0) rfl) _ rfl)) (fun a hf => ?_)
            refine stq hf rfl rfl rfl (ex_lss hf rfl rfl) (fun a hf => ?_)
            refine stq hf rfl rfl rfl (ex_move hf rfl) (fun a hf => ?_)
            replace hf := hf.castB (t := 14) rfl (dec_f hc10)
            replace hf := hf.castB (t := 15) rfl (dec_f hc10)
            refine stq hf rfl rfl rfl (ex_fieldAddrB fa_45_0 rfl hf rfl) (fun a hf => ?_)
            refine stq hf rfl rfl rfl (ex_load sc_3 hf rfl (bx_cell (hs.get (i := 0) rfl) _ rfl)) (fun a hf => ?_)
            refine stq hf rfl rfl rfl (ex_gtr hf rfl rfl) (fun a hf => ?_)
            refine stq hf rfl rfl rfl (ex_pickF hf rfl rfl) (fun a hf => ?_)
            refine stq hf rfl rfl rfl (ex_move hf rfl) (fun a hf => ?_)
            replace hf := hf.castB (t := 18) rfl (dec_f hc12)
            replace hf := hf.castB (t := 19) rfl (dec_f hc12)
            replace hf := hf.castB (t := 20) rfl (dec_f hc12)
            refine stq hf rfl rfl rfl (ex_fieldAddrB fa_45_1 rfl hf rfl) (fun a hf => ?_)
            refine stq hf rfl rfl rfl (ex_load sc_3 hf rfl (bx_cell (hs.get (i := 0) rfl) _ rfl)) (fun a hf => ?_)
            refine stq hf rfl rfl rfl (ex_lss hf rfl rfl) (fun a hf => ?_)
            refine stq hf rfl rfl rfl (ex_pickF hf rfl rfl) (fun a hf => ?_)
            refine stq hf rfl rfl rfl (ex_move hf rfl) (fun a hf => ?_)
            replace hf := hf.castB (t := 23) rfl (dec_t hc14)
            replace hf := hf.castB (t := 24) rfl (dec_t hc14)
            replace hf := hf.castB (t := 25) rfl (dec_t hc14)
            refine stepN hf rfl rfl rfl (fun a hf => ?_)
            refine stepN hf rfl rfl rfl (fun a hf => ?_)
            refine stepN hf rfl rfl rfl (fun a hf => ?_)
            refine stepN hf rfl rfl rfl (fun a hf => ?_)
            refine stepN hf rfl rfl rfl (fun a hf => ?_)
            refine stq hf rfl rfl rfl (ex_pickT hf rfl rfl) (fun a hf => ?_)
            refine stq hf rfl rfl rfl (ex_move hf rfl) (fun a hf => ?_)
            refine stepN hf rfl rfl rfl (fun a hf => ?_)
            refine stepN hf rfl rfl rfl (fun a hf => ?_)
            refine stepN hf rfl rfl rfl (fun a hf => ?_)
            refine stq hf rfl rfl rfl (ex_pickT hf rfl rfl) (fun a hf => ?_)
            refine stq hf rfl rfl rfl (ex_move hf rfl) (fun a hf => ?_)
            refine stepN hf rfl rfl rfl (fun a hf => ?_)
            refine stepN hf rfl rfl rfl (fun a hf => ?_)
            refine stepN hf rfl rfl rfl (fun a hf => ?_)
            refine stq hf rfl rfl rfl (ex_pickT hf rfl rfl) (fun a hf => ?_)
            refine hK15 _ _ ?_
            have e9 := some_eq H; subst e9
            exact hJ9 _ _ ⟨hf.sub ⟨rfl, rfl, rfl, trivial⟩, hs⟩
          · -- not a1.Down < 0
            refine itt H (fun hc16 H => ?_) (fun hc16 H => ?_)
            · -- a1.Up ≤ a1.Down
              refine region_k (fun K17 hK17 => ?_)
              refine stq hf rfl rfl rfl (ex_fieldAddrB fa_45_0 rfl hf rfl) (fun a hf => ?_)
              refine stq hf rfl rfl rfl (ex_load sc_3 hf rfl (bx_cell (hs.get (i := 0) rfl) _ rfl)) (fun a hf => ?_)
              refine stq hf rfl rfl rfl (ex_lss hf rfl rfl) (fun a hf => ?_)
              refine stq hf rfl rfl rfl (ex_move hf rfl) (fun a hf => ?_)
              replace hf := hf.castB (t := 14) rfl (dec_f hc10)
              replace hf := hf.castB (t := 15) rfl (dec_f hc10)
              refine stq hf rfl rfl rfl (ex_fieldAddrB fa_45_0 rfl hf rfl) (fun a hf => ?_)
              refine stq hf rfl rfl rfl (ex_load sc_3 hf rfl (bx_cell (hs.get (i := 0) rfl) _ rfl)) (fun a hf => ?_)
              refine stq hf rfl rfl rfl (ex_gtr hf rfl rfl) (fun a hf => ?_)
              refine stq hf rfl rfl rfl (ex_pickF hf rfl rfl) (fun a hf => ?_)
              refine stq hf rfl rfl rfl (ex_move hf rfl) (fun a hf => ?_)
              replace hf := hf.castB (t := 18) rfl (dec_f hc12)
              replace hf := hf.castB (t := 19) rfl (dec_f hc12)
              replace hf := hf.castB (t := 20) rfl (dec_f hc12)
              refine stq hf rfl rfl rfl (ex_fieldAddrB fa_45_1 rfl hf rfl) (fun a hf => ?_)
              refine stq hf rfl rfl rfl (ex_load sc_3 hf rfl (bx_cell (hs.get (i := 0) rfl) _ rfl)) (fun a hf => ?_)
              refine stq hf rfl rfl rfl (ex_lss hf rfl rfl) (fun a hf => ?_)
              refine stq hf rfl rfl rfl (ex_pickF hf rfl rfl) (fun a hf => ?_)
              refine stq hf rfl rfl rfl (ex_move hf rfl) (fun a hf => ?_)
              replace hf := hf.castB (t := 23) rfl (dec_f hc14)
              replace hf := hf.castB (t := 24) rfl (dec_f hc14)
              replace hf := hf.castB (t := 25) rfl (dec_f hc14)
              refine stq hf rfl rfl rfl (ex_fieldAddrB fa_45_1 rfl hf rfl) (fun a hf => ?_)
              refine stq hf rfl rfl rfl (ex_load sc_3 hf rfl (bx_cell (hs.get (i := 0) rfl) _ rfl)) (fun a hf => ?_)
              refine stq hf rfl rfl rfl (ex_fieldAddrB fa_45_0 rfl hf rfl) (fun a hf => ?_)
              refine stq hf rfl rfl rfl (ex_load sc_3 hf rfl (bx_cell (hs.get (i := 0) rfl) _ rfl)) (fun a hf => ?_)
              refine stq hf rfl rfl rfl (ex_geq hf rfl rfl) (fun a hf => ?_)
              refine stq hf rfl rfl rfl (ex_pickF hf rfl rfl) (fun a hf => ?_)
              refine stq hf rfl rfl rfl (ex_move hf rfl) (fun a hf => ?_)
              replace hf := hf.castB (t := 30) rfl (dec_t hc16)
              replace hf := hf.castB (t := 31) rfl (dec_t hc16)
              replace hf := hf.castB (t := 32) rfl (dec_t hc16)
              refine stepN hf rfl rfl rfl (fun a hf => ?_)
              refine stepN hf rfl rfl rfl (fun a hf => ?_)
              refine stepN hf rfl rfl rfl (fun a hf => ?_)
              refine stq hf rfl rfl rfl (ex_pickT hf rfl rfl) (fun a hf => ?_)
              refine stq hf rfl rfl rfl (ex_move hf rfl) (fun a hf => ?_)
              refine stepN hf rfl rfl rfl (fun a hf => ?_)
              refine stepN hf rfl rfl rfl (fun a hf => ?_)
              refine stepN hf rfl rfl rfl (fun a hf => ?_)
              refine stq hf rfl rfl rfl (ex_pickT hf rfl rfl) (fun a hf => ?_)
              refine hK17 _ _ ?_
              have e9 := some_eq H; subst e9
              exact hJ9 _ _ ⟨hf.sub ⟨rfl, rfl, rfl, trivial⟩, hs⟩
            · -- not a1.Up ≤ a1.Down
              refine itt H (fun hc18 H => ?_) (fun hc18 H => ?_)
              · -- a1.Samples < 1
                refine region_k (fun K19 hK19 => ?_)
                refine stq hf rfl rfl rfl (ex_fieldAddrB fa_45_0 rfl hf rfl) (fun a hf => ?_)
                refine stq hf rfl rfl rfl (ex_load sc_3 hf rfl (bx_cell (hs.get (i := 0) rfl) _ rfl)) (fun a hf => ?_)
                refine stq hf rfl rfl rfl (ex_lss hf rfl rfl) (fun a hf => ?_)
                refine stq hf rfl rfl rfl (ex_move hf rfl) (fun a hf => ?_)
                replace hf := hf.castB (t := 14) rfl (dec_f hc10)
                replace hf := hf.castB (t := 15) rfl (dec_f hc10)
                refine stq hf rfl rfl rfl (ex_fieldAddrB fa_45_0 rfl hf rfl) (fun a hf => ?_)
                refine stq hf rfl rfl rfl (ex_load sc_3 hf rfl (bx_cell (hs.get (i := 0) rfl) _ rfl)) (fun a hf => ?_)
                refine stq hf rfl rfl rfl (ex_gtr hf rfl rfl) (fun a hf => ?_)
                refine stq hf rfl rfl rfl (ex_pickF hf rfl rfl) (fun a hf => ?_)
                refine stq hf rfl rfl rfl (ex_move hf rfl) (fun a hf => ?_)
                replace hf := hf.castB (t := 18) rfl (dec_f hc12)
                replace hf := hf.castB (t := 19) rfl (dec_f hc12)
                replace hf := hf.castB (t := 20) rfl (dec_f hc12)
                refine stq hf rfl rfl rfl (ex_fieldAddrB fa_45_1 rfl hf rfl) (fun a hf => ?_)
                refine stq hf rfl rfl rfl (ex_load sc_3 hf rfl (bx_cell (hs.get (i := 0) rfl) _ rfl)) (fun a hf => ?_)
                refine stq hf rfl rfl rfl (ex_lss hf rfl rfl) (fun a hf => ?_)
                refine stq hf rfl rfl rfl (ex_pickF hf rfl rfl) (fun a hf => ?_)
                refine stq hf rfl rfl rfl (ex_move hf rfl) (fun a hf => ?_)
                replace hf := hf.castB (t := 23) rfl (dec_f hc14)
                replace hf := hf.castB (t := 24) rfl (dec_f hc14)
                replace hf := hf.castB (t := 25) rfl (dec_f hc14)
                refine stq hf rfl rfl rfl (ex_fieldAddrB fa_45_1 rfl hf rfl) (fun a hf => ?_)
                refine stq hf rfl rfl rfl (ex_load sc_3 hf rfl (bx_cell (hs.get (i := 0) rfl) _ rfl)) (fun a hf => ?_)
                refine stq hf rfl rfl rfl (ex_fieldAddrB fa_45_0 rfl hf rfl) (fun a hf => ?_)
                refine stq hf rfl rfl rfl (ex_load sc_3 hf rfl (bx_cell (hs.get (i := 0) rfl) _ rfl)) (fun a hf => ?_)
                refine stq hf rfl rfl rfl (ex_geq hf rfl rfl) (fun a hf => ?_)
                refine stq hf rfl rfl rfl (ex_pickF hf rfl rfl) (fun a hf => ?_)
                refine stq hf rfl rfl rfl (ex_move hf rfl) (fun a hf => ?_)
                replace hf := hf.castB (t := 30) rfl (dec_f hc16)
                replace hf := hf.castB (t := 31) rfl (dec_f hc16)
                replace hf := hf.castB (t := 32) rfl (dec_f hc16)
                refine stq hf rfl rfl rfl (ex_fieldAddrB fa_45_2 rfl hf rfl) (fun a hf => ?_)
                refine stq hf rfl rfl rfl (ex_load sc_3 hf rfl (bx_cell (hs.get (i := 0) rfl) _ rfl)) (fun a hf => ?_)
                refine stq hf rfl rfl rfl (ex_lss hf rfl rfl) (fun a hf => ?_)
                refine stq hf rfl rfl rfl (ex_pickF hf rfl rfl) (fun a hf => ?_)
                refine stq hf rfl rfl rfl (ex_move hf rfl) (fun a hf => ?_)
                replace hf := hf.castB (t := 35) rfl (dec_t hc18)
                replace hf := hf.castB (t := 36) rfl (dec_t hc18)
                replace hf := hf.castB (t := 37) rfl (dec_t hc18)
                refine stepN hf rfl rfl rfl (fun a hf => ?_)
                refine stepN hf rfl rfl rfl (fun a hf => ?_)
                refine stepN hf rfl rfl rfl (fun a hf => ?_)
                refine stq hf rfl rfl rfl (ex_pickT hf rfl rfl) (fun a hf => ?_)
                refine hK19 _ _ ?_
                have e9 := some_eq H; subst e9
                exact hJ9 _ _ ⟨hf.sub ⟨rfl, rfl, rfl, trivial⟩, hs⟩
              · -- not a1.Samples < 1
                refine region_k (fun K20 hK20 => ?_)
                refine stq hf rfl rfl rfl (ex_fieldAddrB fa_45_0 rfl hf rfl) (fun a hf => ?_)
                refine stq hf rfl rfl rfl (ex_load sc_3 hf rfl (bx_cell (hs.get (i := 0) rfl) _ rfl)) (fun a hf => ?_)
                refine stq hf rfl rfl rfl (ex_lss hf rfl rfl) (fun a hf => ?_)
                refine stq hf rfl rfl rfl (ex_move hf rfl) (fun a hf => ?_)
                replace hf := hf.castB (t := 14) rfl (dec_f hc10)
                replace hf := hf.castB (t := 15) rfl (dec_f hc10)
                refine stq hf rfl rfl rfl (ex_fieldAddrB fa_45_0 rfl hf rfl) (fun a hf => ?_)
                refine stq hf rfl rfl rfl (ex_load sc_3 hf rfl (bx_cell (hs.get (i := 0) rfl) _ rfl)) (fun a hf => ?_)
                refine stq hf rfl rfl rfl (ex_gtr hf rfl rfl) (fun a hf => ?_)
                refine stq hf rfl rfl rfl (ex_pickF hf rfl rfl) (fun a hf => ?_)
                refine stq hf rfl rfl rfl (ex_move hf rfl) (fun a hf => ?_)
                replace hf := hf.castB (t := 18) rfl (dec_f hc12)
                replace hf := hf.castB (t := 19) rfl (dec_f hc12)
                replace hf := hf.castB (t := 20) rfl (dec_f hc12)
                refine stq hf rfl rfl rfl (ex_fieldAddrB fa_45_1 rfl hf rfl) (fun a hf => ?_)
                refine stq hf rfl rfl rfl (ex_load sc_3 hf rfl (bx_cell (hs.get (i := 0) rfl) _ rfl)) (fun a hf => ?_)
                refine stq hf rfl rfl rfl (ex_lss hf rfl rfl) (fun a hf => ?_)
                refine stq hf rfl rfl rfl (ex_pickF hf rfl rfl) (fun a hf => ?_)
                refine stq hf rfl rfl rfl (ex_move hf rfl) (fun a hf => ?_)
                replace hf := hf.castB (t := 23) rfl (dec_f hc14)
                replace hf := hf.castB (t := 24) rfl (dec_f hc14)
                replace hf := hf.castB (t := 25) rfl (dec_f hc14)
                refine stq hf rfl rfl rfl (ex_fieldAddrB fa_45_1 rfl hf rfl) (fun a hf => ?_)
                refine stq hf rfl rfl rfl (ex_load sc_3 hf rfl (bx_cell (hs.get (i := 0) rfl) _ rfl)) (fun a hf => ?_)
                refine stq hf rfl rfl rfl (ex_fieldAddrB fa_45_0 rfl hf rfl) (fun a hf => ?_)
                refine stq hf rfl rfl rfl (ex_load sc_3 hf rfl (bx_cell (hs.get (i := 0) rfl) _ rfl)) (fun a hf => ?_)
                refine stq hf rfl rfl rfl (ex_geq hf rfl rfl) (fun a hf => ?_)
                refine stq hf rfl rfl rfl (ex_pickF hf rfl rfl) (fun a hf => ?_)
                refine stq hf rfl rfl rfl (ex_move hf rfl) (fun a hf => ?_)
                replace hf := hf.castB (t := 30) rfl (dec_f hc16)
                replace hf := hf.castB (t := 31) rfl (dec_f hc16)
                replace hf := hf.castB (t := 32) rfl (dec_f hc16)
                refine stq hf rfl rfl rfl (ex_fieldAddrB fa_45_2 rfl hf rfl) (fun a hf => ?_)
                refine stq hf rfl rfl rfl (ex_load sc_3 hf rfl (bx_cell (hs.get (i := 0) rfl) _ rfl)) (fun a hf => ?_)
                refine stq hf rfl rfl rfl (ex_lss hf rfl rfl) (fun a hf => ?_)
                refine stq hf rfl rfl rfl (ex_pickF hf rfl rfl) (fun a hf => ?_)
                refine stq hf rfl rfl rfl (ex_move hf rfl) (fun a hf => ?_)
                replace hf := hf.castB (t := 35) rfl (dec_f hc18)
                replace hf := hf.castB (t := 36) rfl (dec_f hc18)
                replace hf := hf.castB (t := 37) rfl (dec_f hc18)
                refine stq hf rfl rfl rfl (ex_fieldAddrB fa_45_2 rfl hf rfl) (fun a hf => ?_)
                refine stq hf rfl rfl rfl (ex_load sc_3 hf rfl (bx_cell (hs.get (i := 0) rfl) _ rfl)) (fun a hf => ?_)
                refine stq hf rfl rfl rfl (ex_gtr hf rfl rfl) (fun a hf => ?_)
                refine stq hf rfl rfl rfl (ex_pickF hf rfl rfl) (fun a hf => ?_)
                refine hK20 _ _ ?_
                have e9 := some_eq H; subst e9
                exact hJ9 _ _ ⟨hf.sub ⟨rfl, rfl, rfl, trivial⟩, hs⟩
    · obtain ⟨hf, hs⟩ := hJ
      replace H := HO9
      clear HO9
      refine itt H (fun hc21 H => ?_) (fun hc21 H => ?_)
      · -- x9 = true
        replace hf := hf.castB (t := 41) rfl hc21
        refine cond_T hf rfl ?_
        refine seq_reg (fun K22 hK22 => ?_)
        refine stq hf rfl rfl rfl (ex_assign hf rfl) (fun a hf => ?_)
        refine stq hf rfl rfl rfl (ex_assign hf rfl) (fun a hf => ?_)
        refine hK22 _ _ ?_
        refine wp_ret ?_
        refine hR8 _ _ ?_
        have eR := some_eq H; subst eR
        replace hs := hs.keep (.d .nil)
        exact ret2 Try.results25 hf rfl rfl ⟨_, rfl, .inl ⟨rfl, rfl, hs⟩⟩
      · -- not x9 = true
        replace hf := hf.castB (t := 41) rfl (bool_f hc21)
        refine cond_F hf rfl ?_
        refine wp_skip ?_
        refine hN8 _ _ ?_
        refine seq_n (fun Q23 hN23 hR23 hX23 => ?_)
        refine bnd H (fun s24 hs24 H => ?_)
        refine region_d fol 8 [(0, v0), (3, .pointer (some ⟨b1, 0, none⟩))] [(0, v0), (2, .agg #[.int .i64 a1.Up, .int .i64 a1.Down, .int .i64 a1.Samples]), (3, v0), (4, .int .i64 (a0.length : Int)), (5, .int .i64 (IntKind.i64.wrap ((a0.length : Int) - 1)))] [1, 7] (fun w => (bx b1 45 [.int .i64 a1.Up, .int .i64 a1.Down, .int .i64 a1.Samples]).ok w ∧ (rsl K_api_OperatingPoint v0 a0).ok w ∧ True) (fun w => St M w0 w [bx b1 45 [.int .i64 a1.Up, .int .i64 a1.Down, .int .i64 a1.Samples]]) hf ⟨rfl, rfl, trivial⟩ (by kernel_rfl) (by kernel_rfl) rfl (by decide) ⟨hs.drew.get (i := 0) rfl, hr.now hs.drew (i := 0) rfl, trivial⟩ hs.drew (.cons (⟨_, _, rfl, rfl, rfl, rfl, fun a w hR hf => .inl ⟨wanted_yes hf rfl, ex_move hf rfl⟩⟩) (.cons (⟨_, _, rfl, rfl, rfl, rfl, fun a w hR hf => .inl ⟨wanted_yes hf rfl, ex_loadA (cs := [.int .i64 a1.Up, .int .i64 a1.Down, .int .i64 a1.Samples]) ag_45 hf rfl (bx_cells (hR.1) rfl)⟩⟩) (.cons (⟨_, _, rfl, rfl, rfl, rfl, fun a w hR hf => .inl ⟨wanted_yes hf rfl, ex_move hf rfl⟩⟩) (.cons (⟨_, _, rfl, rfl, rfl, rfl, fun a w hR hf => .inl ⟨wanted_yes hf rfl, ex_lenS Try.underlying22 (rsl_isSl hR.2.1) hf rfl⟩⟩) (.cons (⟨_, _, rfl, rfl, rfl, rfl, fun a w hR hf => .inl ⟨wanted_yes hf rfl, ex_sub hf rfl rfl⟩⟩) (.nil)))))) (fun K27 hK27 => ?_)
        refine RW.one 1 (by kernel_rfl) (by kernel_rfl) rfl (fun d hd => by cases hd; rfl) [(42, v0)] ⟨rfl, trivial⟩ (fun a w hR hs hf => ⟨wanted_yes hf rfl, ?_⟩)
        refine estep_f (ex_call cf_38 hf rfl) (slices_Clone_api_OperatingPoint_api_OperatingPoint.calls k a0 v0 (hs.enter (.k .nil)) (Sr.old hr hs (.k .nil) (i := 0) rfl (fun _ h => h) (fun _ h => h) (Sr.nil _ _)) hs24) (fun v w hR => ?_)
        obtain ⟨v25, rfl, hs'⟩ := hR
        replace hs := hs.step (.k .nil) hs'
        clear hs'
        refine ⟨[(6, .agg #[v25, .int .i64 a1.Up, .int .i64 a1.Down, .int .i64 a1.Samples, .int .i64 0, .int .i64 (IntKind.i64.wrap ((a0.length : Int) - 1)), .int .i64 0, .int .i64 0])], [(6, .agg #[v25, .int .i64 a1.Up, .int .i64 a1.Down, .int .i64 a1.Samples, .int .i64 0, .int .i64 (IntKind.i64.wrap ((a0.length : Int) - 1)), .int .i64 0, .int .i64 0]), (1, v25), (0, v0), (2, .agg #[.int .i64 a1.Up, .int .i64 a1.Down, .int .i64 a1.Samples]), (3, v0), (4, .int .i64 (a0.length : Int)), (5, .int .i64 (IntKind.i64.wrap ((a0.length : Int) - 1)))], [7], (fun w => (osl K_api_OperatingPoint v25 s24).ok w ∧ True), (fun w => St M w0 w [osl K_api_OperatingPoint v25 s24, bx b1 45 [.int .i64 a1.Up, .int .i64 a1.Down, .int .i64 a1.Samples]]), rfl, rfl, ⟨hs.get (i := 1) rfl, hr.now hs (i := 0) rfl, trivial⟩, ⟨hs.get (i := 0) rfl, trivial⟩, hs, (by kernel_rfl), .cons (⟨_, _, rfl, rfl, rfl, rfl, fun a w hR hf => .inl ⟨wanted_yes hf rfl, ex_build (cs := [v25, .int .i64 a1.Up, .int .i64 a1.Down, .int .i64 a1.Samples, .int .i64 0, .int .i64 (IntKind.i64.wrap ((a0.length : Int) - 1)), .int .i64 0, .int .i64 0]) bt_66 hf rfl (.cons (CL.one (IsSl.one (rsl_isSl (osl_rsl _ hR.2.1)))) (.cons rfl (.cons rfl .nil))) rfl⟩⟩) (.nil), ?_⟩
        refine RW.one 7 (by kernel_rfl) (by kernel_rfl) rfl (fun d hd => by cases hd; rfl) [(48, .agg #[v25, .int .i64 a1.Up, .int .i64 a1.Down, .int .i64 a1.Samples, .int .i64 0, .int .i64 (IntKind.i64.wrap ((a0.length : Int) - 1)), .int .i64 0, .int .i64 0])] ⟨rfl, trivial⟩ (fun a w hR hs hf => ⟨wanted_yes hf rfl, ?_⟩)
        refine estep_v (er_box (cs := [v25, .int .i64 a1.Up, .int .i64 a1.Down, .int .i64 a1.Samples, .int .i64 0, .int .i64 (IntKind.i64.wrap ((a0.length : Int) - 1)), .int .i64 0, .int .i64 0]) hs hf rfl rfl) (fun v w hR => ?_)
        obtain ⟨b26, rfl, hs⟩ := hR
        refine ⟨[], [(7, .pointer (some ⟨b26, 0, none⟩)), (6, .agg #[v25, .int .i64 a1.Up, .int .i64 a1.Down, .int .i64 a1.Samples, .int .i64 0, .int .i64 (IntKind.i64.wrap ((a0.length : Int) - 1)), .int .i64 0, .int .i64 0]), (1, v25), (0, v0), (2, .agg #[.int .i64 a1.Up, .int .i64 a1.Down, .int .i64 a1.Samples]), (3, v0), (4, .int .i64 (a0.length : Int)), (5, .int .i64 (IntKind.i64.wrap ((a0.length : Int) - 1)))], [], (fun _ => True), (fun w => St M w0 w [bx b26 66 [v25, .int .i64 a1.Up, .int .i64 a1.Down, .int .i64 a1.Samples, .int .i64 0, .int .i64 (IntKind.i64.wrap ((a0.length : Int) - 1)), .int .i64 0, .int .i64 0], osl K_api_OperatingPoint v25 s24, bx b1 45 [.int .i64 a1.Up, .int .i64 a1.Down, .int .i64 a1.Samples]]), rfl, rfl, ⟨⟨hs.get (i := 2) rfl, hr.now hs (i := 0) rfl, trivial⟩, ⟨hs.get (i := 1) rfl, trivial⟩⟩, trivial, hs, (by kernel_rfl), .nil, ?_⟩
        refine RW.zero (by kernel_rfl) (by kernel_rfl) [(49, .pointer (some ⟨b26, 0, none⟩))] ⟨rfl, trivial⟩ (fun a w hR hs hf => ?_)
        refine stq hf rfl rfl rfl (ex_assign hf rfl) (fun a hf => ?_)
        refine stq hf rfl rfl rfl (ex_assign hf rfl) (fun a hf => ?_)
        refine hK27 _ _ ?_
        refine hN23 _ _ ?_
        refine wp_ret ?_
        have eR := some_eq H; subst eR
        replace hs := hs.keep (.k (.k (.d .nil)))
        exact ret2 Try.results25 hf rfl rfl ⟨_, rfl, .inr ⟨_, rfl, b26, v25, rfl, hs⟩⟩
  · -- not s4 = 0
    replace hf := hf.castB (t := 10) rfl (ndec_t hc7)
    refine cond_T hf rfl ?_
    refine seq_reg (fun K28 hK28 => ?_)
    refine stq hf rfl rfl rfl (ex_move hf rfl) (fun a hf => ?_)
    refine stq hf rfl rfl rfl (ex_assign hf rfl) (fun a hf => ?_)
    refine stq hf rfl rfl rfl (ex_assign hf rfl) (fun a hf => ?_)
    refine hK28 _ _ ?_
    refine wp_ret ?_
    refine hR3 _ _ ?_
    have eR := some_eq H; subst eR
    replace hs := hs.keep (.d .nil)
    exact ret2 Try.results25 hf rfl rfl ⟨_, rfl, .inl ⟨rfl, rfl, hs⟩⟩

set_option maxRecDepth 100000 in
theorem perf_Governor_lowest.calls {M : Nat → Prop} {w0 : World} (k : Nat) (a0_table : (List OperatingPoint)) (a0_params_Up : Int) (a0_params_Down : Int) (a0_params_Samples : Int) (a0_low : Int) (a0_high : Int) (a0_current : Int) (a0_quiet : Int) (a1 : Int) (b0 : Nat) (v0_table : Value) {r : Int} (hs : St M w0 w0 []) (hr : Sr M w0 [bx b0 66 [v0_table, .int .i64 a0_params_Up, .int .i64 a0_params_Down, .int .i64 a0_params_Samples, .int .i64 a0_low, .int .i64 a0_high, .int .i64 a0_current, .int .i64 a0_quiet], rsl K_api_OperatingPoint v0_table a0_table])
    (h : perf_Governor_lowest.f k a0_table a0_params_Up a0_params_Down a0_params_Samples a0_low a0_high a0_current a0_quiet a1 = some r) : Calls Try.prog 39 #[.pointer (some ⟨b0, 0, none⟩), .int .u64 a1] w0 fun e w => ∃ v, e = .returned v ∧ (.int .i64 r = v ∧ St M w0 w []) := by
  have H := (perf_Governor_lowest.f.eq_1 ..).symm.trans h
  clear h
  refine enter Try.func39 rfl Try.ntmps39 rfl (fun a hf => ?_)
  refine seq_reg (fun K1 hK1 => ?_)
  refine stq hf rfl rfl rfl (ex_assign hf rfl) (fun a hf => ?_)
  refine hK1 _ _ ?_
  refine seq_reg (fun K2 hK2 => ?_)
  refine stq hf rfl rfl rfl (ex_move hf rfl) (fun a hf => ?_)
  refine stq hf rfl rfl rfl (ex_nilCheck hf rfl) (fun a hf => ?_)
  refine stq hf rfl rfl rfl (ex_fieldAddrB fa_66_2 rfl hf rfl) (fun a hf => ?_)
  refine stq hf rfl rfl rfl (ex_load sc_3 hf rfl (bx_cell (hr.now hs (i := 0) rfl) _ rfl)) (fun a hf => ?_)
  refine stq hf rfl rfl rfl (ex_assign hf rfl) (fun a hf => ?_)
  refine hK2 _ _ ?_
  refine bnd H (fun x3 H3 HO3 => ?_)
  clear H
  refine seq_cut (fun a w => Fr a 50 [(5, .int .i64 x3)] ∧ St M w0 w []) (fun Q3 hJ3 hR3 hX3 => ?_) (fun a w hJ => ?_)
  · replace H := H3
    refine block_k (fun Q4 hN4 hR4 hX4 hY4 => ?_)
    refine loop_k (fun n a w => ∃ (y5 : Int), Fr a 50 [(0, .pointer (some ⟨b0, 0, none⟩)), (1, .int .u64 a1), (5, .int .i64 y5)] ∧ St M w0 w [] ∧ perf_Governor_lowest.l1 n a0_current a0_table a0_params_Up a1 y5 = some x3) k ?_ (fun n7 a w hI Q7 hL7 hR7 hX7 => ?_)
    · -- at the start
      exact ⟨a0_low, hf.sub ⟨rfl, rfl, rfl, trivial⟩, hs, H⟩
    · obtain ⟨y5, hf, hs, H⟩ := hI
      cases n7 with
      | zero => exact absurd H (by rw [perf_Governor_lowest.l1.eq_1]; intro h; cases h)
      | succ k7 =>
        replace H := (perf_Governor_lowest.l1.eq_2 ..).symm.trans H
        refine seq_n (fun Q8 hN8 hR8 hX8 => ?_)
        refine bnd H (fun x9 H9 HO9 => ?_)
        clear H
        refine seq_cut (fun a w => Fr a 50 [(0, .pointer (some ⟨b0, 0, none⟩)), (1, .int .u64 a1), (5, .int .i64 y5), (46, .bool x9)] ∧ St M w0 w []) (fun Q9 hJ9 hR9 hX9 => ?_) (fun a w hJ => ?_)
        · replace H := H9
          refine itt H (fun hc10 H => ?_) (fun hc10 H => ?_)
          · -- y5 < a0_current
            refine ck_some H (fun hc11 H => ?_)
            refine ck_some H (fun hc12 H => ?_)
            refine region_d fol 37 [(0, .pointer (some ⟨b0, 0, none⟩)), (1, .int .u64 a1), (5, .int .i64 y5)] [(0, .int .i64 y5), (1, .pointer (some ⟨b0, 0, none⟩)), (2, .pointer (some ⟨b0, 0, none⟩)), (3, .pointer (some ⟨b0, 6, none⟩)), (4, .int .i64 a0_current), (5, .bool true), (6, .bool true), (7, .int .u64 a1), (8, .pointer (some ⟨b0, 0, none⟩)), (9, .pointer (some ⟨b0, 0, none⟩)), (10, .pointer (some ⟨b0, 0, none⟩)), (11, v0_table), (12, .pointer (some ⟨b0, 0, none⟩)), (13, .pointer (some ⟨b0, 0, none⟩)), (14, .pointer (some ⟨b0, 6, none⟩)), (15, .int .i64 a0_current), (16, .pointer (some (sla v0_table (a0_current.toNat * 3)))), (17, .pointer (some (sla v0_table (a0_current.toNat * 3 + 0)))), (18, .int .u64 ((gd OperatingPoint.zero a0_table a0_current).Frequency)), (19, .int .u64 (IntKind.u64.wrap (a1 * ((gd OperatingPoint.zero a0_table a0_current).Frequency)))), (20, .pointer (some ⟨b0, 0, none⟩)), (21, .pointer (some ⟨b0, 0, none⟩)), (22, .pointer (some ⟨b0, 1, none⟩)), (23, .pointer (some ⟨b0, 1, none⟩)), (24, .int .i64 a0_params_Up), (25, .int .u64 (IntKind.u64.wrap a0_params_Up)), (26, .pointer (some ⟨b0, 0, none⟩)), (27, .pointer (some ⟨b0, 0, none⟩)), (28, .pointer (some ⟨b0, 0, none⟩)), (29, v0_table), (30, .int .i64 y5), (31, .pointer (some (sla v0_table (y5.toNat * 3)))), (32, .pointer (some (sla v0_table (y5.toNat * 3 + 0)))), (33, .int .u64 ((gd OperatingPoint.zero a0_table y5).Frequency)), (34, .int .u64 (IntKind.u64.wrap ((IntKind.u64.wrap a0_params_Up) * ((gd OperatingPoint.zero a0_table y5).Frequency)))), (35, .bool (decide ((IntKind.u64.wrap ((IntKind.u64.wrap a0_params_Up) * ((gd OperatingPoint.zero a0_table y5).Frequency))) < (IntKind.u64.wrap (a1 * ((gd OperatingPoint.zero a0_table a0_current).Frequency)))))), (36, .bool (decide ((IntKind.u64.wrap ((IntKind.u64.wrap a0_params_Up) * ((gd OperatingPoint.zero a0_table y5).Frequency))) < (IntKind.u64.wrap (a1 * ((gd OperatingPoint.zero a0_table a0_current).Frequency))))))] [] (fun w => (bx b0 66 [v0_table, .int .i64 a0_params_Up, .int .i64 a0_params_Down, .int .i64 a0_params_Samples, .int .i64 a0_low, .int .i64 a0_high, .int .i64 a0_current, .int .i64 a0_quiet]).ok w ∧ (rsl K_api_OperatingPoint v0_table a0_table).ok w ∧ True) (fun w => St M w0 w []) hf ⟨rfl, rfl, rfl, trivial⟩ (by kernel_rfl) (by kernel_rfl) rfl (by decide) ⟨hr.now hs.drew (i := 0) rfl, hr.now hs.drew (i := 1) rfl, trivial⟩ hs.drew (.cons (⟨_, _, rfl, rfl, rfl, rfl, fun a w hR hf => .inl ⟨wanted_yes hf rfl, ex_move hf rfl⟩⟩) (.cons (⟨_, _, rfl, rfl, rfl, rfl, fun a w hR hf => .inl ⟨wanted_yes hf rfl, ex_move hf rfl⟩⟩) (.cons (⟨_, _, rfl, rfl, rfl, rfl, fun a w hR hf => .inl ⟨wanted_yes hf rfl, ex_nilCheck hf rfl⟩⟩) (.cons (⟨_, _, rfl, rfl, rfl, rfl, fun a w hR hf => .inl ⟨wanted_yes hf rfl, ex_fieldAddrB fa_66_4 rfl hf rfl⟩⟩) (.cons (⟨_, _, rfl, rfl, rfl, rfl, fun a w hR hf => .inl ⟨wanted_yes hf rfl, ex_load sc_3 hf rfl (bx_cell (hR.1) _ rfl)⟩⟩) (.cons (⟨_, _, rfl, rfl, rfl, rfl, fun a w hR hf => .inl ⟨wanted_yes hf rfl, ex_castB (ex_lss hf rfl rfl) (dec_t hc10)⟩⟩) (.cons (⟨_, _, rfl, rfl, rfl, rfl, fun a w hR hf => .inl ⟨wanted_yes hf rfl, ex_move hf rfl⟩⟩) (.cons (⟨_, _, rfl, rfl, rfl, rfl, fun a w hR hf => .inl ⟨wanted_yes hf rfl, ex_move hf rfl⟩⟩) (.cons (⟨_, _, rfl, rfl, rfl, rfl, fun a w hR hf => .inl ⟨wanted_yes hf rfl, ex_move hf rfl⟩⟩) (.cons (⟨_, _, rfl, rfl, rfl, rfl, fun a w hR hf => .inl ⟨wanted_yes hf rfl, ex_nilCheck hf rfl⟩⟩) (.cons (⟨_, _, rfl, rfl, rfl, rfl, fun a w hR hf => .inl ⟨wanted_yes hf rfl, ex_fieldAddrB fa_66_0 rfl hf rfl⟩⟩) (.cons (⟨_, _, rfl, rfl, rfl, rfl, fun a w hR hf => .inl ⟨wanted_yes hf rfl, ex_load sc_22 hf rfl (bx_cell (hR.1) _ rfl)⟩⟩) (.cons (⟨_, _, rfl, rfl, rfl, rfl, fun a w hR hf => .inl ⟨wanted_yes hf rfl, ex_move hf rfl⟩⟩) (.cons (⟨_, _, rfl, rfl, rfl, rfl, fun a w hR hf => .inl ⟨wanted_yes hf rfl, ex_nilCheck hf rfl⟩⟩) (.cons (⟨_, _, rfl, rfl, rfl, rfl, fun a w hR hf => .inl ⟨wanted_yes hf rfl, ex_fieldAddrB fa_66_4 rfl hf rfl⟩⟩) (.cons (⟨_, _, rfl, rfl, rfl, rfl, fun a w hR hf => .inl ⟨wanted_yes hf rfl, ex_load sc_3 hf rfl (bx_cell (hR.1) _ rfl)⟩⟩) (.cons (⟨_, _, rfl, rfl, rfl, rfl, fun a w hR hf => .inl ⟨wanted_yes hf rfl, ex_indexAddr sa_22 (rsl_isSl hR.2.1) hc11.1 hc11.2 hf rfl rfl⟩⟩) (.cons (⟨_, _, rfl, rfl, rfl, rfl, fun a w hR hf => .inl ⟨wanted_yes hf rfl, ex_fieldAddrS fa_25_0 rfl hf rfl⟩⟩) (.cons (⟨_, _, rfl, rfl, rfl, rfl, fun a w hR hf => .inl ⟨wanted_yes hf rfl, ex_load sc_23 hf rfl (el_cell (K := K_api_OperatingPoint) (f := 0) (rsl_rd hR.2.1) hc11.1 hc11.2 rfl)⟩⟩) (.cons (⟨_, _, rfl, rfl, rfl, rfl, fun a w hR hf => .inl ⟨wanted_yes hf rfl, ex_mul hf rfl rfl⟩⟩) (.cons (⟨_, _, rfl, rfl, rfl, rfl, fun a w hR hf => .inl ⟨wanted_yes hf rfl, ex_move hf rfl⟩⟩) (.cons (⟨_, _, rfl, rfl, rfl, rfl, fun a w hR hf => .inl ⟨wanted_yes hf rfl, ex_nilCheck hf rfl⟩⟩) (.cons (⟨_, _, rfl, rfl, rfl, rfl, fun a w hR hf => .inl ⟨wanted_yes hf rfl, ex_fieldAddrB fa_66_1 rfl hf rfl⟩⟩) (.cons (⟨_, _, rfl, rfl, rfl, rfl, fun a w hR hf => .inl ⟨wanted_yes hf rfl, ex_fieldAddrB fa_45_0 rfl hf rfl⟩⟩) (.cons (⟨_, _, rfl, rfl, rfl, rfl, fun a w hR hf => .inl ⟨wanted_yes hf rfl, ex_load sc_3 hf rfl (bx_cell (hR.1) _ rfl)⟩⟩) (.cons (⟨_, _, rfl, rfl, rfl, rfl, fun a w hR hf => .inl ⟨wanted_yes hf rfl, ex_conv Try.underlying3 Try.underlying23 hf rfl⟩⟩) (.cons (⟨_, _, rfl, rfl, rfl, rfl, fun a w hR hf => .inl ⟨wanted_yes hf rfl, ex_move hf rfl⟩⟩) (.cons (⟨_, _, rfl, rfl, rfl, rfl, fun a w hR hf => .inl ⟨wanted_yes hf rfl, ex_nilCheck hf rfl⟩⟩) (.cons (⟨_, _, rfl, rfl, rfl, rfl, fun a w hR hf => .inl ⟨wanted_yes hf rfl, ex_fieldAddrB fa_66_0 rfl hf rfl⟩⟩) (.cons (⟨_, _, rfl, rfl, rfl, rfl, fun a w hR hf => .inl ⟨wanted_yes hf rfl, ex_load sc_22 hf rfl (bx_cell (hR.1) _ rfl)⟩⟩) (.cons (⟨_, _, rfl, rfl, rfl, rfl, fun a w hR hf => .inl ⟨wanted_yes hf rfl, ex_move hf rfl⟩⟩) (.cons (⟨_, _, rfl, rfl, rfl, rfl, fun a w hR hf => .inl ⟨wanted_yes hf rfl, ex_indexAddr sa_22 (rsl_isSl hR.2.1) hc12.1 hc12.2 hf rfl rfl⟩⟩) (.cons (⟨_, _, rfl, rfl, rfl, rfl, fun a w hR hf => .inl ⟨wanted_yes hf rfl, ex_fieldAddrS fa_25_0 rfl hf rfl⟩⟩) (.cons (⟨_, _, rfl, rfl, rfl, rfl, fun a w hR hf => .inl ⟨wanted_yes hf rfl, ex_load sc_23 hf rfl (el_cell (K := K_api_OperatingPoint) (f := 0) (rsl_rd hR.2.1) hc12.1 hc12.2 rfl)⟩⟩) (.cons (⟨_, _, rfl, rfl, rfl, rfl, fun a w hR hf => .inl ⟨wanted_yes hf rfl, ex_mul hf rfl rfl⟩⟩) (.cons (⟨_, _, rfl, rfl, rfl, rfl, fun a w hR hf => .inl ⟨wanted_yes hf rfl, ex_gtr hf rfl rfl⟩⟩) (.cons (⟨_, _, rfl, rfl, rfl, rfl, fun a w hR hf => .inl ⟨wanted_yes hf rfl, ex_pickT hf rfl rfl⟩⟩) (.nil)))))))))))))))))))))))))))))))))))))) (fun K13 hK13 => ?_)
            refine RW.zero (by kernel_rfl) (by kernel_rfl) [(0, .pointer (some ⟨b0, 0, none⟩)), (1, .int .u64 a1), (5, .int .i64 y5), (46, .bool (decide ((IntKind.u64.wrap ((IntKind.u64.wrap a0_params_Up) * ((gd OperatingPoint.zero a0_table y5).Frequency))) < (IntKind.u64.wrap (a1 * ((gd OperatingPoint.zero a0_table a0_current).Frequency))))))] ⟨rfl, rfl, rfl, rfl, trivial⟩ (fun a w hR hs hf => ?_)
            refine hK13 _ _ ?_
            have e9 := some_eq H; subst e9
            exact hJ9 _ _ ⟨hf.sub ⟨rfl, rfl, rfl, rfl, trivial⟩, hs⟩
          · -- not y5 < a0_current
            refine region_d fol 37 [(0, .pointer (some ⟨b0, 0, none⟩)), (1, .int .u64 a1), (5, .int .i64 y5)] [(0, .int .i64 y5), (1, .pointer (some ⟨b0, 0, none⟩)), (2, .pointer (some ⟨b0, 0, none⟩)), (3, .pointer (some ⟨b0, 6, none⟩)), (4, .int .i64 a0_current), (5, .bool false), (6, .bool false), (7, undef), (8, undef), (9, undef), (10, undef), (11, undef), (12, undef), (13, undef), (14, undef), (15, undef), (16, undef), (17, undef), (18, undef), (19, undef), (20, undef), (21, undef), (22, undef), (23, undef), (24, undef), (25, undef), (26, undef), (27, undef), (28, undef), (29, undef), (30, undef), (31, undef), (32, undef), (33, undef), (34, undef), (35, undef), (36, .bool false)] [] (fun w => (bx b0 66 [v0_table, .int .i64 a0_params_Up, .int .i64 a0_params_Down, .int .i64 a0_params_Samples, .int .i64 a0_low, .int .i64 a0_high, .int .i64 a0_current, .int .i64 a0_quiet]).ok w ∧ (rsl K_api_OperatingPoint v0_table a0_table).ok w ∧ True) (fun w => St M w0 w []) hf ⟨rfl, rfl, rfl, trivial⟩ (by kernel_rfl) (by kernel_rfl) rfl (by decide) ⟨hr.now hs.drew (i := 0) rfl, hr.now hs.drew (i := 1) rfl, trivial⟩ hs.drew (.cons (⟨_, _, rfl, rfl, rfl, rfl, fun a w hR hf => .inl ⟨wanted_yes hf rfl, ex_move hf rfl⟩⟩) (.cons (⟨_, _, rfl, rfl, rfl, rfl, fun a w hR hf => .inl ⟨wanted_yes hf rfl, ex_move hf rfl⟩⟩) (.cons (⟨_, _, rfl, rfl, rfl, rfl, fun a w hR hf => .inl ⟨wanted_yes hf rfl, ex_nilCheck hf rfl⟩⟩) (.cons (⟨_, _, rfl, rfl, rfl, rfl, fun a w hR hf => .inl ⟨wanted_yes hf rfl, ex_fieldAddrB fa_66_4 rfl hf rfl⟩⟩) (.cons (⟨_, _, rfl, rfl, rfl, rfl, fun a w hR hf => .inl ⟨wanted_yes hf rfl, ex_load sc_3 hf rfl (bx_cell (hR.1) _ rfl)⟩⟩) (.cons (⟨_, _, rfl, rfl, rfl, rfl, fun a w hR hf => .inl ⟨wanted_yes hf rfl, ex_castB (ex_lss hf rfl rfl) (dec_f hc10)⟩⟩) (.cons (⟨_, _, rfl, rfl, rfl, rfl, fun a w hR hf => .inl ⟨wanted_yes hf rfl, ex_move hf rfl⟩⟩) (.cons (⟨_, _, rfl, rfl, rfl, rfl, fun a w hR hf => .inr ⟨wanted_no hf rfl, rfl⟩⟩) (.cons (⟨_, _, rfl, rfl, rfl, rfl, fun a w hR hf => .inr ⟨wanted_no hf rfl, rfl⟩⟩) (.cons (⟨_, _, rfl, rfl, rfl, rfl, fun a w hR hf => .inr ⟨wanted_no hf rfl, rfl⟩⟩) (.cons (⟨_, _, rfl, rfl, rfl, rfl, fun a w hR hf => .inr ⟨wanted_no hf rfl, rfl⟩⟩) (.cons (⟨_, _, rfl, rfl, rfl, rfl, fun a w hR hf => .inr ⟨wanted_no hf rfl, rfl⟩⟩) (.cons (⟨_, _, rfl, rfl, rfl, rfl, fun a w hR hf => .inr ⟨wanted_no hf rfl, rfl⟩⟩) (.cons (⟨_, _, rfl, rfl, rfl, rfl, fun a w hR hf => .inr ⟨wanted_no hf rfl, rfl⟩⟩) (.cons (⟨_, _, rfl, rfl, rfl, rfl, fun a w hR hf => .inr ⟨wanted_no hf rfl, rfl⟩⟩) (.cons (⟨_, _, rfl, rfl, rfl, rfl, fun a w hR hf => .inr ⟨wanted_no hf rfl, rfl⟩⟩) (.cons (⟨_, _, rfl, rfl, rfl, rfl, fun a w hR hf => .inr ⟨wanted_no hf rfl, rfl⟩⟩) (.cons (⟨_, _, rfl, rfl, rfl, rfl, fun a w hR hf => .inr ⟨wanted_no hf rfl, rfl⟩⟩) (.cons (⟨_, _, rfl, rfl, rfl, rfl, fun a w hR hf => .inr ⟨wanted_no hf rfl, rfl⟩⟩) (.cons (⟨_, _, rfl, rfl, rfl, rfl, fun a w hR hf => .inr ⟨wanted_no hf rfl, rfl⟩⟩) (.cons (⟨_, _, rfl, rfl, rfl, rfl, fun a w hR hf => .inr ⟨wanted_no hf rfl, rfl⟩⟩) (.cons (⟨_, _, rfl, rfl, rfl, rfl, fun a w hR hf => .inr ⟨wanted_no hf rfl, rfl⟩⟩) (.cons (⟨_, _, rfl, rfl, rfl, rfl, fun a w hR hf => .inr ⟨wanted_no hf rfl, rfl⟩⟩) (.cons (⟨_, _, rfl, rfl, rfl, rfl, fun a w hR hf => .inr ⟨wanted_no hf rfl, rfl⟩⟩) (.cons (⟨_, _, rfl, rfl, rfl, rfl, fun a w hR hf => .inr ⟨wanted_no hf rfl, rfl⟩⟩) (.cons (⟨_, _, rfl, rfl, rfl, rfl, fun a w hR hf => .inr ⟨wanted_no hf rfl, rfl⟩⟩) (.cons (⟨_, _, rfl, rfl, rfl, rfl, fun a w hR hf => .inr ⟨wanted_no hf rfl, rfl⟩⟩) (.cons (⟨_, _, rfl, rfl, rfl, rfl, fun a w hR hf => .inr ⟨wanted_no hf rfl, rfl⟩⟩) (.cons (⟨_, _, rfl, rfl, rfl, rfl, fun a w hR hf => .inr ⟨wanted_no hf rfl, rfl⟩⟩) (.cons (⟨_, _, rfl, rfl, rfl, rfl, fun a w hR hf => .inr ⟨wanted_no hf rfl, rfl⟩⟩) (.cons (⟨_, _, rfl, rfl, rfl, rfl, fun a w hR hf => .inr ⟨wanted_no hf rfl, rfl⟩⟩) (.cons (⟨_, _, rfl, rfl, rfl, rfl, fun a w hR hf => .inr ⟨wanted_no hf rfl, rfl⟩⟩) (.cons (⟨_, _, rfl, rfl, rfl, rfl, fun a w hR hf => .inr ⟨wanted_no hf rfl, rfl⟩⟩) (.cons (⟨_, _, rfl, rfl, rfl, rfl, fun a w hR hf => .inr ⟨wanted_no hf rfl, rfl⟩⟩) (.cons (⟨_, _, rfl, rfl, rfl, rfl, fun a w hR hf => .inr ⟨wanted_no hf rfl, rfl⟩⟩) (.cons (⟨_, _, rfl, rfl, rfl, rfl, fun a w hR hf => .inr ⟨wanted_no hf rfl, rfl⟩⟩) (.cons (⟨_, _, rfl, rfl, rfl, rfl, fun a w hR hf => .inl ⟨wanted_yes hf rfl, ex_pickF hf rfl rfl⟩⟩) (.nil)))))))))))))))))))))))))))))))))))))) (fun K14 hK14 => ?_)
            refine RW.zero (by kernel_rfl) (by kernel_rfl) [(0, .pointer (some ⟨b0, 0, none⟩)), (1, .int .u64 a1), (5, .int .i64 y5), (46, .bool false)] ⟨rfl, rfl, rfl, rfl, trivial⟩ (fun a w hR hs hf => ?_)
            refine hK14 _ _ ?_
            have e9 := some_eq H; subst e9
            exact hJ9 _ _ ⟨hf.sub ⟨rfl, rfl, rfl, rfl, trivial⟩, hs⟩
        · obtain ⟨hf, hs⟩ := hJ
          replace H := HO9
          clear HO9
          refine itt H (fun hc15 H => ?_) (fun hc15 H => ?_)
          · -- x9 = true
            replace hf := hf.castB (t := 46) rfl hc15
            refine cond_T hf rfl ?_
            refine wp_skip ?_
            refine hN8 _ _ ?_
            refine block_k (fun Q16 hN16 hR16 hX16 hY16 => ?_)
            refine region_k (fun K17 hK17 => ?_)
            refine stq hf rfl rfl rfl (ex_move hf rfl) (fun a hf => ?_)
            refine stq hf rfl rfl rfl (ex_add hf rfl rfl) (fun a hf => ?_)
            refine stq hf rfl rfl rfl (ex_assign hf rfl) (fun a hf => ?_)
            refine hK17 _ _ ?_
            refine hN16 _ _ ?_
            exact hL7 k7 _ _ (Nat.lt_succ_self _) ⟨(IntKind.i64.wrap (y5 + 1)), hf.sub ⟨rfl, rfl, rfl, trivial⟩, hs, H⟩
          · -- not x9 = true
            replace hf := hf.castB (t := 46) rfl (bool_f hc15)
            refine cond_F hf rfl ?_
            refine wp_exit ?_
            refine hX8 0 _ _ ?_
            refine hX7 0 _ _ ?_
            refine hX4 _ _ ?_
            have e3 := some_eq H; subst e3
            exact hJ3 _ _ ⟨hf.sub ⟨rfl, trivial⟩, hs⟩
  · obtain ⟨hf, hs⟩ := hJ
    replace H := HO3
    clear HO3
    refine seq_reg (fun K18 hK18 => ?_)
    refine stq hf rfl rfl rfl (ex_move hf rfl) (fun a hf => ?_)
    refine stq hf rfl rfl rfl (ex_assign hf rfl) (fun a hf => ?_)
    refine hK18 _ _ ?_
    refine wp_ret ?_
    have eR := some_eq H; subst eR
    exact ret1 Try.results39 hf rfl ⟨_, rfl, ⟨rfl, hs⟩⟩

set_option maxRecDepth 100000 in
theorem perf_Governor_Sample.calls {M : Nat → Prop} {w0 : World} (k : Nat) (a0_table : (List OperatingPoint)) (a0_params_Up : Int) (a0_params_Down : Int) (a0_params_Samples : Int) (a0_low : Int) (a0_high : Int) (a0_current : Int) (a0_quiet : Int) (a1 : Int) (b0 : Nat) (v0_table : Value) {r : Int × Int × Int × Int} (hs : St M w0 w0 [bx b0 66 [v0_table, .int .i64 a0_params_Up, .int .i64 a0_params_Down, .int .i64 a0_params_Samples, .int .i64 a0_low, .int .i64 a0_high, .int .i64 a0_current, .int .i64 a0_quiet]]) (hr : Sr M w0 [rsl K_api_OperatingPoint v0_table a0_table])
    (h : perf_Governor_Sample.f k a0_table a0_params_Up a0_params_Down a0_params_Samples a0_low a0_high a0_current a0_quiet a1 = some r) : Calls Try.prog 26 #[.pointer (some ⟨b0, 0, none⟩), .int .i64 a1] w0 fun e w => ∃ v, e = .returned v ∧ (.tuple #[.int .i64 r.2.2.1, .int .i64 r.2.2.2] = v ∧ St M w0 w [bx b0 66 [v0_table, .int .i64 a0_params_Up, .int .i64 a0_params_Down, .int .i64 a0_params_Samples, .int .i64 a0_low, .int .i64 a0_high, .int .i64 r.1, .int .i64 r.2.1]]) := by
  have H := (perf_Governor_Sample.f.eq_1 ..).symm.trans h
  clear h
  refine enter Try.func26 rfl Try.ntmps26 rfl (fun a hf => ?_)
  refine seq_reg (fun K1 hK1 => ?_)
  refine stq hf rfl rfl rfl (ex_assign hf rfl) (fun a hf => ?_)
  refine stq hf rfl rfl rfl (ex_assign hf rfl) (fun a hf => ?_)
  refine hK1 _ _ ?_
  refine seq_n (fun Q2 hN2 hR2 hX2 => ?_)
  refine bnd H (fun x3 H3 HO3 => ?_)
  clear H
  refine seq_cut (fun a w => Fr a 74 [(0, .pointer (some ⟨b0, 0, none⟩)), (1, .int .i64 a1), (11, .bool x3)] ∧ St M w0 w [bx b0 66 [v0_table, .int .i64 a0_params_Up, .int .i64 a0_params_Down, .int .i64 a0_params_Samples, .int .i64 a0_low, .int .i64 a0_high, .int .i64 a0_current, .int .i64 a0_quiet]]) (fun Q3 hJ3 hR3 hX3 => ?_) (fun a w hJ => ?_)
  · replace H := H3
    refine itt H (fun hc4 H => ?_) (fun hc4 H => ?_)
    · -- a1 < 0
      refine region_k (fun K5 hK5 => ?_)
      refine stq hf rfl rfl rfl (ex_move hf rfl) (fun a hf => ?_)
      refine stq hf rfl rfl rfl (ex_lss hf rfl rfl) (fun a hf => ?_)
      refine stq hf rfl rfl rfl (ex_move hf rfl) (fun a hf => ?_)
      replace hf := hf.castB (t := 7) rfl (dec_t hc4)
      replace hf := hf.castB (t := 8) rfl (dec_t hc4)
      refine stepN hf rfl rfl rfl (fun a hf => ?_)
      refine stepN hf rfl rfl rfl (fun a hf => ?_)
      refine stq hf rfl rfl rfl (ex_pickT hf rfl rfl) (fun a hf => ?_)
      refine hK5 _ _ ?_
      have e3 := some_eq H; subst e3
      exact hJ3 _ _ ⟨hf.sub ⟨rfl, rfl, rfl, trivial⟩, hs⟩
    · -- not a1 < 0
      refine region_k (fun K6 hK6 => ?_)
      refine stq hf rfl rfl rfl (ex_move hf rfl) (fun a hf => ?_)
      refine stq hf rfl rfl rfl (ex_lss hf rfl rfl) (fun a hf => ?_)
      refine stq hf rfl rfl rfl (ex_move hf rfl) (fun a hf => ?_)
      replace hf := hf.castB (t := 7) rfl (dec_f hc4)
      replace hf := hf.castB (t := 8) rfl (dec_f hc4)
      refine stq hf rfl rfl rfl (ex_move hf rfl) (fun a hf => ?_)
      refine stq hf rfl rfl rfl (ex_gtr hf rfl rfl) (fun a hf => ?_)
      refine stq hf rfl rfl rfl (ex_pickF hf rfl rfl) (fun a hf => ?_)
      refine hK6 _ _ ?_
      have e3 := some_eq H; subst e3
      exact hJ3 _ _ ⟨hf.sub ⟨rfl, rfl, rfl, trivial⟩, hs⟩
  · obtain ⟨hf, hs⟩ := hJ
    replace H := HO3
    clear HO3
    refine itt H (fun hc7 H => ?_) (fun hc7 H => ?_)
    · -- x3 = true
      replace hf := hf.castB (t := 11) rfl hc7
      refine cond_T hf rfl ?_
      refine seq_reg (fun K8 hK8 => ?_)
      refine stq hf rfl rfl rfl (ex_assign hf rfl) (fun a hf => ?_)
      refine stq hf rfl rfl rfl (ex_assign hf rfl) (fun a hf => ?_)
      refine hK8 _ _ ?_
      refine wp_ret ?_
      refine hR2 _ _ ?_
      have eR := some_eq H; subst eR
      exact ret2 Try.results26 hf rfl rfl ⟨_, rfl, ⟨rfl, hs⟩⟩
    · -- not x3 = true
      replace hf := hf.castB (t := 11) rfl (bool_f hc7)
      refine cond_F hf rfl ?_
      refine wp_skip ?_
      refine hN2 _ _ ?_
      refine bnd H (fun x9 H9 HO9 => ?_)
      clear H
      refine seq_cut (fun a w => Fr a 74 [(0, .pointer (some ⟨b0, 0, none⟩))] ∧ St M w0 w [bx b0 66 [v0_table, .int .i64 a0_params_Up, .int .i64 a0_params_Down, .int .i64 a0_params_Samples, .int .i64 a0_low, .int .i64 a0_high, .int .i64 x9.1, .int .i64 x9.2]]) (fun Q9 hJ9 hR9 hX9 => ?_) (fun a w hJ => ?_)
      · replace H := H9
        refine block_k (fun Q10 hN10 hR10 hX10 hY10 => ?_)
        refine seq_reg (fun K11 hK11 => ?_)
        refine stq hf rfl rfl rfl (ex_move hf rfl) (fun a hf => ?_)
        refine stq hf rfl rfl rfl (ex_move hf rfl) (fun a hf => ?_)
        refine stq hf rfl rfl rfl (ex_nilCheck hf rfl) (fun a hf => ?_)
        refine stq hf rfl rfl rfl (ex_fieldAddrB fa_66_1 rfl hf rfl) (fun a hf => ?_)
        refine stq hf rfl rfl rfl (ex_fieldAddrB fa_45_0 rfl hf rfl) (fun a hf => ?_)
        refine stq hf rfl rfl rfl (ex_load sc_3 hf rfl (bx_cell (hs.get (i := 0) rfl) _ rfl)) (fun a hf => ?_)
        refine stq hf rfl rfl rfl (ex_gtr hf rfl rfl) (fun a hf => ?_)
        refine stq hf rfl rfl rfl (ex_assign hf rfl) (fun a hf => ?_)
        refine hK11 _ _ ?_
        refine itt H (fun hc12 H => ?_) (fun hc12 H => ?_)
        · -- a0_params_Up < a1
          replace hf := hf.castB (t := 29) rfl (dec_t hc12)
          replace hf := hf.castB (t := 22) rfl (dec_t hc12)
          refine cond_T hf rfl ?_
          refine region_k (fun K13 hK13 => ?_)
          refine stq hf rfl rfl rfl (ex_move hf rfl) (fun a hf => ?_)
          refine stq hf rfl rfl rfl (ex_move hf rfl) (fun a hf => ?_)
          refine stq hf rfl rfl rfl (ex_move hf rfl) (fun a hf => ?_)
          refine stq hf rfl rfl rfl (ex_nilCheck hf rfl) (fun a hf => ?_)
          refine stq hf rfl rfl rfl (ex_fieldAddrB fa_66_3 rfl hf rfl) (fun a hf => ?_)
          refine stq hf rfl rfl rfl (ex_load sc_3 hf rfl (bx_cell (hs.get (i := 0) rfl) _ rfl)) (fun a hf => ?_)
          refine stq hf rfl rfl rfl (ex_nilCheck hf rfl) (fun a hf => ?_)
          refine stq hf rfl rfl rfl (ex_fieldAddrB fa_66_4 rfl hf rfl) (fun a hf => ?_)
          refine stepS hf rfl rfl (er_storeB hs (.c .nil) hf rfl rfl rfl sz_3 rfl) (fun w hs => ?_)
          refine stq hf rfl rfl rfl (ex_nilCheck hf rfl) (fun a hf => ?_)
          refine stq hf rfl rfl rfl (ex_fieldAddrB fa_66_5 rfl hf rfl) (fun a hf => ?_)
          refine stepS hf rfl rfl (er_storeB hs (.c .nil) hf rfl rfl rfl sz_3 rfl) (fun w hs => ?_)
          refine hK13 _ _ ?_
          refine hN10 _ _ ?_
          have e9 := some_eq H; subst e9
          exact hJ9 _ _ ⟨hf.sub ⟨rfl, trivial⟩, hs⟩
        · -- not a0_params_Up < a1
          replace hf := hf.castB (t := 29) rfl (dec_f hc12)
          replace hf := hf.castB (t := 22) rfl (dec_f hc12)
          refine cond_F hf rfl ?_
          refine seq_reg (fun K14 hK14 => ?_)
          refine stq hf rfl rfl rfl (ex_move hf rfl) (fun a hf => ?_)
          refine stq hf rfl rfl rfl (ex_move hf rfl) (fun a hf => ?_)
          refine stq hf rfl rfl rfl (ex_nilCheck hf rfl) (fun a hf => ?_)
          refine stq hf rfl rfl rfl (ex_fieldAddrB fa_66_1 rfl hf rfl) (fun a hf => ?_)
          refine stq hf rfl rfl rfl (ex_fieldAddrB fa_45_1 rfl hf rfl) (fun a hf => ?_)
          refine stq hf rfl rfl rfl (ex_load sc_3 hf rfl (bx_cell (hs.get (i := 0) rfl) _ rfl)) (fun a hf => ?_)
          refine stq hf rfl rfl rfl (ex_geq hf rfl rfl) (fun a hf => ?_)
          refine stq hf rfl rfl rfl (ex_assign hf rfl) (fun a hf => ?_)
          refine hK14 _ _ ?_
          refine itt H (fun hc15 H => ?_) (fun hc15 H => ?_)
          · -- a0_params_Down ≤ a1
            replace hf := hf.castB (t := 47) rfl (dec_t hc15)
            replace hf := hf.castB (t := 40) rfl (dec_t hc15)
            refine cond_T hf rfl ?_
            refine region_k (fun K16 hK16 => ?_)
            refine stq hf rfl rfl rfl (ex_move hf rfl) (fun a hf => ?_)
            refine stq hf rfl rfl rfl (ex_nilCheck hf rfl) (fun a hf => ?_)
            refine stq hf rfl rfl rfl (ex_fieldAddrB fa_66_5 rfl hf rfl) (fun a hf => ?_)
            refine stepS hf rfl rfl (er_storeB hs (.c .nil) hf rfl rfl rfl sz_3 rfl) (fun w hs => ?_)
            refine hK16 _ _ ?_
            refine hN10 _ _ ?_
            have e9 := some_eq H; subst e9
            exact hJ9 _ _ ⟨hf.sub ⟨rfl, trivial⟩, hs⟩
          · -- not a0_params_Down ≤ a1
            replace hf := hf.castB (t := 47) rfl (dec_f hc15)
            replace hf := hf.castB (t := 40) rfl (dec_f hc15)
            refine cond_F hf rfl ?_
            refine seq_n (fun Q17 hN17 hR17 hX17 => ?_)
            refine region_d fol 12 [(0, .pointer (some ⟨b0, 0, none⟩)), (1, .int .i64 a1)] [(0, .pointer (some ⟨b0, 0, none⟩)), (1, .pointer (some ⟨b0, 0, none⟩)), (2, .pointer (some ⟨b0, 7, none⟩)), (3, .int .i64 a0_quiet), (4, .int .i64 (IntKind.i64.wrap (a0_quiet + 1))), (5, .pointer (some ⟨b0, 0, none⟩)), (6, .pointer (some ⟨b0, 0, none⟩)), (7, .pointer (some ⟨b0, 1, none⟩)), (8, .pointer (some ⟨b0, 3, none⟩)), (9, .int .i64 a0_params_Samples), (10, .bool (decide ((IntKind.i64.wrap (a0_quiet + 1)) < a0_params_Samples))), (11, .bool (decide ((IntKind.i64.wrap (a0_quiet + 1)) < a0_params_Samples)))] [] (fun w => (bx b0 66 [v0_table, .int .i64 a0_params_Up, .int .i64 a0_params_Down, .int .i64 a0_params_Samples, .int .i64 a0_low, .int .i64 a0_high, .int .i64 a0_current, .int .i64 a0_quiet]).ok w ∧ True) (fun w => St M w0 w [bx b0 66 [v0_table, .int .i64 a0_params_Up, .int .i64 a0_params_Down, .int .i64 a0_params_Samples, .int .i64 a0_low, .int .i64 a0_high, .int .i64 a0_current, .int .i64 a0_quiet]]) hf ⟨rfl, rfl, trivial⟩ (by kernel_rfl) (by kernel_rfl) rfl (by decide) ⟨hs.drew.get (i := 0) rfl, trivial⟩ hs.drew (.cons (⟨_, _, rfl, rfl, rfl, rfl, fun a w hR hf => .inl ⟨wanted_yes hf rfl, ex_move hf rfl⟩⟩) (.cons (⟨_, _, rfl, rfl, rfl, rfl, fun a w hR hf => .inl ⟨wanted_yes hf rfl, ex_nilCheck hf rfl⟩⟩) (.cons (⟨_, _, rfl, rfl, rfl, rfl, fun a w hR hf => .inl ⟨wanted_yes hf rfl, ex_fieldAddrB fa_66_5 rfl hf rfl⟩⟩) (.cons (⟨_, _, rfl, rfl, rfl, rfl, fun a w hR hf => .inl ⟨wanted_yes hf rfl, ex_load sc_3 hf rfl (bx_cell (hR.1) _ rfl)⟩⟩) (.cons (⟨_, _, rfl, rfl, rfl, rfl, fun a w hR hf => .inl ⟨wanted_yes hf rfl, ex_add hf rfl rfl⟩⟩) (.cons (⟨_, _, rfl, rfl, rfl, rfl, fun a w hR hf => .inl ⟨wanted_yes hf rfl, ex_move hf rfl⟩⟩) (.cons (⟨_, _, rfl, rfl, rfl, rfl, fun a w hR hf => .inl ⟨wanted_yes hf rfl, ex_nilCheck hf rfl⟩⟩) (.cons (⟨_, _, rfl, rfl, rfl, rfl, fun a w hR hf => .inl ⟨wanted_yes hf rfl, ex_fieldAddrB fa_66_1 rfl hf rfl⟩⟩) (.cons (⟨_, _, rfl, rfl, rfl, rfl, fun a w hR hf => .inl ⟨wanted_yes hf rfl, ex_fieldAddrB fa_45_2 rfl hf rfl⟩⟩) (.cons (⟨_, _, rfl, rfl, rfl, rfl, fun a w hR hf => .inl ⟨wanted_yes hf rfl, ex_load sc_3 hf rfl (bx_cell (hR.1) _ rfl)⟩⟩) (.cons (⟨_, _, rfl, rfl, rfl, rfl, fun a w hR hf => .inl ⟨wanted_yes hf rfl, ex_lss hf rfl rfl⟩⟩) (.cons (⟨_, _, rfl, rfl, rfl, rfl, fun a w hR hf => .inl ⟨wanted_yes hf rfl, ex_assign hf rfl⟩⟩) (.nil))))))))))))) (fun K18 hK18 => ?_)
            refine RW.zero (by kernel_rfl) (by kernel_rfl) [(0, .pointer (some ⟨b0, 0, none⟩)), (1, .int .i64 a1), (51, .bool (decide ((IntKind.i64.wrap (a0_quiet + 1)) < a0_params_Samples)))] ⟨rfl, rfl, rfl, trivial⟩ (fun a w hR hs hf => ?_)
            refine hK18 _ _ ?_
            refine hN17 _ _ ?_
            refine itt H (fun hc19 H => ?_) (fun hc19 H => ?_)
            · -- (IntKind.i64.wrap (a0_quiet + 1)) < a0_params_Samples
              replace hf := hf.castB (t := 51) rfl (dec_t hc19)
              refine cond_T hf rfl ?_
              refine region_k (fun K20 hK20 => ?_)
              refine stq hf rfl rfl rfl (ex_move hf rfl) (fun a hf => ?_)
              refine stq hf rfl rfl rfl (ex_nilCheck hf rfl) (fun a hf => ?_)
              refine stq hf rfl rfl rfl (ex_fieldAddrB fa_66_5 rfl hf rfl) (fun a hf => ?_)
              refine stq hf rfl rfl rfl (ex_load sc_3 hf rfl (bx_cell (hs.get (i := 0) rfl) _ rfl)) (fun a hf => ?_)
              refine stq hf rfl rfl rfl (ex_add hf rfl rfl) (fun a hf => ?_)
              refine stq hf rfl rfl rfl (ex_nilCheck hf rfl) (fun a hf => ?_)
              refine stq hf rfl rfl rfl (ex_fieldAddrB fa_66_5 rfl hf rfl) (fun a hf => ?_)
              refine stepS hf rfl rfl (er_storeB hs (.c .nil) hf rfl rfl rfl sz_3 rfl) (fun w hs => ?_)
              refine hK20 _ _ ?_
              refine hN10 _ _ ?_
              have e9 := some_eq H; subst e9
              exact hJ9 _ _ ⟨hf.sub ⟨rfl, trivial⟩, hs⟩
            · -- not (IntKind.i64.wrap (a0_quiet + 1)) < a0_params_Samples
              replace hf := hf.castB (t := 51) rfl (dec_f hc19)
              refine cond_F hf rfl ?_
              refine seq_reg (fun K21 hK21 => ?_)
              refine stq hf rfl rfl rfl (ex_move hf rfl) (fun a hf => ?_)
              refine stq hf rfl rfl rfl (ex_nilCheck hf rfl) (fun a hf => ?_)
              refine stq hf rfl rfl rfl (ex_fieldAddrB fa_66_5 rfl hf rfl) (fun a hf => ?_)
              refine stepS hf rfl rfl (er_storeB hs (.c .nil) hf rfl rfl rfl sz_3 rfl) (fun w hs => ?_)
              refine hK21 _ _ ?_
              refine bnd H (fun s22 hs22 H => ?_)
              refine region_k (fun K23 hK23 => ?_)
              refine stq hf rfl rfl rfl (ex_move hf rfl) (fun a hf => ?_)
              refine stq hf rfl rfl rfl (ex_move hf rfl) (fun a hf => ?_)
              refine stq hf rfl rfl rfl (ex_move hf rfl) (fun a hf => ?_)
              refine stq hf rfl rfl rfl (ex_conv Try.underlying3 Try.underlying23 hf rfl) (fun a hf => ?_)
              refine stepF hf rfl rfl rfl (ex_call cf_39 hf rfl) (perf_Governor_lowest.calls k a0_table a0_params_Up a0_params_Down a0_params_Samples a0_low a0_high a0_current 0 (IntKind.u64.wrap a1) b0 v0_table (hs.enter (.k .nil)) (Sr.own hs (.k .nil) (i := 0) rfl (fun _ h => h) (fun _ h => h) (Sr.old hr hs (.k .nil) (i := 0) rfl (fun _ h => h) (fun _ h => h) (Sr.nil _ _))) hs22) (fun v w hR a hf => ?_)
              obtain ⟨rfl, hs'⟩ := hR
              replace hs := hs.step (.k .nil) hs'
              clear hs'
              refine stq hf rfl rfl rfl (ex_nilCheck hf rfl) (fun a hf => ?_)
              refine stq hf rfl rfl rfl (ex_fieldAddrB fa_66_4 rfl hf rfl) (fun a hf => ?_)
              refine stepS hf rfl rfl (er_storeB hs (.c .nil) hf rfl rfl rfl sz_3 rfl) (fun w hs => ?_)
              refine hK23 _ _ ?_
              refine hN10 _ _ ?_
              have e9 := some_eq H; subst e9
              exact hJ9 _ _ ⟨hf.sub ⟨rfl, trivial⟩, hs⟩
      · obtain ⟨hf, hs⟩ := hJ
        replace H := HO9
        clear HO9
        refine seq_reg (fun K24 hK24 => ?_)
        refine stq hf rfl rfl rfl (ex_move hf rfl) (fun a hf => ?_)
        refine stq hf rfl rfl rfl (ex_nilCheck hf rfl) (fun a hf => ?_)
        refine stq hf rfl rfl rfl (ex_fieldAddrB fa_66_4 rfl hf rfl) (fun a hf => ?_)
        refine stq hf rfl rfl rfl (ex_load sc_3 hf rfl (bx_cell (hs.get (i := 0) rfl) _ rfl)) (fun a hf => ?_)
        refine stq hf rfl rfl rfl (ex_assign hf rfl) (fun a hf => ?_)
        refine stq hf rfl rfl rfl (ex_assign hf rfl) (fun a hf => ?_)
        refine hK24 _ _ ?_
        refine wp_ret ?_
        have eR := some_eq H; subst eR
        exact ret2 Try.results26 hf rfl rfl ⟨_, rfl, ⟨rfl, hs⟩⟩

set_option maxRecDepth 100000 in
theorem perf_Governor_Current.calls {M : Nat → Prop} {w0 : World} (k : Nat) (a0_table : (List OperatingPoint)) (a0_params_Up : Int) (a0_params_Down : Int) (a0_params_Samples : Int) (a0_low : Int) (a0_high : Int) (a0_current : Int) (a0_quiet : Int) (b0 : Nat) (v0_table : Value) {r : Int} (hs : St M w0 w0 []) (hr : Sr M w0 [bx b0 66 [v0_table, .int .i64 a0_params_Up, .int .i64 a0_params_Down, .int .i64 a0_params_Samples, .int .i64 a0_low, .int .i64 a0_high, .int .i64 a0_current, .int .i64 a0_quiet], rsl K_api_OperatingPoint v0_table a0_table])
    (h : perf_Governor_Current.f k a0_table a0_params_Up a0_params_Down a0_params_Samples a0_low a0_high a0_current a0_quiet = some r) : Calls Try.prog 27 #[.pointer (some ⟨b0, 0, none⟩)] w0 fun e w => ∃ v, e = .returned v ∧ (.int .i64 r = v ∧ St M w0 w []) := by
  have H := (perf_Governor_Current.f.eq_1 ..).symm.trans h
  clear h
  refine enter Try.func27 rfl Try.ntmps27 rfl (fun a hf => ?_)
  refine seq_reg (fun K1 hK1 => ?_)
  refine stq hf rfl rfl rfl (ex_assign hf rfl) (fun a hf => ?_)
  refine hK1 _ _ ?_
  refine seq_reg (fun K2 hK2 => ?_)
  refine stq hf rfl rfl rfl (ex_move hf rfl) (fun a hf => ?_)
  refine stq hf rfl rfl rfl (ex_nilCheck hf rfl) (fun a hf => ?_)
  refine stq hf rfl rfl rfl (ex_fieldAddrB fa_66_4 rfl hf rfl) (fun a hf => ?_)
  refine stq hf rfl rfl rfl (ex_load sc_3 hf rfl (bx_cell (hr.now hs (i := 0) rfl) _ rfl)) (fun a hf => ?_)
  refine stq hf rfl rfl rfl (ex_assign hf rfl) (fun a hf => ?_)
  refine hK2 _ _ ?_
  refine wp_ret ?_
  have eR := some_eq H; subst eR
  exact ret1 Try.results27 hf rfl ⟨_, rfl, ⟨rfl, hs⟩⟩

set_option maxRecDepth 100000 in
theorem ref36_New.calls {M : Nat → Prop} {w0 : World} (k : Nat) (a0 : (List OperatingPoint)) (a1 : GovernorParams) (v0 : Value) {r : (Option ((List OperatingPoint) × Int × Int × Int × Int × Int × Int × Int)) × Int} (hs : St M w0 w0 []) (hr : Sr M w0 [rsl K_api_OperatingPoint v0 a0])
    (h : ref36_New.f k a0 a1 = some r) : Calls Try.prog 28 #[v0, .agg #[.int .i64 a1.Up, .int .i64 a1.Down, .int .i64 a1.Samples]] w0 fun e w => ∃ v, e = .returned v ∧ ((r.1 = none ∧ .tuple #[.pointer none, .int .i64 r.2] = v ∧ St M w0 w []) ∨ (∃ c, r.1 = some c ∧ ∃ (g0 : Nat) (g1 : Value), .tuple #[.pointer (some ⟨g0, 0, none⟩), .int .i64 r.2] = v ∧ St M w0 w [bx g0 69 [g1, .int .i64 c.2.1, .int .i64 c.2.2.1, .int .i64 c.2.2.2.1, .int .i64 c.2.2.2.2.1, .int .i64 c.2.2.2.2.2.1, .int .i64 c.2.2.2.2.2.2.1, .int .i64 c.2.2.2.2.2.2.2], osl K_api_OperatingPoint g1 c.1])) := by
  have H := (ref36_New.f.eq_1 ..).symm.trans h
  clear h
  refine enter Try.func28 rfl Try.ntmps28 rfl (fun a hf => ?_)
  refine seq_reg (fun K2 hK2 => ?_)
  refine stepV hf rfl rfl rfl (er_box (cs := [.int .i64 a1.Up, .int .i64 a1.Down, .int .i64 a1.Samples]) hs hf rfl rfl) (fun v w hR a hf => ?_)
  obtain ⟨b1, rfl, hs⟩ := hR
  refine stq hf rfl rfl rfl (ex_assign hf rfl) (fun a hf => ?_)
  refine stq hf rfl rfl rfl (ex_assign hf rfl) (fun a hf => ?_)
  refine hK2 _ _ ?_
  refine seq_n (fun Q3 hN3 hR3 hX3 => ?_)
  refine bnd H (fun s4 hs4 H => ?_)
  refine seq_reg (fun K5 hK5 => ?_)
  refine stq hf rfl rfl rfl (ex_move hf rfl) (fun a hf => ?_)
  refine stepF hf rfl rfl rfl (ex_call cf_18 hf rfl) (ref36_Check.calls k a0 v0 (hs.enter (.k .nil)) (Sr.old hr hs (.k .nil) (i := 0) rfl (fun _ h => h) (fun _ h => h) (Sr.nil _ _)) hs4) (fun v w hR a hf => ?_)
  obtain ⟨rfl, hs'⟩ := hR
  replace hs := hs.step (.k .nil) hs'
  clear hs'
  refine stq hf rfl rfl rfl (ex_assign hf rfl) (fun a hf => ?_)
  refine hK5 _ _ ?_
  refine seq_reg (fun K6 hK6 => ?_)
  refine stq hf rfl rfl rfl (ex_move hf rfl) (fun a hf => ?_)
  refine stq hf rfl rfl rfl (ex_neq hf rfl rfl) (fun a hf => ?_)
  refine hK6 _ _ ?_
  refine itt H (fun hc7 H => ?_) (fun hc7 H => ?_)
  · -- s4 = 0
    replace hf := hf.castB (t := 10) rfl (ndec_f hc7)
    refine cond_F hf rfl ?_
    refine wp_skip ?_
    refine hN3 _ _ ?_
    refine seq_n (fun Q8 hN8 hR8 hX8 => ?_)
    refine bnd H (fun x9 H9 HO9 => ?_)
    clear H
    refine seq_cut (fun a w => Fr a 51 [(0, v0), (3, .pointer (some ⟨b1, 0, none⟩)), (41, .bool x9)] ∧ St M w0 w [bx b1 45 [.int .i64 a1.Up, .int .i64 a1.Down, .int .i64 a1.Samples]]) (fun Q9 hJ9 hR9 hX9 => ?_) (fun a w hJ => ?_)
    · replace H := H9
      refine itt H (fun hc10 H => ?_) (fun hc10 H => ?_)
      · -- a1.Up < 1
        refine region_k (fun K11 hK11 => ?_)
        refine stq hf rfl rfl rfl (ex_fieldAddrB fa_45_0 rfl hf rfl) (fun a hf => ?_)
        refine stq hf rfl rfl rfl (ex_load sc_3 hf rfl (bx_cell (hs.get (i := 0) rfl) _ rfl)) (fun a hf => ?_)
        refine stq hf rfl rfl rfl (ex_lss hf rfl rfl) (fun a hf => ?_)
        refine stq hf rfl rfl rfl (ex_move hf rfl) (fun a hf => ?_)
        replace hf := hf.castB (t := 14) rfl (dec_t hc10)
        replace hf := hf.castB (t := 15) rfl (dec_t hc10)
        refine stepN hf rfl rfl rfl (fun a hf => ?_)
        refine stepN hf rfl rfl rfl (fun a hf => ?_)
        refine stepN hf rfl rfl rfl (fun a hf => ?_)
        refine stq hf rfl rfl rfl (ex_pickT hf rfl rfl) (fun a hf => ?_)
        refine stq hf rfl rfl rfl (ex_move hf rfl) (fun a hf => ?_)
        refine stepN hf rfl rfl rfl (fun a hf => ?_)
        refine stepN hf rfl rfl rfl (fun a hf => ?_)
        refine stepN hf rfl rfl rfl (fun a hf => ?_)
        refine stq hf rfl rfl rfl (ex_pickT hf rfl rfl) (fun a hf => ?_)
        refine stq hf rfl rfl rfl (ex_move hf rfl) (fun a hf => ?_)
        refine stepN hf rfl rfl rfl (fun a hf => ?_)
        refine stepN hf rfl rfl rfl (fun a hf => ?_)
        refine stepN hf rfl rfl rfl (fun a hf => ?_)
        refine stepN hf rfl rfl rfl (fun a hf => ?_)
        refine stepN hf rfl rfl rfl (fun a hf => ?_)
        refine stq hf rfl rfl rfl (ex_pickT hf rfl rfl) (fun a hf => ?_)
        refine stq hf rfl rfl rfl (ex_move hf rfl) (fun a hf => ?_)
        refine stepN hf rfl rfl rfl (fun a hf => ?_)
        refine stepN hf rfl rfl rfl (fun a hf => ?_)
        refine stepN hf rfl rfl rfl (fun a hf => ?_)
        refine stq hf rfl rfl rfl (ex_pickT hf rfl rfl) (fun a hf => ?_)
        refine stq hf rfl rfl rfl (ex_move hf rfl) (fun a hf => ?_)
        refine stepN hf rfl rfl rfl (fun a hf => ?_)
        refine stepN hf rfl rfl rfl (fun a hf => ?_)
        refine stepN hf rfl rfl rfl (fun a hf => ?_)
        refine stq hf rfl rfl rfl (ex_pickT hf rfl rfl) (fun a hf => ?_)
        refine hK11 _ _ ?_
        have e9 := some_eq H; subst e9
        exact hJ9 _ _ ⟨hf.sub ⟨rfl, rfl, rfl, trivial⟩, hs⟩
      · -- not a1.Up < 1
        refine itt H (fun hc12 H => ?_) (fun hc12 H => ?_)
        · -- 100 < a1.Up
          refine region_k (fun K13 hK13 => ?_)
          refine stq hf rfl rfl rfl (ex_fieldAddrB fa_45_0 rfl hf rfl) (fun a hf => ?_)
          refine stq hf rfl rfl rfl (ex_load sc_3 hf rfl (bx_cell (hs.get (i := 0) rfl) _ rfl)) (fun a hf => ?_)
          refine stq hf rfl rfl rfl (ex_lss hf rfl rfl) (fun a hf => ?_)
          refine stq hf rfl rfl rfl (ex_move hf rfl) (fun a hf => ?_)
          replace hf := hf.castB (t := 14) rfl (dec_f hc10)
          replace hf := hf.castB (t := 15) rfl (dec_f hc10)
          refine stq hf rfl rfl rfl (ex_fieldAddrB fa_45_0 rfl hf rfl) (fun a hf => ?_)
          refine stq hf rfl rfl rfl (ex_load sc_3 hf rfl (bx_cell (hs.get (i := 0) rfl) _ rfl)) (fun a hf => ?_)
          refine stq hf rfl rfl rfl (ex_gtr hf rfl rfl) (fun a hf => ?_)
          refine stq hf rfl rfl rfl (ex_pickF hf rfl rfl) (fun a hf => ?_)
          refine stq hf rfl rfl rfl (ex_move hf rfl) (fun a hf => ?_)
          replace hf := hf.castB (t := 18) rfl (dec_t hc12)
          replace hf := hf.castB (t := 19) rfl (dec_t hc12)
          replace hf := hf.castB (t := 20) rfl (dec_t hc12)
          refine stepN hf rfl rfl rfl (fun a hf => ?_)
          refine stepN hf rfl rfl rfl (fun a hf => ?_)
          refine stepN hf rfl rfl rfl (fun a hf => ?_)
          refine stq hf rfl rfl rfl (ex_pickT hf rfl rfl) (fun a hf => ?_)
          refine stq hf rfl rfl rfl (ex_move hf rfl) (fun a hf => ?_)
          refine stepN hf rfl rfl rfl (fun a hf => ?_)
          refine stepN hf rfl rfl rfl (fun a hf => ?_)
          refine stepN hf rfl rfl rfl (fun a hf => ?_)
          refine stepN hf rfl rfl rfl (fun a hf => ?_)
          refine stepN hf rfl rfl rfl (fun a hf => ?_)
          refine stq hf rfl rfl rfl (ex_pickT hf rfl rfl) (fun a hf => ?_)
          refine stq hf rfl rfl rfl (ex_move hf rfl) (fun a hf => ?_)
          refine stepN hf rfl rfl rfl (fun a hf => ?_)
          refine stepN hf rfl rfl rfl (fun a hf => ?_)
          refine stepN hf rfl rfl rfl (fun a hf => ?_)
          refine stq hf rfl rfl rfl (ex_pickT hf rfl rfl) (fun a hf => ?_)
          refine stq hf rfl rfl rfl (ex_move hf rfl) (fun a hf => ?_)
          refine stepN hf rfl rfl rfl (fun a hf => ?_)
          refine stepN hf rfl rfl rfl (fun a hf => ?_)
          refine stepN hf rfl rfl rfl (fun a hf => ?_)
          refine stq hf rfl rfl rfl (ex_pickT hf rfl rfl) (fun a hf => ?_)
          refine hK13 _ _ ?_
          have e9 := some_eq H; subst e9
          exact hJ9 _ _ ⟨hf.sub ⟨rfl, rfl, rfl, trivial⟩, hs⟩
        · -- not 100 < a1.Up
          refine itt H (fun hc14 H => ?_) (fun hc14 H => ?_)
          · -- a1.Down < 0
            refine region_k (fun K15 hK15 => ?_)
            refine stq hf rfl rfl rfl (ex_fieldAddrB fa_45_0 rfl hf rfl) (fun a hf => ?_)
            refine stq hf rfl rfl rfl (ex_load sc_3 hf rfl (bx_cell (hs.get (i := 0) rfl) _ rfl)) (fun a hf => ?_)
            refine stq hf rfl rfl rfl (ex_lss hf rfl rfl) (fun a hf => ?_)
            refine stq hf rfl rfl rfl (ex_move hf rfl) (fun a hf => ?_)
            replace hf := hf.castB (t := 14) rfl (dec_f hc10)
            replace hf := hf.castB (t := 15) rfl (dec_f hc10)
            refine stq hf rfl rfl rfl (ex_fieldAddrB fa_45_0 rfl hf rfl) (fun a hf => ?_)
            refine stq hf rfl rfl rfl (ex_load sc_3 hf rfl (bx_cell (hs.get (i := 0) rfl) _ rfl)) (fun a hf => ?_)
            refine stq hf rfl rfl rfl (ex_gtr hf rfl rfl) (fun a hf => ?_)
            refine stq hf rfl rfl rfl (ex_pickF hf rfl rfl) (fun a hf => ?_)
            refine stq hf rfl rfl rfl (ex_move hf rfl) (fun a hf => ?_)
            replace hf := hf.castB (t := 18) rfl (dec_f hc12)
            replace hf := hf.castB (t := 19) rfl (dec_f hc12)
            replace hf := hf.castB (t := 20) rfl (dec_f hc12)
            refine stq hf rfl rfl rfl (ex_fieldAddrB fa_45_1 rfl hf rfl) (fun a hf => ?_)
            refine stq hf rfl rfl rfl (ex_load sc_3 hf rfl (bx_cell (hs.get (i := 0) rfl) _ rfl)) (fun a hf => ?_)
            refine stq hf rfl rfl rfl (ex_lss hf rfl rfl) (fun a hf => ?_)
            refine stq hf rfl rfl rfl (ex_pickF hf rfl rfl) (fun a hf => ?_)
            refine stq hf rfl rfl rfl (ex_move hf rfl) (fun a hf => ?_)
            replace hf := hf.castB (t := 23) rfl (dec_t hc14)
            replace hf := hf.castB (t := 24) rfl (dec_t hc14)
            replace hf := hf.castB (t := 25) rfl (dec_t hc14)
            refine stepN hf rfl rfl rfl (fun a hf => ?_)
            refine stepN hf rfl rfl rfl (fun a hf => ?_)
            refine stepN hf rfl rfl rfl (fun a hf => ?_)
            refine stepN hf rfl rfl rfl (fun a hf => ?_)
            refine stepN hf rfl rfl rfl (fun a hf => ?_)
            refine stq hf rfl rfl rfl (ex_pickT hf rfl rfl) (fun a hf => ?_)
            refine stq hf rfl rfl rfl (ex_move hf rfl) (fun a hf => ?_)
            refine stepN hf rfl rfl rfl (fun a hf => ?_)
            refine stepN hf rfl rfl rfl (fun a hf => ?_)
            refine stepN hf rfl rfl rfl (fun a hf => ?_)
            refine stq hf rfl rfl rfl (ex_pickT hf rfl rfl) (fun a hf => ?_)
            refine stq hf rfl rfl rfl (ex_move hf rfl) (fun a hf => ?_)
            refine stepN hf rfl rfl rfl (fun a hf => ?_)
            refine stepN hf rfl rfl rfl (fun a hf => ?_)
            refine stepN hf rfl rfl rfl (fun a hf => ?_)
            refine stq hf rfl rfl rfl (ex_pickT hf rfl rfl) (fun a hf => ?_)
            refine hK15 _ _ ?_
            have e9 := some_eq H; subst e9
            exact hJ9 _ _ ⟨hf.sub ⟨rfl, rfl, rfl, trivial⟩, hs⟩
          · -- not a1.Down < 0
            refine itt H (fun hc16 H => ?_) (fun hc16 H => ?_)
            · -- a1.Up ≤ a1.Down
              refine region_k (fun K17 hK17 => ?_)
              refine stq hf rfl rfl rfl (ex_fieldAddrB fa_45_0 rfl hf rfl) (fun a hf => ?_)
              refine stq hf rfl rfl rfl (ex_load sc_3 hf rfl (bx_cell (hs.get (i := 0) rfl) _ rfl)) (fun a hf => ?_)
              refine stq hf rfl rfl rfl (ex_lss hf rfl rfl) (fun a hf => ?_)
              refine stq hf rfl rfl rfl (ex_move hf rfl) (fun a hf => ?_)
              replace hf := hf.castB (t := 14) rfl (dec_f hc10)
              replace hf := hf.castB (t := 15) rfl (dec_f hc10)
              refine stq hf rfl rfl rfl (ex_fieldAddrB fa_45_0 rfl hf rfl) (fun a hf => ?_)
              refine stq hf rfl rfl rfl (ex_load sc_3 hf rfl (bx_cell (hs.get (i := 0) rfl) _ rfl)) (fun a hf => ?_)
              refine stq hf rfl rfl rfl (ex_gtr hf rfl rfl) (fun a hf => ?_)
              refine stq hf rfl rfl rfl (ex_pickF hf rfl rfl) (fun a hf => ?_)
              refine stq hf rfl rfl rfl (ex_move hf rfl) (fun a hf => ?_)
              replace hf := hf.castB (t := 18) rfl (dec_f hc12)
              replace hf := hf.castB (t := 19) rfl (dec_f hc12)
              replace hf := hf.castB (t := 20) rfl (dec_f hc12)
              refine stq hf rfl rfl rfl (ex_fieldAddrB fa_45_1 rfl hf rfl) (fun a hf => ?_)
              refine stq hf rfl rfl rfl (ex_load sc_3 hf rfl (bx_cell (hs.get (i := 0) rfl) _ rfl)) (fun a hf => ?_)
              refine stq hf rfl rfl rfl (ex_lss hf rfl rfl) (fun a hf => ?_)
              refine stq hf rfl rfl rfl (ex_pickF hf rfl rfl) (fun a hf => ?_)
              refine stq hf rfl rfl rfl (ex_move hf rfl) (fun a hf => ?_)
              replace hf := hf.castB (t := 23) rfl (dec_f hc14)
              replace hf := hf.castB (t := 24) rfl (dec_f hc14)
              replace hf := hf.castB (t := 25) rfl (dec_f hc14)
              refine stq hf rfl rfl rfl (ex_fieldAddrB fa_45_1 rfl hf rfl) (fun a hf => ?_)
              refine stq hf rfl rfl rfl (ex_load sc_3 hf rfl (bx_cell (hs.get (i := 0) rfl) _ rfl)) (fun a hf => ?_)
              refine stq hf rfl rfl rfl (ex_fieldAddrB fa_45_0 rfl hf rfl) (fun a hf => ?_)
              refine stq hf rfl rfl rfl (ex_load sc_3 hf rfl (bx_cell (hs.get (i := 0) rfl) _ rfl)) (fun a hf => ?_)
              refine stq hf rfl rfl rfl (ex_geq hf rfl rfl) (fun a hf => ?_)
              refine stq hf rfl rfl rfl (ex_pickF hf rfl rfl) (fun a hf => ?_)
              refine stq hf rfl rfl rfl (ex_move hf rfl) (fun a hf => ?_)
              replace hf := hf.castB (t := 30) rfl (dec_t hc16)
              replace hf := hf.castB (t := 31) rfl (dec_t hc16)
              replace hf := hf.castB (t := 32) rfl (dec_t hc16)
              refine stepN hf rfl rfl rfl (fun a hf => ?_)
              refine stepN hf rfl rfl rfl (fun a hf => ?_)
              refine stepN hf rfl rfl rfl (fun a hf => ?_)
              refine stq hf rfl rfl rfl (ex_pickT hf rfl rfl) (fun a hf => ?_)
              refine stq hf rfl rfl rfl (ex_move hf rfl) (fun a hf => ?_)
              refine stepN hf rfl rfl rfl (fun a hf => ?_)
              refine stepN hf rfl rfl rfl (fun a hf => ?_)
              refine stepN hf rfl rfl rfl (fun a hf => ?_)
              refine stq hf rfl rfl rfl (ex_pickT hf rfl rfl) (fun a hf => ?_)
              refine hK17 _ _ ?_
              have e9 := some_eq H; subst e9
              exact hJ9 _ _ ⟨hf.sub ⟨rfl, rfl, rfl, trivial⟩, hs⟩
            · -- not a1.Up ≤ a1.Down
              refine itt H (fun hc18 H => ?_) (fun hc18 H => ?_)
              · -- a1.Samples < 1
                refine region_k (fun K19 hK19 => ?_)
                refine stq hf rfl rfl rfl (ex_fieldAddrB fa_45_0 rfl hf rfl) (fun a hf => ?_)
                refine stq hf rfl rfl rfl (ex_load sc_3 hf rfl (bx_cell (hs.get (i := 0) rfl) _ rfl)) (fun a hf => ?_)
                refine stq hf rfl rfl rfl (ex_lss hf rfl rfl) (fun a hf => ?_)
                refine stq hf rfl rfl rfl (ex_move hf rfl) (fun a hf => ?_)
                replace hf := hf.castB (t := 14) rfl (dec_f hc10)
                replace hf := hf.castB (t := 15) rfl (dec_f hc10)
                refine stq hf rfl rfl rfl (ex_fieldAddrB fa_45_0 rfl hf rfl) (fun a hf => ?_)
                refine stq hf rfl rfl rfl (ex_load sc_3 hf rfl (bx_cell (hs.get (i := 0) rfl) _ rfl)) (fun a hf => ?_)
                refine stq hf rfl rfl rfl (ex_gtr hf rfl rfl) (fun a hf => ?_)
                refine stq hf rfl rfl rfl (ex_pickF hf rfl rfl) (fun a hf => ?_)
                refine stq hf rfl rfl rfl (ex_move hf rfl) (fun a hf => ?_)
                replace hf := hf.castB (t := 18) rfl (dec_f hc12)
                replace hf := hf.castB (t := 19) rfl (dec_f hc12)
                replace hf := hf.castB (t := 20) rfl (dec_f hc12)
                refine stq hf rfl rfl rfl (ex_fieldAddrB fa_45_1 rfl hf rfl) (fun a hf => ?_)
                refine stq hf rfl rfl rfl (ex_load sc_3 hf rfl (bx_cell (hs.get (i := 0) rfl) _ rfl)) (fun a hf => ?_)
                refine stq hf rfl rfl rfl (ex_lss hf rfl rfl) (fun a hf => ?_)
                refine stq hf rfl rfl rfl (ex_pickF hf rfl rfl) (fun a hf => ?_)
                refine stq hf rfl rfl rfl (ex_move hf rfl) (fun a hf => ?_)
                replace hf := hf.castB (t := 23) rfl (dec_f hc14)
                replace hf := hf.castB (t := 24) rfl (dec_f hc14)
                replace hf := hf.castB (t := 25) rfl (dec_f hc14)
                refine stq hf rfl rfl rfl (ex_fieldAddrB fa_45_1 rfl hf rfl) (fun a hf => ?_)
                refine stq hf rfl rfl rfl (ex_load sc_3 hf rfl (bx_cell (hs.get (i := 0) rfl) _ rfl)) (fun a hf => ?_)
                refine stq hf rfl rfl rfl (ex_fieldAddrB fa_45_0 rfl hf rfl) (fun a hf => ?_)
                refine stq hf rfl rfl rfl (ex_load sc_3 hf rfl (bx_cell (hs.get (i := 0) rfl) _ rfl)) (fun a hf => ?_)
                refine stq hf rfl rfl rfl (ex_geq hf rfl rfl) (fun a hf => ?_)
                refine stq hf rfl rfl rfl (ex_pickF hf rfl rfl) (fun a hf => ?_)
                refine stq hf rfl rfl rfl (ex_move hf rfl) (fun a hf => ?_)
                replace hf := hf.castB (t := 30) rfl (dec_f hc16)
                replace hf := hf.castB (t := 31) rfl (dec_f hc16)
                replace hf := hf.castB (t := 32) rfl (dec_f hc16)
                refine stq hf rfl rfl rfl (ex_fieldAddrB fa_45_2 rfl hf rfl) (fun a hf => ?_)
                refine stq hf rfl rfl rfl (ex_load sc_3 hf rfl (bx_cell (hs.get (i := 0) rfl) _ rfl)) (fun a hf => ?_)
                refine stq hf rfl rfl rfl (ex_lss hf rfl rfl) (fun a hf => ?_)
                refine stq hf rfl rfl rfl (ex_pickF hf rfl rfl) (fun a hf => ?_)
                refine stq hf rfl rfl rfl (ex_move hf rfl) (fun a hf => ?_)
                replace hf := hf.castB (t := 35) rfl (dec_t hc18)
                replace hf := hf.castB (t := 36) rfl (dec_t hc18)
                replace hf := hf.castB (t := 37) rfl (dec_t hc18)
                refine stepN hf rfl rfl rfl (fun a hf => ?_)
                refine stepN hf rfl rfl rfl (fun a hf => ?_)
                refine stepN hf rfl rfl rfl (fun a hf => ?_)
                refine stq hf rfl rfl rfl (ex_pickT hf rfl rfl) (fun a hf => ?_)
                refine hK19 _ _ ?_
                have e9 := some_eq H; subst e9
                exact hJ9 _ _ ⟨hf.sub ⟨rfl, rfl, rfl, trivial⟩, hs⟩
              · -- not a1.Samples < 1
                refine region_k (fun K20 hK20 => ?_)
                refine stq hf rfl rfl rfl (ex_fieldAddrB fa_45_0 rfl hf rfl) (fun a hf => ?_)
                refine stq hf rfl rfl rfl (ex_load sc_3 hf rfl (bx_cell (hs.get (i := 0) rfl) _ rfl)) (fun a hf => ?_)
                refine stq hf rfl rfl rfl (ex_lss hf rfl rfl) (fun a hf => ?_)
                refine stq hf rfl rfl rfl (ex_move hf rfl) (fun a hf => ?_)
                replace hf := hf.castB (t := 14) rfl (dec_f hc10)
                replace hf := hf.castB (t := 15) rfl (dec_f hc10)
                refine stq hf rfl rfl rfl (ex_fieldAddrB fa_45_0 rfl hf rfl) (fun a hf => ?_)
                refine stq hf rfl rfl rfl (ex_load sc_3 hf rfl (bx_cell (hs.get (i := 0) rfl) _ rfl)) (fun a hf => ?_)
                refine stq hf rfl rfl rfl (ex_gtr hf rfl rfl) (fun a hf => ?_)
                refine stq hf rfl rfl rfl (ex_pickF hf rfl rfl) (fun a hf => ?_)
                refine stq hf rfl rfl rfl (ex_move hf rfl) (fun a hf => ?_)
                replace hf := hf.castB (t := 18) rfl (dec_f hc12)
                replace hf := hf.castB (t := 19) rfl (dec_f hc12)
                replace hf := hf.castB (t := 20) rfl (dec_f hc12)
                refine stq hf rfl rfl rfl (ex_fieldAddrB fa_45_1 rfl hf rfl) (fun a hf => ?_)
                refine stq hf rfl rfl rfl (ex_load sc_3 hf rfl (bx_cell (hs.get (i := 0) rfl) _ rfl)) (fun a hf => ?_)
                refine stq hf rfl rfl rfl (ex_lss hf rfl rfl) (fun a hf => ?_)
                refine stq hf rfl rfl rfl (ex_pickF hf rfl rfl) (fun a hf => ?_)
                refine stq hf rfl rfl rfl (ex_move hf rfl) (fun a hf => ?_)
                replace hf := hf.castB (t := 23) rfl (dec_f hc14)
                replace hf := hf.castB (t := 24) rfl (dec_f hc14)
                replace hf := hf.castB (t := 25) rfl (dec_f hc14)
                refine stq hf rfl rfl rfl (ex_fieldAddrB fa_45_1 rfl hf rfl) (fun a hf => ?_)
                refine stq hf rfl rfl rfl (ex_load sc_3 hf rfl (bx_cell (hs.get (i := 0) rfl) _ rfl)) (fun a hf => ?_)
                refine stq hf rfl rfl rfl (ex_fieldAddrB fa_45_0 rfl hf rfl) (fun a hf => ?_)
                refine stq hf rfl rfl rfl (ex_load sc_3 hf rfl (bx_cell (hs.get (i := 0) rfl) _ rfl)) (fun a hf => ?_)
                refine stq hf rfl rfl rfl (ex_geq hf rfl rfl) (fun a hf => ?_)
                refine stq hf rfl rfl rfl (ex_pickF hf rfl rfl) (fun a hf => ?_)
                refine stq hf rfl rfl rfl (ex_move hf rfl) (fun a hf => ?_)
                replace hf := hf.castB (t := 30) rfl (dec_f hc16)
                replace hf := hf.castB (t := 31) rfl (dec_f hc16)
                replace hf := hf.castB (t := 32) rfl (dec_f hc16)
                refine stq hf rfl rfl rfl (ex_fieldAddrB fa_45_2 rfl hf rfl) (fun a hf => ?_)
                refine stq hf rfl rfl rfl (ex_load sc_3 hf rfl (bx_cell (hs.get (i := 0) rfl) _ rfl)) (fun a hf => ?_)
                refine stq hf rfl rfl rfl (ex_lss hf rfl rfl) (fun a hf => ?_)
                refine stq hf rfl rfl rfl (ex_pickF hf rfl rfl) (fun a hf => ?_)
                refine stq hf rfl rfl rfl (ex_move hf rfl) (fun a hf => ?_)
                replace hf := hf.castB (t := 35) rfl (dec_f hc18)
                replace hf := hf.castB (t := 36) rfl (dec_f hc18)
                replace hf := hf.castB (t := 37) rfl (dec_f hc18)
                refine stq hf rfl rfl rfl (ex_fieldAddrB fa_45_2 rfl hf rfl) (fun a hf => ?_)
                refine stq hf rfl rfl rfl (ex_load sc_3 hf rfl (bx_cell (hs.get (i := 0) rfl) _ rfl)) (fun a hf => ?_)
                refine stq hf rfl rfl rfl (ex_gtr hf rfl rfl) (fun a hf => ?_)
                refine stq hf rfl rfl rfl (ex_pickF hf rfl rfl) (fun a hf => ?_)
                refine hK20 _ _ ?_
                have e9 := some_eq H; subst e9
                exact hJ9 _ _ ⟨hf.sub ⟨rfl, rfl, rfl, trivial⟩, hs⟩
    · obtain ⟨hf, hs⟩ := hJ
      replace H := HO9
      clear HO9
      refine itt H (fun hc21 H => ?_) (fun hc21 H => ?_)
      · -- x9 = true
        replace hf := hf.castB (t := 41) rfl hc21
        refine cond_T hf rfl ?_
        refine seq_reg (fun K22 hK22 => ?_)
        refine stq hf rfl rfl rfl (ex_assign hf rfl) (fun a hf => ?_)
        refine stq hf rfl rfl rfl (ex_assign hf rfl) (fun a hf => ?_)
        refine hK22 _ _ ?_
        refine wp_ret ?_
        refine hR8 _ _ ?_
        have eR := some_eq H; subst eR
        replace hs := hs.keep (.d .nil)
        exact ret2 Try.results28 hf rfl rfl ⟨_, rfl, .inl ⟨rfl, rfl, hs⟩⟩
      · -- not x9 = true
        replace hf := hf.castB (t := 41) rfl (bool_f hc21)
        refine cond_F hf rfl ?_
        refine wp_skip ?_
        refine hN8 _ _ ?_
        refine seq_n (fun Q23 hN23 hR23 hX23 => ?_)
        refine ck_some H (fun hc25 H => ?_)
        refine region_d fol 9 [(0, v0), (3, .pointer (some ⟨b1, 0, none⟩))] [(1, v0), (3, .agg #[.int .i64 a1.Up, .int .i64 a1.Down, .int .i64 a1.Samples]), (4, v0), (5, .int .i64 (a0.length : Int)), (6, .int .i64 (IntKind.i64.wrap ((a0.length : Int) - 1)))] [0, 2, 8] (fun w => (bx b1 45 [.int .i64 a1.Up, .int .i64 a1.Down, .int .i64 a1.Samples]).ok w ∧ (rsl K_api_OperatingPoint v0 a0).ok w ∧ True) (fun w => St M w0 w [bx b1 45 [.int .i64 a1.Up, .int .i64 a1.Down, .int .i64 a1.Samples]]) hf ⟨rfl, rfl, trivial⟩ (by kernel_rfl) (by kernel_rfl) rfl (by decide) ⟨hs.drew.get (i := 0) rfl, hr.now hs.drew (i := 0) rfl, trivial⟩ hs.drew (.cons (⟨_, _, rfl, rfl, rfl, rfl, fun a w hR hf => .inl ⟨wanted_yes hf rfl, ex_move hf rfl⟩⟩) (.cons (⟨_, _, rfl, rfl, rfl, rfl, fun a w hR hf => .inl ⟨wanted_yes hf rfl, ex_loadA (cs := [.int .i64 a1.Up, .int .i64 a1.Down, .int .i64 a1.Samples]) ag_45 hf rfl (bx_cells (hR.1) rfl)⟩⟩) (.cons (⟨_, _, rfl, rfl, rfl, rfl, fun a w hR hf => .inl ⟨wanted_yes hf rfl, ex_move hf rfl⟩⟩) (.cons (⟨_, _, rfl, rfl, rfl, rfl, fun a w hR hf => .inl ⟨wanted_yes hf rfl, ex_lenS Try.underlying22 (rsl_isSl hR.2.1) hf rfl⟩⟩) (.cons (⟨_, _, rfl, rfl, rfl, rfl, fun a w hR hf => .inl ⟨wanted_yes hf rfl, ex_sub hf rfl rfl⟩⟩) (.nil)))))) (fun K28 hK28 => ?_)
        refine RW.one 0 (by kernel_rfl) (by kernel_rfl) rfl (fun d hd => by cases hd; rfl) [] trivial (fun a w hR hs hf => ⟨wanted_yes hf rfl, ?_⟩)
        refine estep_v (er_buildSlice (K := K_api_OperatingPoint) (xs := ([] : List OperatingPoint)) hs Try.underlying22 ep_25 rfl rfl hf rfl .nil rfl rfl) (fun v24 w hs => ?_)
        refine ⟨[], [(0, v24), (1, v0), (3, .agg #[.int .i64 a1.Up, .int .i64 a1.Down, .int .i64 a1.Samples]), (4, v0), (5, .int .i64 (a0.length : Int)), (6, .int .i64 (IntKind.i64.wrap ((a0.length : Int) - 1)))], [2, 8], (fun _ => True), (fun w => St M w0 w [osl K_api_OperatingPoint v24 ([] : List OperatingPoint), bx b1 45 [.int .i64 a1.Up, .int .i64 a1.Down, .int .i64 a1.Samples]]), rfl, rfl, ⟨hs.get (i := 1) rfl, hr.now hs (i := 0) rfl, trivial⟩, trivial, hs, (by kernel_rfl), .nil, ?_⟩
        refine RW.one 2 (by kernel_rfl) (by kernel_rfl) rfl (fun d hd => by cases hd; rfl) [(42, v24), (43, v0)] ⟨rfl, rfl, trivial⟩ (fun a w hR hs hf => ⟨wanted_yes hf rfl, ?_⟩)
        refine estep_v (er_append (K := K_api_OperatingPoint) hs (.c (.k .nil)) (hr.now hs (i := 0) rfl) rfl Try.underlying22 ep_25 hc25 rfl hf rfl rfl) (fun v26 w hs => ?_)
        refine ⟨[(7, .agg #[v26, .int .i64 a1.Up, .int .i64 a1.Down, .int .i64 a1.Samples, .int .i64 0, .int .i64 (IntKind.i64.wrap ((a0.length : Int) - 1)), .int .i64 0, .int .i64 0])], [(7, .agg #[v26, .int .i64 a1.Up, .int .i64 a1.Down, .int .i64 a1.Samples, .int .i64 0, .int .i64 (IntKind.i64.wrap ((a0.length : Int) - 1)), .int .i64 0, .int .i64 0]), (2, v26), (0, v24), (1, v0), (3, .agg #[.int .i64 a1.Up, .int .i64 a1.Down, .int .i64 a1.Samples]), (4, v0), (5, .int .i64 (a0.length : Int)), (6, .int .i64 (IntKind.i64.wrap ((a0.length : Int) - 1)))], [8], (fun w => (osl K_api_OperatingPoint v26 (([] : List OperatingPoint) ++ a0)).ok w ∧ True), (fun w => St M w0 w [osl K_api_OperatingPoint v26 (([] : List OperatingPoint) ++ a0), bx b1 45 [.int .i64 a1.Up, .int .i64 a1.Down, .int .i64 a1.Samples]]), rfl, rfl, ⟨⟨hs.get (i := 1) rfl, hr.now hs (i := 0) rfl, trivial⟩, trivial⟩, ⟨hs.get (i := 0) rfl, trivial⟩, hs, (by kernel_rfl), .cons (⟨_, _, rfl, rfl, rfl, rfl, fun a w hR hf => .inl ⟨wanted_yes hf rfl, ex_build (cs := [v26, .int .i64 a1.Up, .int .i64 a1.Down, .int .i64 a1.Samples, .int .i64 0, .int .i64 (IntKind.i64.wrap ((a0.length : Int) - 1)), .int .i64 0, .int .i64 0]) bt_69 hf rfl (.cons (CL.one (IsSl.one (rsl_isSl (osl_rsl _ hR.2.1)))) (.cons rfl (.cons rfl .nil))) rfl⟩⟩) (.nil), ?_⟩
        refine RW.one 8 (by kernel_rfl) (by kernel_rfl) rfl (fun d hd => by cases hd; rfl) [(49, .agg #[v26, .int .i64 a1.Up, .int .i64 a1.Down, .int .i64 a1.Samples, .int .i64 0, .int .i64 (IntKind.i64.wrap ((a0.length : Int) - 1)), .int .i64 0, .int .i64 0])] ⟨rfl, trivial⟩ (fun a w hR hs hf => ⟨wanted_yes hf rfl, ?_⟩)
        refine estep_v (er_box (cs := [v26, .int .i64 a1.Up, .int .i64 a1.Down, .int .i64 a1.Samples, .int .i64 0, .int .i64 (IntKind.i64.wrap ((a0.length : Int) - 1)), .int .i64 0, .int .i64 0]) hs hf rfl rfl) (fun v w hR => ?_)
        obtain ⟨b27, rfl, hs⟩ := hR
        refine ⟨[], [(8, .pointer (some ⟨b27, 0, none⟩)), (7, .agg #[v26, .int .i64 a1.Up, .int .i64 a1.Down, .int .i64 a1.Samples, .int .i64 0, .int .i64 (IntKind.i64.wrap ((a0.length : Int) - 1)), .int .i64 0, .int .i64 0]), (2, v26), (0, v24), (1, v0), (3, .agg #[.int .i64 a1.Up, .int .i64 a1.Down, .int .i64 a1.Samples]), (4, v0), (5, .int .i64 (a0.length : Int)), (6, .int .i64 (IntKind.i64.wrap ((a0.length : Int) - 1)))], [], (fun _ => True), (fun w => St M w0 w [bx b27 69 [v26, .int .i64 a1.Up, .int .i64 a1.Down, .int .i64 a1.Samples, .int .i64 0, .int .i64 (IntKind.i64.wrap ((a0.length : Int) - 1)), .int .i64 0, .int .i64 0], osl K_api_OperatingPoint v26 (([] : List OperatingPoint) ++ a0), bx b1 45 [.int .i64 a1.Up, .int .i64 a1.Down, .int .i64 a1.Samples]]), rfl, rfl, ⟨⟨⟨hs.get (i := 2) rfl, hr.now hs (i := 0) rfl, trivial⟩, trivial⟩, ⟨hs.get (i := 1) rfl, trivial⟩⟩, trivial, hs, (by kernel_rfl), .nil, ?_⟩
        refine RW.zero (by kernel_rfl) (by kernel_rfl) [(50, .pointer (some ⟨b27, 0, none⟩))] ⟨rfl, trivial⟩ (fun a w hR hs hf => ?_)
        refine stq hf rfl rfl rfl (ex_assign hf rfl) (fun a hf => ?_)
        refine stq hf rfl rfl rfl (ex_assign hf rfl) (fun a hf => ?_)
        refine hK28 _ _ ?_
        refine hN23 _ _ ?_
        refine wp_ret ?_
        have eR := some_eq H; subst eR
        replace hs := hs.keep (.k (.k (.d .nil)))
        exact ret2 Try.results28 hf rfl rfl ⟨_, rfl, .inr ⟨_, rfl, b27, v26, rfl, hs⟩⟩
  · -- not s4 = 0
    replace hf := hf.castB (t := 10) rfl (ndec_t hc7)
    refine cond_T hf rfl ?_
    refine seq_reg (fun K29 hK29 => ?_)
    refine stq hf rfl rfl rfl (ex_move hf rfl) (fun a hf => ?_)
    refine stq hf rfl rfl rfl (ex_assign hf rfl) (fun a hf => ?_)
    refine stq hf rfl rfl rfl (ex_assign hf rfl) (fun a hf => ?_)
    refine hK29 _ _ ?_
    refine wp_ret ?_
    refine hR3 _ _ ?_
    have eR := some_eq H; subst eR
    replace hs := hs.keep (.d .nil)
    exact ret2 Try.results28 hf rfl rfl ⟨_, rfl, .inl ⟨rfl, rfl, hs⟩⟩

set_option maxRecDepth 100000 in
theorem perf_Governor_Limit.calls {M : Nat → Prop} {w0 : World} (k : Nat) (a0_table : (List OperatingPoint)) (a0_params_Up : Int) (a0_params_Down : Int) (a0_params_Samples : Int) (a0_low : Int) (a0_high : Int) (a0_current : Int) (a0_quiet : Int) (a1 : Int) (a2 : Int) (b0 : Nat) (v0_table : Value) {r : Int × Int × Int × Int × Int} (hs : St M w0 w0 [bx b0 66 [v0_table, .int .i64 a0_params_Up, .int .i64 a0_params_Down, .int .i64 a0_params_Samples, .int .i64 a0_low, .int .i64 a0_high, .int .i64 a0_current, .int .i64 a0_quiet]]) (hr : Sr M w0 [rsl K_api_OperatingPoint v0_table a0_table])
    (h : perf_Governor_Limit.f k a0_table a0_params_Up a0_params_Down a0_params_Samples a0_low a0_high a0_current a0_quiet a1 a2 = some r) : Calls Try.prog 29 #[.pointer (some ⟨b0, 0, none⟩), .int .i64 a1, .int .i64 a2] w0 fun e w => ∃ v, e = .returned v ∧ (.int .i64 r.2.2.2.2 = v ∧ St M w0 w [bx b0 66 [v0_table, .int .i64 a0_params_Up, .int .i64 a0_params_Down, .int .i64 a0_params_Samples, .int .i64 r.1, .int .i64 r.2.1, .int .i64 r.2.2.1, .int .i64 r.2.2.2.1]]) := by
  have H := (perf_Governor_Limit.f.eq_1 ..).symm.trans h
  clear h
  refine enter Try.func29 rfl Try.ntmps29 rfl (fun a hf => ?_)
  refine seq_reg (fun K1 hK1 => ?_)
  refine stq hf rfl rfl rfl (ex_assign hf rfl) (fun a hf => ?_)
  refine hK1 _ _ ?_
  refine seq_n (fun Q2 hN2 hR2 hX2 => ?_)
  refine bnd H (fun x3 H3 HO3 => ?_)
  clear H
  refine seq_cut (fun a w => Fr a 45 [(0, .pointer (some ⟨b0, 0, none⟩)), (1, .int .i64 a1), (2, .int .i64 a2), (22, .bool x3)] ∧ St M w0 w [bx b0 66 [v0_table, .int .i64 a0_params_Up, .int .i64 a0_params_Down, .int .i64 a0_params_Samples, .int .i64 a0_low, .int .i64 a0_high, .int .i64 a0_current, .int .i64 a0_quiet]]) (fun Q3 hJ3 hR3 hX3 => ?_) (fun a w hJ => ?_)
  · replace H := H3
    refine itt H (fun hc4 H => ?_) (fun hc4 H => ?_)
    · -- a1 < 0
      refine region_k (fun K5 hK5 => ?_)
      refine stq hf rfl rfl rfl (ex_move hf rfl) (fun a hf => ?_)
      refine stq hf rfl rfl rfl (ex_lss hf rfl rfl) (fun a hf => ?_)
      refine stq hf rfl rfl rfl (ex_move hf rfl) (fun a hf => ?_)
      replace hf := hf.castB (t := 8) rfl (dec_t hc4)
      replace hf := hf.castB (t := 9) rfl (dec_t hc4)
      refine stepN hf rfl rfl rfl (fun a hf => ?_)
      refine stepN hf rfl rfl rfl (fun a hf => ?_)
      refine stepN hf rfl rfl rfl (fun a hf => ?_)
      refine stq hf rfl rfl rfl (ex_pickT hf rfl rfl) (fun a hf => ?_)
      refine stq hf rfl rfl rfl (ex_move hf rfl) (fun a hf => ?_)
      refine stepN hf rfl rfl rfl (fun a hf => ?_)
      refine stepN hf rfl rfl rfl (fun a hf => ?_)
      refine stepN hf rfl rfl rfl (fun a hf => ?_)
      refine stepN hf rfl rfl rfl (fun a hf => ?_)
      refine stepN hf rfl rfl rfl (fun a hf => ?_)
      refine stepN hf rfl rfl rfl (fun a hf => ?_)
      refine stepN hf rfl rfl rfl (fun a hf => ?_)
      refine stq hf rfl rfl rfl (ex_pickT hf rfl rfl) (fun a hf => ?_)
      refine hK5 _ _ ?_
      have e3 := some_eq H; subst e3
      exact hJ3 _ _ ⟨hf.sub ⟨rfl, rfl, rfl, rfl, trivial⟩, hs⟩
    · -- not a1 < 0
      refine itt H (fun hc6 H => ?_) (fun hc6 H => ?_)
      · -- a2 < a1
        refine region_k (fun K7 hK7 => ?_)
        refine stq hf rfl rfl rfl (ex_move hf rfl) (fun a hf => ?_)
        refine stq hf rfl rfl rfl (ex_lss hf rfl rfl) (fun a hf => ?_)
        refine stq hf rfl rfl rfl (ex_move hf rfl) (fun a hf => ?_)
        replace hf := hf.castB (t := 8) rfl (dec_f hc4)
        replace hf := hf.castB (t := 9) rfl (dec_f hc4)
        refine stq hf rfl rfl rfl (ex_move hf rfl) (fun a hf => ?_)
        refine stq hf rfl rfl rfl (ex_move hf rfl) (fun a hf => ?_)
        refine stq hf rfl rfl rfl (ex_gtr hf rfl rfl) (fun a hf => ?_)
        refine stq hf rfl rfl rfl (ex_pickF hf rfl rfl) (fun a hf => ?_)
        refine stq hf rfl rfl rfl (ex_move hf rfl) (fun a hf => ?_)
        replace hf := hf.castB (t := 12) rfl (dec_t hc6)
        replace hf := hf.castB (t := 13) rfl (dec_t hc6)
        replace hf := hf.castB (t := 14) rfl (dec_t hc6)
        refine stepN hf rfl rfl rfl (fun a hf => ?_)
        refine stepN hf rfl rfl rfl (fun a hf => ?_)
        refine stepN hf rfl rfl rfl (fun a hf => ?_)
        refine stepN hf rfl rfl rfl (fun a hf => ?_)
        refine stepN hf rfl rfl rfl (fun a hf => ?_)
        refine stepN hf rfl rfl rfl (fun a hf => ?_)
        refine stepN hf rfl rfl rfl (fun a hf => ?_)
        refine stq hf rfl rfl rfl (ex_pickT hf rfl rfl) (fun a hf => ?_)
        refine hK7 _ _ ?_
        have e3 := some_eq H; subst e3
        exact hJ3 _ _ ⟨hf.sub ⟨rfl, rfl, rfl, rfl, trivial⟩, hs⟩
      · -- not a2 < a1
        refine bnd H (fun s8 hs8 H => ?_)
        refine region_k (fun K9 hK9 => ?_)
        refine stq hf rfl rfl rfl (ex_move hf rfl) (fun a hf => ?_)
        refine stq hf rfl rfl rfl (ex_lss hf rfl rfl) (fun a hf => ?_)
        refine stq hf rfl rfl rfl (ex_move hf rfl) (fun a hf => ?_)
        replace hf := hf.castB (t := 8) rfl (dec_f hc4)
        replace hf := hf.castB (t := 9) rfl (dec_f hc4)
        refine stq hf rfl rfl rfl (ex_move hf rfl) (fun a hf => ?_)
        refine stq hf rfl rfl rfl (ex_move hf rfl) (fun a hf => ?_)
        refine stq hf rfl rfl rfl (ex_gtr hf rfl rfl) (fun a hf => ?_)
        refine stq hf rfl rfl rfl (ex_pickF hf rfl rfl) (fun a hf => ?_)
        refine stq hf rfl rfl rfl (ex_move hf rfl) (fun a hf => ?_)
        replace hf := hf.castB (t := 12) rfl (dec_f hc6)
        replace hf := hf.castB (t := 13) rfl (dec_f hc6)
        replace hf := hf.castB (t := 14) rfl (dec_f hc6)
        refine stq hf rfl rfl rfl (ex_move hf rfl) (fun a hf => ?_)
        refine stq hf rfl rfl rfl (ex_nilCheck hf rfl) (fun a hf => ?_)
        refine stq hf rfl rfl rfl (ex_fieldAddrB fa_66_0 rfl hf rfl) (fun a hf => ?_)
        refine stq hf rfl rfl rfl (ex_load sc_22 hf rfl (bx_cell (hs.get (i := 0) rfl) _ rfl)) (fun a hf => ?_)
        refine stq hf rfl rfl rfl (ex_move hf rfl) (fun a hf => ?_)
        refine stepF hf rfl rfl rfl (ex_call cf_35 hf rfl) (perf_has.calls k a0_table a2 v0_table (hs.enter (.k .nil)) (Sr.old hr hs (.k .nil) (i := 0) rfl (fun _ h => h) (fun _ h => h) (Sr.nil _ _)) hs8) (fun v w hR a hf => ?_)
        obtain ⟨rfl, hs'⟩ := hR
        replace hs := hs.step (.k .nil) hs'
        clear hs'
        refine stq hf rfl rfl rfl (ex_not hf rfl) (fun a hf => ?_)
        refine stq hf rfl rfl rfl (ex_pickF hf rfl rfl) (fun a hf => ?_)
        refine hK9 _ _ ?_
        have e3 := some_eq H; subst e3
        exact hJ3 _ _ ⟨hf.sub ⟨rfl, rfl, rfl, rfl, trivial⟩, hs⟩
  · obtain ⟨hf, hs⟩ := hJ
    replace H := HO3
    clear HO3
    refine itt H (fun hc10 H => ?_) (fun hc10 H => ?_)
    · -- x3 = true
      replace hf := hf.castB (t := 22) rfl hc10
      refine cond_T hf rfl ?_
      refine seq_reg (fun K11 hK11 => ?_)
      refine stq hf rfl rfl rfl (ex_assign hf rfl) (fun a hf => ?_)
      refine hK11 _ _ ?_
      refine wp_ret ?_
      refine hR2 _ _ ?_
      have eR := some_eq H; subst eR
      exact ret1 Try.results29 hf rfl ⟨_, rfl, ⟨rfl, hs⟩⟩
    · -- not x3 = true
      replace hf := hf.castB (t := 22) rfl (bool_f hc10)
      refine cond_F hf rfl ?_
      refine wp_skip ?_
      refine hN2 _ _ ?_
      refine seq_reg (fun K12 hK12 => ?_)
      refine stq hf rfl rfl rfl (ex_move hf rfl) (fun a hf => ?_)
      refine stq hf rfl rfl rfl (ex_move hf rfl) (fun a hf => ?_)
      refine stq hf rfl rfl rfl (ex_move hf rfl) (fun a hf => ?_)
      refine stq hf rfl rfl rfl (ex_move hf rfl) (fun a hf => ?_)
      refine stq hf rfl rfl rfl (ex_move hf rfl) (fun a hf => ?_)
      refine stq hf rfl rfl rfl (ex_nilCheck hf rfl) (fun a hf => ?_)
      refine stq hf rfl rfl rfl (ex_fieldAddrB fa_66_2 rfl hf rfl) (fun a hf => ?_)
      refine stepS hf rfl rfl (er_storeB hs (.c .nil) hf rfl rfl rfl sz_3 rfl) (fun w hs => ?_)
      refine stq hf rfl rfl rfl (ex_nilCheck hf rfl) (fun a hf => ?_)
      refine stq hf rfl rfl rfl (ex_fieldAddrB fa_66_3 rfl hf rfl) (fun a hf => ?_)
      refine stepS hf rfl rfl (er_storeB hs (.c .nil) hf rfl rfl rfl sz_3 rfl) (fun w hs => ?_)
      refine stq hf rfl rfl rfl (ex_nilCheck hf rfl) (fun a hf => ?_)
      refine stq hf rfl rfl rfl (ex_fieldAddrB fa_66_5 rfl hf rfl) (fun a hf => ?_)
      refine stepS hf rfl rfl (er_storeB hs (.c .nil) hf rfl rfl rfl sz_3 rfl) (fun w hs => ?_)
      refine hK12 _ _ ?_
      refine seq_reg (fun K13 hK13 => ?_)
      refine stq hf rfl rfl rfl (ex_move hf rfl) (fun a hf => ?_)
      refine stq hf rfl rfl rfl (ex_move hf rfl) (fun a hf => ?_)
      refine stq hf rfl rfl rfl (ex_nilCheck hf rfl) (fun a hf => ?_)
      refine stq hf rfl rfl rfl (ex_fieldAddrB fa_66_4 rfl hf rfl) (fun a hf => ?_)
      refine stq hf rfl rfl rfl (ex_load sc_3 hf rfl (bx_cell (hs.get (i := 0) rfl) _ rfl)) (fun a hf => ?_)
      refine stq hf rfl rfl rfl (ex_move hf rfl) (fun a hf => ?_)
      refine stq hf rfl rfl rfl (ex_max hf rfl rfl) (fun a hf => ?_)
      refine stq hf rfl rfl rfl (ex_move hf rfl) (fun a hf => ?_)
      refine stq hf rfl rfl rfl (ex_min hf rfl rfl) (fun a hf => ?_)
      refine stq hf rfl rfl rfl (ex_nilCheck hf rfl) (fun a hf => ?_)
      refine stq hf rfl rfl rfl (ex_fieldAddrB fa_66_4 rfl hf rfl) (fun a hf => ?_)
      refine stepS hf rfl rfl (er_storeB hs (.c .nil) hf rfl rfl rfl sz_3 rfl) (fun w hs => ?_)
      refine hK13 _ _ ?_
      refine seq_reg (fun K14 hK14 => ?_)
      refine stq hf rfl rfl rfl (ex_assign hf rfl) (fun a hf => ?_)
      refine hK14 _ _ ?_
      refine wp_ret ?_
      have eR := some_eq H; subst eR
      exact ret1 Try.results29 hf rfl ⟨_, rfl, ⟨rfl, hs⟩⟩

end Go.Proofs.Ythemeobgfgmblaa.X
