/- Each function of the machine comes to what its pure function says. -/
import Derived.Test.YtkcmohmnmapnbaaFc2
import Derived.Test.YtkcmohmnmapnbaaFb
namespace Go.Proofs.Ytkcmohmnmapnbaa.X
open Go Go.RowKit Go.Sx
set_option linter.unusedVariables false

set_option maxRecDepth 100000 in
theorem ref39_Fair.calls {M : Nat → Prop} {w0 : World} (k : Nat) (a0 : Int) (a1 : (List Actor)) (a2 : (List Int)) (v1 : Value) (v2 : Value) {r : Bool} (hs : St M w0 w0 []) (hr : Sr M w0 [rsl K_api_Actor v1 a1, rsl K_uint64 v2 a2])
    (h : ref39_Fair.f k a0 a1 a2 = some r) : Calls Try.prog 31 #[.int .u64 a0, v1, v2] w0 fun e w => ∃ v, e = .returned v ∧ (.bool r = v ∧ St M w0 w []) := by
  have H := (ref39_Fair.f.eq_1 ..).symm.trans h
  clear h
  refine enter Try.func31 rfl Try.ntmps31 rfl (fun a hf => ?_)
  refine seq_reg (fun K1 hK1 => ?_)
  refine stq hf rfl rfl rfl (ex_assign hf rfl) (fun a hf => ?_)
  refine hK1 _ _ ?_
  refine seq_n (fun Q2 hN2 hR2 hX2 => ?_)
  refine bnd H (fun x3 H3 HO3 => ?_)
  clear H
  refine seq_cut (fun a w => Fr a 113 [(0, .int .u64 a0), (1, v1), (2, v2), (22, .bool x3)] ∧ St M w0 w []) (fun Q3 hJ3 hR3 hX3 => ?_) (fun a w hJ => ?_)
  · replace H := H3
    refine bnd H (fun s4 hs4 H => ?_)
    refine itt H (fun hc5 H => ?_) (fun hc5 H => ?_)
    · -- s4 = true
      refine region_k (fun K6 hK6 => ?_)
      refine stq hf rfl rfl rfl (ex_move hf rfl) (fun a hf => ?_)
      refine stepF hf rfl rfl rfl (ex_call cf_37 hf rfl) (ref39_valid.calls k a1 v1 (hs.enter .nil) (Sr.old hr hs .nil (i := 0) rfl (fun _ h => h) (fun _ h => h) (Sr.nil _ _)) hs4) (fun v w hR a hf => ?_)
      obtain ⟨rfl, hs'⟩ := hR
      replace hs := hs.step .nil hs'
      clear hs'
      refine stq hf rfl rfl rfl (ex_not hf rfl) (fun a hf => ?_)
      refine stq hf rfl rfl rfl (ex_move hf rfl) (fun a hf => ?_)
      replace hf := hf.castB (t := 14) rfl hc5
      replace hf := hf.castB (t := 15) rfl (nbool_f hc5)
      replace hf := hf.castB (t := 16) rfl (nbool_f hc5)
      refine stq hf rfl rfl rfl (ex_move hf rfl) (fun a hf => ?_)
      refine stq hf rfl rfl rfl (ex_lenS Try.underlying40 (rsl_isSl (hr.now hs (i := 1) rfl)) hf rfl) (fun a hf => ?_)
      refine stq hf rfl rfl rfl (ex_move hf rfl) (fun a hf => ?_)
      refine stq hf rfl rfl rfl (ex_lenS Try.underlying38 (rsl_isSl (hr.now hs (i := 0) rfl)) hf rfl) (fun a hf => ?_)
      refine stq hf rfl rfl rfl (ex_neq hf rfl rfl) (fun a hf => ?_)
      refine stq hf rfl rfl rfl (ex_pickF hf rfl rfl) (fun a hf => ?_)
      refine hK6 _ _ ?_
      have e3 := some_eq H; subst e3
      exact hJ3 _ _ ⟨hf.sub ⟨rfl, rfl, rfl, rfl, trivial⟩, hs⟩
    · -- not s4 = true
      refine region_k (fun K7 hK7 => ?_)
      refine stq hf rfl rfl rfl (ex_move hf rfl) (fun a hf => ?_)
      refine stepF hf rfl rfl rfl (ex_call cf_37 hf rfl) (ref39_valid.calls k a1 v1 (hs.enter .nil) (Sr.old hr hs .nil (i := 0) rfl (fun _ h => h) (fun _ h => h) (Sr.nil _ _)) hs4) (fun v w hR a hf => ?_)
      obtain ⟨rfl, hs'⟩ := hR
      replace hs := hs.step .nil hs'
      clear hs'
      refine stq hf rfl rfl rfl (ex_not hf rfl) (fun a hf => ?_)
      refine stq hf rfl rfl rfl (ex_move hf rfl) (fun a hf => ?_)
      replace hf := hf.castB (t := 14) rfl (bool_f hc5)
      replace hf := hf.castB (t := 15) rfl (nbool_t hc5)
      replace hf := hf.castB (t := 16) rfl (nbool_t hc5)
      refine stepN hf rfl rfl rfl (fun a hf => ?_)
      refine stepN hf rfl rfl rfl (fun a hf => ?_)
      refine stepN hf rfl rfl rfl (fun a hf => ?_)
      refine stepN hf rfl rfl rfl (fun a hf => ?_)
      refine stepN hf rfl rfl rfl (fun a hf => ?_)
      refine stq hf rfl rfl rfl (ex_pickT hf rfl rfl) (fun a hf => ?_)
      refine hK7 _ _ ?_
      have e3 := some_eq H; subst e3
      exact hJ3 _ _ ⟨hf.sub ⟨rfl, rfl, rfl, rfl, trivial⟩, hs⟩
  · obtain ⟨hf, hs⟩ := hJ
    replace H := HO3
    clear HO3
    refine itt H (fun hc8 H => ?_) (fun hc8 H => ?_)
    · -- x3 = true
      replace hf := hf.castB (t := 22) rfl hc8
      refine cond_T hf rfl ?_
      refine seq_reg (fun K9 hK9 => ?_)
      refine stq hf rfl rfl rfl (ex_assign hf rfl) (fun a hf => ?_)
      refine hK9 _ _ ?_
      refine wp_ret ?_
      refine hR2 _ _ ?_
      have eR := some_eq H; subst eR
      exact ret1 Try.results31 hf rfl ⟨_, rfl, ⟨rfl, hs⟩⟩
    · -- not x3 = true
      replace hf := hf.castB (t := 22) rfl (bool_f hc8)
      refine cond_F hf rfl ?_
      refine wp_skip ?_
      refine hN2 _ _ ?_
      refine seq_reg (fun K10 hK10 => ?_)
      refine stq hf rfl rfl rfl (ex_assign hf rfl) (fun a hf => ?_)
      refine hK10 _ _ ?_
      refine bnd H (fun x11 H11 HO11 => ?_)
      clear H
      refine seq_cut (fun a w => ∃ (x11s : Int), x11 = .go x11s ∧ Fr a 113 [(0, .int .u64 a0), (1, v1), (2, v2), (7, .int .u64 x11s)] ∧ St M w0 w []) (fun Q11 hJ11 hR11 hX11 => ?_) (fun a w hJ => ?_)
      · replace H := H11
        refine seq_reg (fun K12 hK12 => ?_)
        refine stq hf rfl rfl rfl (ex_assign hf rfl) (fun a hf => ?_)
        refine hK12 _ _ ?_
        refine block_k (fun Q13 hN13 hR13 hX13 hY13 => ?_)
        refine loop_k (fun n a w => ∃ (y14 : Int) (y15 : Int), Fr a 113 [(0, .int .u64 a0), (1, v1), (2, v2), (7, .int .u64 y14), (8, .int .i64 y15)] ∧ St M w0 w [] ∧ ref39_Fair.l1 n a1 a2 y14 y15 = some x11) k ?_ (fun n17 a w hI Q17 hL17 hR17 hX17 => ?_)
        · -- at the start
          exact ⟨0, 0, hf.sub ⟨rfl, rfl, rfl, rfl, rfl, trivial⟩, hs, H⟩
        · obtain ⟨y14, y15, hf, hs, H⟩ := hI
          cases n17 with
          | zero => exact absurd H (by rw [ref39_Fair.l1.eq_1]; intro h; cases h)
          | succ k17 =>
            replace H := (ref39_Fair.l1.eq_2 ..).symm.trans H
            refine seq_n (fun Q18 hN18 hR18 hX18 => ?_)
            refine seq_reg (fun K19 hK19 => ?_)
            refine stq hf rfl rfl rfl (ex_move hf rfl) (fun a hf => ?_)
            refine stq hf rfl rfl rfl (ex_move hf rfl) (fun a hf => ?_)
            refine stq hf rfl rfl rfl (ex_lenS Try.underlying38 (rsl_isSl (hr.now hs (i := 0) rfl)) hf rfl) (fun a hf => ?_)
            refine stq hf rfl rfl rfl (ex_lss hf rfl rfl) (fun a hf => ?_)
            refine hK19 _ _ ?_
            refine itt H (fun hc20 H => ?_) (fun hc20 H => ?_)
            · -- y15 < (a1.length : Int)
              replace hf := hf.castB (t := 26) rfl (dec_t hc20)
              refine cond_T hf rfl ?_
              refine wp_skip ?_
              refine hN18 _ _ ?_
              refine seq_n (fun Q21 hN21 hR21 hX21 => ?_)
              refine block_k (fun Q22 hN22 hR22 hX22 hY22 => ?_)
              refine seq_n (fun Q23 hN23 hR23 hX23 => ?_)
              refine bnd H (fun x24 H24 HO24 => ?_)
              clear H
              refine seq_cut (fun a w => Fr a 113 [(0, .int .u64 a0), (1, v1), (2, v2), (7, .int .u64 y14), (8, .int .i64 y15), (50, .bool x24)] ∧ St M w0 w []) (fun Q24 hJ24 hR24 hX24 => ?_) (fun a w hJ => ?_)
              · replace H := H24
                refine ck_some H (fun hc25 H => ?_)
                refine ck_some H (fun hc26 H => ?_)
                refine itt H (fun hc27 H => ?_) (fun hc27 H => ?_)
                · -- (gd 0 a2 y15) < ((gd Actor.zero a1 y15).Min)
                  refine region_d fol 22 [(0, .int .u64 a0), (1, v1), (2, v2), (7, .int .u64 y14), (8, .int .i64 y15)] [(0, v2), (1, .int .i64 y15), (2, .pointer (some (sla v2 (y15.toNat * 1)))), (3, .int .u64 (gd 0 a2 y15)), (4, v1), (5, .int .i64 y15), (6, .pointer (some (sla v1 (y15.toNat * 3)))), (7, .pointer (some (sla v1 (y15.toNat * 3 + 1)))), (8, .int .u64 ((gd Actor.zero a1 y15).Min)), (9, .bool true), (10, .bool true), (11, undef), (12, undef), (13, undef), (14, undef), (15, undef), (16, undef), (17, undef), (18, undef), (19, undef), (20, undef), (21, .bool true)] [] (fun w => (rsl K_uint64 v2 a2).ok w ∧ (rsl K_api_Actor v1 a1).ok w ∧ True) (fun w => St M w0 w []) hf ⟨rfl, rfl, rfl, rfl, rfl, trivial⟩ (by kernel_rfl) (by kernel_rfl) rfl (by decide) ⟨hr.now hs.drew (i := 1) rfl, hr.now hs.drew (i := 0) rfl, trivial⟩ hs.drew (.cons (⟨_, _, rfl, rfl, rfl, rfl, fun a w hR hf => .inl ⟨wanted_yes hf rfl, ex_move hf rfl⟩⟩) (.cons (⟨_, _, rfl, rfl, rfl, rfl, fun a w hR hf => .inl ⟨wanted_yes hf rfl, ex_move hf rfl⟩⟩) (.cons (⟨_, _, rfl, rfl, rfl, rfl, fun a w hR hf => .inl ⟨wanted_yes hf rfl, ex_indexAddr sa_40 (rsl_isSl hR.1) hc25.1 hc25.2 hf rfl rfl⟩⟩) (.cons (⟨_, _, rfl, rfl, rfl, rfl, fun a w hR hf => .inl ⟨wanted_yes hf rfl, ex_load sc_37 hf rfl (el_cell (K := K_uint64) (f := 0) (rsl_rd hR.1) hc25.1 hc25.2 rfl)⟩⟩) (.cons (⟨_, _, rfl, rfl, rfl, rfl, fun a w hR hf => .inl ⟨wanted_yes hf rfl, ex_move hf rfl⟩⟩) (.cons (⟨_, _, rfl, rfl, rfl, rfl, fun a w hR hf => .inl ⟨wanted_yes hf rfl, ex_move hf rfl⟩⟩) (.cons (⟨_, _, rfl, rfl, rfl, rfl, fun a w hR hf => .inl ⟨wanted_yes hf rfl, ex_indexAddr sa_38 (rsl_isSl hR.2.1) hc26.1 hc26.2 hf rfl rfl⟩⟩) (.cons (⟨_, _, rfl, rfl, rfl, rfl, fun a w hR hf => .inl ⟨wanted_yes hf rfl, ex_fieldAddrS fa_56_1 rfl hf rfl⟩⟩) (.cons (⟨_, _, rfl, rfl, rfl, rfl, fun a w hR hf => .inl ⟨wanted_yes hf rfl, ex_load sc_37 hf rfl (el_cell (K := K_api_Actor) (f := 1) (rsl_rd hR.2.1) hc26.1 hc26.2 rfl)⟩⟩) (.cons (⟨_, _, rfl, rfl, rfl, rfl, fun a w hR hf => .inl ⟨wanted_yes hf rfl, ex_castB (ex_lss hf rfl rfl) (dec_t hc27)⟩⟩) (.cons (⟨_, _, rfl, rfl, rfl, rfl, fun a w hR hf => .inl ⟨wanted_yes hf rfl, ex_move hf rfl⟩⟩) (.cons (⟨_, _, rfl, rfl, rfl, rfl, fun a w hR hf => .inr ⟨wanted_no hf rfl, rfl⟩⟩) (.cons (⟨_, _, rfl, rfl, rfl, rfl, fun a w hR hf => .inr ⟨wanted_no hf rfl, rfl⟩⟩) (.cons (⟨_, _, rfl, rfl, rfl, rfl, fun a w hR hf => .inr ⟨wanted_no hf rfl, rfl⟩⟩) (.cons (⟨_, _, rfl, rfl, rfl, rfl, fun a w hR hf => .inr ⟨wanted_no hf rfl, rfl⟩⟩) (.cons (⟨_, _, rfl, rfl, rfl, rfl, fun a w hR hf => .inr ⟨wanted_no hf rfl, rfl⟩⟩) (.cons (⟨_, _, rfl, rfl, rfl, rfl, fun a w hR hf => .inr ⟨wanted_no hf rfl, rfl⟩⟩) (.cons (⟨_, _, rfl, rfl, rfl, rfl, fun a w hR hf => .inr ⟨wanted_no hf rfl, rfl⟩⟩) (.cons (⟨_, _, rfl, rfl, rfl, rfl, fun a w hR hf => .inr ⟨wanted_no hf rfl, rfl⟩⟩) (.cons (⟨_, _, rfl, rfl, rfl, rfl, fun a w hR hf => .inr ⟨wanted_no hf rfl, rfl⟩⟩) (.cons (⟨_, _, rfl, rfl, rfl, rfl, fun a w hR hf => .inr ⟨wanted_no hf rfl, rfl⟩⟩) (.cons (⟨_, _, rfl, rfl, rfl, rfl, fun a w hR hf => .inl ⟨wanted_yes hf rfl, ex_pickT hf rfl rfl⟩⟩) (.nil))))))))))))))))))))))) (fun K28 hK28 => ?_)
                  refine RW.zero (by kernel_rfl) (by kernel_rfl) [(0, .int .u64 a0), (1, v1), (2, v2), (7, .int .u64 y14), (8, .int .i64 y15), (50, .bool true)] ⟨rfl, rfl, rfl, rfl, rfl, rfl, trivial⟩ (fun a w hR hs hf => ?_)
                  refine hK28 _ _ ?_
                  have e24 := some_eq H; subst e24
                  exact hJ24 _ _ ⟨hf.sub ⟨rfl, rfl, rfl, rfl, rfl, rfl, trivial⟩, hs⟩
                · -- not (gd 0 a2 y15) < ((gd Actor.zero a1 y15).Min)
                  refine bnd H (fun s29 hs29 H => ?_)
                  refine region_d fol 22 [(0, .int .u64 a0), (1, v1), (2, v2), (7, .int .u64 y14), (8, .int .i64 y15)] [(0, v2), (1, .int .i64 y15), (2, .pointer (some (sla v2 (y15.toNat * 1)))), (3, .int .u64 (gd 0 a2 y15)), (4, v1), (5, .int .i64 y15), (6, .pointer (some (sla v1 (y15.toNat * 3)))), (7, .pointer (some (sla v1 (y15.toNat * 3 + 1)))), (8, .int .u64 ((gd Actor.zero a1 y15).Min)), (9, .bool false), (10, .bool false), (11, v2), (12, .int .i64 y15), (13, .pointer (some (sla v2 (y15.toNat * 1)))), (14, .int .u64 (gd 0 a2 y15)), (15, v1), (16, .int .i64 y15), (17, .pointer (some (sla v1 (y15.toNat * 3)))), (18, .agg #[.int .u64 ((gd Actor.zero a1 y15).Request), .int .u64 ((gd Actor.zero a1 y15).Min), .int .u64 ((gd Actor.zero a1 y15).Max)])] [19] (fun w => (rsl K_uint64 v2 a2).ok w ∧ (rsl K_api_Actor v1 a1).ok w ∧ True) (fun w => St M w0 w []) hf ⟨rfl, rfl, rfl, rfl, rfl, trivial⟩ (by kernel_rfl) (by kernel_rfl) rfl (by decide) ⟨hr.now hs.drew (i := 1) rfl, hr.now hs.drew (i := 0) rfl, trivial⟩ hs.drew (.cons (⟨_, _, rfl, rfl, rfl, rfl, fun a w hR hf => .inl ⟨wanted_yes hf rfl, ex_move hf rfl⟩⟩) (.cons (⟨_, _, rfl, rfl, rfl, rfl, fun a w hR hf => .inl ⟨wanted_yes hf rfl, ex_move hf rfl⟩⟩) (.cons (⟨_, _, rfl, rfl, rfl, rfl, fun a w hR hf => .inl ⟨wanted_yes hf rfl, ex_indexAddr sa_40 (rsl_isSl hR.1) hc25.1 hc25.2 hf rfl rfl⟩⟩) (.cons (⟨_, _, rfl, rfl, rfl, rfl, fun a w hR hf => .inl ⟨wanted_yes hf rfl, ex_load sc_37 hf rfl (el_cell (K := K_uint64) (f := 0) (rsl_rd hR.1) hc25.1 hc25.2 rfl)⟩⟩) (.cons (⟨_, _, rfl, rfl, rfl, rfl, fun a w hR hf => .inl ⟨wanted_yes hf rfl, ex_move hf rfl⟩⟩) (.cons (⟨_, _, rfl, rfl, rfl, rfl, fun a w hR hf => .inl ⟨wanted_yes hf rfl, ex_move hf rfl⟩⟩) (.cons (⟨_, _, rfl, rfl, rfl, rfl, fun a w hR hf => .inl ⟨wanted_yes hf rfl, ex_indexAddr sa_38 (rsl_isSl hR.2.1) hc26.1 hc26.2 hf rfl rfl⟩⟩) (.cons (⟨_, _, rfl, rfl, rfl, rfl, fun a w hR hf => .inl ⟨wanted_yes hf rfl, ex_fieldAddrS fa_56_1 rfl hf rfl⟩⟩) (.cons (⟨_, _, rfl, rfl, rfl, rfl, fun a w hR hf => .inl ⟨wanted_yes hf rfl, ex_load sc_37 hf rfl (el_cell (K := K_api_Actor) (f := 1) (rsl_rd hR.2.1) hc26.1 hc26.2 rfl)⟩⟩) (.cons (⟨_, _, rfl, rfl, rfl, rfl, fun a w hR hf => .inl ⟨wanted_yes hf rfl, ex_castB (ex_lss hf rfl rfl) (dec_f hc27)⟩⟩) (.cons (⟨_, _, rfl, rfl, rfl, rfl, fun a w hR hf => .inl ⟨wanted_yes hf rfl, ex_move hf rfl⟩⟩) (.cons (⟨_, _, rfl, rfl, rfl, rfl, fun a w hR hf => .inl ⟨wanted_yes hf rfl, ex_move hf rfl⟩⟩) (.cons (⟨_, _, rfl, rfl, rfl, rfl, fun a w hR hf => .inl ⟨wanted_yes hf rfl, ex_move hf rfl⟩⟩) (.cons (⟨_, _, rfl, rfl, rfl, rfl, fun a w hR hf => .inl ⟨wanted_yes hf rfl, ex_indexAddr sa_40 (rsl_isSl hR.1) hc25.1 hc25.2 hf rfl rfl⟩⟩) (.cons (⟨_, _, rfl, rfl, rfl, rfl, fun a w hR hf => .inl ⟨wanted_yes hf rfl, ex_load sc_37 hf rfl (el_cell (K := K_uint64) (f := 0) (rsl_rd hR.1) hc25.1 hc25.2 rfl)⟩⟩) (.cons (⟨_, _, rfl, rfl, rfl, rfl, fun a w hR hf => .inl ⟨wanted_yes hf rfl, ex_move hf rfl⟩⟩) (.cons (⟨_, _, rfl, rfl, rfl, rfl, fun a w hR hf => .inl ⟨wanted_yes hf rfl, ex_move hf rfl⟩⟩) (.cons (⟨_, _, rfl, rfl, rfl, rfl, fun a w hR hf => .inl ⟨wanted_yes hf rfl, ex_indexAddr sa_38 (rsl_isSl hR.2.1) hc26.1 hc26.2 hf rfl rfl⟩⟩) (.cons (⟨_, _, rfl, rfl, rfl, rfl, fun a w hR hf => .inl ⟨wanted_yes hf rfl, ex_loadA (cs := [.int .u64 ((gd Actor.zero a1 y15).Request), .int .u64 ((gd Actor.zero a1 y15).Min), .int .u64 ((gd Actor.zero a1 y15).Max)]) ag_56 hf rfl (el_cells (K := K_api_Actor) (rsl_rd hR.2.1) hc26.1 hc26.2 rfl)⟩⟩) (.nil)))))))))))))))))))) (fun K30 hK30 => ?_)
                  refine RW.one 19 (by kernel_rfl) (by kernel_rfl) rfl (fun d hd => by cases hd; rfl) [(39, .bool false), (47, .agg #[.int .u64 ((gd Actor.zero a1 y15).Request), .int .u64 ((gd Actor.zero a1 y15).Min), .int .u64 ((gd Actor.zero a1 y15).Max)])] ⟨rfl, rfl, trivial⟩ (fun a w hR hs hf => ⟨wanted_yes hf rfl, ?_⟩)
                  refine estep_f (ex_call cf_39 hf rfl) (ref39_want.calls k17 (⟨((gd Actor.zero a1 y15).Request), ((gd Actor.zero a1 y15).Min), ((gd Actor.zero a1 y15).Max)⟩ : Actor) (hs.enter .nil) (Sr.nil _ _) hs29) (fun v w hR => ?_)
                  obtain ⟨rfl, hs'⟩ := hR
                  replace hs := hs.step .nil hs'
                  clear hs'
                  refine ⟨[(20, .bool (decide (s29 < (gd 0 a2 y15)))), (21, .bool (decide (s29 < (gd 0 a2 y15))))], [(20, .bool (decide (s29 < (gd 0 a2 y15)))), (21, .bool (decide (s29 < (gd 0 a2 y15)))), (19, .int .u64 s29), (0, v2), (1, .int .i64 y15), (2, .pointer (some (sla v2 (y15.toNat * 1)))), (3, .int .u64 (gd 0 a2 y15)), (4, v1), (5, .int .i64 y15), (6, .pointer (some (sla v1 (y15.toNat * 3)))), (7, .pointer (some (sla v1 (y15.toNat * 3 + 1)))), (8, .int .u64 ((gd Actor.zero a1 y15).Min)), (9, .bool false), (10, .bool false), (11, v2), (12, .int .i64 y15), (13, .pointer (some (sla v2 (y15.toNat * 1)))), (14, .int .u64 (gd 0 a2 y15)), (15, v1), (16, .int .i64 y15), (17, .pointer (some (sla v1 (y15.toNat * 3)))), (18, .agg #[.int .u64 ((gd Actor.zero a1 y15).Request), .int .u64 ((gd Actor.zero a1 y15).Min), .int .u64 ((gd Actor.zero a1 y15).Max)])], [], (fun _ => True), (fun w => St M w0 w []), rfl, rfl, ⟨hr.now hs (i := 1) rfl, hr.now hs (i := 0) rfl, trivial⟩, trivial, hs, (by kernel_rfl), .cons (⟨_, _, rfl, rfl, rfl, rfl, fun a w hR hf => .inl ⟨wanted_yes hf rfl, ex_gtr hf rfl rfl⟩⟩) (.cons (⟨_, _, rfl, rfl, rfl, rfl, fun a w hR hf => .inl ⟨wanted_yes hf rfl, ex_pickF hf rfl rfl⟩⟩) (.nil)), ?_⟩
                  refine RW.zero (by kernel_rfl) (by kernel_rfl) [(0, .int .u64 a0), (1, v1), (2, v2), (7, .int .u64 y14), (8, .int .i64 y15), (50, .bool (decide (s29 < (gd 0 a2 y15))))] ⟨rfl, rfl, rfl, rfl, rfl, rfl, trivial⟩ (fun a w hR hs hf => ?_)
                  refine hK30 _ _ ?_
                  have e24 := some_eq H; subst e24
                  exact hJ24 _ _ ⟨hf.sub ⟨rfl, rfl, rfl, rfl, rfl, rfl, trivial⟩, hs⟩
              · obtain ⟨hf, hs⟩ := hJ
                replace H := HO24
                clear HO24
                refine itt H (fun hc31 H => ?_) (fun hc31 H => ?_)
                · -- x24 = true
                  replace hf := hf.castB (t := 50) rfl hc31
                  refine cond_T hf rfl ?_
                  refine seq_reg (fun K32 hK32 => ?_)
                  refine stq hf rfl rfl rfl (ex_assign hf rfl) (fun a hf => ?_)
                  refine hK32 _ _ ?_
                  refine wp_ret ?_
                  refine hR23 _ _ ?_
                  refine hR22 _ _ ?_
                  refine hR21 _ _ ?_
                  refine hR17 _ _ ?_
                  refine hR13 _ _ ?_
                  have e11 := some_eq H; subst e11; replace H := el_rt HO11
                  refine hR11 _ _ ?_
                  have eR := some_eq H; subst eR
                  exact ret1 Try.results31 hf rfl ⟨_, rfl, ⟨rfl, hs⟩⟩
                · -- not x24 = true
                  replace hf := hf.castB (t := 50) rfl (bool_f hc31)
                  refine cond_F hf rfl ?_
                  refine wp_skip ?_
                  refine hN23 _ _ ?_
                  refine ck_some H (fun hc33 H => ?_)
                  refine region_k (fun K34 hK34 => ?_)
                  refine stq hf rfl rfl rfl (ex_move hf rfl) (fun a hf => ?_)
                  refine stq hf rfl rfl rfl (ex_move hf rfl) (fun a hf => ?_)
                  refine stq hf rfl rfl rfl (ex_move hf rfl) (fun a hf => ?_)
                  refine stq hf rfl rfl rfl (ex_indexAddr sa_40 (rsl_isSl (hr.now hs (i := 1) rfl)) hc33.1 hc33.2 hf rfl rfl) (fun a hf => ?_)
                  refine stq hf rfl rfl rfl (ex_load sc_37 hf rfl (el_cell (K := K_uint64) (f := 0) (rsl_rd (hr.now hs (i := 1) rfl)) hc33.1 hc33.2 rfl)) (fun a hf => ?_)
                  refine stq hf rfl rfl rfl (ex_add hf rfl rfl) (fun a hf => ?_)
                  refine stq hf rfl rfl rfl (ex_assign hf rfl) (fun a hf => ?_)
                  refine hK34 _ _ ?_
                  refine hN22 _ _ ?_
                  refine hN21 _ _ ?_
                  refine region_k (fun K35 hK35 => ?_)
                  refine stq hf rfl rfl rfl (ex_move hf rfl) (fun a hf => ?_)
                  refine stq hf rfl rfl rfl (ex_add hf rfl rfl) (fun a hf => ?_)
                  refine stq hf rfl rfl rfl (ex_assign hf rfl) (fun a hf => ?_)
                  refine hK35 _ _ ?_
                  exact hL17 k17 _ _ (Nat.lt_succ_self _) ⟨(IntKind.u64.wrap (y14 + (gd 0 a2 y15))), (IntKind.i64.wrap (y15 + 1)), hf.sub ⟨rfl, rfl, rfl, rfl, rfl, trivial⟩, hs, H⟩
            · -- not y15 < (a1.length : Int)
              replace hf := hf.castB (t := 26) rfl (dec_f hc20)
              refine cond_F hf rfl ?_
              refine wp_exit ?_
              refine hX18 0 _ _ ?_
              refine hX17 0 _ _ ?_
              refine hX13 _ _ ?_
              have e11 := some_eq H; subst e11
              exact hJ11 _ _ ⟨_, rfl, hf.sub ⟨rfl, rfl, rfl, rfl, trivial⟩, hs⟩
      · obtain ⟨x11s, rfl, hf, hs⟩ := hJ
        replace H := el_go HO11
        clear HO11
        refine seq_n (fun Q36 hN36 hR36 hX36 => ?_)
        refine bnd H (fun s37 hs37 H => ?_)
        refine seq_reg (fun K39 hK39 => ?_)
        refine stq hf rfl rfl rfl (ex_move hf rfl) (fun a hf => ?_)
        refine stepF hf rfl rfl rfl (ex_call cf_38 hf rfl) (ref39_at.calls k a1 4294967296 v1 (hs.enter .nil) (Sr.old hr hs .nil (i := 0) rfl (fun _ h => h) (fun _ h => h) (Sr.nil _ _)) hs37) (fun v w hR a hf => ?_)
        obtain ⟨v38, rfl, hs'⟩ := hR
        replace hs := hs.step .nil hs'
        clear hs'
        refine stq hf rfl rfl rfl (ex_move hf rfl) (fun a hf => ?_)
        refine stq hf rfl rfl rfl (ex_extract hf rfl rfl) (fun a hf => ?_)
        refine stq hf rfl rfl rfl (ex_extract hf rfl rfl) (fun a hf => ?_)
        refine stq hf rfl rfl rfl (ex_assign hf rfl) (fun a hf => ?_)
        refine stq hf rfl rfl rfl (ex_assign hf rfl) (fun a hf => ?_)
        refine hK39 _ _ ?_
        refine seq_reg (fun K40 hK40 => ?_)
        refine stq hf rfl rfl rfl (ex_move hf rfl) (fun a hf => ?_)
        refine stq hf rfl rfl rfl (ex_move hf rfl) (fun a hf => ?_)
        refine stq hf rfl rfl rfl (ex_move hf rfl) (fun a hf => ?_)
        refine stq hf rfl rfl rfl (ex_min hf rfl rfl) (fun a hf => ?_)
        refine stq hf rfl rfl rfl (ex_neq hf rfl rfl) (fun a hf => ?_)
        refine hK40 _ _ ?_
        refine itt H (fun hc41 H => ?_) (fun hc41 H => ?_)
        · -- x11s = (mn a0 s37.2)
          replace hf := hf.castB (t := 66) rfl (ndec_f hc41)
          refine cond_F hf rfl ?_
          refine wp_skip ?_
          refine hN36 _ _ ?_
          refine bnd H (fun x42 H42 HO42 => ?_)
          clear H
          refine seq_cut (fun a w => ∃ (x42s : Unit), x42 = .go x42s ∧ Fr a 113 [] ∧ St M w0 w []) (fun Q42 hJ42 hR42 hX42 => ?_) (fun a w hJ => ?_)
          · replace H := H42
            refine seq_reg (fun K43 hK43 => ?_)
            refine stq hf rfl rfl rfl (ex_assign hf rfl) (fun a hf => ?_)
            refine hK43 _ _ ?_
            refine block_k (fun Q44 hN44 hR44 hX44 hY44 => ?_)
            refine loop_k (fun n a w => ∃ (y45 : Int), Fr a 113 [(1, v1), (2, v2), (11, .int .i64 y45)] ∧ St M w0 w [] ∧ ref39_Fair.l2 n a1 a2 y45 = some x42) k ?_ (fun n47 a w hI Q47 hL47 hR47 hX47 => ?_)
            · -- at the start
              replace hs := hs.keep (.d .nil)
              exact ⟨0, hf.sub ⟨rfl, rfl, rfl, trivial⟩, hs, H⟩
            · obtain ⟨y45, hf, hs, H⟩ := hI
              cases n47 with
              | zero => exact absurd H (by rw [ref39_Fair.l2.eq_1]; intro h; cases h)
              | succ k47 =>
                replace H := (ref39_Fair.l2.eq_2 ..).symm.trans H
                refine seq_n (fun Q48 hN48 hR48 hX48 => ?_)
                refine seq_reg (fun K49 hK49 => ?_)
                refine stq hf rfl rfl rfl (ex_move hf rfl) (fun a hf => ?_)
                refine stq hf rfl rfl rfl (ex_move hf rfl) (fun a hf => ?_)
                refine stq hf rfl rfl rfl (ex_lenS Try.underlying38 (rsl_isSl (hr.now hs (i := 0) rfl)) hf rfl) (fun a hf => ?_)
                refine stq hf rfl rfl rfl (ex_lss hf rfl rfl) (fun a hf => ?_)
                refine hK49 _ _ ?_
                refine itt H (fun hc50 H => ?_) (fun hc50 H => ?_)
                · -- y45 < (a1.length : Int)
                  replace hf := hf.castB (t := 70) rfl (dec_t hc50)
                  refine cond_T hf rfl ?_
                  refine wp_skip ?_
                  refine hN48 _ _ ?_
                  refine bnd H (fun x51 H51 HO51 => ?_)
                  clear H
                  refine seq_cut (fun a w => ∃ (x51s : Unit), x51 = .go x51s ∧ Fr a 113 [(1, v1), (2, v2), (11, .int .i64 y45)] ∧ St M w0 w []) (fun Q51 hJ51 hR51 hX51 => ?_) (fun a w hJ => ?_)
                  · replace H := H51
                    refine block_k (fun Q52 hN52 hR52 hX52 hY52 => ?_)
                    refine seq_reg (fun K53 hK53 => ?_)
                    refine stq hf rfl rfl rfl (ex_assign hf rfl) (fun a hf => ?_)
                    refine hK53 _ _ ?_
                    refine block_k (fun Q54 hN54 hR54 hX54 hY54 => ?_)
                    refine loop_k (fun n a w => ∃ (y55 : Int), Fr a 113 [(1, v1), (2, v2), (11, .int .i64 y45), (12, .int .i64 y55)] ∧ St M w0 w [] ∧ ref39_Fair.l3 n a1 y45 a2 y55 = some x51) k47 ?_ (fun n57 a w hI Q57 hL57 hR57 hX57 => ?_)
                    · -- at the start
                      exact ⟨0, hf.sub ⟨rfl, rfl, rfl, rfl, trivial⟩, hs, H⟩
                    · obtain ⟨y55, hf, hs, H⟩ := hI
                      cases n57 with
                      | zero => exact absurd H (by rw [ref39_Fair.l3.eq_1]; intro h; cases h)
                      | succ k57 =>
                        replace H := (ref39_Fair.l3.eq_2 ..).symm.trans H
                        refine seq_n (fun Q58 hN58 hR58 hX58 => ?_)
                        refine seq_reg (fun K59 hK59 => ?_)
                        refine stq hf rfl rfl rfl (ex_move hf rfl) (fun a hf => ?_)
                        refine stq hf rfl rfl rfl (ex_move hf rfl) (fun a hf => ?_)
                        refine stq hf rfl rfl rfl (ex_lenS Try.underlying38 (rsl_isSl (hr.now hs (i := 0) rfl)) hf rfl) (fun a hf => ?_)
                        refine stq hf rfl rfl rfl (ex_lss hf rfl rfl) (fun a hf => ?_)
                        refine hK59 _ _ ?_
                        refine itt H (fun hc60 H => ?_) (fun hc60 H => ?_)
                        · -- y55 < (a1.length : Int)
                          replace hf := hf.castB (t := 76) rfl (dec_t hc60)
                          refine cond_T hf rfl ?_
                          refine wp_skip ?_
                          refine hN58 _ _ ?_
                          refine seq_n (fun Q61 hN61 hR61 hX61 => ?_)
                          refine block_k (fun Q62 hN62 hR62 hX62 hY62 => ?_)
                          refine bnd H (fun x63 H63 HO63 => ?_)
                          clear H
                          refine seq_cut (fun a w => Fr a 113 [(1, v1), (2, v2), (11, .int .i64 y45), (12, .int .i64 y55), (112, .bool x63)] ∧ St M w0 w []) (fun Q63 hJ63 hR63 hX63 => ?_) (fun a w hJ => ?_)
                          · replace H := H63
                            refine ck_some H (fun hc64 H => ?_)
                            refine ck_some H (fun hc65 H => ?_)
                            refine bnd H (fun s66 hs66 H => ?_)
                            refine itt H (fun hc67 H => ?_) (fun hc67 H => ?_)
                            · -- (gd 0 a2 y45) < s66
                              refine ck_some H (fun hc68 H => ?_)
                              refine ck_some H (fun hc69 H => ?_)
                              refine itt H (fun hc70 H => ?_) (fun hc70 H => ?_)
                              · -- ((gd Actor.zero a1 y55).Min) < (gd 0 a2 y55)
                                refine region_d fol 34 [(1, v1), (2, v2), (11, .int .i64 y45), (12, .int .i64 y55)] [(0, v2), (1, .int .i64 y45), (2, .pointer (some (sla v2 (y45.toNat * 1)))), (3, .int .u64 (gd 0 a2 y45)), (4, v1), (5, .int .i64 y45), (6, .pointer (some (sla v1 (y45.toNat * 3)))), (7, .agg #[.int .u64 ((gd Actor.zero a1 y45).Request), .int .u64 ((gd Actor.zero a1 y45).Min), .int .u64 ((gd Actor.zero a1 y45).Max)])] [8] (fun w => (rsl K_uint64 v2 a2).ok w ∧ (rsl K_api_Actor v1 a1).ok w ∧ True) (fun w => St M w0 w []) hf ⟨rfl, rfl, rfl, rfl, trivial⟩ (by kernel_rfl) (by kernel_rfl) rfl (by decide) ⟨hr.now hs.drew (i := 1) rfl, hr.now hs.drew (i := 0) rfl, trivial⟩ hs.drew (.cons (⟨_, _, rfl, rfl, rfl, rfl, fun a w hR hf => .inl ⟨wanted_yes hf rfl, ex_move hf rfl⟩⟩) (.cons (⟨_, _, rfl, rfl, rfl, rfl, fun a w hR hf => .inl ⟨wanted_yes hf rfl, ex_move hf rfl⟩⟩) (.cons (⟨_, _, rfl, rfl, rfl, rfl, fun a w hR hf => .inl ⟨wanted_yes hf rfl, ex_indexAddr sa_40 (rsl_isSl hR.1) hc64.1 hc64.2 hf rfl rfl⟩⟩) (.cons (⟨_, _, rfl, rfl, rfl, rfl, fun a w hR hf => .inl ⟨wanted_yes hf rfl, ex_load sc_37 hf rfl (el_cell (K := K_uint64) (f := 0) (rsl_rd hR.1) hc64.1 hc64.2 rfl)⟩⟩) (.cons (⟨_, _, rfl, rfl, rfl, rfl, fun a w hR hf => .inl ⟨wanted_yes hf rfl, ex_move hf rfl⟩⟩) (.cons (⟨_, _, rfl, rfl, rfl, rfl, fun a w hR hf => .inl ⟨wanted_yes hf rfl, ex_move hf rfl⟩⟩) (.cons (⟨_, _, rfl, rfl, rfl, rfl, fun a w hR hf => .inl ⟨wanted_yes hf rfl, ex_indexAddr sa_38 (rsl_isSl hR.2.1) hc65.1 hc65.2 hf rfl rfl⟩⟩) (.cons (⟨_, _, rfl, rfl, rfl, rfl, fun a w hR hf => .inl ⟨wanted_yes hf rfl, ex_loadA (cs := [.int .u64 ((gd Actor.zero a1 y45).Request), .int .u64 ((gd Actor.zero a1 y45).Min), .int .u64 ((gd Actor.zero a1 y45).Max)]) ag_56 hf rfl (el_cells (K := K_api_Actor) (rsl_rd hR.2.1) hc65.1 hc65.2 rfl)⟩⟩) (.nil))))))))) (fun K71 hK71 => ?_)
                                refine RW.one 8 (by kernel_rfl) (by kernel_rfl) rfl (fun d hd => by cases hd; rfl) [(86, .agg #[.int .u64 ((gd Actor.zero a1 y45).Request), .int .u64 ((gd Actor.zero a1 y45).Min), .int .u64 ((gd Actor.zero a1 y45).Max)])] ⟨rfl, trivial⟩ (fun a w hR hs hf => ⟨wanted_yes hf rfl, ?_⟩)
                                refine estep_f (ex_call cf_39 hf rfl) (ref39_want.calls k57 (⟨((gd Actor.zero a1 y45).Request), ((gd Actor.zero a1 y45).Min), ((gd Actor.zero a1 y45).Max)⟩ : Actor) (hs.enter .nil) (Sr.nil _ _) hs66) (fun v w hR => ?_)
                                obtain ⟨rfl, hs'⟩ := hR
                                replace hs := hs.step .nil hs'
                                clear hs'
                                refine ⟨[(9, .bool true), (10, .bool true), (11, v2), (12, .int .i64 y55), (13, .pointer (some (sla v2 (y55.toNat * 1)))), (14, .int .u64 (gd 0 a2 y55)), (15, v1), (16, .int .i64 y55), (17, .pointer (some (sla v1 (y55.toNat * 3)))), (18, .pointer (some (sla v1 (y55.toNat * 3 + 1)))), (19, .int .u64 ((gd Actor.zero a1 y55).Min)), (20, .bool true), (21, .bool true), (22, .bool true), (23, v2), (24, .int .i64 y55), (25, .pointer (some (sla v2 (y55.toNat * 1)))), (26, .int .u64 (gd 0 a2 y55)), (27, v2), (28, .int .i64 y45), (29, .pointer (some (sla v2 (y45.toNat * 1)))), (30, .int .u64 (gd 0 a2 y45)), (31, .int .u64 (IntKind.u64.wrap ((gd 0 a2 y45) + 1))), (32, .bool (decide ((IntKind.u64.wrap ((gd 0 a2 y45) + 1)) < (gd 0 a2 y55)))), (33, .bool (decide ((IntKind.u64.wrap ((gd 0 a2 y45) + 1)) < (gd 0 a2 y55))))], [(9, .bool true), (10, .bool true), (11, v2), (12, .int .i64 y55), (13, .pointer (some (sla v2 (y55.toNat * 1)))), (14, .int .u64 (gd 0 a2 y55)), (15, v1), (16, .int .i64 y55), (17, .pointer (some (sla v1 (y55.toNat * 3)))), (18, .pointer (some (sla v1 (y55.toNat * 3 + 1)))), (19, .int .u64 ((gd Actor.zero a1 y55).Min)), (20, .bool true), (21, .bool true), (22, .bool true), (23, v2), (24, .int .i64 y55), (25, .pointer (some (sla v2 (y55.toNat * 1)))), (26, .int .u64 (gd 0 a2 y55)), (27, v2), (28, .int .i64 y45), (29, .pointer (some (sla v2 (y45.toNat * 1)))), (30, .int .u64 (gd 0 a2 y45)), (31, .int .u64 (IntKind.u64.wrap ((gd 0 a2 y45) + 1))), (32, .bool (decide ((IntKind.u64.wrap ((gd 0 a2 y45) + 1)) < (gd 0 a2 y55)))), (33, .bool (decide ((IntKind.u64.wrap ((gd 0 a2 y45) + 1)) < (gd 0 a2 y55)))), (8, .int .u64 s66), (0, v2), (1, .int .i64 y45), (2, .pointer (some (sla v2 (y45.toNat * 1)))), (3, .int .u64 (gd 0 a2 y45)), (4, v1), (5, .int .i64 y45), (6, .pointer (some (sla v1 (y45.toNat * 3)))), (7, .agg #[.int .u64 ((gd Actor.zero a1 y45).Request), .int .u64 ((gd Actor.zero a1 y45).Min), .int .u64 ((gd Actor.zero a1 y45).Max)])], [], (fun _ => True), (fun w => St M w0 w []), rfl, rfl, ⟨hr.now hs (i := 1) rfl, hr.now hs (i := 0) rfl, trivial⟩, trivial, hs, (by kernel_rfl), .cons (⟨_, _, rfl, rfl, rfl, rfl, fun a w hR hf => .inl ⟨wanted_yes hf rfl, ex_castB (ex_lss hf rfl rfl) (dec_t hc67)⟩⟩) (.cons (⟨_, _, rfl, rfl, rfl, rfl, fun a w hR hf => .inl ⟨wanted_yes hf rfl, ex_move hf rfl⟩⟩) (.cons (⟨_, _, rfl, rfl, rfl, rfl, fun a w hR hf => .inl ⟨wanted_yes hf rfl, ex_move hf rfl⟩⟩) (.cons (⟨_, _, rfl, rfl, rfl, rfl, fun a w hR hf => .inl ⟨wanted_yes hf rfl, ex_move hf rfl⟩⟩) (.cons (⟨_, _, rfl, rfl, rfl, rfl, fun a w hR hf => .inl ⟨wanted_yes hf rfl, ex_indexAddr sa_40 (rsl_isSl hR.1.1) hc68.1 hc68.2 hf rfl rfl⟩⟩) (.cons (⟨_, _, rfl, rfl, rfl, rfl, fun a w hR hf => .inl ⟨wanted_yes hf rfl, ex_load sc_37 hf rfl (el_cell (K := K_uint64) (f := 0) (rsl_rd hR.1.1) hc68.1 hc68.2 rfl)⟩⟩) (.cons (⟨_, _, rfl, rfl, rfl, rfl, fun a w hR hf => .inl ⟨wanted_yes hf rfl, ex_move hf rfl⟩⟩) (.cons (⟨_, _, rfl, rfl, rfl, rfl, fun a w hR hf => .inl ⟨wanted_yes hf rfl, ex_move hf rfl⟩⟩) (.cons (⟨_, _, rfl, rfl, rfl, rfl, fun a w hR hf => .inl ⟨wanted_yes hf rfl, ex_indexAddr sa_38 (rsl_isSl hR.1.2.1) hc69.1 hc69.2 hf rfl rfl⟩⟩) (.cons (⟨_, _, rfl, rfl, rfl, rfl, fun a w hR hf => .inl ⟨wanted_yes hf rfl, ex_fieldAddrS fa_56_1 rfl hf rfl⟩⟩) (.cons (⟨_, _, rfl, rfl, rfl, rfl, fun a w hR hf => .inl ⟨wanted_yes hf rfl, ex_load sc_37 hf rfl (el_cell (K := K_api_Actor) (f := 1) (rsl_rd hR.1.2.1) hc69.1 hc69.2 rfl)⟩⟩) (.cons (⟨_, _, rfl, rfl, rfl, rfl, fun a w hR hf => .inl ⟨wanted_yes hf rfl, ex_castB (ex_gtr hf rfl rfl) (dec_t hc70)⟩⟩) (.cons (⟨_, _, rfl, rfl, rfl, rfl, fun a w hR hf => .inl ⟨wanted_yes hf rfl, ex_pickT hf rfl rfl⟩⟩) (.cons (⟨_, _, rfl, rfl, rfl, rfl, fun a w hR hf => .inl ⟨wanted_yes hf rfl, ex_move hf rfl⟩⟩) (.cons (⟨_, _, rfl, rfl, rfl, rfl, fun a w hR hf => .inl ⟨wanted_yes hf rfl, ex_move hf rfl⟩⟩) (.cons (⟨_, _, rfl, rfl, rfl, rfl, fun a w hR hf => .inl ⟨wanted_yes hf rfl, ex_move hf rfl⟩⟩) (.cons (⟨_, _, rfl, rfl, rfl, rfl, fun a w hR hf => .inl ⟨wanted_yes hf rfl, ex_indexAddr sa_40 (rsl_isSl hR.1.1) hc68.1 hc68.2 hf rfl rfl⟩⟩) (.cons (⟨_, _, rfl, rfl, rfl, rfl, fun a w hR hf => .inl ⟨wanted_yes hf rfl, ex_load sc_37 hf rfl (el_cell (K := K_uint64) (f := 0) (rsl_rd hR.1.1) hc68.1 hc68.2 rfl)⟩⟩) (.cons (⟨_, _, rfl, rfl, rfl, rfl, fun a w hR hf => .inl ⟨wanted_yes hf rfl, ex_move hf rfl⟩⟩) (.cons (⟨_, _, rfl, rfl, rfl, rfl, fun a w hR hf => .inl ⟨wanted_yes hf rfl, ex_move hf rfl⟩⟩) (.cons (⟨_, _, rfl, rfl, rfl, rfl, fun a w hR hf => .inl ⟨wanted_yes hf rfl, ex_indexAddr sa_40 (rsl_isSl hR.1.1) hc64.1 hc64.2 hf rfl rfl⟩⟩) (.cons (⟨_, _, rfl, rfl, rfl, rfl, fun a w hR hf => .inl ⟨wanted_yes hf rfl, ex_load sc_37 hf rfl (el_cell (K := K_uint64) (f := 0) (rsl_rd hR.1.1) hc64.1 hc64.2 rfl)⟩⟩) (.cons (⟨_, _, rfl, rfl, rfl, rfl, fun a w hR hf => .inl ⟨wanted_yes hf rfl, ex_add hf rfl rfl⟩⟩) (.cons (⟨_, _, rfl, rfl, rfl, rfl, fun a w hR hf => .inl ⟨wanted_yes hf rfl, ex_gtr hf rfl rfl⟩⟩) (.cons (⟨_, _, rfl, rfl, rfl, rfl, fun a w hR hf => .inl ⟨wanted_yes hf rfl, ex_pickT hf rfl rfl⟩⟩) (.nil))))))))))))))))))))))))), ?_⟩
                                refine RW.zero (by kernel_rfl) (by kernel_rfl) [(1, v1), (2, v2), (11, .int .i64 y45), (12, .int .i64 y55), (112, .bool (decide ((IntKind.u64.wrap ((gd 0 a2 y45) + 1)) < (gd 0 a2 y55))))] ⟨rfl, rfl, rfl, rfl, rfl, trivial⟩ (fun a w hR hs hf => ?_)
                                refine hK71 _ _ ?_
                                have e63 := some_eq H; subst e63
                                exact hJ63 _ _ ⟨hf.sub ⟨rfl, rfl, rfl, rfl, rfl, trivial⟩, hs⟩
                              · -- not ((gd Actor.zero a1 y55).Min) < (gd 0 a2 y55)
                                refine region_d fol 34 [(1, v1), (2, v2), (11, .int .i64 y45), (12, .int .i64 y55)] [(0, v2), (1, .int .i64 y45), (2, .pointer (some (sla v2 (y45.toNat * 1)))), (3, .int .u64 (gd 0 a2 y45)), (4, v1), (5, .int .i64 y45), (6, .pointer (some (sla v1 (y45.toNat * 3)))), (7, .agg #[.int .u64 ((gd Actor.zero a1 y45).Request), .int .u64 ((gd Actor.zero a1 y45).Min), .int .u64 ((gd Actor.zero a1 y45).Max)])] [8] (fun w => (rsl K_uint64 v2 a2).ok w ∧ (rsl K_api_Actor v1 a1).ok w ∧ True) (fun w => St M w0 w []) hf ⟨rfl, rfl, rfl, rfl, trivial⟩ (by kernel_rfl) (by kernel_rfl) rfl (by decide) ⟨hr.now hs.drew (i := 1) rfl, hr.now hs.drew (i := 0) rfl, trivial⟩ hs.drew (.cons (⟨_, _, rfl, rfl, rfl, rfl, fun a w hR hf => .inl ⟨wanted_yes hf rfl, ex_move hf rfl⟩⟩) (.cons (⟨_, _, rfl, rfl, rfl, rfl, fun a w hR hf => .inl ⟨wanted_yes hf rfl, ex_move hf rfl⟩⟩) (.cons (⟨_, _, rfl, rfl, rfl, rfl, fun a w hR hf => .inl ⟨wanted_yes hf rfl, ex_indexAddr sa_40 (rsl_isSl hR.1) hc64.1 hc64.2 hf rfl rfl⟩⟩) (.cons (⟨_, _, rfl, rfl, rfl, rfl, fun a w hR hf => .inl ⟨wanted_yes hf rfl, ex_load sc_37 hf rfl (el_cell (K := K_uint64) (f := 0) (rsl_rd hR.1) hc64.1 hc64.2 rfl)⟩⟩) (.cons (⟨_, _, rfl, rfl, rfl, rfl, fun a w hR hf => .inl ⟨wanted_yes hf rfl, ex_move hf rfl⟩⟩) (.cons (⟨_, _, rfl, rfl, rfl, rfl, fun a w hR hf => .inl ⟨wanted_yes hf rfl, ex_move hf rfl⟩⟩) (.cons (⟨_, _, rfl, rfl, rfl, rfl, fun a w hR hf => .inl ⟨wanted_yes hf rfl, ex_indexAddr sa_38 (rsl_isSl hR.2.1) hc65.1 hc65.2 hf rfl rfl⟩⟩) (.cons (⟨_, _, rfl, rfl, rfl, rfl, fun a w hR hf => .inl ⟨wanted_yes hf rfl, ex_loadA (cs := [.int .u64 ((gd Actor.zero a1 y45).Request), .int .u64 ((gd Actor.zero a1 y45).Min), .int .u64 ((gd Actor.zero a1 y45).Max)]) ag_56 hf rfl (el_cells (K := K_api_Actor) (rsl_rd hR.2.1) hc65.1 hc65.2 rfl)⟩⟩) (.nil))))))))) (fun K72 hK72 => ?_)
                                refine RW.one 8 (by kernel_rfl) (by kernel_rfl) rfl (fun d hd => by cases hd; rfl) [(86, .agg #[.int .u64 ((gd Actor.zero a1 y45).Request), .int .u64 ((gd Actor.zero a1 y45).Min), .int .u64 ((gd Actor.zero a1 y45).Max)])] ⟨rfl, trivial⟩ (fun a w hR hs hf => ⟨wanted_yes hf rfl, ?_⟩)
                                refine estep_f (ex_call cf_39 hf rfl) (ref39_want.calls k57 (⟨((gd Actor.zero a1 y45).Request), ((gd Actor.zero a1 y45).Min), ((gd Actor.zero a1 y45).Max)⟩ : Actor) (hs.enter .nil) (Sr.nil _ _) hs66) (fun v w hR => ?_)
                                obtain ⟨rfl, hs'⟩ := hR
                                replace hs := hs.step .nil hs'
                                clear hs'
                                refine ⟨[(9, .bool true), (10, .bool true), (11, v2), (12, .int .i64 y55), (13, .pointer (some (sla v2 (y55.toNat * 1)))), (14, .int .u64 (gd 0 a2 y55)), (15, v1), (16, .int .i64 y55), (17, .pointer (some (sla v1 (y55.toNat * 3)))), (18, .pointer (some (sla v1 (y55.toNat * 3 + 1)))), (19, .int .u64 ((gd Actor.zero a1 y55).Min)), (20, .bool false), (21, .bool false), (22, .bool false), (23, undef), (24, undef), (25, undef), (26, undef), (27, undef), (28, undef), (29, undef), (30, undef), (31, undef), (32, undef), (33, .bool false)], [(9, .bool true), (10, .bool true), (11, v2), (12, .int .i64 y55), (13, .pointer (some (sla v2 (y55.toNat * 1)))), (14, .int .u64 (gd 0 a2 y55)), (15, v1), (16, .int .i64 y55), (17, .pointer (some (sla v1 (y55.toNat * 3)))), (18, .pointer (some (sla v1 (y55.toNat * 3 + 1)))), (19, .int .u64 ((gd Actor.zero a1 y55).Min)), (20, .bool false), (21, .bool false), (22, .bool false), (23, undef), (24, undef), (25, undef), (26, undef), (27, undef), (28, undef), (29, undef), (30, undef), (31, undef), (32, undef), (33, .bool false), (8, .int .u64 s66), (0, v2), (1, .int .i64 y45), (2, .pointer (some (sla v2 (y45.toNat * 1)))), (3, .int .u64 (gd 0 a2 y45)), (4, v1), (5, .int .i64 y45), (6, .pointer (some (sla v1 (y45.toNat * 3)))), (7, .agg #[.int .u64 ((gd Actor.zero a1 y45).Request), .int .u64 ((gd Actor.zero a1 y45).Min), .int .u64 ((gd Actor.zero a1 y45).Max)])], [], (fun _ => True), (fun w => St M w0 w []), rfl, rfl, ⟨hr.now hs (i := 1) rfl, hr.now hs (i := 0) rfl, trivial⟩, trivial, hs, (by kernel_rfl), .cons (⟨_, _, rfl, rfl, rfl, rfl, fun a w hR hf => .inl ⟨wanted_yes hf rfl, ex_castB (ex_lss hf rfl rfl) (dec_t hc67)⟩⟩) (.cons (⟨_, _, rfl, rfl, rfl, rfl, fun a w hR hf => .inl ⟨wanted_yes hf rfl, ex_move hf rfl⟩⟩) (.cons (⟨_, _, rfl, rfl, rfl, rfl, fun a w hR hf => .inl ⟨wanted_yes hf rfl, ex_move hf rfl⟩⟩) (.cons (⟨_, _, rfl, rfl, rfl, rfl, fun a w hR hf => .inl ⟨wanted_yes hf rfl, ex_move hf rfl⟩⟩) (.cons (⟨_, _, rfl, rfl, rfl, rfl, fun a w hR hf => .inl ⟨wanted_yes hf rfl, ex_indexAddr sa_40 (rsl_isSl hR.1.1) hc68.1 hc68.2 hf rfl rfl⟩⟩) (.cons (⟨_, _, rfl, rfl, rfl, rfl, fun a w hR hf => .inl ⟨wanted_yes hf rfl, ex_load sc_37 hf rfl (el_cell (K := K_uint64) (f := 0) (rsl_rd hR.1.1) hc68.1 hc68.2 rfl)⟩⟩) (.cons (⟨_, _, rfl, rfl, rfl, rfl, fun a w hR hf => .inl ⟨wanted_yes hf rfl, ex_move hf rfl⟩⟩) (.cons (⟨_, _, rfl, rfl, rfl, rfl, fun a w hR hf => .inl ⟨wanted_yes hf rfl, ex_move hf rfl⟩⟩) (.cons (⟨_, _, rfl, rfl, rfl, rfl, fun a w hR hf => .inl ⟨wanted_yes hf rfl, ex_indexAddr sa_38 (rsl_isSl hR.1.2.1) hc69.1 hc69.2 hf rfl rfl⟩⟩) (.cons (⟨_, _, rfl, rfl, rfl, rfl, fun a w hR hf => .inl ⟨wanted_yes hf rfl, ex_fieldAddrS fa_56_1 rfl hf rfl⟩⟩) (.cons (⟨_, _, rfl, rfl, rfl, rfl, fun a w hR hf => .inl ⟨wanted_yes hf rfl, ex_load sc_37 hf rfl (el_cell (K := K_api_Actor) (f := 1) (rsl_rd hR.1.2.1) hc69.1 hc69.2 rfl)⟩⟩) (.cons (⟨_, _, rfl, rfl, rfl, rfl, fun a w hR hf => .inl ⟨wanted_yes hf rfl, ex_castB (ex_gtr hf rfl rfl) (dec_f hc70)⟩⟩) (.cons (⟨_, _, rfl, rfl, rfl, rfl, fun a w hR hf => .inl ⟨wanted_yes hf rfl, ex_pickT hf rfl rfl⟩⟩) (.cons (⟨_, _, rfl, rfl, rfl, rfl, fun a w hR hf => .inl ⟨wanted_yes hf rfl, ex_move hf rfl⟩⟩) (.cons (⟨_, _, rfl, rfl, rfl, rfl, fun a w hR hf => .inr ⟨wanted_no hf rfl, rfl⟩⟩) (.cons (⟨_, _, rfl, rfl, rfl, rfl, fun a w hR hf => .inr ⟨wanted_no hf rfl, rfl⟩⟩) (.cons (⟨_, _, rfl, rfl, rfl, rfl, fun a w hR hf => .inr ⟨wanted_no hf rfl, rfl⟩⟩) (.cons (⟨_, _, rfl, rfl, rfl, rfl, fun a w hR hf => .inr ⟨wanted_no hf rfl, rfl⟩⟩) (.cons (⟨_, _, rfl, rfl, rfl, rfl, fun a w hR hf => .inr ⟨wanted_no hf rfl, rfl⟩⟩) (.cons (⟨_, _, rfl, rfl, rfl, rfl, fun a w hR hf => .inr ⟨wanted_no hf rfl, rfl⟩⟩) (.cons (⟨_, _, rfl, rfl, rfl, rfl, fun a w hR hf => .inr ⟨wanted_no hf rfl, rfl⟩⟩) (.cons (⟨_, _, rfl, rfl, rfl, rfl, fun a w hR hf => .inr ⟨wanted_no hf rfl, rfl⟩⟩) (.cons (⟨_, _, rfl, rfl, rfl, rfl, fun a w hR hf => .inr ⟨wanted_no hf rfl, rfl⟩⟩) (.cons (⟨_, _, rfl, rfl, rfl, rfl, fun a w hR hf => .inr ⟨wanted_no hf rfl, rfl⟩⟩) (.cons (⟨_, _, rfl, rfl, rfl, rfl, fun a w hR hf => .inl ⟨wanted_yes hf rfl, ex_pickF hf rfl rfl⟩⟩) (.nil))))))))))))))))))))))))), ?_⟩
                                refine RW.zero (by kernel_rfl) (by kernel_rfl) [(1, v1), (2, v2), (11, .int .i64 y45), (12, .int .i64 y55), (112, .bool false)] ⟨rfl, rfl, rfl, rfl, rfl, trivial⟩ (fun a w hR hs hf => ?_)
                                refine hK72 _ _ ?_
                                have e63 := some_eq H; subst e63
                                exact hJ63 _ _ ⟨hf.sub ⟨rfl, rfl, rfl, rfl, rfl, trivial⟩, hs⟩
                            · -- not (gd 0 a2 y45) < s66
                              refine region_d fol 34 [(1, v1), (2, v2), (11, .int .i64 y45), (12, .int .i64 y55)] [(0, v2), (1, .int .i64 y45), (2, .pointer (some (sla v2 (y45.toNat * 1)))), (3, .int .u64 (gd 0 a2 y45)), (4, v1), (5, .int .i64 y45), (6, .pointer (some (sla v1 (y45.toNat * 3)))), (7, .agg #[.int .u64 ((gd Actor.zero a1 y45).Request), .int .u64 ((gd Actor.zero a1 y45).Min), .int .u64 ((gd Actor.zero a1 y45).Max)])] [8] (fun w => (rsl K_uint64 v2 a2).ok w ∧ (rsl K_api_Actor v1 a1).ok w ∧ True) (fun w => St M w0 w []) hf ⟨rfl, rfl, rfl, rfl, trivial⟩ (by kernel_rfl) (by kernel_rfl) rfl (by decide) ⟨hr.now hs.drew (i := 1) rfl, hr.now hs.drew (i := 0) rfl, trivial⟩ hs.drew (.cons (⟨_, _, rfl, rfl, rfl, rfl, fun a w hR hf => .inl ⟨wanted_yes hf rfl, ex_move hf rfl⟩⟩) (.cons (⟨_, _, rfl, rfl, rfl, rfl, fun a w hR hf => .inl ⟨wanted_yes hf rfl, ex_move hf rfl⟩⟩) (.cons (⟨_, _, rfl, rfl, rfl, rfl, fun a w hR hf => .inl ⟨wanted_yes hf rfl, ex_indexAddr sa_40 (rsl_isSl hR.1) hc64.1 hc64.2 hf rfl rfl⟩⟩) (.cons (⟨_, _, rfl, rfl, rfl, rfl, fun a w hR hf => .inl ⟨wanted_yes hf rfl, ex_load sc_37 hf rfl (el_cell (K := K_uint64) (f := 0) (rsl_rd hR.1) hc64.1 hc64.2 rfl)⟩⟩) (.cons (⟨_, _, rfl, rfl, rfl, rfl, fun a w hR hf => .inl ⟨wanted_yes hf rfl, ex_move hf rfl⟩⟩) (.cons (⟨_, _, rfl, rfl, rfl, rfl, fun a w hR hf => .inl ⟨wanted_yes hf rfl, ex_move hf rfl⟩⟩) (.cons (⟨_, _, rfl, rfl, rfl, rfl, fun a w hR hf => .inl ⟨wanted_yes hf rfl, ex_indexAddr sa_38 (rsl_isSl hR.2.1) hc65.1 hc65.2 hf rfl rfl⟩⟩) (.cons (⟨_, _, rfl, rfl, rfl, rfl, fun a w hR hf => .inl ⟨wanted_yes hf rfl, ex_loadA (cs := [.int .u64 ((gd Actor.zero a1 y45).Request), .int .u64 ((gd Actor.zero a1 y45).Min), .int .u64 ((gd Actor.zero a1 y45).Max)]) ag_56 hf rfl (el_cells (K := K_api_Actor) (rsl_rd hR.2.1) hc65.1 hc65.2 rfl)⟩⟩) (.nil))))))))) (fun K73 hK73 => ?_)
                              refine RW.one 8 (by kernel_rfl) (by kernel_rfl) rfl (fun d hd => by cases hd; rfl) [(86, .agg #[.int .u64 ((gd Actor.zero a1 y45).Request), .int .u64 ((gd Actor.zero a1 y45).Min), .int .u64 ((gd Actor.zero a1 y45).Max)])] ⟨rfl, trivial⟩ (fun a w hR hs hf => ⟨wanted_yes hf rfl, ?_⟩)
                              refine estep_f (ex_call cf_39 hf rfl) (ref39_want.calls k57 (⟨((gd Actor.zero a1 y45).Request), ((gd Actor.zero a1 y45).Min), ((gd Actor.zero a1 y45).Max)⟩ : Actor) (hs.enter .nil) (Sr.nil _ _) hs66) (fun v w hR => ?_)
                              obtain ⟨rfl, hs'⟩ := hR
                              replace hs := hs.step .nil hs'
                              clear hs'
                              refine ⟨[(9, .bool false), (10, .bool false), (11, undef), (12, undef), (13, undef), (14, undef), (15, undef), (16, undef), (17, undef), (18, undef), (19, undef), (20, undef), (21, .bool false), (22, .bool false), (23, undef), (24, undef), (25, undef), (26, undef), (27, undef), (28, undef), (29, undef), (30, undef), (31, undef), (32, undef), (33, .bool false)], [(9, .bool false), (10, .bool false), (11, undef), (12, undef), (13, undef), (14, undef), (15, undef), (16, undef), (17, undef), (18, undef), (19, undef), (20, undef), (21, .bool false), (22, .bool false), (23, undef), (24, undef), (25, undef), (26, undef), (27, undef), (28, undef), (29, undef), (30, undef), (31, undef), (32, undef), (33, .bool false), (8, .int .u64 s66), (0, v2), (1, .int .i64 y45), (2, .pointer (some (sla v2 (y45.toNat * 1)))), (3, .int .u64 (gd 0 a2 y45)), (4, v1), (5, .int .i64 y45), (6, .pointer (some (sla v1 (y45.toNat * 3)))), (7, .agg #[.int .u64 ((gd Actor.zero a1 y45).Request), .int .u64 ((gd Actor.zero a1 y45).Min), .int .u64 ((gd Actor.zero a1 y45).Max)])], [], (fun _ => True), (fun w => St M w0 w []), rfl, rfl, ⟨hr.now hs (i := 1) rfl, hr.now hs (i := 0) rfl, trivial⟩, trivial, hs, (by kernel_rfl), .cons (⟨_, _, rfl, rfl, rfl, rfl, fun a w hR hf => .inl ⟨wanted_yes hf rfl, ex_castB (ex_lss hf rfl rfl) (dec_f hc67)⟩⟩) (.cons (⟨_, _, rfl, rfl, rfl, rfl, fun a w hR hf => .inl ⟨wanted_yes hf rfl, ex_move hf rfl⟩⟩) (.cons (⟨_, _, rfl, rfl, rfl, rfl, fun a w hR hf => .inr ⟨wanted_no hf rfl, rfl⟩⟩) (.cons (⟨_, _, rfl, rfl, rfl, rfl, fun a w hR hf => .inr ⟨wanted_no hf rfl, rfl⟩⟩) (.cons (⟨_, _, rfl, rfl, rfl, rfl, fun a w hR hf => .inr ⟨wanted_no hf rfl, rfl⟩⟩) (.cons (⟨_, _, rfl, rfl, rfl, rfl, fun a w hR hf => .inr ⟨wanted_no hf rfl, rfl⟩⟩) (.cons (⟨_, _, rfl, rfl, rfl, rfl, fun a w hR hf => .inr ⟨wanted_no hf rfl, rfl⟩⟩) (.cons (⟨_, _, rfl, rfl, rfl, rfl, fun a w hR hf => .inr ⟨wanted_no hf rfl, rfl⟩⟩) (.cons (⟨_, _, rfl, rfl, rfl, rfl, fun a w hR hf => .inr ⟨wanted_no hf rfl, rfl⟩⟩) (.cons (⟨_, _, rfl, rfl, rfl, rfl, fun a w hR hf => .inr ⟨wanted_no hf rfl, rfl⟩⟩) (.cons (⟨_, _, rfl, rfl, rfl, rfl, fun a w hR hf => .inr ⟨wanted_no hf rfl, rfl⟩⟩) (.cons (⟨_, _, rfl, rfl, rfl, rfl, fun a w hR hf => .inr ⟨wanted_no hf rfl, rfl⟩⟩) (.cons (⟨_, _, rfl, rfl, rfl, rfl, fun a w hR hf => .inl ⟨wanted_yes hf rfl, ex_pickF hf rfl rfl⟩⟩) (.cons (⟨_, _, rfl, rfl, rfl, rfl, fun a w hR hf => .inl ⟨wanted_yes hf rfl, ex_move hf rfl⟩⟩) (.cons (⟨_, _, rfl, rfl, rfl, rfl, fun a w hR hf => .inr ⟨wanted_no hf rfl, rfl⟩⟩) (.cons (⟨_, _, rfl, rfl, rfl, rfl, fun a w hR hf => .inr ⟨wanted_no hf rfl, rfl⟩⟩) (.cons (⟨_, _, rfl, rfl, rfl, rfl, fun a w hR hf => .inr ⟨wanted_no hf rfl, rfl⟩⟩) (.cons (⟨_, _, rfl, rfl, rfl, rfl, fun a w hR hf => .inr ⟨wanted_no hf rfl, rfl⟩⟩) (.cons (⟨_, _, rfl, rfl, rfl, rfl, fun a w hR hf => .inr ⟨wanted_no hf rfl, rfl⟩⟩) (.cons (⟨_, _, rfl, rfl, rfl, rfl, fun a w hR hf => .inr ⟨wanted_no hf rfl, rfl⟩⟩) (.cons (⟨_, _, rfl, rfl, rfl, rfl, fun a w hR hf => .inr ⟨wanted_no hf rfl, rfl⟩⟩) (.cons (⟨_, _, rfl, rfl, rfl, rfl, fun a w hR hf => .inr ⟨wanted_no hf rfl, rfl⟩⟩) (.cons (⟨_, _, rfl, rfl, rfl, rfl, fun a w hR hf => .inr ⟨wanted_no hf rfl, rfl⟩⟩) (.cons (⟨_, _, rfl, rfl, rfl, rfl, fun a w hR hf => .inr ⟨wanted_no hf rfl, rfl⟩⟩) (.cons (⟨_, _, rfl, rfl, rfl, rfl, fun a w hR hf => .inl ⟨wanted_yes hf rfl, ex_pickF hf rfl rfl⟩⟩) (.nil))))))))))))))))))))))))), ?_⟩
                              refine RW.zero (by kernel_rfl) (by kernel_rfl) [(1, v1), (2, v2), (11, .int .i64 y45), (12, .int .i64 y55), (112, .bool false)] ⟨rfl, rfl, rfl, rfl, rfl, trivial⟩ (fun a w hR hs hf => ?_)
                              refine hK73 _ _ ?_
                              have e63 := some_eq H; subst e63
                              exact hJ63 _ _ ⟨hf.sub ⟨rfl, rfl, rfl, rfl, rfl, trivial⟩, hs⟩
                          · obtain ⟨hf, hs⟩ := hJ
                            replace H := HO63
                            clear HO63
                            refine itt H (fun hc74 H => ?_) (fun hc74 H => ?_)
                            · -- x63 = true
                              replace hf := hf.castB (t := 112) rfl hc74
                              refine cond_T hf rfl ?_
                              refine seq_reg (fun K75 hK75 => ?_)
                              refine stq hf rfl rfl rfl (ex_assign hf rfl) (fun a hf => ?_)
                              refine hK75 _ _ ?_
                              refine wp_ret ?_
                              refine hR62 _ _ ?_
                              refine hR61 _ _ ?_
                              refine hR57 _ _ ?_
                              refine hR54 _ _ ?_
                              refine hR52 _ _ ?_
                              have e51 := some_eq H; subst e51; replace H := el_rt HO51
                              refine hR51 _ _ ?_
                              refine hR47 _ _ ?_
                              refine hR44 _ _ ?_
                              have e42 := some_eq H; subst e42; replace H := el_rt HO42
                              refine hR42 _ _ ?_
                              have eR := some_eq H; subst eR
                              exact ret1 Try.results31 hf rfl ⟨_, rfl, ⟨rfl, hs⟩⟩
                            · -- not x63 = true
                              replace hf := hf.castB (t := 112) rfl (bool_f hc74)
                              refine cond_F hf rfl ?_
                              refine wp_skip ?_
                              refine hN62 _ _ ?_
                              refine hN61 _ _ ?_
                              refine region_k (fun K76 hK76 => ?_)
                              refine stq hf rfl rfl rfl (ex_move hf rfl) (fun a hf => ?_)
                              refine stq hf rfl rfl rfl (ex_add hf rfl rfl) (fun a hf => ?_)
                              refine stq hf rfl rfl rfl (ex_assign hf rfl) (fun a hf => ?_)
                              refine hK76 _ _ ?_
                              exact hL57 k57 _ _ (Nat.lt_succ_self _) ⟨(IntKind.i64.wrap (y55 + 1)), hf.sub ⟨rfl, rfl, rfl, rfl, trivial⟩, hs, H⟩
                        · -- not y55 < (a1.length : Int)
                          replace hf := hf.castB (t := 76) rfl (dec_f hc60)
                          refine cond_F hf rfl ?_
                          refine wp_exit ?_
                          refine hX58 4 _ _ ?_
                          refine hX57 4 _ _ ?_
                          refine hX54 _ _ ?_
                          refine hN52 _ _ ?_
                          have e51 := some_eq H; subst e51
                          exact hJ51 _ _ ⟨_, rfl, hf.sub ⟨rfl, rfl, rfl, trivial⟩, hs⟩
                  · obtain ⟨x51s, rfl, hf, hs⟩ := hJ
                    replace H := el_go HO51
                    clear HO51
                    refine region_k (fun K77 hK77 => ?_)
                    refine stq hf rfl rfl rfl (ex_move hf rfl) (fun a hf => ?_)
                    refine stq hf rfl rfl rfl (ex_add hf rfl rfl) (fun a hf => ?_)
                    refine stq hf rfl rfl rfl (ex_assign hf rfl) (fun a hf => ?_)
                    refine hK77 _ _ ?_
                    exact hL47 k47 _ _ (Nat.lt_succ_self _) ⟨(IntKind.i64.wrap (y45 + 1)), hf.sub ⟨rfl, rfl, rfl, trivial⟩, hs, H⟩
                · -- not y45 < (a1.length : Int)
                  replace hf := hf.castB (t := 70) rfl (dec_f hc50)
                  refine cond_F hf rfl ?_
                  refine wp_exit ?_
                  refine hX48 2 _ _ ?_
                  refine hX47 2 _ _ ?_
                  refine hX44 _ _ ?_
                  have e42 := some_eq H; subst e42
                  exact hJ42 _ _ ⟨_, rfl, hf.sub trivial, hs⟩
          · obtain ⟨x42s, rfl, hf, hs⟩ := hJ
            replace H := el_go HO42
            clear HO42
            refine seq_reg (fun K78 hK78 => ?_)
            refine stq hf rfl rfl rfl (ex_assign hf rfl) (fun a hf => ?_)
            refine hK78 _ _ ?_
            refine wp_ret ?_
            have eR := some_eq H; subst eR
            exact ret1 Try.results31 hf rfl ⟨_, rfl, ⟨rfl, hs⟩⟩
        · -- not x11s = (mn a0 s37.2)
          replace hf := hf.castB (t := 66) rfl (ndec_t hc41)
          refine cond_T hf rfl ?_
          refine seq_reg (fun K79 hK79 => ?_)
          refine stq hf rfl rfl rfl (ex_assign hf rfl) (fun a hf => ?_)
          refine hK79 _ _ ?_
          refine wp_ret ?_
          refine hR36 _ _ ?_
          have eR := some_eq H; subst eR
          replace hs := hs.keep (.d .nil)
          exact ret1 Try.results31 hf rfl ⟨_, rfl, ⟨rfl, hs⟩⟩

end Go.Proofs.Ytkcmohmnmapnbaa.X
