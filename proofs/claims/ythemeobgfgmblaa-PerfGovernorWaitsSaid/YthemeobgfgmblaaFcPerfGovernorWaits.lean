/- Each function of the machine comes to what its pure function says. -/
import Derived.Test.YthemeobgfgmblaaFc2
import Derived.Test.YthemeobgfgmblaaFc3
import Derived.Test.YthemeobgfgmblaaFb
namespace Go.Proofs.Ythemeobgfgmblaa.X
open Go Go.RowKit Go.Sx
set_option linter.unusedVariables false

set_option maxHeartbeats 4000000 in
set_option maxRecDepth 100000 in
theorem law36_PerfGovernorWaits.calls {M : Nat → Prop} {w0 : World} (k : Nat) (a0 : (List OperatingPoint)) (a1 : GovernorParams) (a2 : Int) (v0 : Value) {r : Bool} (hs : St M w0 w0 []) (hr : Sr M w0 [rsl K_api_OperatingPoint v0 a0])
    (h : law36_PerfGovernorWaits.f k a0 a1 a2 = some r) : Calls Try.prog 8 #[v0, .agg #[.int .i64 a1.Up, .int .i64 a1.Down, .int .i64 a1.Samples], .int .i64 a2] w0 fun e w => ∃ v, e = .returned v ∧ (.bool r = v ∧ St M w0 w []) := by
  have H := (law36_PerfGovernorWaits.f.eq_1 ..).symm.trans h
  clear h
  refine enter Try.func8 rfl Try.ntmps8 rfl (fun a hf => ?_)
  refine seq_reg (fun K2 hK2 => ?_)
  refine stepV hf rfl rfl rfl (er_box (cs := [.int .i64 a1.Up, .int .i64 a1.Down, .int .i64 a1.Samples]) hs hf rfl rfl) (fun v w hR a hf => ?_)
  obtain ⟨b1, rfl, hs⟩ := hR
  refine stq hf rfl rfl rfl (ex_assign hf rfl) (fun a hf => ?_)
  refine hK2 _ _ ?_
  refine seq_n (fun Q3 hN3 hR3 hX3 => ?_)
  refine seq_reg (fun K4 hK4 => ?_)
  refine stq hf rfl rfl rfl (ex_move hf rfl) (fun a hf => ?_)
  refine stq hf rfl rfl rfl (ex_lenS Try.underlying22 (rsl_isSl (hr.now hs (i := 0) rfl)) hf rfl) (fun a hf => ?_)
  refine stq hf rfl rfl rfl (ex_gtr hf rfl rfl) (fun a hf => ?_)
  refine hK4 _ _ ?_
  refine itt H (fun hc5 H => ?_) (fun hc5 H => ?_)
  · -- 20 < (a0.length : Int)
    replace hf := hf.castB (t := 21) rfl (dec_t hc5)
    refine cond_T hf rfl ?_
    refine bnd H (fun s6 hs6 H => ?_)
    refine seq_reg (fun K7 hK7 => ?_)
    refine stepF hf rfl rfl rfl (ex_call cf_12 hf rfl) (law36_awake.calls k (hs.enter (.k .nil)) (Sr.nil _ _) hs6) (fun v w hR a hf => ?_)
    obtain ⟨rfl, hs'⟩ := hR
    replace hs := hs.step (.k .nil) hs'
    clear hs'
    refine stq hf rfl rfl rfl (ex_assign hf rfl) (fun a hf => ?_)
    refine hK7 _ _ ?_
    refine wp_ret ?_
    refine hR3 _ _ ?_
    have eR := some_eq H; subst eR
    replace hs := hs.keep (.d .nil)
    exact ret1 Try.results8 hf rfl ⟨_, rfl, ⟨rfl, hs⟩⟩
  · -- not 20 < (a0.length : Int)
    replace hf := hf.castB (t := 21) rfl (dec_f hc5)
    refine cond_F hf rfl ?_
    refine wp_skip ?_
    refine hN3 _ _ ?_
    refine seq_n (fun Q8 hN8 hR8 hX8 => ?_)
    refine bnd H (fun s9 hs9 H => ?_)
    refine bnd H (fun s11 hs11 H => ?_)
    refine wp_cut (fun a w => ∃ (v13 : Value) (b14 : Nat), Fr a 148 [(2, .int .i64 a2), (7, v13), (8, .pointer (some ⟨b14, 0, none⟩))] ∧ St M w0 w [osl K_api_OperatingPoint v13 s9, bx b14 45 [.int .i64 s11.Up, .int .i64 s11.Down, .int .i64 s11.Samples]]) (fun Q15 hJ15 => ?_) (fun a w hJ => ?_)
    · -- in each order
      refine region_d fol 6 [(0, v0), (2, .int .i64 a2), (4, .pointer (some ⟨b1, 0, none⟩))] [(0, v0), (2, .agg #[.int .i64 a1.Up, .int .i64 a1.Down, .int .i64 a1.Samples])] [1, 3, 4] (fun w => (bx b1 45 [.int .i64 a1.Up, .int .i64 a1.Down, .int .i64 a1.Samples]).ok w ∧ True) (fun w => St M w0 w [bx b1 45 [.int .i64 a1.Up, .int .i64 a1.Down, .int .i64 a1.Samples]]) hf ⟨rfl, rfl, rfl, trivial⟩ (by kernel_rfl) (by kernel_rfl) rfl (by decide) ⟨hs.drew.get (i := 0) rfl, trivial⟩ hs.drew (.cons (⟨_, _, rfl, rfl, rfl, rfl, fun a w hR hf => .inl ⟨wanted_yes hf rfl, ex_move hf rfl⟩⟩) (.cons (⟨_, _, rfl, rfl, rfl, rfl, fun a w hR hf => .inl ⟨wanted_yes hf rfl, ex_loadA (cs := [.int .i64 a1.Up, .int .i64 a1.Down, .int .i64 a1.Samples]) ag_45 hf rfl (bx_cells (hR.1) rfl)⟩⟩) (.nil))) (fun K16 hK16 => ?_)
      refine RW.fork [1, 4] (by kernel_rfl) (by kernel_rfl) ⟨?_, ?_, trivial⟩
      · -- first 1
        refine RWe.mk 1 rfl (fun d hd => by cases hd; rfl) [(23, v0)] ⟨rfl, trivial⟩ (fun a w hR hs hf => ⟨wanted_yes hf rfl, ?_⟩)
        refine estep_f (ex_call cf_13 hf rfl) (law36_Table.calls k a0 v0 (hs.enter (.k .nil)) (Sr.old hr hs (.k .nil) (i := 0) rfl (fun _ h => h) (fun _ h => h) (Sr.nil _ _)) hs9) (fun v w hR => ?_)
        obtain ⟨v17, rfl, hs'⟩ := hR
        replace hs := hs.step (.k .nil) hs'
        clear hs'
        refine ⟨[], [(1, v17), (0, v0), (2, .agg #[.int .i64 a1.Up, .int .i64 a1.Down, .int .i64 a1.Samples])], [3, 4], (fun _ => True), (fun w => St M w0 w [osl K_api_OperatingPoint v17 s9, bx b1 45 [.int .i64 a1.Up, .int .i64 a1.Down, .int .i64 a1.Samples]]), rfl, rfl, ⟨hs.get (i := 1) rfl, trivial⟩, trivial, hs, (by kernel_rfl), .nil, ?_⟩
        refine RW.fork [3, 4] (by kernel_rfl) (by kernel_rfl) ⟨?_, ?_, trivial⟩
        · -- first 3
          refine RWe.mk 3 rfl (fun d hd => by cases hd; rfl) [(25, .agg #[.int .i64 a1.Up, .int .i64 a1.Down, .int .i64 a1.Samples])] ⟨rfl, trivial⟩ (fun a w hR hs hf => ⟨wanted_yes hf rfl, ?_⟩)
          refine estep_f (ex_call cf_24 hf rfl) (law36_params.calls k a1 (hs.enter (.k (.k .nil))) (Sr.nil _ _) hs11) (fun v w hR => ?_)
          obtain ⟨rfl, hs'⟩ := hR
          replace hs := hs.step (.k (.k .nil)) hs'
          clear hs'
          refine ⟨[], [(3, .agg #[.int .i64 s11.Up, .int .i64 s11.Down, .int .i64 s11.Samples]), (1, v17), (0, v0), (2, .agg #[.int .i64 a1.Up, .int .i64 a1.Down, .int .i64 a1.Samples])], [4], (fun _ => True), (fun w => St M w0 w [osl K_api_OperatingPoint v17 s9, bx b1 45 [.int .i64 a1.Up, .int .i64 a1.Down, .int .i64 a1.Samples]]), rfl, rfl, ⟨⟨hs.get (i := 1) rfl, trivial⟩, trivial⟩, trivial, hs, (by kernel_rfl), .nil, ?_⟩
          refine RW.one 4 (by kernel_rfl) (by kernel_rfl) rfl (fun d hd => by cases hd; rfl) [] trivial (fun a w hR hs hf => ⟨wanted_yes hf rfl, ?_⟩)
          refine estep_v (er_alloc hs ti_45 (cs := [.int .i64 0, .int .i64 0, .int .i64 0]) rfl) (fun v w hR => ?_)
          obtain ⟨b18, rfl, hs⟩ := hR
          refine ⟨[(5, v17)], [(5, v17), (4, .pointer (some ⟨b18, 0, none⟩)), (3, .agg #[.int .i64 s11.Up, .int .i64 s11.Down, .int .i64 s11.Samples]), (1, v17), (0, v0), (2, .agg #[.int .i64 a1.Up, .int .i64 a1.Down, .int .i64 a1.Samples])], [], (fun _ => True), (fun w => St M w0 w [bx b18 45 [.int .i64 0, .int .i64 0, .int .i64 0], osl K_api_OperatingPoint v17 s9, bx b1 45 [.int .i64 a1.Up, .int .i64 a1.Down, .int .i64 a1.Samples]]), rfl, rfl, ⟨⟨⟨hs.get (i := 2) rfl, trivial⟩, trivial⟩, trivial⟩, trivial, hs, (by kernel_rfl), .cons (⟨_, _, rfl, rfl, rfl, rfl, fun a w hR hf => .inl ⟨wanted_yes hf rfl, ex_assign hf rfl⟩⟩) (.nil), ?_⟩
          refine RW.zero (by kernel_rfl) (by kernel_rfl) [(2, .int .i64 a2), (7, v17), (8, .pointer (some ⟨b18, 0, none⟩)), (26, .agg #[.int .i64 s11.Up, .int .i64 s11.Down, .int .i64 s11.Samples])] ⟨rfl, rfl, rfl, rfl, trivial⟩ (fun a w hR hs hf => ?_)
          refine stepS hf rfl rfl (er_storeAB (vs := [.int .i64 s11.Up, .int .i64 s11.Down, .int .i64 s11.Samples]) (cs' := [.int .i64 s11.Up, .int .i64 s11.Down, .int .i64 s11.Samples]) hs (.c (.k (.k .nil))) sz_45 hf rfl rfl (all1 rfl (all1 rfl (all1 rfl (all1_nil)))) rfl rfl) (fun w hs => ?_)
          refine hK16 _ _ ?_
          replace hs := hs.keep (.k (.k (.d .nil)))
          replace hs := hs.pick (.k (.c .nil))
          exact hJ15 _ _ ⟨v17, b18, hf.sub ⟨rfl, rfl, rfl, trivial⟩, hs⟩
        · -- first 4
          refine RWe.mk 4 rfl (fun d hd => by cases hd; rfl) [] trivial (fun a w hR hs hf => ⟨wanted_yes hf rfl, ?_⟩)
          refine estep_v (er_alloc hs ti_45 (cs := [.int .i64 0, .int .i64 0, .int .i64 0]) rfl) (fun v w hR => ?_)
          obtain ⟨b19, rfl, hs⟩ := hR
          refine ⟨[], [(4, .pointer (some ⟨b19, 0, none⟩)), (1, v17), (0, v0), (2, .agg #[.int .i64 a1.Up, .int .i64 a1.Down, .int .i64 a1.Samples])], [3], (fun _ => True), (fun w => St M w0 w [bx b19 45 [.int .i64 0, .int .i64 0, .int .i64 0], osl K_api_OperatingPoint v17 s9, bx b1 45 [.int .i64 a1.Up, .int .i64 a1.Down, .int .i64 a1.Samples]]), rfl, rfl, ⟨⟨hs.get (i := 2) rfl, trivial⟩, trivial⟩, trivial, hs, (by kernel_rfl), .nil, ?_⟩
          refine RW.one 3 (by kernel_rfl) (by kernel_rfl) rfl (fun d hd => by cases hd; rfl) [(25, .agg #[.int .i64 a1.Up, .int .i64 a1.Down, .int .i64 a1.Samples])] ⟨rfl, trivial⟩ (fun a w hR hs hf => ⟨wanted_yes hf rfl, ?_⟩)
          refine estep_f (ex_call cf_24 hf rfl) (law36_params.calls k a1 (hs.enter (.k (.k (.k .nil)))) (Sr.nil _ _) hs11) (fun v w hR => ?_)
          obtain ⟨rfl, hs'⟩ := hR
          replace hs := hs.step (.k (.k (.k .nil))) hs'
          clear hs'
          refine ⟨[(5, v17)], [(5, v17), (3, .agg #[.int .i64 s11.Up, .int .i64 s11.Down, .int .i64 s11.Samples]), (4, .pointer (some ⟨b19, 0, none⟩)), (1, v17), (0, v0), (2, .agg #[.int .i64 a1.Up, .int .i64 a1.Down, .int .i64 a1.Samples])], [], (fun _ => True), (fun w => St M w0 w [bx b19 45 [.int .i64 0, .int .i64 0, .int .i64 0], osl K_api_OperatingPoint v17 s9, bx b1 45 [.int .i64 a1.Up, .int .i64 a1.Down, .int .i64 a1.Samples]]), rfl, rfl, ⟨⟨⟨hs.get (i := 2) rfl, trivial⟩, trivial⟩, trivial⟩, trivial, hs, (by kernel_rfl), .cons (⟨_, _, rfl, rfl, rfl, rfl, fun a w hR hf => .inl ⟨wanted_yes hf rfl, ex_assign hf rfl⟩⟩) (.nil), ?_⟩
          refine RW.zero (by kernel_rfl) (by kernel_rfl) [(2, .int .i64 a2), (7, v17), (8, .pointer (some ⟨b19, 0, none⟩)), (26, .agg #[.int .i64 s11.Up, .int .i64 s11.Down, .int .i64 s11.Samples])] ⟨rfl, rfl, rfl, rfl, trivial⟩ (fun a w hR hs hf => ?_)
          refine stepS hf rfl rfl (er_storeAB (vs := [.int .i64 s11.Up, .int .i64 s11.Down, .int .i64 s11.Samples]) (cs' := [.int .i64 s11.Up, .int .i64 s11.Down, .int .i64 s11.Samples]) hs (.c (.k (.k .nil))) sz_45 hf rfl rfl (all1 rfl (all1 rfl (all1 rfl (all1_nil)))) rfl rfl) (fun w hs => ?_)
          refine hK16 _ _ ?_
          replace hs := hs.keep (.k (.k (.d .nil)))
          replace hs := hs.pick (.k (.c .nil))
          exact hJ15 _ _ ⟨v17, b19, hf.sub ⟨rfl, rfl, rfl, trivial⟩, hs⟩
      · -- first 4
        refine RWe.mk 4 rfl (fun d hd => by cases hd; rfl) [] trivial (fun a w hR hs hf => ⟨wanted_yes hf rfl, ?_⟩)
        refine estep_v (er_alloc hs ti_45 (cs := [.int .i64 0, .int .i64 0, .int .i64 0]) rfl) (fun v w hR => ?_)
        obtain ⟨b20, rfl, hs⟩ := hR
        refine ⟨[], [(4, .pointer (some ⟨b20, 0, none⟩)), (0, v0), (2, .agg #[.int .i64 a1.Up, .int .i64 a1.Down, .int .i64 a1.Samples])], [1, 3], (fun _ => True), (fun w => St M w0 w [bx b20 45 [.int .i64 0, .int .i64 0, .int .i64 0], bx b1 45 [.int .i64 a1.Up, .int .i64 a1.Down, .int .i64 a1.Samples]]), rfl, rfl, ⟨hs.get (i := 1) rfl, trivial⟩, trivial, hs, (by kernel_rfl), .nil, ?_⟩
        refine RW.one 1 (by kernel_rfl) (by kernel_rfl) rfl (fun d hd => by cases hd; rfl) [(23, v0)] ⟨rfl, trivial⟩ (fun a w hR hs hf => ⟨wanted_yes hf rfl, ?_⟩)
        refine estep_f (ex_call cf_13 hf rfl) (law36_Table.calls k a0 v0 (hs.enter (.k (.k .nil))) (Sr.old hr hs (.k (.k .nil)) (i := 0) rfl (fun _ h => h) (fun _ h => h) (Sr.nil _ _)) hs9) (fun v w hR => ?_)
        obtain ⟨v21, rfl, hs'⟩ := hR
        replace hs := hs.step (.k (.k .nil)) hs'
        clear hs'
        refine ⟨[], [(1, v21), (4, .pointer (some ⟨b20, 0, none⟩)), (0, v0), (2, .agg #[.int .i64 a1.Up, .int .i64 a1.Down, .int .i64 a1.Samples])], [3], (fun _ => True), (fun w => St M w0 w [osl K_api_OperatingPoint v21 s9, bx b20 45 [.int .i64 0, .int .i64 0, .int .i64 0], bx b1 45 [.int .i64 a1.Up, .int .i64 a1.Down, .int .i64 a1.Samples]]), rfl, rfl, ⟨⟨hs.get (i := 2) rfl, trivial⟩, trivial⟩, trivial, hs, (by kernel_rfl), .nil, ?_⟩
        refine RW.one 3 (by kernel_rfl) (by kernel_rfl) rfl (fun d hd => by cases hd; rfl) [(25, .agg #[.int .i64 a1.Up, .int .i64 a1.Down, .int .i64 a1.Samples])] ⟨rfl, trivial⟩ (fun a w hR hs hf => ⟨wanted_yes hf rfl, ?_⟩)
        refine estep_f (ex_call cf_24 hf rfl) (law36_params.calls k a1 (hs.enter (.k (.k (.k .nil)))) (Sr.nil _ _) hs11) (fun v w hR => ?_)
        obtain ⟨rfl, hs'⟩ := hR
        replace hs := hs.step (.k (.k (.k .nil))) hs'
        clear hs'
        refine ⟨[(5, v21)], [(5, v21), (3, .agg #[.int .i64 s11.Up, .int .i64 s11.Down, .int .i64 s11.Samples]), (1, v21), (4, .pointer (some ⟨b20, 0, none⟩)), (0, v0), (2, .agg #[.int .i64 a1.Up, .int .i64 a1.Down, .int .i64 a1.Samples])], [], (fun _ => True), (fun w => St M w0 w [osl K_api_OperatingPoint v21 s9, bx b20 45 [.int .i64 0, .int .i64 0, .int .i64 0], bx b1 45 [.int .i64 a1.Up, .int .i64 a1.Down, .int .i64 a1.Samples]]), rfl, rfl, ⟨⟨⟨hs.get (i := 2) rfl, trivial⟩, trivial⟩, trivial⟩, trivial, hs, (by kernel_rfl), .cons (⟨_, _, rfl, rfl, rfl, rfl, fun a w hR hf => .inl ⟨wanted_yes hf rfl, ex_assign hf rfl⟩⟩) (.nil), ?_⟩
        refine RW.zero (by kernel_rfl) (by kernel_rfl) [(2, .int .i64 a2), (7, v21), (8, .pointer (some ⟨b20, 0, none⟩)), (26, .agg #[.int .i64 s11.Up, .int .i64 s11.Down, .int .i64 s11.Samples])] ⟨rfl, rfl, rfl, rfl, trivial⟩ (fun a w hR hs hf => ?_)
        refine stepS hf rfl rfl (er_storeAB (vs := [.int .i64 s11.Up, .int .i64 s11.Down, .int .i64 s11.Samples]) (cs' := [.int .i64 s11.Up, .int .i64 s11.Down, .int .i64 s11.Samples]) hs (.k (.c (.k .nil))) sz_45 hf rfl rfl (all1 rfl (all1 rfl (all1 rfl (all1_nil)))) rfl rfl) (fun w hs => ?_)
        refine hK16 _ _ ?_
        replace hs := hs.keep (.k (.k (.d .nil)))
        replace hs := hs.pick (.k (.c .nil))
        exact hJ15 _ _ ⟨v21, b20, hf.sub ⟨rfl, rfl, rfl, trivial⟩, hs⟩
    · obtain ⟨v13, b14, hf, hs⟩ := hJ
      refine hN8 _ _ ?_
      refine seq_n (fun Q22 hN22 hR22 hX22 => ?_)
      refine bnd H (fun x23 H23 HO23 => ?_)
      clear H
      refine seq_cut (fun a w => Fr a 148 [(2, .int .i64 a2), (7, v13), (8, .pointer (some ⟨b14, 0, none⟩)), (34, .bool x23)] ∧ St M w0 w [osl K_api_OperatingPoint v13 s9, bx b14 45 [.int .i64 s11.Up, .int .i64 s11.Down, .int .i64 s11.Samples]]) (fun Q23 hJ23 hR23 hX23 => ?_) (fun a w hJ => ?_)
      · replace H := H23
        refine itt H (fun hc24 H => ?_) (fun hc24 H => ?_)
        · -- s11.Down = 0
          refine region_k (fun K25 hK25 => ?_)
          refine stq hf rfl rfl rfl (ex_fieldAddrB fa_45_1 rfl hf rfl) (fun a hf => ?_)
          refine stq hf rfl rfl rfl (ex_load sc_3 hf rfl (bx_cell (hs.get (i := 1) rfl) _ rfl)) (fun a hf => ?_)
          refine stq hf rfl rfl rfl (ex_eql hf rfl rfl) (fun a hf => ?_)
          refine stq hf rfl rfl rfl (ex_move hf rfl) (fun a hf => ?_)
          replace hf := hf.castB (t := 29) rfl (dec_t hc24)
          replace hf := hf.castB (t := 30) rfl (dec_t hc24)
          refine stepN hf rfl rfl rfl (fun a hf => ?_)
          refine stepN hf rfl rfl rfl (fun a hf => ?_)
          refine stepN hf rfl rfl rfl (fun a hf => ?_)
          refine stq hf rfl rfl rfl (ex_pickT hf rfl rfl) (fun a hf => ?_)
          refine hK25 _ _ ?_
          have e23 := some_eq H; subst e23
          exact hJ23 _ _ ⟨hf.sub ⟨rfl, rfl, rfl, rfl, trivial⟩, hs⟩
        · -- not s11.Down = 0
          refine region_k (fun K26 hK26 => ?_)
          refine stq hf rfl rfl rfl (ex_fieldAddrB fa_45_1 rfl hf rfl) (fun a hf => ?_)
          refine stq hf rfl rfl rfl (ex_load sc_3 hf rfl (bx_cell (hs.get (i := 1) rfl) _ rfl)) (fun a hf => ?_)
          refine stq hf rfl rfl rfl (ex_eql hf rfl rfl) (fun a hf => ?_)
          refine stq hf rfl rfl rfl (ex_move hf rfl) (fun a hf => ?_)
          replace hf := hf.castB (t := 29) rfl (dec_f hc24)
          replace hf := hf.castB (t := 30) rfl (dec_f hc24)
          refine stq hf rfl rfl rfl (ex_fieldAddrB fa_45_0 rfl hf rfl) (fun a hf => ?_)
          refine stq hf rfl rfl rfl (ex_load sc_3 hf rfl (bx_cell (hs.get (i := 1) rfl) _ rfl)) (fun a hf => ?_)
          refine stq hf rfl rfl rfl (ex_eql hf rfl rfl) (fun a hf => ?_)
          refine stq hf rfl rfl rfl (ex_pickF hf rfl rfl) (fun a hf => ?_)
          refine hK26 _ _ ?_
          have e23 := some_eq H; subst e23
          exact hJ23 _ _ ⟨hf.sub ⟨rfl, rfl, rfl, rfl, trivial⟩, hs⟩
      · obtain ⟨hf, hs⟩ := hJ
        replace H := HO23
        clear HO23
        refine itt H (fun hc27 H => ?_) (fun hc27 H => ?_)
        · -- x23 = true
          replace hf := hf.castB (t := 34) rfl hc27
          refine cond_T hf rfl ?_
          refine bnd H (fun s28 hs28 H => ?_)
          refine seq_reg (fun K29 hK29 => ?_)
          refine stepF hf rfl rfl rfl (ex_call cf_12 hf rfl) (law36_awake.calls k (hs.enter (.k (.k .nil))) (Sr.nil _ _) hs28) (fun v w hR a hf => ?_)
          obtain ⟨rfl, hs'⟩ := hR
          replace hs := hs.step (.k (.k .nil)) hs'
          clear hs'
          refine stq hf rfl rfl rfl (ex_assign hf rfl) (fun a hf => ?_)
          refine hK29 _ _ ?_
          refine wp_ret ?_
          refine hR22 _ _ ?_
          have eR := some_eq H; subst eR
          replace hs := hs.keep (.d (.d .nil))
          exact ret1 Try.results8 hf rfl ⟨_, rfl, ⟨rfl, hs⟩⟩
        · -- not x23 = true
          replace hf := hf.castB (t := 34) rfl (bool_f hc27)
          refine cond_F hf rfl ?_
          refine wp_skip ?_
          refine hN22 _ _ ?_
          refine bnd H (fun s30 hs30 H => ?_)
          refine seq_reg (fun K31 hK31 => ?_)
          refine stq hf rfl rfl rfl (ex_move hf rfl) (fun a hf => ?_)
          refine stq hf rfl rfl rfl (ex_fieldAddrB fa_45_1 rfl hf rfl) (fun a hf => ?_)
          refine stq hf rfl rfl rfl (ex_load sc_3 hf rfl (bx_cell (hs.get (i := 1) rfl) _ rfl)) (fun a hf => ?_)
          refine stepF hf rfl rfl rfl (ex_call cf_14 hf rfl) (help_Mod.calls k a2 s11.Down (hs.enter (.k (.k .nil))) (Sr.nil _ _) hs30) (fun v w hR a hf => ?_)
          obtain ⟨rfl, hs'⟩ := hR
          replace hs := hs.step (.k (.k .nil)) hs'
          clear hs'
          refine stq hf rfl rfl rfl (ex_assign hf rfl) (fun a hf => ?_)
          refine hK31 _ _ ?_
          refine seq_n (fun Q32 hN32 hR32 hX32 => ?_)
          refine bnd H (fun s33 hs33 H => ?_)
          cases hps33 : s33.1 with
          | none =>
            replace H := elim_n hps33 H
            refine region_k (fun K35 hK35 => ?_)
            refine stq hf rfl rfl rfl (ex_move hf rfl) (fun a hf => ?_)
            refine stq hf rfl rfl rfl (ex_loadA (cs := [.int .i64 s11.Up, .int .i64 s11.Down, .int .i64 s11.Samples]) ag_45 hf rfl (bx_cells (hs.get (i := 1) rfl) rfl)) (fun a hf => ?_)
            refine stepF hf rfl rfl rfl (ex_call cf_25 hf rfl) (perf_New.calls k s9 s11 v13 (hs.enter (.k (.k .nil))) (Sr.own hs (.k (.k .nil)) (i := 0) rfl osl_rsl (fun _ h => h.1) (Sr.nil _ _)) hs33) (fun v w hR a hf => ?_)
            obtain ⟨_, rfl, hs'⟩ | ⟨_, hc', _⟩ := hR
            case inr => rw [hps33] at hc'; cases hc'
            replace hs := hs.step (.k (.k .nil)) hs'
            clear hs'
            refine stq hf rfl rfl rfl (ex_move hf rfl) (fun a hf => ?_)
            refine stq hf rfl rfl rfl (ex_extract hf rfl rfl) (fun a hf => ?_)
            refine stq hf rfl rfl rfl (ex_extract hf rfl rfl) (fun a hf => ?_)
            refine stq hf rfl rfl rfl (ex_assign hf rfl) (fun a hf => ?_)
            refine stq hf rfl rfl rfl (ex_assign hf rfl) (fun a hf => ?_)
            refine hK35 _ _ ?_
            refine hN32 _ _ ?_
            refine seq_n (fun Q36 hN36 hR36 hX36 => ?_)
            refine bnd H (fun x37 H37 HO37 => ?_)
            clear H
            refine seq_cut (fun a w => Fr a 148 [(7, v13), (8, .pointer (some ⟨b14, 0, none⟩)), (9, .int .i64 s30), (10, .pointer none), (51, .bool true)] ∧ St M w0 w [osl K_api_OperatingPoint v13 s9, bx b14 45 [.int .i64 s11.Up, .int .i64 s11.Down, .int .i64 s11.Samples]]) (fun Q37 hJ37 hR37 hX37 => ?_) (fun a w hJ => ?_)
            · replace H := H37
              refine itt H (fun hc38 H => ?_) (fun hc38 H => ?_)
              · -- s33.2 = 0
                refine region_k (fun K39 hK39 => ?_)
                refine stq hf rfl rfl rfl (ex_move hf rfl) (fun a hf => ?_)
                refine stq hf rfl rfl rfl (ex_neq hf rfl rfl) (fun a hf => ?_)
                refine stq hf rfl rfl rfl (ex_move hf rfl) (fun a hf => ?_)
                replace hf := hf.castB (t := 47) rfl (ndec_f hc38)
                replace hf := hf.castB (t := 48) rfl (ndec_f hc38)
                refine stq hf rfl rfl rfl (ex_move hf rfl) (fun a hf => ?_)
                refine stq hf rfl rfl rfl (ex_eqp Try.underlying47 hf rfl rfl) (fun a hf => ?_)
                refine stq hf rfl rfl rfl (ex_pickF hf rfl rfl) (fun a hf => ?_)
                refine hK39 _ _ ?_
                have e37 := some_eq H; subst e37
                exact hJ37 _ _ ⟨hf.sub ⟨rfl, rfl, rfl, rfl, rfl, trivial⟩, hs⟩
              · -- not s33.2 = 0
                refine region_k (fun K40 hK40 => ?_)
                refine stq hf rfl rfl rfl (ex_move hf rfl) (fun a hf => ?_)
                refine stq hf rfl rfl rfl (ex_neq hf rfl rfl) (fun a hf => ?_)
                refine stq hf rfl rfl rfl (ex_move hf rfl) (fun a hf => ?_)
                replace hf := hf.castB (t := 47) rfl (ndec_t hc38)
                replace hf := hf.castB (t := 48) rfl (ndec_t hc38)
                refine stepN hf rfl rfl rfl (fun a hf => ?_)
                refine stepN hf rfl rfl rfl (fun a hf => ?_)
                refine stq hf rfl rfl rfl (ex_pickT hf rfl rfl) (fun a hf => ?_)
                refine hK40 _ _ ?_
                have e37 := some_eq H; subst e37
                exact hJ37 _ _ ⟨hf.sub ⟨rfl, rfl, rfl, rfl, rfl, trivial⟩, hs⟩
            · obtain ⟨hf, hs⟩ := hJ
              replace H := HO37
              clear HO37
              refine cond_T hf rfl ?_
              refine seq_reg (fun K41 hK41 => ?_)
              refine stq hf rfl rfl rfl (ex_assign hf rfl) (fun a hf => ?_)
              refine hK41 _ _ ?_
              refine wp_ret ?_
              refine hR36 _ _ ?_
              have eR := some_eq H; subst eR
              replace hs := hs.keep (.d (.d .nil))
              exact ret1 Try.results8 hf rfl ⟨_, rfl, ⟨rfl, hs⟩⟩
          | some c34 =>
            replace H := elim_s hps33 H
            refine region_k (fun K44 hK44 => ?_)
            refine stq hf rfl rfl rfl (ex_move hf rfl) (fun a hf => ?_)
            refine stq hf rfl rfl rfl (ex_loadA (cs := [.int .i64 s11.Up, .int .i64 s11.Down, .int .i64 s11.Samples]) ag_45 hf rfl (bx_cells (hs.get (i := 1) rfl) rfl)) (fun a hf => ?_)
            refine stepF hf rfl rfl rfl (ex_call cf_25 hf rfl) (perf_New.calls k s9 s11 v13 (hs.enter (.k (.k .nil))) (Sr.own hs (.k (.k .nil)) (i := 0) rfl osl_rsl (fun _ h => h.1) (Sr.nil _ _)) hs33) (fun v w hR a hf => ?_)
            obtain ⟨hc', _⟩ | ⟨cc, hc', b42, v43, rfl, hs'⟩ := hR
            case inl => rw [hps33] at hc'; cases hc'
            obtain rfl : c34 = cc := by rw [hps33] at hc'; exact Option.some.inj hc'
            replace hs := hs.step (.k (.k .nil)) hs'
            clear hs'
            refine stq hf rfl rfl rfl (ex_move hf rfl) (fun a hf => ?_)
            refine stq hf rfl rfl rfl (ex_extract hf rfl rfl) (fun a hf => ?_)
            refine stq hf rfl rfl rfl (ex_extract hf rfl rfl) (fun a hf => ?_)
            refine stq hf rfl rfl rfl (ex_assign hf rfl) (fun a hf => ?_)
            refine stq hf rfl rfl rfl (ex_assign hf rfl) (fun a hf => ?_)
            refine hK44 _ _ ?_
            refine hN32 _ _ ?_
            refine seq_n (fun Q45 hN45 hR45 hX45 => ?_)
            refine bnd H (fun x46 H46 HO46 => ?_)
            clear H
            refine seq_cut (fun a w => Fr a 148 [(7, v13), (8, .pointer (some ⟨b14, 0, none⟩)), (9, .int .i64 s30), (10, .pointer (some ⟨b42, 0, none⟩)), (51, .bool x46)] ∧ St M w0 w [osl K_api_OperatingPoint v13 s9, bx b14 45 [.int .i64 s11.Up, .int .i64 s11.Down, .int .i64 s11.Samples], bx b42 66 [v43, .int .i64 c34.2.1, .int .i64 c34.2.2.1, .int .i64 c34.2.2.2.1, .int .i64 c34.2.2.2.2.1, .int .i64 c34.2.2.2.2.2.1, .int .i64 c34.2.2.2.2.2.2.1, .int .i64 c34.2.2.2.2.2.2.2], osl K_api_OperatingPoint v43 c34.1]) (fun Q46 hJ46 hR46 hX46 => ?_) (fun a w hJ => ?_)
            · replace H := H46
              refine itt H (fun hc47 H => ?_) (fun hc47 H => ?_)
              · -- s33.2 = 0
                refine region_k (fun K48 hK48 => ?_)
                refine stq hf rfl rfl rfl (ex_move hf rfl) (fun a hf => ?_)
                refine stq hf rfl rfl rfl (ex_neq hf rfl rfl) (fun a hf => ?_)
                refine stq hf rfl rfl rfl (ex_move hf rfl) (fun a hf => ?_)
                replace hf := hf.castB (t := 47) rfl (ndec_f hc47)
                replace hf := hf.castB (t := 48) rfl (ndec_f hc47)
                refine stq hf rfl rfl rfl (ex_move hf rfl) (fun a hf => ?_)
                refine stq hf rfl rfl rfl (ex_eqp Try.underlying47 hf rfl rfl) (fun a hf => ?_)
                refine stq hf rfl rfl rfl (ex_pickF hf rfl rfl) (fun a hf => ?_)
                refine hK48 _ _ ?_
                replace hs := hs.pick (.k (.c (.k (.k .nil))))
                replace hs := hs.pick (.k (.c (.k (.k .nil))))
                replace hs := hs.pick (.k (.k (.k (.c .nil))))
                replace hs := hs.pick (.k (.k (.k (.c .nil))))
                have e46 := some_eq H; subst e46
                exact hJ46 _ _ ⟨hf.sub ⟨rfl, rfl, rfl, rfl, rfl, trivial⟩, hs⟩
              · -- not s33.2 = 0
                refine region_k (fun K49 hK49 => ?_)
                refine stq hf rfl rfl rfl (ex_move hf rfl) (fun a hf => ?_)
                refine stq hf rfl rfl rfl (ex_neq hf rfl rfl) (fun a hf => ?_)
                refine stq hf rfl rfl rfl (ex_move hf rfl) (fun a hf => ?_)
                replace hf := hf.castB (t := 47) rfl (ndec_t hc47)
                replace hf := hf.castB (t := 48) rfl (ndec_t hc47)
                refine stepN hf rfl rfl rfl (fun a hf => ?_)
                refine stepN hf rfl rfl rfl (fun a hf => ?_)
                refine stq hf rfl rfl rfl (ex_pickT hf rfl rfl) (fun a hf => ?_)
                refine hK49 _ _ ?_
                replace hs := hs.pick (.k (.c (.k (.k .nil))))
                replace hs := hs.pick (.k (.c (.k (.k .nil))))
                replace hs := hs.pick (.k (.k (.k (.c .nil))))
                replace hs := hs.pick (.k (.k (.k (.c .nil))))
                have e46 := some_eq H; subst e46
                exact hJ46 _ _ ⟨hf.sub ⟨rfl, rfl, rfl, rfl, rfl, trivial⟩, hs⟩
            · obtain ⟨hf, hs⟩ := hJ
              replace H := HO46
              clear HO46
              refine itt H (fun hc50 H => ?_) (fun hc50 H => ?_)
              · -- x46 = true
                replace hf := hf.castB (t := 51) rfl hc50
                refine cond_T hf rfl ?_
                refine seq_reg (fun K51 hK51 => ?_)
                refine stq hf rfl rfl rfl (ex_assign hf rfl) (fun a hf => ?_)
                refine hK51 _ _ ?_
                refine wp_ret ?_
                refine hR45 _ _ ?_
                have eR := some_eq H; subst eR
                replace hs := hs.keep (.d (.d (.d (.d .nil))))
                exact ret1 Try.results8 hf rfl ⟨_, rfl, ⟨rfl, hs⟩⟩
              · -- not x46 = true
                replace hf := hf.castB (t := 51) rfl (bool_f hc50)
                refine cond_F hf rfl ?_
                refine wp_skip ?_
                refine hN45 _ _ ?_
                refine bnd H (fun s52 hs52 H => ?_)
                refine seq_reg (fun K53 hK53 => ?_)
                refine stq hf rfl rfl rfl (ex_move hf rfl) (fun a hf => ?_)
                refine stepF hf rfl rfl rfl (ex_call cf_26 hf rfl) (perf_Governor_Sample.calls k c34.1 c34.2.1 c34.2.2.1 c34.2.2.2.1 c34.2.2.2.2.1 c34.2.2.2.2.2.1 c34.2.2.2.2.2.2.1 c34.2.2.2.2.2.2.2 100 b42 v43 (hs.enter (.k (.k (.c (.k .nil))))) (Sr.own hs (.k (.k (.c (.k .nil)))) (i := 2) rfl osl_rsl (fun _ h => h.1) (Sr.nil _ _)) hs52) (fun v w hR a hf => ?_)
                obtain ⟨rfl, hs'⟩ := hR
                replace hs := hs.step (.k (.k (.c (.k .nil)))) hs'
                clear hs'
                refine stq hf rfl rfl rfl (ex_move hf rfl) (fun a hf => ?_)
                refine stq hf rfl rfl rfl (ex_extract hf rfl rfl) (fun a hf => ?_)
                refine stq hf rfl rfl rfl (ex_extract hf rfl rfl) (fun a hf => ?_)
                refine stq hf rfl rfl rfl (ex_assign hf rfl) (fun a hf => ?_)
                refine stq hf rfl rfl rfl (ex_assign hf rfl) (fun a hf => ?_)
                refine hK53 _ _ ?_
                refine seq_n (fun Q54 hN54 hR54 hX54 => ?_)
                refine bnd H (fun x55 H55 HO55 => ?_)
                clear H
                refine seq_cut (fun a w => Fr a 148 [(7, v13), (8, .pointer (some ⟨b14, 0, none⟩)), (9, .int .i64 s30), (10, .pointer (some ⟨b42, 0, none⟩)), (12, .int .i64 s52.2.2.1), (65, .bool x55)] ∧ St M w0 w [osl K_api_OperatingPoint v13 s9, bx b14 45 [.int .i64 s11.Up, .int .i64 s11.Down, .int .i64 s11.Samples], bx b42 66 [v43, .int .i64 c34.2.1, .int .i64 c34.2.2.1, .int .i64 c34.2.2.2.1, .int .i64 c34.2.2.2.2.1, .int .i64 c34.2.2.2.2.2.1, .int .i64 s52.1, .int .i64 s52.2.1], osl K_api_OperatingPoint v43 c34.1]) (fun Q55 hJ55 hR55 hX55 => ?_) (fun a w hJ => ?_)
                · replace H := H55
                  refine itt H (fun hc56 H => ?_) (fun hc56 H => ?_)
                  · -- s52.2.2.2 = 0
                    refine region_k (fun K57 hK57 => ?_)
                    refine stq hf rfl rfl rfl (ex_move hf rfl) (fun a hf => ?_)
                    refine stq hf rfl rfl rfl (ex_neq hf rfl rfl) (fun a hf => ?_)
                    refine stq hf rfl rfl rfl (ex_move hf rfl) (fun a hf => ?_)
                    replace hf := hf.castB (t := 58) rfl (ndec_f hc56)
                    replace hf := hf.castB (t := 59) rfl (ndec_f hc56)
                    refine stq hf rfl rfl rfl (ex_move hf rfl) (fun a hf => ?_)
                    refine stq hf rfl rfl rfl (ex_move hf rfl) (fun a hf => ?_)
                    refine stq hf rfl rfl rfl (ex_lenS Try.underlying22 (rsl_isSl (osl_rsl _ (hs.get (i := 1) rfl))) hf rfl) (fun a hf => ?_)
                    refine stq hf rfl rfl rfl (ex_sub hf rfl rfl) (fun a hf => ?_)
                    refine stq hf rfl rfl rfl (ex_neq hf rfl rfl) (fun a hf => ?_)
                    refine stq hf rfl rfl rfl (ex_pickF hf rfl rfl) (fun a hf => ?_)
                    refine hK57 _ _ ?_
                    replace hs := hs.pick (.k (.k (.k (.c .nil))))
                    replace hs := hs.pick (.k (.c (.k (.k .nil))))
                    replace hs := hs.pick (.k (.k (.k (.c .nil))))
                    replace hs := hs.pick (.k (.k (.k (.c .nil))))
                    have e55 := some_eq H; subst e55
                    exact hJ55 _ _ ⟨hf.sub ⟨rfl, rfl, rfl, rfl, rfl, rfl, trivial⟩, hs⟩
                  · -- not s52.2.2.2 = 0
                    refine region_k (fun K58 hK58 => ?_)
                    refine stq hf rfl rfl rfl (ex_move hf rfl) (fun a hf => ?_)
                    refine stq hf rfl rfl rfl (ex_neq hf rfl rfl) (fun a hf => ?_)
                    refine stq hf rfl rfl rfl (ex_move hf rfl) (fun a hf => ?_)
                    replace hf := hf.castB (t := 58) rfl (ndec_t hc56)
                    replace hf := hf.castB (t := 59) rfl (ndec_t hc56)
                    refine stepN hf rfl rfl rfl (fun a hf => ?_)
                    refine stepN hf rfl rfl rfl (fun a hf => ?_)
                    refine stepN hf rfl rfl rfl (fun a hf => ?_)
                    refine stepN hf rfl rfl rfl (fun a hf => ?_)
                    refine stepN hf rfl rfl rfl (fun a hf => ?_)
                    refine stq hf rfl rfl rfl (ex_pickT hf rfl rfl) (fun a hf => ?_)
                    refine hK58 _ _ ?_
                    replace hs := hs.pick (.k (.k (.k (.c .nil))))
                    replace hs := hs.pick (.k (.c (.k (.k .nil))))
                    replace hs := hs.pick (.k (.k (.k (.c .nil))))
                    replace hs := hs.pick (.k (.k (.k (.c .nil))))
                    have e55 := some_eq H; subst e55
                    exact hJ55 _ _ ⟨hf.sub ⟨rfl, rfl, rfl, rfl, rfl, rfl, trivial⟩, hs⟩
                · obtain ⟨hf, hs⟩ := hJ
                  replace H := HO55
                  clear HO55
                  refine itt H (fun hc59 H => ?_) (fun hc59 H => ?_)
                  · -- x55 = true
                    replace hf := hf.castB (t := 65) rfl hc59
                    refine cond_T hf rfl ?_
                    refine seq_reg (fun K60 hK60 => ?_)
                    refine stq hf rfl rfl rfl (ex_assign hf rfl) (fun a hf => ?_)
                    refine hK60 _ _ ?_
                    refine wp_ret ?_
                    refine hR54 _ _ ?_
                    have eR := some_eq H; subst eR
                    replace hs := hs.keep (.d (.d (.d (.d .nil))))
                    exact ret1 Try.results8 hf rfl ⟨_, rfl, ⟨rfl, hs⟩⟩
                  · -- not x55 = true
                    replace hf := hf.castB (t := 65) rfl (bool_f hc59)
                    refine cond_F hf rfl ?_
                    refine wp_skip ?_
                    refine hN54 _ _ ?_
                    refine bnd H (fun x61 H61 HO61 => ?_)
                    clear H
                    refine seq_cut (fun a w => ∃ (x61s : Int × Int), x61 = .go x61s ∧ Fr a 148 [(7, v13), (8, .pointer (some ⟨b14, 0, none⟩)), (9, .int .i64 s30), (10, .pointer (some ⟨b42, 0, none⟩)), (12, .int .i64 s52.2.2.1)] ∧ St M w0 w [osl K_api_OperatingPoint v13 s9, bx b14 45 [.int .i64 s11.Up, .int .i64 s11.Down, .int .i64 s11.Samples], bx b42 66 [v43, .int .i64 c34.2.1, .int .i64 c34.2.2.1, .int .i64 c34.2.2.2.1, .int .i64 c34.2.2.2.2.1, .int .i64 c34.2.2.2.2.2.1, .int .i64 x61s.1, .int .i64 x61s.2], osl K_api_OperatingPoint v43 c34.1]) (fun Q61 hJ61 hR61 hX61 => ?_) (fun a w hJ => ?_)
                    · replace H := H61
                      refine seq_reg (fun K62 hK62 => ?_)
                      refine stq hf rfl rfl rfl (ex_assign hf rfl) (fun a hf => ?_)
                      refine hK62 _ _ ?_
                      refine block_k (fun Q63 hN63 hR63 hX63 hY63 => ?_)
                      refine loop_k (fun n a w => ∃ (y64 : Int) (y65 : Int) (y66 : Int), Fr a 148 [(7, v13), (8, .pointer (some ⟨b14, 0, none⟩)), (9, .int .i64 s30), (10, .pointer (some ⟨b42, 0, none⟩)), (12, .int .i64 s52.2.2.1), (14, .int .i64 y66)] ∧ St M w0 w [osl K_api_OperatingPoint v13 s9, bx b14 45 [.int .i64 s11.Up, .int .i64 s11.Down, .int .i64 s11.Samples], bx b42 66 [v43, .int .i64 c34.2.1, .int .i64 c34.2.2.1, .int .i64 c34.2.2.2.1, .int .i64 c34.2.2.2.2.1, .int .i64 c34.2.2.2.2.2.1, .int .i64 y64, .int .i64 y65], osl K_api_OperatingPoint v43 c34.1] ∧ law36_PerfGovernorWaits.l1 n s11 c34 s30 s52 y64 y65 y66 = some x61) k ?_ (fun n68 a w hI Q68 hL68 hR68 hX68 => ?_)
                      · -- at the start
                        exact ⟨s52.1, s52.2.1, 1, hf.sub ⟨rfl, rfl, rfl, rfl, rfl, rfl, trivial⟩, hs, H⟩
                      · obtain ⟨y64, y65, y66, hf, hs, H⟩ := hI
                        cases n68 with
                        | zero => exact absurd H (by rw [law36_PerfGovernorWaits.l1.eq_1]; intro h; cases h)
                        | succ k68 =>
                          replace H := (law36_PerfGovernorWaits.l1.eq_2 ..).symm.trans H
                          refine seq_n (fun Q69 hN69 hR69 hX69 => ?_)
                          refine seq_reg (fun K70 hK70 => ?_)
                          refine stq hf rfl rfl rfl (ex_move hf rfl) (fun a hf => ?_)
                          refine stq hf rfl rfl rfl (ex_fieldAddrB fa_45_2 rfl hf rfl) (fun a hf => ?_)
                          refine stq hf rfl rfl rfl (ex_load sc_3 hf rfl (bx_cell (hs.get (i := 1) rfl) _ rfl)) (fun a hf => ?_)
                          refine stq hf rfl rfl rfl (ex_lss hf rfl rfl) (fun a hf => ?_)
                          refine hK70 _ _ ?_
                          refine itt H (fun hc71 H => ?_) (fun hc71 H => ?_)
                          · -- y66 < s11.Samples
                            replace hf := hf.castB (t := 69) rfl (dec_t hc71)
                            refine cond_T hf rfl ?_
                            refine wp_skip ?_
                            refine hN69 _ _ ?_
                            refine seq_n (fun Q72 hN72 hR72 hX72 => ?_)
                            refine block_k (fun Q73 hN73 hR73 hX73 hY73 => ?_)
                            refine bnd H (fun s74 hs74 H => ?_)
                            refine seq_reg (fun K75 hK75 => ?_)
                            refine stq hf rfl rfl rfl (ex_move hf rfl) (fun a hf => ?_)
                            refine stq hf rfl rfl rfl (ex_move hf rfl) (fun a hf => ?_)
                            refine stepF hf rfl rfl rfl (ex_call cf_26 hf rfl) (perf_Governor_Sample.calls k68 c34.1 c34.2.1 c34.2.2.1 c34.2.2.2.1 c34.2.2.2.2.1 c34.2.2.2.2.2.1 y64 y65 s30 b42 v43 (hs.enter (.k (.k (.c (.k .nil))))) (Sr.own hs (.k (.k (.c (.k .nil)))) (i := 2) rfl osl_rsl (fun _ h => h.1) (Sr.nil _ _)) hs74) (fun v w hR a hf => ?_)
                            obtain ⟨rfl, hs'⟩ := hR
                            replace hs := hs.step (.k (.k (.c (.k .nil)))) hs'
                            clear hs'
                            refine stq hf rfl rfl rfl (ex_move hf rfl) (fun a hf => ?_)
                            refine stq hf rfl rfl rfl (ex_extract hf rfl rfl) (fun a hf => ?_)
                            refine stq hf rfl rfl rfl (ex_extract hf rfl rfl) (fun a hf => ?_)
                            refine stq hf rfl rfl rfl (ex_assign hf rfl) (fun a hf => ?_)
                            refine stq hf rfl rfl rfl (ex_assign hf rfl) (fun a hf => ?_)
                            refine hK75 _ _ ?_
                            refine bnd H (fun x76 H76 HO76 => ?_)
                            clear H
                            refine seq_cut (fun a w => Fr a 148 [(7, v13), (8, .pointer (some ⟨b14, 0, none⟩)), (9, .int .i64 s30), (10, .pointer (some ⟨b42, 0, none⟩)), (12, .int .i64 s52.2.2.1), (14, .int .i64 y66), (84, .bool x76)] ∧ St M w0 w [osl K_api_OperatingPoint v13 s9, bx b14 45 [.int .i64 s11.Up, .int .i64 s11.Down, .int .i64 s11.Samples], bx b42 66 [v43, .int .i64 c34.2.1, .int .i64 c34.2.2.1, .int .i64 c34.2.2.2.1, .int .i64 c34.2.2.2.2.1, .int .i64 c34.2.2.2.2.2.1, .int .i64 s74.1, .int .i64 s74.2.1], osl K_api_OperatingPoint v43 c34.1]) (fun Q76 hJ76 hR76 hX76 => ?_) (fun a w hJ => ?_)
                            · replace H := H76
                              refine itt H (fun hc77 H => ?_) (fun hc77 H => ?_)
                              · -- s74.2.2.2 = 0
                                refine region_k (fun K78 hK78 => ?_)
                                refine stq hf rfl rfl rfl (ex_move hf rfl) (fun a hf => ?_)
                                refine stq hf rfl rfl rfl (ex_neq hf rfl rfl) (fun a hf => ?_)
                                refine stq hf rfl rfl rfl (ex_move hf rfl) (fun a hf => ?_)
                                replace hf := hf.castB (t := 79) rfl (ndec_f hc77)
                                replace hf := hf.castB (t := 80) rfl (ndec_f hc77)
                                refine stq hf rfl rfl rfl (ex_move hf rfl) (fun a hf => ?_)
                                refine stq hf rfl rfl rfl (ex_move hf rfl) (fun a hf => ?_)
                                refine stq hf rfl rfl rfl (ex_neq hf rfl rfl) (fun a hf => ?_)
                                refine stq hf rfl rfl rfl (ex_pickF hf rfl rfl) (fun a hf => ?_)
                                refine hK78 _ _ ?_
                                replace hs := hs.pick (.k (.k (.k (.c .nil))))
                                replace hs := hs.pick (.k (.c (.k (.k .nil))))
                                replace hs := hs.pick (.k (.k (.k (.c .nil))))
                                replace hs := hs.pick (.k (.k (.k (.c .nil))))
                                have e76 := some_eq H; subst e76
                                exact hJ76 _ _ ⟨hf.sub ⟨rfl, rfl, rfl, rfl, rfl, rfl, rfl, trivial⟩, hs⟩
                              · -- not s74.2.2.2 = 0
                                refine region_k (fun K79 hK79 => ?_)
                                refine stq hf rfl rfl rfl (ex_move hf rfl) (fun a hf => ?_)
                                refine stq hf rfl rfl rfl (ex_neq hf rfl rfl) (fun a hf => ?_)
                                refine stq hf rfl rfl rfl (ex_move hf rfl) (fun a hf => ?_)
                                replace hf := hf.castB (t := 79) rfl (ndec_t hc77)
                                replace hf := hf.castB (t := 80) rfl (ndec_t hc77)
                                refine stepN hf rfl rfl rfl (fun a hf => ?_)
                                refine stepN hf rfl rfl rfl (fun a hf => ?_)
                                refine stepN hf rfl rfl rfl (fun a hf => ?_)
                                refine stq hf rfl rfl rfl (ex_pickT hf rfl rfl) (fun a hf => ?_)
                                refine hK79 _ _ ?_
                                replace hs := hs.pick (.k (.k (.k (.c .nil))))
                                replace hs := hs.pick (.k (.c (.k (.k .nil))))
                                replace hs := hs.pick (.k (.k (.k (.c .nil))))
                                replace hs := hs.pick (.k (.k (.k (.c .nil))))
                                have e76 := some_eq H; subst e76
                                exact hJ76 _ _ ⟨hf.sub ⟨rfl, rfl, rfl, rfl, rfl, rfl, rfl, trivial⟩, hs⟩
                            · obtain ⟨hf, hs⟩ := hJ
                              replace H := HO76
                              clear HO76
                              refine itt H (fun hc80 H => ?_) (fun hc80 H => ?_)
                              · -- x76 = true
                                replace hf := hf.castB (t := 84) rfl hc80
                                refine cond_T hf rfl ?_
                                refine seq_reg (fun K81 hK81 => ?_)
                                refine stq hf rfl rfl rfl (ex_assign hf rfl) (fun a hf => ?_)
                                refine hK81 _ _ ?_
                                refine wp_ret ?_
                                refine hR73 _ _ ?_
                                refine hR72 _ _ ?_
                                refine hR68 _ _ ?_
                                refine hR63 _ _ ?_
                                have e61 := some_eq H; subst e61; replace H := el_rt HO61
                                refine hR61 _ _ ?_
                                have eR := some_eq H; subst eR
                                replace hs := hs.keep (.d (.d (.d (.d .nil))))
                                exact ret1 Try.results8 hf rfl ⟨_, rfl, ⟨rfl, hs⟩⟩
                              · -- not x76 = true
                                replace hf := hf.castB (t := 84) rfl (bool_f hc80)
                                refine cond_F hf rfl ?_
                                refine wp_skip ?_
                                refine hN73 _ _ ?_
                                refine hN72 _ _ ?_
                                refine region_k (fun K82 hK82 => ?_)
                                refine stq hf rfl rfl rfl (ex_move hf rfl) (fun a hf => ?_)
                                refine stq hf rfl rfl rfl (ex_add hf rfl rfl) (fun a hf => ?_)
                                refine stq hf rfl rfl rfl (ex_assign hf rfl) (fun a hf => ?_)
                                refine hK82 _ _ ?_
                                exact hL68 k68 _ _ (Nat.lt_succ_self _) ⟨s74.1, s74.2.1, (IntKind.i64.wrap (y66 + 1)), hf.sub ⟨rfl, rfl, rfl, rfl, rfl, rfl, trivial⟩, hs, H⟩
                          · -- not y66 < s11.Samples
                            replace hf := hf.castB (t := 69) rfl (dec_f hc71)
                            refine cond_F hf rfl ?_
                            refine wp_exit ?_
                            refine hX69 0 _ _ ?_
                            refine hX68 0 _ _ ?_
                            refine hX63 _ _ ?_
                            have e61 := some_eq H; subst e61
                            exact hJ61 _ _ ⟨_, rfl, hf.sub ⟨rfl, rfl, rfl, rfl, rfl, trivial⟩, hs⟩
                    · obtain ⟨x61s, rfl, hf, hs⟩ := hJ
                      replace H := el_go HO61
                      clear HO61
                      refine bnd H (fun s83 hs83 H => ?_)
                      refine seq_reg (fun K84 hK84 => ?_)
                      refine stq hf rfl rfl rfl (ex_move hf rfl) (fun a hf => ?_)
                      refine stq hf rfl rfl rfl (ex_move hf rfl) (fun a hf => ?_)
                      refine stepF hf rfl rfl rfl (ex_call cf_26 hf rfl) (perf_Governor_Sample.calls k c34.1 c34.2.1 c34.2.2.1 c34.2.2.2.1 c34.2.2.2.2.1 c34.2.2.2.2.2.1 x61s.1 x61s.2 s30 b42 v43 (hs.enter (.k (.k (.c (.k .nil))))) (Sr.own hs (.k (.k (.c (.k .nil)))) (i := 2) rfl osl_rsl (fun _ h => h.1) (Sr.nil _ _)) hs83) (fun v w hR a hf => ?_)
                      obtain ⟨rfl, hs'⟩ := hR
                      replace hs := hs.step (.k (.k (.c (.k .nil)))) hs'
                      clear hs'
                      refine stq hf rfl rfl rfl (ex_move hf rfl) (fun a hf => ?_)
                      refine stq hf rfl rfl rfl (ex_extract hf rfl rfl) (fun a hf => ?_)
                      refine stq hf rfl rfl rfl (ex_extract hf rfl rfl) (fun a hf => ?_)
                      refine stq hf rfl rfl rfl (ex_assign hf rfl) (fun a hf => ?_)
                      refine stq hf rfl rfl rfl (ex_assign hf rfl) (fun a hf => ?_)
                      refine hK84 _ _ ?_
                      refine seq_n (fun Q85 hN85 hR85 hX85 => ?_)
                      refine bnd H (fun x86 H86 HO86 => ?_)
                      clear H
                      refine seq_cut (fun a w => Fr a 148 [(7, v13), (8, .pointer (some ⟨b14, 0, none⟩)), (9, .int .i64 s30), (12, .int .i64 s52.2.2.1), (17, .int .i64 s83.2.2.1), (121, .bool x86)] ∧ St M w0 w [osl K_api_OperatingPoint v13 s9, bx b14 45 [.int .i64 s11.Up, .int .i64 s11.Down, .int .i64 s11.Samples]]) (fun Q86 hJ86 hR86 hX86 => ?_) (fun a w hJ => ?_)
                      · replace H := H86
                        refine itt H (fun hc87 H => ?_) (fun hc87 H => ?_)
                        · -- s83.2.2.2 = 0
                          refine itt H (fun hc88 H => ?_) (fun hc88 H => ?_)
                          · -- s83.2.2.1 < 0
                            refine region_d fol 31 [(7, v13), (8, .pointer (some ⟨b14, 0, none⟩)), (9, .int .i64 s30), (12, .int .i64 s52.2.2.1), (17, .int .i64 s83.2.2.1), (18, .int .i64 s83.2.2.2)] [(0, .int .i64 s83.2.2.2), (1, .bool false), (2, .bool false), (3, .int .i64 s83.2.2.1), (4, .bool true), (5, .bool true), (6, .bool true), (7, undef), (8, undef), (9, undef), (10, .bool true), (11, .bool true), (12, undef), (13, undef), (14, undef), (15, undef), (16, undef), (17, undef), (18, undef), (19, undef), (20, undef), (21, undef), (22, undef), (23, undef), (24, undef), (25, undef), (26, undef), (27, undef), (28, undef), (29, undef), (30, .bool true)] [] (fun w => True) (fun w => St M w0 w [bx b42 66 [v43, .int .i64 c34.2.1, .int .i64 c34.2.2.1, .int .i64 c34.2.2.2.1, .int .i64 c34.2.2.2.2.1, .int .i64 c34.2.2.2.2.2.1, .int .i64 s83.1, .int .i64 s83.2.1], osl K_api_OperatingPoint v13 s9, bx b14 45 [.int .i64 s11.Up, .int .i64 s11.Down, .int .i64 s11.Samples], osl K_api_OperatingPoint v43 c34.1]) hf ⟨rfl, rfl, rfl, rfl, rfl, rfl, trivial⟩ (by kernel_rfl) (by kernel_rfl) rfl (by decide) trivial hs.drew (.cons (⟨_, _, rfl, rfl, rfl, rfl, fun a w hR hf => .inl ⟨wanted_yes hf rfl, ex_move hf rfl⟩⟩) (.cons (⟨_, _, rfl, rfl, rfl, rfl, fun a w hR hf => .inl ⟨wanted_yes hf rfl, ex_castB (ex_neq hf rfl rfl) (ndec_f hc87)⟩⟩) (.cons (⟨_, _, rfl, rfl, rfl, rfl, fun a w hR hf => .inl ⟨wanted_yes hf rfl, ex_move hf rfl⟩⟩) (.cons (⟨_, _, rfl, rfl, rfl, rfl, fun a w hR hf => .inl ⟨wanted_yes hf rfl, ex_move hf rfl⟩⟩) (.cons (⟨_, _, rfl, rfl, rfl, rfl, fun a w hR hf => .inl ⟨wanted_yes hf rfl, ex_castB (ex_lss hf rfl rfl) (dec_t hc88)⟩⟩) (.cons (⟨_, _, rfl, rfl, rfl, rfl, fun a w hR hf => .inl ⟨wanted_yes hf rfl, ex_pickF hf rfl rfl⟩⟩) (.cons (⟨_, _, rfl, rfl, rfl, rfl, fun a w hR hf => .inl ⟨wanted_yes hf rfl, ex_move hf rfl⟩⟩) (.cons (⟨_, _, rfl, rfl, rfl, rfl, fun a w hR hf => .inr ⟨wanted_no hf rfl, rfl⟩⟩) (.cons (⟨_, _, rfl, rfl, rfl, rfl, fun a w hR hf => .inr ⟨wanted_no hf rfl, rfl⟩⟩) (.cons (⟨_, _, rfl, rfl, rfl, rfl, fun a w hR hf => .inr ⟨wanted_no hf rfl, rfl⟩⟩) (.cons (⟨_, _, rfl, rfl, rfl, rfl, fun a w hR hf => .inl ⟨wanted_yes hf rfl, ex_pickT hf rfl rfl⟩⟩) (.cons (⟨_, _, rfl, rfl, rfl, rfl, fun a w hR hf => .inl ⟨wanted_yes hf rfl, ex_move hf rfl⟩⟩) (.cons (⟨_, _, rfl, rfl, rfl, rfl, fun a w hR hf => .inr ⟨wanted_no hf rfl, rfl⟩⟩) (.cons (⟨_, _, rfl, rfl, rfl, rfl, fun a w hR hf => .inr ⟨wanted_no hf rfl, rfl⟩⟩) (.cons (⟨_, _, rfl, rfl, rfl, rfl, fun a w hR hf => .inr ⟨wanted_no hf rfl, rfl⟩⟩) (.cons (⟨_, _, rfl, rfl, rfl, rfl, fun a w hR hf => .inr ⟨wanted_no hf rfl, rfl⟩⟩) (.cons (⟨_, _, rfl, rfl, rfl, rfl, fun a w hR hf => .inr ⟨wanted_no hf rfl, rfl⟩⟩) (.cons (⟨_, _, rfl, rfl, rfl, rfl, fun a w hR hf => .inr ⟨wanted_no hf rfl, rfl⟩⟩) (.cons (⟨_, _, rfl, rfl, rfl, rfl, fun a w hR hf => .inr ⟨wanted_no hf rfl, rfl⟩⟩) (.cons (⟨_, _, rfl, rfl, rfl, rfl, fun a w hR hf => .inr ⟨wanted_no hf rfl, rfl⟩⟩) (.cons (⟨_, _, rfl, rfl, rfl, rfl, fun a w hR hf => .inr ⟨wanted_no hf rfl, rfl⟩⟩) (.cons (⟨_, _, rfl, rfl, rfl, rfl, fun a w hR hf => .inr ⟨wanted_no hf rfl, rfl⟩⟩) (.cons (⟨_, _, rfl, rfl, rfl, rfl, fun a w hR hf => .inr ⟨wanted_no hf rfl, rfl⟩⟩) (.cons (⟨_, _, rfl, rfl, rfl, rfl, fun a w hR hf => .inr ⟨wanted_no hf rfl, rfl⟩⟩) (.cons (⟨_, _, rfl, rfl, rfl, rfl, fun a w hR hf => .inr ⟨wanted_no hf rfl, rfl⟩⟩) (.cons (⟨_, _, rfl, rfl, rfl, rfl, fun a w hR hf => .inr ⟨wanted_no hf rfl, rfl⟩⟩) (.cons (⟨_, _, rfl, rfl, rfl, rfl, fun a w hR hf => .inr ⟨wanted_no hf rfl, rfl⟩⟩) (.cons (⟨_, _, rfl, rfl, rfl, rfl, fun a w hR hf => .inr ⟨wanted_no hf rfl, rfl⟩⟩) (.cons (⟨_, _, rfl, rfl, rfl, rfl, fun a w hR hf => .inr ⟨wanted_no hf rfl, rfl⟩⟩) (.cons (⟨_, _, rfl, rfl, rfl, rfl, fun a w hR hf => .inr ⟨wanted_no hf rfl, rfl⟩⟩) (.cons (⟨_, _, rfl, rfl, rfl, rfl, fun a w hR hf => .inl ⟨wanted_yes hf rfl, ex_pickT hf rfl rfl⟩⟩) (.nil)))))))))))))))))))))))))))))))) (fun K89 hK89 => ?_)
                            refine RW.zero (by kernel_rfl) (by kernel_rfl) [(7, v13), (8, .pointer (some ⟨b14, 0, none⟩)), (9, .int .i64 s30), (12, .int .i64 s52.2.2.1), (17, .int .i64 s83.2.2.1), (121, .bool true)] ⟨rfl, rfl, rfl, rfl, rfl, rfl, trivial⟩ (fun a w hR hs hf => ?_)
                            refine hK89 _ _ ?_
                            replace hs := hs.keep (.d (.k (.k (.d .nil))))
                            have e86 := some_eq H; subst e86
                            exact hJ86 _ _ ⟨hf.sub ⟨rfl, rfl, rfl, rfl, rfl, rfl, trivial⟩, hs⟩
                          · -- not s83.2.2.1 < 0
                            refine itt H (fun hc90 H => ?_) (fun hc90 H => ?_)
                            · -- s52.2.2.1 < s83.2.2.1
                              refine region_d fol 31 [(7, v13), (8, .pointer (some ⟨b14, 0, none⟩)), (9, .int .i64 s30), (12, .int .i64 s52.2.2.1), (17, .int .i64 s83.2.2.1), (18, .int .i64 s83.2.2.2)] [(0, .int .i64 s83.2.2.2), (1, .bool false), (2, .bool false), (3, .int .i64 s83.2.2.1), (4, .bool false), (5, .bool false), (6, .bool false), (7, .int .i64 s83.2.2.1), (8, .int .i64 s52.2.2.1), (9, .bool true), (10, .bool true), (11, .bool true), (12, undef), (13, undef), (14, undef), (15, undef), (16, undef), (17, undef), (18, undef), (19, undef), (20, undef), (21, undef), (22, undef), (23, undef), (24, undef), (25, undef), (26, undef), (27, undef), (28, undef), (29, undef), (30, .bool true)] [] (fun w => True) (fun w => St M w0 w [bx b42 66 [v43, .int .i64 c34.2.1, .int .i64 c34.2.2.1, .int .i64 c34.2.2.2.1, .int .i64 c34.2.2.2.2.1, .int .i64 c34.2.2.2.2.2.1, .int .i64 s83.1, .int .i64 s83.2.1], osl K_api_OperatingPoint v13 s9, bx b14 45 [.int .i64 s11.Up, .int .i64 s11.Down, .int .i64 s11.Samples], osl K_api_OperatingPoint v43 c34.1]) hf ⟨rfl, rfl, rfl, rfl, rfl, rfl, trivial⟩ (by kernel_rfl) (by kernel_rfl) rfl (by decide) trivial hs.drew (.cons (⟨_, _, rfl, rfl, rfl, rfl, fun a w hR hf => .inl ⟨wanted_yes hf rfl, ex_move hf rfl⟩⟩) (.cons (⟨_, _, rfl, rfl, rfl, rfl, fun a w hR hf => .inl ⟨wanted_yes hf rfl, ex_castB (ex_neq hf rfl rfl) (ndec_f hc87)⟩⟩) (.cons (⟨_, _, rfl, rfl, rfl, rfl, fun a w hR hf => .inl ⟨wanted_yes hf rfl, ex_move hf rfl⟩⟩) (.cons (⟨_, _, rfl, rfl, rfl, rfl, fun a w hR hf => .inl ⟨wanted_yes hf rfl, ex_move hf rfl⟩⟩) (.cons (⟨_, _, rfl, rfl, rfl, rfl, fun a w hR hf => .inl ⟨wanted_yes hf rfl, ex_castB (ex_lss hf rfl rfl) (dec_f hc88)⟩⟩) (.cons (⟨_, _, rfl, rfl, rfl, rfl, fun a w hR hf => .inl ⟨wanted_yes hf rfl, ex_pickF hf rfl rfl⟩⟩) (.cons (⟨_, _, rfl, rfl, rfl, rfl, fun a w hR hf => .inl ⟨wanted_yes hf rfl, ex_move hf rfl⟩⟩) (.cons (⟨_, _, rfl, rfl, rfl, rfl, fun a w hR hf => .inl ⟨wanted_yes hf rfl, ex_move hf rfl⟩⟩) (.cons (⟨_, _, rfl, rfl, rfl, rfl, fun a w hR hf => .inl ⟨wanted_yes hf rfl, ex_move hf rfl⟩⟩) (.cons (⟨_, _, rfl, rfl, rfl, rfl, fun a w hR hf => .inl ⟨wanted_yes hf rfl, ex_castB (ex_gtr hf rfl rfl) (dec_t hc90)⟩⟩) (.cons (⟨_, _, rfl, rfl, rfl, rfl, fun a w hR hf => .inl ⟨wanted_yes hf rfl, ex_pickF hf rfl rfl⟩⟩) (.cons (⟨_, _, rfl, rfl, rfl, rfl, fun a w hR hf => .inl ⟨wanted_yes hf rfl, ex_move hf rfl⟩⟩) (.cons (⟨_, _, rfl, rfl, rfl, rfl, fun a w hR hf => .inr ⟨wanted_no hf rfl, rfl⟩⟩) (.cons (⟨_, _, rfl, rfl, rfl, rfl, fun a w hR hf => .inr ⟨wanted_no hf rfl, rfl⟩⟩) (.cons (⟨_, _, rfl, rfl, rfl, rfl, fun a w hR hf => .inr ⟨wanted_no hf rfl, rfl⟩⟩) (.cons (⟨_, _, rfl, rfl, rfl, rfl, fun a w hR hf => .inr ⟨wanted_no hf rfl, rfl⟩⟩) (.cons (⟨_, _, rfl, rfl, rfl, rfl, fun a w hR hf => .inr ⟨wanted_no hf rfl, rfl⟩⟩) (.cons (⟨_, _, rfl, rfl, rfl, rfl, fun a w hR hf => .inr ⟨wanted_no hf rfl, rfl⟩⟩) (.cons (⟨_, _, rfl, rfl, rfl, rfl, fun a w hR hf => .inr ⟨wanted_no hf rfl, rfl⟩⟩) (.cons (⟨_, _, rfl, rfl, rfl, rfl, fun a w hR hf => .inr ⟨wanted_no hf rfl, rfl⟩⟩) (.cons (⟨_, _, rfl, rfl, rfl, rfl, fun a w hR hf => .inr ⟨wanted_no hf rfl, rfl⟩⟩) (.cons (⟨_, _, rfl, rfl, rfl, rfl, fun a w hR hf => .inr ⟨wanted_no hf rfl, rfl⟩⟩) (.cons (⟨_, _, rfl, rfl, rfl, rfl, fun a w hR hf => .inr ⟨wanted_no hf rfl, rfl⟩⟩) (.cons (⟨_, _, rfl, rfl, rfl, rfl, fun a w hR hf => .inr ⟨wanted_no hf rfl, rfl⟩⟩) (.cons (⟨_, _, rfl, rfl, rfl, rfl, fun a w hR hf => .inr ⟨wanted_no hf rfl, rfl⟩⟩) (.cons (⟨_, _, rfl, rfl, rfl, rfl, fun a w hR hf => .inr ⟨wanted_no hf rfl, rfl⟩⟩) (.cons (⟨_, _, rfl, rfl, rfl, rfl, fun a w hR hf => .inr ⟨wanted_no hf rfl, rfl⟩⟩) (.cons (⟨_, _, rfl, rfl, rfl, rfl, fun a w hR hf => .inr ⟨wanted_no hf rfl, rfl⟩⟩) (.cons (⟨_, _, rfl, rfl, rfl, rfl, fun a w hR hf => .inr ⟨wanted_no hf rfl, rfl⟩⟩) (.cons (⟨_, _, rfl, rfl, rfl, rfl, fun a w hR hf => .inr ⟨wanted_no hf rfl, rfl⟩⟩) (.cons (⟨_, _, rfl, rfl, rfl, rfl, fun a w hR hf => .inl ⟨wanted_yes hf rfl, ex_pickT hf rfl rfl⟩⟩) (.nil)))))))))))))))))))))))))))))))) (fun K91 hK91 => ?_)
                              refine RW.zero (by kernel_rfl) (by kernel_rfl) [(7, v13), (8, .pointer (some ⟨b14, 0, none⟩)), (9, .int .i64 s30), (12, .int .i64 s52.2.2.1), (17, .int .i64 s83.2.2.1), (121, .bool true)] ⟨rfl, rfl, rfl, rfl, rfl, rfl, trivial⟩ (fun a w hR hs hf => ?_)
                              refine hK91 _ _ ?_
                              replace hs := hs.keep (.d (.k (.k (.d .nil))))
                              have e86 := some_eq H; subst e86
                              exact hJ86 _ _ ⟨hf.sub ⟨rfl, rfl, rfl, rfl, rfl, rfl, trivial⟩, hs⟩
                            · -- not s52.2.2.1 < s83.2.2.1
                              refine ck_some H (fun hc92 H => ?_)
                              refine ck_some H (fun hc93 H => ?_)
                              refine region_d fol 31 [(7, v13), (8, .pointer (some ⟨b14, 0, none⟩)), (9, .int .i64 s30), (12, .int .i64 s52.2.2.1), (17, .int .i64 s83.2.2.1), (18, .int .i64 s83.2.2.2)] [(0, .int .i64 s83.2.2.2), (1, .bool false), (2, .bool false), (3, .int .i64 s83.2.2.1), (4, .bool false), (5, .bool false), (6, .bool false), (7, .int .i64 s83.2.2.1), (8, .int .i64 s52.2.2.1), (9, .bool false), (10, .bool false), (11, .bool false), (12, .int .i64 s30), (13, .int .u64 (IntKind.u64.wrap s30)), (14, v13), (15, .int .i64 s52.2.2.1), (16, .pointer (some (sla v13 (s52.2.2.1.toNat * 3)))), (17, .pointer (some (sla v13 (s52.2.2.1.toNat * 3 + 0)))), (18, .int .u64 ((gd OperatingPoint.zero s9 s52.2.2.1).Frequency)), (19, .int .u64 (IntKind.u64.wrap ((IntKind.u64.wrap s30) * ((gd OperatingPoint.zero s9 s52.2.2.1).Frequency)))), (20, .pointer (some ⟨b14, 0, none⟩)), (21, .int .i64 s11.Up), (22, .int .u64 (IntKind.u64.wrap s11.Up)), (23, v13), (24, .int .i64 s83.2.2.1), (25, .pointer (some (sla v13 (s83.2.2.1.toNat * 3)))), (26, .pointer (some (sla v13 (s83.2.2.1.toNat * 3 + 0)))), (27, .int .u64 ((gd OperatingPoint.zero s9 s83.2.2.1).Frequency)), (28, .int .u64 (IntKind.u64.wrap ((IntKind.u64.wrap s11.Up) * ((gd OperatingPoint.zero s9 s83.2.2.1).Frequency)))), (29, .bool (decide ((IntKind.u64.wrap ((IntKind.u64.wrap s11.Up) * ((gd OperatingPoint.zero s9 s83.2.2.1).Frequency))) < (IntKind.u64.wrap ((IntKind.u64.wrap s30) * ((gd OperatingPoint.zero s9 s52.2.2.1).Frequency)))))), (30, .bool (decide ((IntKind.u64.wrap ((IntKind.u64.wrap s11.Up) * ((gd OperatingPoint.zero s9 s83.2.2.1).Frequency))) < (IntKind.u64.wrap ((IntKind.u64.wrap s30) * ((gd OperatingPoint.zero s9 s52.2.2.1).Frequency))))))] [] (fun w => (osl K_api_OperatingPoint v13 s9).ok w ∧ (bx b14 45 [.int .i64 s11.Up, .int .i64 s11.Down, .int .i64 s11.Samples]).ok w ∧ True) (fun w => St M w0 w [bx b42 66 [v43, .int .i64 c34.2.1, .int .i64 c34.2.2.1, .int .i64 c34.2.2.2.1, .int .i64 c34.2.2.2.2.1, .int .i64 c34.2.2.2.2.2.1, .int .i64 s83.1, .int .i64 s83.2.1], osl K_api_OperatingPoint v13 s9, bx b14 45 [.int .i64 s11.Up, .int .i64 s11.Down, .int .i64 s11.Samples], osl K_api_OperatingPoint v43 c34.1]) hf ⟨rfl, rfl, rfl, rfl, rfl, rfl, trivial⟩ (by kernel_rfl) (by kernel_rfl) rfl (by decide) ⟨hs.drew.get (i := 1) rfl, hs.drew.get (i := 2) rfl, trivial⟩ hs.drew (.cons (⟨_, _, rfl, rfl, rfl, rfl, fun a w hR hf => .inl ⟨wanted_yes hf rfl, ex_move hf rfl⟩⟩) (.cons (⟨_, _, rfl, rfl, rfl, rfl, fun a w hR hf => .inl ⟨wanted_yes hf rfl, ex_castB (ex_neq hf rfl rfl) (ndec_f hc87)⟩⟩) (.cons (⟨_, _, rfl, rfl, rfl, rfl, fun a w hR hf => .inl ⟨wanted_yes hf rfl, ex_move hf rfl⟩⟩) (.cons (⟨_, _, rfl, rfl, rfl, rfl, fun a w hR hf => .inl ⟨wanted_yes hf rfl, ex_move hf rfl⟩⟩) (.cons (⟨_, _, rfl, rfl, rfl, rfl, fun a w hR hf => .inl ⟨wanted_yes hf rfl, ex_castB (ex_lss hf rfl rfl) (dec_f hc88)⟩⟩) (.cons (⟨_, _, rfl, rfl, rfl, rfl, fun a w hR hf => .inl ⟨wanted_yes hf rfl, ex_pickF hf rfl rfl⟩⟩) (.cons (⟨_, _, rfl, rfl, rfl, rfl, fun a w hR hf => .inl ⟨wanted_yes hf rfl, ex_move hf rfl⟩⟩) (.cons (⟨_, _, rfl, rfl, rfl, rfl, fun a w hR hf => .inl ⟨wanted_yes hf rfl, ex_move hf rfl⟩⟩) (.cons (⟨_, _, rfl, rfl, rfl, rfl, fun a w hR hf => .inl ⟨wanted_yes hf rfl, ex_move hf rfl⟩⟩) (.cons (⟨_, _, rfl, rfl, rfl, rfl, fun a w hR hf => .inl ⟨wanted_yes hf rfl, ex_castB (ex_gtr hf rfl rfl) (dec_f hc90)⟩⟩) (.cons (⟨_, _, rfl, rfl, rfl, rfl, fun a w hR hf => .inl ⟨wanted_yes hf rfl, ex_pickF hf rfl rfl⟩⟩) (.cons (⟨_, _, rfl, rfl, rfl, rfl, fun a w hR hf => .inl ⟨wanted_yes hf rfl, ex_move hf rfl⟩⟩) (.cons (⟨_, _, rfl, rfl, rfl, rfl, fun a w hR hf => .inl ⟨wanted_yes hf rfl, ex_move hf rfl⟩⟩) (.cons (⟨_, _, rfl, rfl, rfl, rfl, fun a w hR hf => .inl ⟨wanted_yes hf rfl, ex_conv Try.underlying3 Try.underlying23 hf rfl⟩⟩) (.cons (⟨_, _, rfl, rfl, rfl, rfl, fun a w hR hf => .inl ⟨wanted_yes hf rfl, ex_move hf rfl⟩⟩) (.cons (⟨_, _, rfl, rfl, rfl, rfl, fun a w hR hf => .inl ⟨wanted_yes hf rfl, ex_move hf rfl⟩⟩) (.cons (⟨_, _, rfl, rfl, rfl, rfl, fun a w hR hf => .inl ⟨wanted_yes hf rfl, ex_indexAddr sa_22 (rsl_isSl (osl_rsl _ hR.1)) hc92.1 hc92.2 hf rfl rfl⟩⟩) (.cons (⟨_, _, rfl, rfl, rfl, rfl, fun a w hR hf => .inl ⟨wanted_yes hf rfl, ex_fieldAddrS fa_25_0 rfl hf rfl⟩⟩) (.cons (⟨_, _, rfl, rfl, rfl, rfl, fun a w hR hf => .inl ⟨wanted_yes hf rfl, ex_load sc_23 hf rfl (el_cell (K := K_api_OperatingPoint) (f := 0) (rsl_rd (osl_rsl _ hR.1)) hc92.1 hc92.2 rfl)⟩⟩) (.cons (⟨_, _, rfl, rfl, rfl, rfl, fun a w hR hf => .inl ⟨wanted_yes hf rfl, ex_mul hf rfl rfl⟩⟩) (.cons (⟨_, _, rfl, rfl, rfl, rfl, fun a w hR hf => .inl ⟨wanted_yes hf rfl, ex_fieldAddrB fa_45_0 rfl hf rfl⟩⟩) (.cons (⟨_, _, rfl, rfl, rfl, rfl, fun a w hR hf => .inl ⟨wanted_yes hf rfl, ex_load sc_3 hf rfl (bx_cell (hR.2.1) _ rfl)⟩⟩) (.cons (⟨_, _, rfl, rfl, rfl, rfl, fun a w hR hf => .inl ⟨wanted_yes hf rfl, ex_conv Try.underlying3 Try.underlying23 hf rfl⟩⟩) (.cons (⟨_, _, rfl, rfl, rfl, rfl, fun a w hR hf => .inl ⟨wanted_yes hf rfl, ex_move hf rfl⟩⟩) (.cons (⟨_, _, rfl, rfl, rfl, rfl, fun a w hR hf => .inl ⟨wanted_yes hf rfl, ex_move hf rfl⟩⟩) (.cons (⟨_, _, rfl, rfl, rfl, rfl, fun a w hR hf => .inl ⟨wanted_yes hf rfl, ex_indexAddr sa_22 (rsl_isSl (osl_rsl _ hR.1)) hc93.1 hc93.2 hf rfl rfl⟩⟩) (.cons (⟨_, _, rfl, rfl, rfl, rfl, fun a w hR hf => .inl ⟨wanted_yes hf rfl, ex_fieldAddrS fa_25_0 rfl hf rfl⟩⟩) (.cons (⟨_, _, rfl, rfl, rfl, rfl, fun a w hR hf => .inl ⟨wanted_yes hf rfl, ex_load sc_23 hf rfl (el_cell (K := K_api_OperatingPoint) (f := 0) (rsl_rd (osl_rsl _ hR.1)) hc93.1 hc93.2 rfl)⟩⟩) (.cons (⟨_, _, rfl, rfl, rfl, rfl, fun a w hR hf => .inl ⟨wanted_yes hf rfl, ex_mul hf rfl rfl⟩⟩) (.cons (⟨_, _, rfl, rfl, rfl, rfl, fun a w hR hf => .inl ⟨wanted_yes hf rfl, ex_gtr hf rfl rfl⟩⟩) (.cons (⟨_, _, rfl, rfl, rfl, rfl, fun a w hR hf => .inl ⟨wanted_yes hf rfl, ex_pickF hf rfl rfl⟩⟩) (.nil)))))))))))))))))))))))))))))))) (fun K94 hK94 => ?_)
                              refine RW.zero (by kernel_rfl) (by kernel_rfl) [(7, v13), (8, .pointer (some ⟨b14, 0, none⟩)), (9, .int .i64 s30), (12, .int .i64 s52.2.2.1), (17, .int .i64 s83.2.2.1), (121, .bool (decide ((IntKind.u64.wrap ((IntKind.u64.wrap s11.Up) * ((gd OperatingPoint.zero s9 s83.2.2.1).Frequency))) < (IntKind.u64.wrap ((IntKind.u64.wrap s30) * ((gd OperatingPoint.zero s9 s52.2.2.1).Frequency))))))] ⟨rfl, rfl, rfl, rfl, rfl, rfl, trivial⟩ (fun a w hR hs hf => ?_)
                              refine hK94 _ _ ?_
                              replace hs := hs.keep (.d (.k (.k (.d .nil))))
                              have e86 := some_eq H; subst e86
                              exact hJ86 _ _ ⟨hf.sub ⟨rfl, rfl, rfl, rfl, rfl, rfl, trivial⟩, hs⟩
                        · -- not s83.2.2.2 = 0
                          refine region_d fol 31 [(7, v13), (8, .pointer (some ⟨b14, 0, none⟩)), (9, .int .i64 s30), (12, .int .i64 s52.2.2.1), (17, .int .i64 s83.2.2.1), (18, .int .i64 s83.2.2.2)] [(0, .int .i64 s83.2.2.2), (1, .bool true), (2, .bool true), (3, undef), (4, undef), (5, .bool true), (6, .bool true), (7, undef), (8, undef), (9, undef), (10, .bool true), (11, .bool true), (12, undef), (13, undef), (14, undef), (15, undef), (16, undef), (17, undef), (18, undef), (19, undef), (20, undef), (21, undef), (22, undef), (23, undef), (24, undef), (25, undef), (26, undef), (27, undef), (28, undef), (29, undef), (30, .bool true)] [] (fun w => (osl K_api_OperatingPoint v13 s9).ok w ∧ (bx b14 45 [.int .i64 s11.Up, .int .i64 s11.Down, .int .i64 s11.Samples]).ok w ∧ True) (fun w => St M w0 w [bx b42 66 [v43, .int .i64 c34.2.1, .int .i64 c34.2.2.1, .int .i64 c34.2.2.2.1, .int .i64 c34.2.2.2.2.1, .int .i64 c34.2.2.2.2.2.1, .int .i64 s83.1, .int .i64 s83.2.1], osl K_api_OperatingPoint v13 s9, bx b14 45 [.int .i64 s11.Up, .int .i64 s11.Down, .int .i64 s11.Samples], osl K_api_OperatingPoint v43 c34.1]) hf ⟨rfl, rfl, rfl, rfl, rfl, rfl, trivial⟩ (by kernel_rfl) (by kernel_rfl) rfl (by decide) ⟨hs.drew.get (i := 1) rfl, hs.drew.get (i := 2) rfl, trivial⟩ hs.drew (.cons (⟨_, _, rfl, rfl, rfl, rfl, fun a w hR hf => .inl ⟨wanted_yes hf rfl, ex_move hf rfl⟩⟩) (.cons (⟨_, _, rfl, rfl, rfl, rfl, fun a w hR hf => .inl ⟨wanted_yes hf rfl, ex_castB (ex_neq hf rfl rfl) (ndec_t hc87)⟩⟩) (.cons (⟨_, _, rfl, rfl, rfl, rfl, fun a w hR hf => .inl ⟨wanted_yes hf rfl, ex_move hf rfl⟩⟩) (.cons (⟨_, _, rfl, rfl, rfl, rfl, fun a w hR hf => .inr ⟨wanted_no hf rfl, rfl⟩⟩) (.cons (⟨_, _, rfl, rfl, rfl, rfl, fun a w hR hf => .inr ⟨wanted_no hf rfl, rfl⟩⟩) (.cons (⟨_, _, rfl, rfl, rfl, rfl, fun a w hR hf => .inl ⟨wanted_yes hf rfl, ex_pickT hf rfl rfl⟩⟩) (.cons (⟨_, _, rfl, rfl, rfl, rfl, fun a w hR hf => .inl ⟨wanted_yes hf rfl, ex_move hf rfl⟩⟩) (.cons (⟨_, _, rfl, rfl, rfl, rfl, fun a w hR hf => .inr ⟨wanted_no hf rfl, rfl⟩⟩) (.cons (⟨_, _, rfl, rfl, rfl, rfl, fun a w hR hf => .inr ⟨wanted_no hf rfl, rfl⟩⟩) (.cons (⟨_, _, rfl, rfl, rfl, rfl, fun a w hR hf => .inr ⟨wanted_no hf rfl, rfl⟩⟩) (.cons (⟨_, _, rfl, rfl, rfl, rfl, fun a w hR hf => .inl ⟨wanted_yes hf rfl, ex_pickT hf rfl rfl⟩⟩) (.cons (⟨_, _, rfl, rfl, rfl, rfl, fun a w hR hf => .inl ⟨wanted_yes hf rfl, ex_move hf rfl⟩⟩) (.cons (⟨_, _, rfl, rfl, rfl, rfl, fun a w hR hf => .inr ⟨wanted_no hf rfl, rfl⟩⟩) (.cons (⟨_, _, rfl, rfl, rfl, rfl, fun a w hR hf => .inr ⟨wanted_no hf rfl, rfl⟩⟩) (.cons (⟨_, _, rfl, rfl, rfl, rfl, fun a w hR hf => .inr ⟨wanted_no hf rfl, rfl⟩⟩) (.cons (⟨_, _, rfl, rfl, rfl, rfl, fun a w hR hf => .inr ⟨wanted_no hf rfl, rfl⟩⟩) (.cons (⟨_, _, rfl, rfl, rfl, rfl, fun a w hR hf => .inr ⟨wanted_no hf rfl, rfl⟩⟩) (.cons (⟨_, _, rfl, rfl, rfl, rfl, fun a w hR hf => .inr ⟨wanted_no hf rfl, rfl⟩⟩) (.cons (⟨_, _, rfl, rfl, rfl, rfl, fun a w hR hf => .inr ⟨wanted_no hf rfl, rfl⟩⟩) (.cons (⟨_, _, rfl, rfl, rfl, rfl, fun a w hR hf => .inr ⟨wanted_no hf rfl, rfl⟩⟩) (.cons (⟨_, _, rfl, rfl, rfl, rfl, fun a w hR hf => .inr ⟨wanted_no hf rfl, rfl⟩⟩) (.cons (⟨_, _, rfl, rfl, rfl, rfl, fun a w hR hf => .inr ⟨wanted_no hf rfl, rfl⟩⟩) (.cons (⟨_, _, rfl, rfl, rfl, rfl, fun a w hR hf => .inr ⟨wanted_no hf rfl, rfl⟩⟩) (.cons (⟨_, _, rfl, rfl, rfl, rfl, fun a w hR hf => .inr ⟨wanted_no hf rfl, rfl⟩⟩) (.cons (⟨_, _, rfl, rfl, rfl, rfl, fun a w hR hf => .inr ⟨wanted_no hf rfl, rfl⟩⟩) (.cons (⟨_, _, rfl, rfl, rfl, rfl, fun a w hR hf => .inr ⟨wanted_no hf rfl, rfl⟩⟩) (.cons (⟨_, _, rfl, rfl, rfl, rfl, fun a w hR hf => .inr ⟨wanted_no hf rfl, rfl⟩⟩) (.cons (⟨_, _, rfl, rfl, rfl, rfl, fun a w hR hf => .inr ⟨wanted_no hf rfl, rfl⟩⟩) (.cons (⟨_, _, rfl, rfl, rfl, rfl, fun a w hR hf => .inr ⟨wanted_no hf rfl, rfl⟩⟩) (.cons (⟨_, _, rfl, rfl, rfl, rfl, fun a w hR hf => .inr ⟨wanted_no hf rfl, rfl⟩⟩) (.cons (⟨_, _, rfl, rfl, rfl, rfl, fun a w hR hf => .inl ⟨wanted_yes hf rfl, ex_pickT hf rfl rfl⟩⟩) (.nil)))))))))))))))))))))))))))))))) (fun K95 hK95 => ?_)
                          refine RW.zero (by kernel_rfl) (by kernel_rfl) [(7, v13), (8, .pointer (some ⟨b14, 0, none⟩)), (9, .int .i64 s30), (12, .int .i64 s52.2.2.1), (17, .int .i64 s83.2.2.1), (121, .bool true)] ⟨rfl, rfl, rfl, rfl, rfl, rfl, trivial⟩ (fun a w hR hs hf => ?_)
                          refine hK95 _ _ ?_
                          replace hs := hs.keep (.d (.k (.k (.d .nil))))
                          have e86 := some_eq H; subst e86
                          exact hJ86 _ _ ⟨hf.sub ⟨rfl, rfl, rfl, rfl, rfl, rfl, trivial⟩, hs⟩
                      · obtain ⟨hf, hs⟩ := hJ
                        replace H := HO86
                        clear HO86
                        refine itt H (fun hc96 H => ?_) (fun hc96 H => ?_)
                        · -- x86 = true
                          replace hf := hf.castB (t := 121) rfl hc96
                          refine cond_T hf rfl ?_
                          refine seq_reg (fun K97 hK97 => ?_)
                          refine stq hf rfl rfl rfl (ex_assign hf rfl) (fun a hf => ?_)
                          refine hK97 _ _ ?_
                          refine wp_ret ?_
                          refine hR85 _ _ ?_
                          have eR := some_eq H; subst eR
                          replace hs := hs.keep (.d (.d .nil))
                          exact ret1 Try.results8 hf rfl ⟨_, rfl, ⟨rfl, hs⟩⟩
                        · -- not x86 = true
                          replace hf := hf.castB (t := 121) rfl (bool_f hc96)
                          refine cond_F hf rfl ?_
                          refine wp_skip ?_
                          refine hN85 _ _ ?_
                          refine seq_n (fun Q98 hN98 hR98 hX98 => ?_)
                          refine itt H (fun hc99 H => ?_) (fun hc99 H => ?_)
                          · -- s83.2.2.1 = 0
                            refine bnd H (fun s100 hs100 H => ?_)
                            refine region_d fol 26 [(7, v13), (8, .pointer (some ⟨b14, 0, none⟩)), (9, .int .i64 s30), (12, .int .i64 s52.2.2.1), (17, .int .i64 s83.2.2.1)] [(0, .int .i64 s83.2.2.1), (1, .bool true), (2, .bool true), (3, undef), (4, undef), (5, undef), (6, undef), (7, undef), (8, undef), (9, undef), (10, undef), (11, undef), (12, undef), (13, undef), (14, undef), (15, undef), (16, undef), (17, undef), (18, undef), (19, undef), (20, undef), (21, undef), (22, .bool true), (23, .bool true)] [24] (fun w => True) (fun w => St M w0 w [osl K_api_OperatingPoint v13 s9, bx b14 45 [.int .i64 s11.Up, .int .i64 s11.Down, .int .i64 s11.Samples]]) hf ⟨rfl, rfl, rfl, rfl, rfl, trivial⟩ (by kernel_rfl) (by kernel_rfl) rfl (by decide) trivial hs.drew (.cons (⟨_, _, rfl, rfl, rfl, rfl, fun a w hR hf => .inl ⟨wanted_yes hf rfl, ex_move hf rfl⟩⟩) (.cons (⟨_, _, rfl, rfl, rfl, rfl, fun a w hR hf => .inl ⟨wanted_yes hf rfl, ex_castB (ex_eql hf rfl rfl) (dec_t hc99)⟩⟩) (.cons (⟨_, _, rfl, rfl, rfl, rfl, fun a w hR hf => .inl ⟨wanted_yes hf rfl, ex_move hf rfl⟩⟩) (.cons (⟨_, _, rfl, rfl, rfl, rfl, fun a w hR hf => .inr ⟨wanted_no hf rfl, rfl⟩⟩) (.cons (⟨_, _, rfl, rfl, rfl, rfl, fun a w hR hf => .inr ⟨wanted_no hf rfl, rfl⟩⟩) (.cons (⟨_, _, rfl, rfl, rfl, rfl, fun a w hR hf => .inr ⟨wanted_no hf rfl, rfl⟩⟩) (.cons (⟨_, _, rfl, rfl, rfl, rfl, fun a w hR hf => .inr ⟨wanted_no hf rfl, rfl⟩⟩) (.cons (⟨_, _, rfl, rfl, rfl, rfl, fun a w hR hf => .inr ⟨wanted_no hf rfl, rfl⟩⟩) (.cons (⟨_, _, rfl, rfl, rfl, rfl, fun a w hR hf => .inr ⟨wanted_no hf rfl, rfl⟩⟩) (.cons (⟨_, _, rfl, rfl, rfl, rfl, fun a w hR hf => .inr ⟨wanted_no hf rfl, rfl⟩⟩) (.cons (⟨_, _, rfl, rfl, rfl, rfl, fun a w hR hf => .inr ⟨wanted_no hf rfl, rfl⟩⟩) (.cons (⟨_, _, rfl, rfl, rfl, rfl, fun a w hR hf => .inr ⟨wanted_no hf rfl, rfl⟩⟩) (.cons (⟨_, _, rfl, rfl, rfl, rfl, fun a w hR hf => .inr ⟨wanted_no hf rfl, rfl⟩⟩) (.cons (⟨_, _, rfl, rfl, rfl, rfl, fun a w hR hf => .inr ⟨wanted_no hf rfl, rfl⟩⟩) (.cons (⟨_, _, rfl, rfl, rfl, rfl, fun a w hR hf => .inr ⟨wanted_no hf rfl, rfl⟩⟩) (.cons (⟨_, _, rfl, rfl, rfl, rfl, fun a w hR hf => .inr ⟨wanted_no hf rfl, rfl⟩⟩) (.cons (⟨_, _, rfl, rfl, rfl, rfl, fun a w hR hf => .inr ⟨wanted_no hf rfl, rfl⟩⟩) (.cons (⟨_, _, rfl, rfl, rfl, rfl, fun a w hR hf => .inr ⟨wanted_no hf rfl, rfl⟩⟩) (.cons (⟨_, _, rfl, rfl, rfl, rfl, fun a w hR hf => .inr ⟨wanted_no hf rfl, rfl⟩⟩) (.cons (⟨_, _, rfl, rfl, rfl, rfl, fun a w hR hf => .inr ⟨wanted_no hf rfl, rfl⟩⟩) (.cons (⟨_, _, rfl, rfl, rfl, rfl, fun a w hR hf => .inr ⟨wanted_no hf rfl, rfl⟩⟩) (.cons (⟨_, _, rfl, rfl, rfl, rfl, fun a w hR hf => .inr ⟨wanted_no hf rfl, rfl⟩⟩) (.cons (⟨_, _, rfl, rfl, rfl, rfl, fun a w hR hf => .inl ⟨wanted_yes hf rfl, ex_pickT hf rfl rfl⟩⟩) (.cons (⟨_, _, rfl, rfl, rfl, rfl, fun a w hR hf => .inl ⟨wanted_yes hf rfl, ex_move hf rfl⟩⟩) (.nil))))))))))))))))))))))))) (fun K101 hK101 => ?_)
                            refine RW.one 24 (by kernel_rfl) (by kernel_rfl) rfl (fun d hd => by cases hd; rfl) [(145, .bool true)] ⟨rfl, trivial⟩ (fun a w hR hs hf => ⟨wanted_yes hf rfl, ?_⟩)
                            refine estep_f (ex_call cf_12 hf rfl) (law36_awake.calls k (hs.enter (.k (.k .nil))) (Sr.nil _ _) hs100) (fun v w hR => ?_)
                            obtain ⟨rfl, hs'⟩ := hR
                            replace hs := hs.step (.k (.k .nil)) hs'
                            clear hs'
                            refine ⟨[(25, .bool s100)], [(25, .bool s100), (24, .bool s100), (0, .int .i64 s83.2.2.1), (1, .bool true), (2, .bool true), (3, undef), (4, undef), (5, undef), (6, undef), (7, undef), (8, undef), (9, undef), (10, undef), (11, undef), (12, undef), (13, undef), (14, undef), (15, undef), (16, undef), (17, undef), (18, undef), (19, undef), (20, undef), (21, undef), (22, .bool true), (23, .bool true)], [], (fun _ => True), (fun w => St M w0 w [osl K_api_OperatingPoint v13 s9, bx b14 45 [.int .i64 s11.Up, .int .i64 s11.Down, .int .i64 s11.Samples]]), rfl, rfl, trivial, trivial, hs, (by kernel_rfl), .cons (⟨_, _, rfl, rfl, rfl, rfl, fun a w hR hf => .inl ⟨wanted_yes hf rfl, ex_pickT hf rfl rfl⟩⟩) (.nil), ?_⟩
                            refine RW.zero (by kernel_rfl) (by kernel_rfl) [(147, .bool s100)] ⟨rfl, trivial⟩ (fun a w hR hs hf => ?_)
                            refine stq hf rfl rfl rfl (ex_assign hf rfl) (fun a hf => ?_)
                            refine hK101 _ _ ?_
                            refine hN98 _ _ ?_
                            refine wp_ret ?_
                            have eR := some_eq H; subst eR
                            replace hs := hs.keep (.d (.d .nil))
                            exact ret1 Try.results8 hf rfl ⟨_, rfl, ⟨rfl, hs⟩⟩
                          · -- not s83.2.2.1 = 0
                            refine ck_some H (fun hc102 H => ?_)
                            refine ck_some H (fun hc103 H => ?_)
                            refine itt H (fun hc104 H => ?_) (fun hc104 H => ?_)
                            · -- (IntKind.u64.wrap ((IntKind.u64.wrap s11.Up) * ((gd Operatin
                              refine bnd H (fun s105 hs105 H => ?_)
                              refine region_d fol 26 [(7, v13), (8, .pointer (some ⟨b14, 0, none⟩)), (9, .int .i64 s30), (12, .int .i64 s52.2.2.1), (17, .int .i64 s83.2.2.1)] [(0, .int .i64 s83.2.2.1), (1, .bool false), (2, .bool false), (3, .int .i64 s30), (4, .int .u64 (IntKind.u64.wrap s30)), (5, v13), (6, .int .i64 s52.2.2.1), (7, .pointer (some (sla v13 (s52.2.2.1.toNat * 3)))), (8, .pointer (some (sla v13 (s52.2.2.1.toNat * 3 + 0)))), (9, .int .u64 ((gd OperatingPoint.zero s9 s52.2.2.1).Frequency)), (10, .int .u64 (IntKind.u64.wrap ((IntKind.u64.wrap s30) * ((gd OperatingPoint.zero s9 s52.2.2.1).Frequency)))), (11, .pointer (some ⟨b14, 0, none⟩)), (12, .int .i64 s11.Up), (13, .int .u64 (IntKind.u64.wrap s11.Up)), (14, v13), (15, .int .i64 s83.2.2.1), (16, .int .i64 (IntKind.i64.wrap (s83.2.2.1 - 1))), (17, .pointer (some (sla v13 ((IntKind.i64.wrap (s83.2.2.1 - 1)).toNat * 3)))), (18, .pointer (some (sla v13 ((IntKind.i64.wrap (s83.2.2.1 - 1)).toNat * 3 + 0)))), (19, .int .u64 ((gd OperatingPoint.zero s9 (IntKind.i64.wrap (s83.2.2.1 - 1))).Frequency)), (20, .int .u64 (IntKind.u64.wrap ((IntKind.u64.wrap s11.Up) * ((gd OperatingPoint.zero s9 (IntKind.i64.wrap (s83.2.2.1 - 1))).Frequency)))), (21, .bool true), (22, .bool true), (23, .bool true)] [24] (fun w => (osl K_api_OperatingPoint v13 s9).ok w ∧ (bx b14 45 [.int .i64 s11.Up, .int .i64 s11.Down, .int .i64 s11.Samples]).ok w ∧ True) (fun w => St M w0 w [osl K_api_OperatingPoint v13 s9, bx b14 45 [.int .i64 s11.Up, .int .i64 s11.Down, .int .i64 s11.Samples]]) hf ⟨rfl, rfl, rfl, rfl, rfl, trivial⟩ (by kernel_rfl) (by kernel_rfl) rfl (by decide) ⟨hs.drew.get (i := 0) rfl, hs.drew.get (i := 1) rfl, trivial⟩ hs.drew (.cons (⟨_, _, rfl, rfl, rfl, rfl, fun a w hR hf => .inl ⟨wanted_yes hf rfl, ex_move hf rfl⟩⟩) (.cons (⟨_, _, rfl, rfl, rfl, rfl, fun a w hR hf => .inl ⟨wanted_yes hf rfl, ex_castB (ex_eql hf rfl rfl) (dec_f hc99)⟩⟩) (.cons (⟨_, _, rfl, rfl, rfl, rfl, fun a w hR hf => .inl ⟨wanted_yes hf rfl, ex_move hf rfl⟩⟩) (.cons (⟨_, _, rfl, rfl, rfl, rfl, fun a w hR hf => .inl ⟨wanted_yes hf rfl, ex_move hf rfl⟩⟩) (.cons (⟨_, _, rfl, rfl, rfl, rfl, fun a w hR hf => .inl ⟨wanted_yes hf rfl, ex_conv Try.underlying3 Try.underlying23 hf rfl⟩⟩) (.cons (⟨_, _, rfl, rfl, rfl, rfl, fun a w hR hf => .inl ⟨wanted_yes hf rfl, ex_move hf rfl⟩⟩) (.cons (⟨_, _, rfl, rfl, rfl, rfl, fun a w hR hf => .inl ⟨wanted_yes hf rfl, ex_move hf rfl⟩⟩) (.cons (⟨_, _, rfl, rfl, rfl, rfl, fun a w hR hf => .inl ⟨wanted_yes hf rfl, ex_indexAddr sa_22 (rsl_isSl (osl_rsl _ hR.1)) hc102.1 hc102.2 hf rfl rfl⟩⟩) (.cons (⟨_, _, rfl, rfl, rfl, rfl, fun a w hR hf => .inl ⟨wanted_yes hf rfl, ex_fieldAddrS fa_25_0 rfl hf rfl⟩⟩) (.cons (⟨_, _, rfl, rfl, rfl, rfl, fun a w hR hf => .inl ⟨wanted_yes hf rfl, ex_load sc_23 hf rfl (el_cell (K := K_api_OperatingPoint) (f := 0) (rsl_rd (osl_rsl _ hR.1)) hc102.1 hc102.2 rfl)⟩⟩) (.cons (⟨_, _, rfl, rfl, rfl, rfl, fun a w hR hf => .inl ⟨wanted_yes hf rfl, ex_mul hf rfl rfl⟩⟩) (.cons (⟨_, _, rfl, rfl, rfl, rfl, fun a w hR hf => .inl ⟨wanted_yes hf rfl, ex_fieldAddrB fa_45_0 rfl hf rfl⟩⟩) (.cons (⟨_, _, rfl, rfl, rfl, rfl, fun a w hR hf => .inl ⟨wanted_yes hf rfl, ex_load sc_3 hf rfl (bx_cell (hR.2.1) _ rfl)⟩⟩) (.cons (⟨_, _, rfl, rfl, rfl, rfl, fun a w hR hf => .inl ⟨wanted_yes hf rfl, ex_conv Try.underlying3 Try.underlying23 hf rfl⟩⟩) (.cons (⟨_, _, rfl, rfl, rfl, rfl, fun a w hR hf => .inl ⟨wanted_yes hf rfl, ex_move hf rfl⟩⟩) (.cons (⟨_, _, rfl, rfl, rfl, rfl, fun a w hR hf => .inl ⟨wanted_yes hf rfl, ex_move hf rfl⟩⟩) (.cons (⟨_, _, rfl, rfl, rfl, rfl, fun a w hR hf => .inl ⟨wanted_yes hf rfl, ex_sub hf rfl rfl⟩⟩) (.cons (⟨_, _, rfl, rfl, rfl, rfl, fun a w hR hf => .inl ⟨wanted_yes hf rfl, ex_indexAddr sa_22 (rsl_isSl (osl_rsl _ hR.1)) hc103.1 hc103.2 hf rfl rfl⟩⟩) (.cons (⟨_, _, rfl, rfl, rfl, rfl, fun a w hR hf => .inl ⟨wanted_yes hf rfl, ex_fieldAddrS fa_25_0 rfl hf rfl⟩⟩) (.cons (⟨_, _, rfl, rfl, rfl, rfl, fun a w hR hf => .inl ⟨wanted_yes hf rfl, ex_load sc_23 hf rfl (el_cell (K := K_api_OperatingPoint) (f := 0) (rsl_rd (osl_rsl _ hR.1)) hc103.1 hc103.2 rfl)⟩⟩) (.cons (⟨_, _, rfl, rfl, rfl, rfl, fun a w hR hf => .inl ⟨wanted_yes hf rfl, ex_mul hf rfl rfl⟩⟩) (.cons (⟨_, _, rfl, rfl, rfl, rfl, fun a w hR hf => .inl ⟨wanted_yes hf rfl, ex_castB (ex_gtr hf rfl rfl) (dec_t hc104)⟩⟩) (.cons (⟨_, _, rfl, rfl, rfl, rfl, fun a w hR hf => .inl ⟨wanted_yes hf rfl, ex_pickF hf rfl rfl⟩⟩) (.cons (⟨_, _, rfl, rfl, rfl, rfl, fun a w hR hf => .inl ⟨wanted_yes hf rfl, ex_move hf rfl⟩⟩) (.nil))))))))))))))))))))))))) (fun K106 hK106 => ?_)
                              refine RW.one 24 (by kernel_rfl) (by kernel_rfl) rfl (fun d hd => by cases hd; rfl) [(145, .bool true)] ⟨rfl, trivial⟩ (fun a w hR hs hf => ⟨wanted_yes hf rfl, ?_⟩)
                              refine estep_f (ex_call cf_12 hf rfl) (law36_awake.calls k (hs.enter (.k (.k .nil))) (Sr.nil _ _) hs105) (fun v w hR => ?_)
                              obtain ⟨rfl, hs'⟩ := hR
                              replace hs := hs.step (.k (.k .nil)) hs'
                              clear hs'
                              refine ⟨[(25, .bool s105)], [(25, .bool s105), (24, .bool s105), (0, .int .i64 s83.2.2.1), (1, .bool false), (2, .bool false), (3, .int .i64 s30), (4, .int .u64 (IntKind.u64.wrap s30)), (5, v13), (6, .int .i64 s52.2.2.1), (7, .pointer (some (sla v13 (s52.2.2.1.toNat * 3)))), (8, .pointer (some (sla v13 (s52.2.2.1.toNat * 3 + 0)))), (9, .int .u64 ((gd OperatingPoint.zero s9 s52.2.2.1).Frequency)), (10, .int .u64 (IntKind.u64.wrap ((IntKind.u64.wrap s30) * ((gd OperatingPoint.zero s9 s52.2.2.1).Frequency)))), (11, .pointer (some ⟨b14, 0, none⟩)), (12, .int .i64 s11.Up), (13, .int .u64 (IntKind.u64.wrap s11.Up)), (14, v13), (15, .int .i64 s83.2.2.1), (16, .int .i64 (IntKind.i64.wrap (s83.2.2.1 - 1))), (17, .pointer (some (sla v13 ((IntKind.i64.wrap (s83.2.2.1 - 1)).toNat * 3)))), (18, .pointer (some (sla v13 ((IntKind.i64.wrap (s83.2.2.1 - 1)).toNat * 3 + 0)))), (19, .int .u64 ((gd OperatingPoint.zero s9 (IntKind.i64.wrap (s83.2.2.1 - 1))).Frequency)), (20, .int .u64 (IntKind.u64.wrap ((IntKind.u64.wrap s11.Up) * ((gd OperatingPoint.zero s9 (IntKind.i64.wrap (s83.2.2.1 - 1))).Frequency)))), (21, .bool true), (22, .bool true), (23, .bool true)], [], (fun _ => True), (fun w => St M w0 w [osl K_api_OperatingPoint v13 s9, bx b14 45 [.int .i64 s11.Up, .int .i64 s11.Down, .int .i64 s11.Samples]]), rfl, rfl, ⟨hs.get (i := 0) rfl, hs.get (i := 1) rfl, trivial⟩, trivial, hs, (by kernel_rfl), .cons (⟨_, _, rfl, rfl, rfl, rfl, fun a w hR hf => .inl ⟨wanted_yes hf rfl, ex_pickT hf rfl rfl⟩⟩) (.nil), ?_⟩
                              refine RW.zero (by kernel_rfl) (by kernel_rfl) [(147, .bool s105)] ⟨rfl, trivial⟩ (fun a w hR hs hf => ?_)
                              refine stq hf rfl rfl rfl (ex_assign hf rfl) (fun a hf => ?_)
                              refine hK106 _ _ ?_
                              refine hN98 _ _ ?_
                              refine wp_ret ?_
                              have eR := some_eq H; subst eR
                              replace hs := hs.keep (.d (.d .nil))
                              exact ret1 Try.results8 hf rfl ⟨_, rfl, ⟨rfl, hs⟩⟩
                            · -- not (IntKind.u64.wrap ((IntKind.u64.wrap s11.Up) * ((gd Operatin
                              refine region_d fol 26 [(7, v13), (8, .pointer (some ⟨b14, 0, none⟩)), (9, .int .i64 s30), (12, .int .i64 s52.2.2.1), (17, .int .i64 s83.2.2.1)] [(0, .int .i64 s83.2.2.1), (1, .bool false), (2, .bool false), (3, .int .i64 s30), (4, .int .u64 (IntKind.u64.wrap s30)), (5, v13), (6, .int .i64 s52.2.2.1), (7, .pointer (some (sla v13 (s52.2.2.1.toNat * 3)))), (8, .pointer (some (sla v13 (s52.2.2.1.toNat * 3 + 0)))), (9, .int .u64 ((gd OperatingPoint.zero s9 s52.2.2.1).Frequency)), (10, .int .u64 (IntKind.u64.wrap ((IntKind.u64.wrap s30) * ((gd OperatingPoint.zero s9 s52.2.2.1).Frequency)))), (11, .pointer (some ⟨b14, 0, none⟩)), (12, .int .i64 s11.Up), (13, .int .u64 (IntKind.u64.wrap s11.Up)), (14, v13), (15, .int .i64 s83.2.2.1), (16, .int .i64 (IntKind.i64.wrap (s83.2.2.1 - 1))), (17, .pointer (some (sla v13 ((IntKind.i64.wrap (s83.2.2.1 - 1)).toNat * 3)))), (18, .pointer (some (sla v13 ((IntKind.i64.wrap (s83.2.2.1 - 1)).toNat * 3 + 0)))), (19, .int .u64 ((gd OperatingPoint.zero s9 (IntKind.i64.wrap (s83.2.2.1 - 1))).Frequency)), (20, .int .u64 (IntKind.u64.wrap ((IntKind.u64.wrap s11.Up) * ((gd OperatingPoint.zero s9 (IntKind.i64.wrap (s83.2.2.1 - 1))).Frequency)))), (21, .bool false), (22, .bool false), (23, .bool false), (24, undef), (25, .bool false)] [] (fun w => (osl K_api_OperatingPoint v13 s9).ok w ∧ (bx b14 45 [.int .i64 s11.Up, .int .i64 s11.Down, .int .i64 s11.Samples]).ok w ∧ True) (fun w => St M w0 w [osl K_api_OperatingPoint v13 s9, bx b14 45 [.int .i64 s11.Up, .int .i64 s11.Down, .int .i64 s11.Samples]]) hf ⟨rfl, rfl, rfl, rfl, rfl, trivial⟩ (by kernel_rfl) (by kernel_rfl) rfl (by decide) ⟨hs.drew.get (i := 0) rfl, hs.drew.get (i := 1) rfl, trivial⟩ hs.drew (.cons (⟨_, _, rfl, rfl, rfl, rfl, fun a w hR hf => .inl ⟨wanted_yes hf rfl, ex_move hf rfl⟩⟩) (.cons (⟨_, _, rfl, rfl, rfl, rfl, fun a w hR hf => .inl ⟨wanted_yes hf rfl, ex_castB (ex_eql hf rfl rfl) (dec_f hc99)⟩⟩) (.cons (⟨_, _, rfl, rfl, rfl, rfl, fun a w hR hf => .inl ⟨wanted_yes hf rfl, ex_move hf rfl⟩⟩) (.cons (⟨_, _, rfl, rfl, rfl, rfl, fun a w hR hf => .inl ⟨wanted_yes hf rfl, ex_move hf rfl⟩⟩) (.cons (⟨_, _, rfl, rfl, rfl, rfl, fun a w hR hf => .inl ⟨wanted_yes hf rfl, ex_conv Try.underlying3 Try.underlying23 hf rfl⟩⟩) (.cons (⟨_, _, rfl, rfl, rfl, rfl, fun a w hR hf => .inl ⟨wanted_yes hf rfl, ex_move hf rfl⟩⟩) (.cons (⟨_, _, rfl, rfl, rfl, rfl, fun a w hR hf => .inl ⟨wanted_yes hf rfl, ex_move hf rfl⟩⟩) (.cons (⟨_, _, rfl, rfl, rfl, rfl, fun a w hR hf => .inl ⟨wanted_yes hf rfl, ex_indexAddr sa_22 (rsl_isSl (osl_rsl _ hR.1)) hc102.1 hc102.2 hf rfl rfl⟩⟩) (.cons (⟨_, _, rfl, rfl, rfl, rfl, fun a w hR hf => .inl ⟨wanted_yes hf rfl, ex_fieldAddrS fa_25_0 rfl hf rfl⟩⟩) (.cons (⟨_, _, rfl, rfl, rfl, rfl, fun a w hR hf => .inl ⟨wanted_yes hf rfl, ex_load sc_23 hf rfl (el_cell (K := K_api_OperatingPoint) (f := 0) (rsl_rd (osl_rsl _ hR.1)) hc102.1 hc102.2 rfl)⟩⟩) (.cons (⟨_, _, rfl, rfl, rfl, rfl, fun a w hR hf => .inl ⟨wanted_yes hf rfl, ex_mul hf rfl rfl⟩⟩) (.cons (⟨_, _, rfl, rfl, rfl, rfl, fun a w hR hf => .inl ⟨wanted_yes hf rfl, ex_fieldAddrB fa_45_0 rfl hf rfl⟩⟩) (.cons (⟨_, _, rfl, rfl, rfl, rfl, fun a w hR hf => .inl ⟨wanted_yes hf rfl, ex_load sc_3 hf rfl (bx_cell (hR.2.1) _ rfl)⟩⟩) (.cons (⟨_, _, rfl, rfl, rfl, rfl, fun a w hR hf => .inl ⟨wanted_yes hf rfl, ex_conv Try.underlying3 Try.underlying23 hf rfl⟩⟩) (.cons (⟨_, _, rfl, rfl, rfl, rfl, fun a w hR hf => .inl ⟨wanted_yes hf rfl, ex_move hf rfl⟩⟩) (.cons (⟨_, _, rfl, rfl, rfl, rfl, fun a w hR hf => .inl ⟨wanted_yes hf rfl, ex_move hf rfl⟩⟩) (.cons (⟨_, _, rfl, rfl, rfl, rfl, fun a w hR hf => .inl ⟨wanted_yes hf rfl, ex_sub hf rfl rfl⟩⟩) (.cons (⟨_, _, rfl, rfl, rfl, rfl, fun a w hR hf => .inl ⟨wanted_yes hf rfl, ex_indexAddr sa_22 (rsl_isSl (osl_rsl _ hR.1)) hc103.1 hc103.2 hf rfl rfl⟩⟩) (.cons (⟨_, _, rfl, rfl, rfl, rfl, fun a w hR hf => .inl ⟨wanted_yes hf rfl, ex_fieldAddrS fa_25_0 rfl hf rfl⟩⟩) (.cons (⟨_, _, rfl, rfl, rfl, rfl, fun a w hR hf => .inl ⟨wanted_yes hf rfl, ex_load sc_23 hf rfl (el_cell (K := K_api_OperatingPoint) (f := 0) (rsl_rd (osl_rsl _ hR.1)) hc103.1 hc103.2 rfl)⟩⟩) (.cons (⟨_, _, rfl, rfl, rfl, rfl, fun a w hR hf => .inl ⟨wanted_yes hf rfl, ex_mul hf rfl rfl⟩⟩) (.cons (⟨_, _, rfl, rfl, rfl, rfl, fun a w hR hf => .inl ⟨wanted_yes hf rfl, ex_castB (ex_gtr hf rfl rfl) (dec_f hc104)⟩⟩) (.cons (⟨_, _, rfl, rfl, rfl, rfl, fun a w hR hf => .inl ⟨wanted_yes hf rfl, ex_pickF hf rfl rfl⟩⟩) (.cons (⟨_, _, rfl, rfl, rfl, rfl, fun a w hR hf => .inl ⟨wanted_yes hf rfl, ex_move hf rfl⟩⟩) (.cons (⟨_, _, rfl, rfl, rfl, rfl, fun a w hR hf => .inr ⟨wanted_no hf rfl, rfl⟩⟩) (.cons (⟨_, _, rfl, rfl, rfl, rfl, fun a w hR hf => .inl ⟨wanted_yes hf rfl, ex_pickF hf rfl rfl⟩⟩) (.nil))))))))))))))))))))))))))) (fun K107 hK107 => ?_)
                              refine RW.zero (by kernel_rfl) (by kernel_rfl) [(147, .bool false)] ⟨rfl, trivial⟩ (fun a w hR hs hf => ?_)
                              refine stq hf rfl rfl rfl (ex_assign hf rfl) (fun a hf => ?_)
                              refine hK107 _ _ ?_
                              refine hN98 _ _ ?_
                              refine wp_ret ?_
                              have eR := some_eq H; subst eR
                              replace hs := hs.keep (.d (.d .nil))
                              exact ret1 Try.results8 hf rfl ⟨_, rfl, ⟨rfl, hs⟩⟩

end Go.Proofs.Ythemeobgfgmblaa.X
