/- Each function of the machine comes to what its pure function says. -/
import Derived.Test.YthemeobgfgmblaaFc2
import Derived.Test.YthemeobgfgmblaaFc3
import Derived.Test.YthemeobgfgmblaaFb
namespace Go.Proofs.Ythemeobgfgmblaa.X
open Go Go.RowKit Go.Sx
set_option linter.unusedVariables false

set_option maxHeartbeats 4000000 in
set_option maxRecDepth 100000 in
theorem law36_PerfGovernorStaysPermitted.calls {M : Nat → Prop} {w0 : World} (k : Nat) (a0 : (List OperatingPoint)) (a1 : GovernorParams) (a2 : Int) (a3 : Int) (a4 : (List Int)) (v0 : Value) (v4 : Value) {r : Bool} (hs : St M w0 w0 []) (hr : Sr M w0 [rsl K_api_OperatingPoint v0 a0, rsl K_int v4 a4])
    (h : law36_PerfGovernorStaysPermitted.f k a0 a1 a2 a3 a4 = some r) : Calls Try.prog 11 #[v0, .agg #[.int .i64 a1.Up, .int .i64 a1.Down, .int .i64 a1.Samples], .int .i64 a2, .int .i64 a3, v4] w0 fun e w => ∃ v, e = .returned v ∧ (.bool r = v ∧ St M w0 w []) := by
  have H := (law36_PerfGovernorStaysPermitted.f.eq_1 ..).symm.trans h
  clear h
  refine enter Try.func11 rfl Try.ntmps11 rfl (fun a hf => ?_)
  refine seq_reg (fun K2 hK2 => ?_)
  refine stepV hf rfl rfl rfl (er_box (cs := [.int .i64 a1.Up, .int .i64 a1.Down, .int .i64 a1.Samples]) hs hf rfl rfl) (fun v w hR a hf => ?_)
  obtain ⟨b1, rfl, hs⟩ := hR
  refine stq hf rfl rfl rfl (ex_assign hf rfl) (fun a hf => ?_)
  refine hK2 _ _ ?_
  refine seq_n (fun Q3 hN3 hR3 hX3 => ?_)
  refine bnd H (fun x4 H4 HO4 => ?_)
  clear H
  refine seq_cut (fun a w => Fr a 156 [(0, v0), (2, .int .i64 a2), (3, .int .i64 a3), (4, v4), (6, .pointer (some ⟨b1, 0, none⟩)), (29, .bool x4)] ∧ St M w0 w [bx b1 45 [.int .i64 a1.Up, .int .i64 a1.Down, .int .i64 a1.Samples]]) (fun Q4 hJ4 hR4 hX4 => ?_) (fun a w hJ => ?_)
  · replace H := H4
    refine itt H (fun hc5 H => ?_) (fun hc5 H => ?_)
    · -- 20 < (a0.length : Int)
      refine region_k (fun K6 hK6 => ?_)
      refine stq hf rfl rfl rfl (ex_move hf rfl) (fun a hf => ?_)
      refine stq hf rfl rfl rfl (ex_lenS Try.underlying22 (rsl_isSl (hr.now hs (i := 0) rfl)) hf rfl) (fun a hf => ?_)
      refine stq hf rfl rfl rfl (ex_gtr hf rfl rfl) (fun a hf => ?_)
      refine stq hf rfl rfl rfl (ex_move hf rfl) (fun a hf => ?_)
      replace hf := hf.castB (t := 24) rfl (dec_t hc5)
      replace hf := hf.castB (t := 25) rfl (dec_t hc5)
      refine stepN hf rfl rfl rfl (fun a hf => ?_)
      refine stepN hf rfl rfl rfl (fun a hf => ?_)
      refine stepN hf rfl rfl rfl (fun a hf => ?_)
      refine stq hf rfl rfl rfl (ex_pickT hf rfl rfl) (fun a hf => ?_)
      refine hK6 _ _ ?_
      have e4 := some_eq H; subst e4
      exact hJ4 _ _ ⟨hf.sub ⟨rfl, rfl, rfl, rfl, rfl, rfl, trivial⟩, hs⟩
    · -- not 20 < (a0.length : Int)
      refine region_k (fun K7 hK7 => ?_)
      refine stq hf rfl rfl rfl (ex_move hf rfl) (fun a hf => ?_)
      refine stq hf rfl rfl rfl (ex_lenS Try.underlying22 (rsl_isSl (hr.now hs (i := 0) rfl)) hf rfl) (fun a hf => ?_)
      refine stq hf rfl rfl rfl (ex_gtr hf rfl rfl) (fun a hf => ?_)
      refine stq hf rfl rfl rfl (ex_move hf rfl) (fun a hf => ?_)
      replace hf := hf.castB (t := 24) rfl (dec_f hc5)
      replace hf := hf.castB (t := 25) rfl (dec_f hc5)
      refine stq hf rfl rfl rfl (ex_move hf rfl) (fun a hf => ?_)
      refine stq hf rfl rfl rfl (ex_lenS Try.underlying52 (rsl_isSl (hr.now hs (i := 1) rfl)) hf rfl) (fun a hf => ?_)
      refine stq hf rfl rfl rfl (ex_gtr hf rfl rfl) (fun a hf => ?_)
      refine stq hf rfl rfl rfl (ex_pickF hf rfl rfl) (fun a hf => ?_)
      refine hK7 _ _ ?_
      have e4 := some_eq H; subst e4
      exact hJ4 _ _ ⟨hf.sub ⟨rfl, rfl, rfl, rfl, rfl, rfl, trivial⟩, hs⟩
  · obtain ⟨hf, hs⟩ := hJ
    replace H := HO4
    clear HO4
    refine itt H (fun hc8 H => ?_) (fun hc8 H => ?_)
    · -- x4 = true
      replace hf := hf.castB (t := 29) rfl hc8
      refine cond_T hf rfl ?_
      refine bnd H (fun s9 hs9 H => ?_)
      refine seq_reg (fun K10 hK10 => ?_)
      refine stepF hf rfl rfl rfl (ex_call cf_12 hf rfl) (law36_awake.calls k (hs.enter (.k .nil)) (Sr.nil _ _) hs9) (fun v w hR a hf => ?_)
      obtain ⟨rfl, hs'⟩ := hR
      replace hs := hs.step (.k .nil) hs'
      clear hs'
      refine stq hf rfl rfl rfl (ex_assign hf rfl) (fun a hf => ?_)
      refine hK10 _ _ ?_
      refine wp_ret ?_
      refine hR3 _ _ ?_
      have eR := some_eq H; subst eR
      replace hs := hs.keep (.d .nil)
      exact ret1 Try.results11 hf rfl ⟨_, rfl, ⟨rfl, hs⟩⟩
    · -- not x4 = true
      replace hf := hf.castB (t := 29) rfl (bool_f hc8)
      refine cond_F hf rfl ?_
      refine wp_skip ?_
      refine hN3 _ _ ?_
      refine seq_n (fun Q11 hN11 hR11 hX11 => ?_)
      refine bnd H (fun s12 hs12 H => ?_)
      refine bnd H (fun s14 hs14 H => ?_)
      refine wp_cut (fun a w => ∃ (v16 : Value) (b17 : Nat), Fr a 156 [(2, .int .i64 a2), (3, .int .i64 a3), (4, v4), (11, v16), (12, .pointer (some ⟨b17, 0, none⟩))] ∧ St M w0 w [osl K_api_OperatingPoint v16 s12, bx b17 45 [.int .i64 s14.Up, .int .i64 s14.Down, .int .i64 s14.Samples]]) (fun Q18 hJ18 => ?_) (fun a w hJ => ?_)
      · -- in each order
        refine region_d fol 6 [(0, v0), (2, .int .i64 a2), (3, .int .i64 a3), (4, v4), (6, .pointer (some ⟨b1, 0, none⟩))] [(0, v0), (2, .agg #[.int .i64 a1.Up, .int .i64 a1.Down, .int .i64 a1.Samples])] [1, 3, 4] (fun w => (bx b1 45 [.int .i64 a1.Up, .int .i64 a1.Down, .int .i64 a1.Samples]).ok w ∧ True) (fun w => St M w0 w [bx b1 45 [.int .i64 a1.Up, .int .i64 a1.Down, .int .i64 a1.Samples]]) hf ⟨rfl, rfl, rfl, rfl, rfl, trivial⟩ (by kernel_rfl) (by kernel_rfl) rfl (by decide) ⟨hs.drew.get (i := 0) rfl, trivial⟩ hs.drew (.cons (⟨_, _, rfl, rfl, rfl, rfl, fun a w hR hf => .inl ⟨wanted_yes hf rfl, ex_move hf rfl⟩⟩) (.cons (⟨_, _, rfl, rfl, rfl, rfl, fun a w hR hf => .inl ⟨wanted_yes hf rfl, ex_loadA (cs := [.int .i64 a1.Up, .int .i64 a1.Down, .int .i64 a1.Samples]) ag_45 hf rfl (bx_cells (hR.1) rfl)⟩⟩) (.nil))) (fun K19 hK19 => ?_)
        refine RW.fork [1, 4] (by kernel_rfl) (by kernel_rfl) ⟨?_, ?_, trivial⟩
        · -- first 1
          refine RWe.mk 1 rfl (fun d hd => by cases hd; rfl) [(31, v0)] ⟨rfl, trivial⟩ (fun a w hR hs hf => ⟨wanted_yes hf rfl, ?_⟩)
          refine estep_f (ex_call cf_13 hf rfl) (law36_Table.calls k a0 v0 (hs.enter (.k .nil)) (Sr.old hr hs (.k .nil) (i := 0) rfl (fun _ h => h) (fun _ h => h) (Sr.nil _ _)) hs12) (fun v w hR => ?_)
          obtain ⟨v20, rfl, hs'⟩ := hR
          replace hs := hs.step (.k .nil) hs'
          clear hs'
          refine ⟨[], [(1, v20), (0, v0), (2, .agg #[.int .i64 a1.Up, .int .i64 a1.Down, .int .i64 a1.Samples])], [3, 4], (fun _ => True), (fun w => St M w0 w [osl K_api_OperatingPoint v20 s12, bx b1 45 [.int .i64 a1.Up, .int .i64 a1.Down, .int .i64 a1.Samples]]), rfl, rfl, ⟨hs.get (i := 1) rfl, trivial⟩, trivial, hs, (by kernel_rfl), .nil, ?_⟩
          refine RW.fork [3, 4] (by kernel_rfl) (by kernel_rfl) ⟨?_, ?_, trivial⟩
          · -- first 3
            refine RWe.mk 3 rfl (fun d hd => by cases hd; rfl) [(33, .agg #[.int .i64 a1.Up, .int .i64 a1.Down, .int .i64 a1.Samples])] ⟨rfl, trivial⟩ (fun a w hR hs hf => ⟨wanted_yes hf rfl, ?_⟩)
            refine estep_f (ex_call cf_24 hf rfl) (law36_params.calls k a1 (hs.enter (.k (.k .nil))) (Sr.nil _ _) hs14) (fun v w hR => ?_)
            obtain ⟨rfl, hs'⟩ := hR
            replace hs := hs.step (.k (.k .nil)) hs'
            clear hs'
            refine ⟨[], [(3, .agg #[.int .i64 s14.Up, .int .i64 s14.Down, .int .i64 s14.Samples]), (1, v20), (0, v0), (2, .agg #[.int .i64 a1.Up, .int .i64 a1.Down, .int .i64 a1.Samples])], [4], (fun _ => True), (fun w => St M w0 w [osl K_api_OperatingPoint v20 s12, bx b1 45 [.int .i64 a1.Up, .int .i64 a1.Down, .int .i64 a1.Samples]]), rfl, rfl, ⟨⟨hs.get (i := 1) rfl, trivial⟩, trivial⟩, trivial, hs, (by kernel_rfl), .nil, ?_⟩
            refine RW.one 4 (by kernel_rfl) (by kernel_rfl) rfl (fun d hd => by cases hd; rfl) [] trivial (fun a w hR hs hf => ⟨wanted_yes hf rfl, ?_⟩)
            refine estep_v (er_alloc hs ti_45 (cs := [.int .i64 0, .int .i64 0, .int .i64 0]) rfl) (fun v w hR => ?_)
            obtain ⟨b21, rfl, hs⟩ := hR
            refine ⟨[(5, v20)], [(5, v20), (4, .pointer (some ⟨b21, 0, none⟩)), (3, .agg #[.int .i64 s14.Up, .int .i64 s14.Down, .int .i64 s14.Samples]), (1, v20), (0, v0), (2, .agg #[.int .i64 a1.Up, .int .i64 a1.Down, .int .i64 a1.Samples])], [], (fun _ => True), (fun w => St M w0 w [bx b21 45 [.int .i64 0, .int .i64 0, .int .i64 0], osl K_api_OperatingPoint v20 s12, bx b1 45 [.int .i64 a1.Up, .int .i64 a1.Down, .int .i64 a1.Samples]]), rfl, rfl, ⟨⟨⟨hs.get (i := 2) rfl, trivial⟩, trivial⟩, trivial⟩, trivial, hs, (by kernel_rfl), .cons (⟨_, _, rfl, rfl, rfl, rfl, fun a w hR hf => .inl ⟨wanted_yes hf rfl, ex_assign hf rfl⟩⟩) (.nil), ?_⟩
            refine RW.zero (by kernel_rfl) (by kernel_rfl) [(2, .int .i64 a2), (3, .int .i64 a3), (4, v4), (11, v20), (12, .pointer (some ⟨b21, 0, none⟩)), (34, .agg #[.int .i64 s14.Up, .int .i64 s14.Down, .int .i64 s14.Samples])] ⟨rfl, rfl, rfl, rfl, rfl, rfl, trivial⟩ (fun a w hR hs hf => ?_)
            refine stepS hf rfl rfl (er_storeAB (vs := [.int .i64 s14.Up, .int .i64 s14.Down, .int .i64 s14.Samples]) (cs' := [.int .i64 s14.Up, .int .i64 s14.Down, .int .i64 s14.Samples]) hs (.c (.k (.k .nil))) sz_45 hf rfl rfl (all1 rfl (all1 rfl (all1 rfl (all1_nil)))) rfl rfl) (fun w hs => ?_)
            refine hK19 _ _ ?_
            replace hs := hs.keep (.k (.k (.d .nil)))
            replace hs := hs.pick (.k (.c .nil))
            exact hJ18 _ _ ⟨v20, b21, hf.sub ⟨rfl, rfl, rfl, rfl, rfl, trivial⟩, hs⟩
          · -- first 4
            refine RWe.mk 4 rfl (fun d hd => by cases hd; rfl) [] trivial (fun a w hR hs hf => ⟨wanted_yes hf rfl, ?_⟩)
            refine estep_v (er_alloc hs ti_45 (cs := [.int .i64 0, .int .i64 0, .int .i64 0]) rfl) (fun v w hR => ?_)
            obtain ⟨b22, rfl, hs⟩ := hR
            refine ⟨[], [(4, .pointer (some ⟨b22, 0, none⟩)), (1, v20), (0, v0), (2, .agg #[.int .i64 a1.Up, .int .i64 a1.Down, .int .i64 a1.Samples])], [3], (fun _ => True), (fun w => St M w0 w [bx b22 45 [.int .i64 0, .int .i64 0, .int .i64 0], osl K_api_OperatingPoint v20 s12, bx b1 45 [.int .i64 a1.Up, .int .i64 a1.Down, .int .i64 a1.Samples]]), rfl, rfl, ⟨⟨hs.get (i := 2) rfl, trivial⟩, trivial⟩, trivial, hs, (by kernel_rfl), .nil, ?_⟩
            refine RW.one 3 (by kernel_rfl) (by kernel_rfl) rfl (fun d hd => by cases hd; rfl) [(33, .agg #[.int .i64 a1.Up, .int .i64 a1.Down, .int .i64 a1.Samples])] ⟨rfl, trivial⟩ (fun a w hR hs hf => ⟨wanted_yes hf rfl, ?_⟩)
            refine estep_f (ex_call cf_24 hf rfl) (law36_params.calls k a1 (hs.enter (.k (.k (.k .nil)))) (Sr.nil _ _) hs14) (fun v w hR => ?_)
            obtain ⟨rfl, hs'⟩ := hR
            replace hs := hs.step (.k (.k (.k .nil))) hs'
            clear hs'
            refine ⟨[(5, v20)], [(5, v20), (3, .agg #[.int .i64 s14.Up, .int .i64 s14.Down, .int .i64 s14.Samples]), (4, .pointer (some ⟨b22, 0, none⟩)), (1, v20), (0, v0), (2, .agg #[.int .i64 a1.Up, .int .i64 a1.Down, .int .i64 a1.Samples])], [], (fun _ => True), (fun w => St M w0 w [bx b22 45 [.int .i64 0, .int .i64 0, .int .i64 0], osl K_api_OperatingPoint v20 s12, bx b1 45 [.int .i64 a1.Up, .int .i64 a1.Down, .int .i64 a1.Samples]]), rfl, rfl, ⟨⟨⟨hs.get (i := 2) rfl, trivial⟩, trivial⟩, trivial⟩, trivial, hs, (by kernel_rfl), .cons (⟨_, _, rfl, rfl, rfl, rfl, fun a w hR hf => .inl ⟨wanted_yes hf rfl, ex_assign hf rfl⟩⟩) (.nil), ?_⟩
            refine RW.zero (by kernel_rfl) (by kernel_rfl) [(2, .int .i64 a2), (3, .int .i64 a3), (4, v4), (11, v20), (12, .pointer (some ⟨b22, 0, none⟩)), (34, .agg #[.int .i64 s14.Up, .int .i64 s14.Down, .int .i64 s14.Samples])] ⟨rfl, rfl, rfl, rfl, rfl, rfl, trivial⟩ (fun a w hR hs hf => ?_)
            refine stepS hf rfl rfl (er_storeAB (vs := [.int .i64 s14.Up, .int .i64 s14.Down, .int .i64 s14.Samples]) (cs' := [.int .i64 s14.Up, .int .i64 s14.Down, .int .i64 s14.Samples]) hs (.c (.k (.k .nil))) sz_45 hf rfl rfl (all1 rfl (all1 rfl (all1 rfl (all1_nil)))) rfl rfl) (fun w hs => ?_)
            refine hK19 _ _ ?_
            replace hs := hs.keep (.k (.k (.d .nil)))
            replace hs := hs.pick (.k (.c .nil))
            exact hJ18 _ _ ⟨v20, b22, hf.sub ⟨rfl, rfl, rfl, rfl, rfl, trivial⟩, hs⟩
        · -- first 4
          refine RWe.mk 4 rfl (fun d hd => by cases hd; rfl) [] trivial (fun a w hR hs hf => ⟨wanted_yes hf rfl, ?_⟩)
          refine estep_v (er_alloc hs ti_45 (cs := [.int .i64 0, .int .i64 0, .int .i64 0]) rfl) (fun v w hR => ?_)
          obtain ⟨b23, rfl, hs⟩ := hR
          refine ⟨[], [(4, .pointer (some ⟨b23, 0, none⟩)), (0, v0), (2, .agg #[.int .i64 a1.Up, .int .i64 a1.Down, .int .i64 a1.Samples])], [1, 3], (fun _ => True), (fun w => St M w0 w [bx b23 45 [.int .i64 0, .int .i64 0, .int .i64 0], bx b1 45 [.int .i64 a1.Up, .int .i64 a1.Down, .int .i64 a1.Samples]]), rfl, rfl, ⟨hs.get (i := 1) rfl, trivial⟩, trivial, hs, (by kernel_rfl), .nil, ?_⟩
          refine RW.one 1 (by kernel_rfl) (by kernel_rfl) rfl (fun d hd => by cases hd; rfl) [(31, v0)] ⟨rfl, trivial⟩ (fun a w hR hs hf => ⟨wanted_yes hf rfl, ?_⟩)
          refine estep_f (ex_call cf_13 hf rfl) (law36_Table.calls k a0 v0 (hs.enter (.k (.k .nil))) (Sr.old hr hs (.k (.k .nil)) (i := 0) rfl (fun _ h => h) (fun _ h => h) (Sr.nil _ _)) hs12) (fun v w hR => ?_)
          obtain ⟨v24, rfl, hs'⟩ := hR
          replace hs := hs.step (.k (.k .nil)) hs'
          clear hs'
          refine ⟨[], [(1, v24), (4, .pointer (some ⟨b23, 0, none⟩)), (0, v0), (2, .agg #[.int .i64 a1.Up, .int .i64 a1.Down, .int .i64 a1.Samples])], [3], (fun _ => True), (fun w => St M w0 w [osl K_api_OperatingPoint v24 s12, bx b23 45 [.int .i64 0, .int .i64 0, .int .i64 0], bx b1 45 [.int .i64 a1.Up, .int .i64 a1.Down, .int .i64 a1.Samples]]), rfl, rfl, ⟨⟨hs.get (i := 2) rfl, trivial⟩, trivial⟩, trivial, hs, (by kernel_rfl), .nil, ?_⟩
          refine RW.one 3 (by kernel_rfl) (by kernel_rfl) rfl (fun d hd => by cases hd; rfl) [(33, .agg #[.int .i64 a1.Up, .int .i64 a1.Down, .int .i64 a1.Samples])] ⟨rfl, trivial⟩ (fun a w hR hs hf => ⟨wanted_yes hf rfl, ?_⟩)
          refine estep_f (ex_call cf_24 hf rfl) (law36_params.calls k a1 (hs.enter (.k (.k (.k .nil)))) (Sr.nil _ _) hs14) (fun v w hR => ?_)
          obtain ⟨rfl, hs'⟩ := hR
          replace hs := hs.step (.k (.k (.k .nil))) hs'
          clear hs'
          refine ⟨[(5, v24)], [(5, v24), (3, .agg #[.int .i64 s14.Up, .int .i64 s14.Down, .int .i64 s14.Samples]), (1, v24), (4, .pointer (some ⟨b23, 0, none⟩)), (0, v0), (2, .agg #[.int .i64 a1.Up, .int .i64 a1.Down, .int .i64 a1.Samples])], [], (fun _ => True), (fun w => St M w0 w [osl K_api_OperatingPoint v24 s12, bx b23 45 [.int .i64 0, .int .i64 0, .int .i64 0], bx b1 45 [.int .i64 a1.Up, .int .i64 a1.Down, .int .i64 a1.Samples]]), rfl, rfl, ⟨⟨⟨hs.get (i := 2) rfl, trivial⟩, trivial⟩, trivial⟩, trivial, hs, (by kernel_rfl), .cons (⟨_, _, rfl, rfl, rfl, rfl, fun a w hR hf => .inl ⟨wanted_yes hf rfl, ex_assign hf rfl⟩⟩) (.nil), ?_⟩
          refine RW.zero (by kernel_rfl) (by kernel_rfl) [(2, .int .i64 a2), (3, .int .i64 a3), (4, v4), (11, v24), (12, .pointer (some ⟨b23, 0, none⟩)), (34, .agg #[.int .i64 s14.Up, .int .i64 s14.Down, .int .i64 s14.Samples])] ⟨rfl, rfl, rfl, rfl, rfl, rfl, trivial⟩ (fun a w hR hs hf => ?_)
          refine stepS hf rfl rfl (er_storeAB (vs := [.int .i64 s14.Up, .int .i64 s14.Down, .int .i64 s14.Samples]) (cs' := [.int .i64 s14.Up, .int .i64 s14.Down, .int .i64 s14.Samples]) hs (.k (.c (.k .nil))) sz_45 hf rfl rfl (all1 rfl (all1 rfl (all1 rfl (all1_nil)))) rfl rfl) (fun w hs => ?_)
          refine hK19 _ _ ?_
          replace hs := hs.keep (.k (.k (.d .nil)))
          replace hs := hs.pick (.k (.c .nil))
          exact hJ18 _ _ ⟨v24, b23, hf.sub ⟨rfl, rfl, rfl, rfl, rfl, trivial⟩, hs⟩
      · obtain ⟨v16, b17, hf, hs⟩ := hJ
        refine hN11 _ _ ?_
        refine seq_n (fun Q25 hN25 hR25 hX25 => ?_)
        refine bnd H (fun s26 hs26 H => ?_)
        cases hps26 : s26.1 with
        | none =>
          replace H := elim_n hps26 H
          refine region_k (fun K28 hK28 => ?_)
          refine stq hf rfl rfl rfl (ex_move hf rfl) (fun a hf => ?_)
          refine stq hf rfl rfl rfl (ex_loadA (cs := [.int .i64 s14.Up, .int .i64 s14.Down, .int .i64 s14.Samples]) ag_45 hf rfl (bx_cells (hs.get (i := 1) rfl) rfl)) (fun a hf => ?_)
          refine stepF hf rfl rfl rfl (ex_call cf_25 hf rfl) (perf_New.calls k s12 s14 v16 (hs.enter (.k (.k .nil))) (Sr.own hs (.k (.k .nil)) (i := 0) rfl osl_rsl (fun _ h => h.1) (Sr.nil _ _)) hs26) (fun v w hR a hf => ?_)
          obtain ⟨_, rfl, hs'⟩ | ⟨_, hc', _⟩ := hR
          case inr => rw [hps26] at hc'; cases hc'
          replace hs := hs.step (.k (.k .nil)) hs'
          clear hs'
          refine stq hf rfl rfl rfl (ex_move hf rfl) (fun a hf => ?_)
          refine stq hf rfl rfl rfl (ex_extract hf rfl rfl) (fun a hf => ?_)
          refine stq hf rfl rfl rfl (ex_extract hf rfl rfl) (fun a hf => ?_)
          refine stq hf rfl rfl rfl (ex_assign hf rfl) (fun a hf => ?_)
          refine stq hf rfl rfl rfl (ex_assign hf rfl) (fun a hf => ?_)
          refine hK28 _ _ ?_
          refine hN25 _ _ ?_
          refine seq_n (fun Q29 hN29 hR29 hX29 => ?_)
          refine bnd H (fun x30 H30 HO30 => ?_)
          clear H
          refine seq_cut (fun a w => Fr a 156 [(2, .int .i64 a2), (3, .int .i64 a3), (4, v4), (11, v16), (12, .pointer (some ⟨b17, 0, none⟩)), (13, .pointer none), (46, .bool true)] ∧ St M w0 w [osl K_api_OperatingPoint v16 s12, bx b17 45 [.int .i64 s14.Up, .int .i64 s14.Down, .int .i64 s14.Samples]]) (fun Q30 hJ30 hR30 hX30 => ?_) (fun a w hJ => ?_)
          · replace H := H30
            refine itt H (fun hc31 H => ?_) (fun hc31 H => ?_)
            · -- s26.2 = 0
              refine region_k (fun K32 hK32 => ?_)
              refine stq hf rfl rfl rfl (ex_move hf rfl) (fun a hf => ?_)
              refine stq hf rfl rfl rfl (ex_neq hf rfl rfl) (fun a hf => ?_)
              refine stq hf rfl rfl rfl (ex_move hf rfl) (fun a hf => ?_)
              replace hf := hf.castB (t := 42) rfl (ndec_f hc31)
              replace hf := hf.castB (t := 43) rfl (ndec_f hc31)
              refine stq hf rfl rfl rfl (ex_move hf rfl) (fun a hf => ?_)
              refine stq hf rfl rfl rfl (ex_eqp Try.underlying47 hf rfl rfl) (fun a hf => ?_)
              refine stq hf rfl rfl rfl (ex_pickF hf rfl rfl) (fun a hf => ?_)
              refine hK32 _ _ ?_
              have e30 := some_eq H; subst e30
              exact hJ30 _ _ ⟨hf.sub ⟨rfl, rfl, rfl, rfl, rfl, rfl, rfl, trivial⟩, hs⟩
            · -- not s26.2 = 0
              refine region_k (fun K33 hK33 => ?_)
              refine stq hf rfl rfl rfl (ex_move hf rfl) (fun a hf => ?_)
              refine stq hf rfl rfl rfl (ex_neq hf rfl rfl) (fun a hf => ?_)
              refine stq hf rfl rfl rfl (ex_move hf rfl) (fun a hf => ?_)
              replace hf := hf.castB (t := 42) rfl (ndec_t hc31)
              replace hf := hf.castB (t := 43) rfl (ndec_t hc31)
              refine stepN hf rfl rfl rfl (fun a hf => ?_)
              refine stepN hf rfl rfl rfl (fun a hf => ?_)
              refine stq hf rfl rfl rfl (ex_pickT hf rfl rfl) (fun a hf => ?_)
              refine hK33 _ _ ?_
              have e30 := some_eq H; subst e30
              exact hJ30 _ _ ⟨hf.sub ⟨rfl, rfl, rfl, rfl, rfl, rfl, rfl, trivial⟩, hs⟩
          · obtain ⟨hf, hs⟩ := hJ
            replace H := HO30
            clear HO30
            refine cond_T hf rfl ?_
            refine seq_reg (fun K34 hK34 => ?_)
            refine stq hf rfl rfl rfl (ex_assign hf rfl) (fun a hf => ?_)
            refine hK34 _ _ ?_
            refine wp_ret ?_
            refine hR29 _ _ ?_
            have eR := some_eq H; subst eR
            replace hs := hs.keep (.d (.d .nil))
            exact ret1 Try.results11 hf rfl ⟨_, rfl, ⟨rfl, hs⟩⟩
        | some c27 =>
          replace H := elim_s hps26 H
          refine region_k (fun K37 hK37 => ?_)
          refine stq hf rfl rfl rfl (ex_move hf rfl) (fun a hf => ?_)
          refine stq hf rfl rfl rfl (ex_loadA (cs := [.int .i64 s14.Up, .int .i64 s14.Down, .int .i64 s14.Samples]) ag_45 hf rfl (bx_cells (hs.get (i := 1) rfl) rfl)) (fun a hf => ?_)
          refine stepF hf rfl rfl rfl (ex_call cf_25 hf rfl) (perf_New.calls k s12 s14 v16 (hs.enter (.k (.k .nil))) (Sr.own hs (.k (.k .nil)) (i := 0) rfl osl_rsl (fun _ h => h.1) (Sr.nil _ _)) hs26) (fun v w hR a hf => ?_)
          obtain ⟨hc', _⟩ | ⟨cc, hc', b35, v36, rfl, hs'⟩ := hR
          case inl => rw [hps26] at hc'; cases hc'
          obtain rfl : c27 = cc := by rw [hps26] at hc'; exact Option.some.inj hc'
          replace hs := hs.step (.k (.k .nil)) hs'
          clear hs'
          refine stq hf rfl rfl rfl (ex_move hf rfl) (fun a hf => ?_)
          refine stq hf rfl rfl rfl (ex_extract hf rfl rfl) (fun a hf => ?_)
          refine stq hf rfl rfl rfl (ex_extract hf rfl rfl) (fun a hf => ?_)
          refine stq hf rfl rfl rfl (ex_assign hf rfl) (fun a hf => ?_)
          refine stq hf rfl rfl rfl (ex_assign hf rfl) (fun a hf => ?_)
          refine hK37 _ _ ?_
          refine hN25 _ _ ?_
          refine seq_n (fun Q38 hN38 hR38 hX38 => ?_)
          refine bnd H (fun x39 H39 HO39 => ?_)
          clear H
          refine seq_cut (fun a w => Fr a 156 [(2, .int .i64 a2), (3, .int .i64 a3), (4, v4), (11, v16), (12, .pointer (some ⟨b17, 0, none⟩)), (13, .pointer (some ⟨b35, 0, none⟩)), (46, .bool x39)] ∧ St M w0 w [osl K_api_OperatingPoint v16 s12, bx b17 45 [.int .i64 s14.Up, .int .i64 s14.Down, .int .i64 s14.Samples], bx b35 66 [v36, .int .i64 c27.2.1, .int .i64 c27.2.2.1, .int .i64 c27.2.2.2.1, .int .i64 c27.2.2.2.2.1, .int .i64 c27.2.2.2.2.2.1, .int .i64 c27.2.2.2.2.2.2.1, .int .i64 c27.2.2.2.2.2.2.2], osl K_api_OperatingPoint v36 c27.1]) (fun Q39 hJ39 hR39 hX39 => ?_) (fun a w hJ => ?_)
          · replace H := H39
            refine itt H (fun hc40 H => ?_) (fun hc40 H => ?_)
            · -- s26.2 = 0
              refine region_k (fun K41 hK41 => ?_)
              refine stq hf rfl rfl rfl (ex_move hf rfl) (fun a hf => ?_)
              refine stq hf rfl rfl rfl (ex_neq hf rfl rfl) (fun a hf => ?_)
              refine stq hf rfl rfl rfl (ex_move hf rfl) (fun a hf => ?_)
              replace hf := hf.castB (t := 42) rfl (ndec_f hc40)
              replace hf := hf.castB (t := 43) rfl (ndec_f hc40)
              refine stq hf rfl rfl rfl (ex_move hf rfl) (fun a hf => ?_)
              refine stq hf rfl rfl rfl (ex_eqp Try.underlying47 hf rfl rfl) (fun a hf => ?_)
              refine stq hf rfl rfl rfl (ex_pickF hf rfl rfl) (fun a hf => ?_)
              refine hK41 _ _ ?_
              replace hs := hs.pick (.k (.c (.k (.k .nil))))
              replace hs := hs.pick (.k (.c (.k (.k .nil))))
              replace hs := hs.pick (.k (.k (.k (.c .nil))))
              replace hs := hs.pick (.k (.k (.k (.c .nil))))
              have e39 := some_eq H; subst e39
              exact hJ39 _ _ ⟨hf.sub ⟨rfl, rfl, rfl, rfl, rfl, rfl, rfl, trivial⟩, hs⟩
            · -- not s26.2 = 0
              refine region_k (fun K42 hK42 => ?_)
              refine stq hf rfl rfl rfl (ex_move hf rfl) (fun a hf => ?_)
              refine stq hf rfl rfl rfl (ex_neq hf rfl rfl) (fun a hf => ?_)
              refine stq hf rfl rfl rfl (ex_move hf rfl) (fun a hf => ?_)
              replace hf := hf.castB (t := 42) rfl (ndec_t hc40)
              replace hf := hf.castB (t := 43) rfl (ndec_t hc40)
              refine stepN hf rfl rfl rfl (fun a hf => ?_)
              refine stepN hf rfl rfl rfl (fun a hf => ?_)
              refine stq hf rfl rfl rfl (ex_pickT hf rfl rfl) (fun a hf => ?_)
              refine hK42 _ _ ?_
              replace hs := hs.pick (.k (.c (.k (.k .nil))))
              replace hs := hs.pick (.k (.c (.k (.k .nil))))
              replace hs := hs.pick (.k (.k (.k (.c .nil))))
              replace hs := hs.pick (.k (.k (.k (.c .nil))))
              have e39 := some_eq H; subst e39
              exact hJ39 _ _ ⟨hf.sub ⟨rfl, rfl, rfl, rfl, rfl, rfl, rfl, trivial⟩, hs⟩
          · obtain ⟨hf, hs⟩ := hJ
            replace H := HO39
            clear HO39
            refine itt H (fun hc43 H => ?_) (fun hc43 H => ?_)
            · -- x39 = true
              replace hf := hf.castB (t := 46) rfl hc43
              refine cond_T hf rfl ?_
              refine seq_reg (fun K44 hK44 => ?_)
              refine stq hf rfl rfl rfl (ex_assign hf rfl) (fun a hf => ?_)
              refine hK44 _ _ ?_
              refine wp_ret ?_
              refine hR38 _ _ ?_
              have eR := some_eq H; subst eR
              replace hs := hs.keep (.d (.d (.d (.d .nil))))
              exact ret1 Try.results11 hf rfl ⟨_, rfl, ⟨rfl, hs⟩⟩
            · -- not x39 = true
              replace hf := hf.castB (t := 46) rfl (bool_f hc43)
              refine cond_F hf rfl ?_
              refine wp_skip ?_
              refine hN38 _ _ ?_
              refine bnd H (fun s45 hs45 H => ?_)
              refine seq_reg (fun K46 hK46 => ?_)
              refine stq hf rfl rfl rfl (ex_move hf rfl) (fun a hf => ?_)
              refine stq hf rfl rfl rfl (ex_move hf rfl) (fun a hf => ?_)
              refine stq hf rfl rfl rfl (ex_lenS Try.underlying22 (rsl_isSl (osl_rsl _ (hs.get (i := 0) rfl))) hf rfl) (fun a hf => ?_)
              refine stepF hf rfl rfl rfl (ex_call cf_14 hf rfl) (help_Mod.calls k a2 (s12.length : Int) (hs.enter (.k (.k (.k (.k .nil))))) (Sr.nil _ _) hs45) (fun v w hR a hf => ?_)
              obtain ⟨rfl, hs'⟩ := hR
              replace hs := hs.step (.k (.k (.k (.k .nil)))) hs'
              clear hs'
              refine stq hf rfl rfl rfl (ex_assign hf rfl) (fun a hf => ?_)
              refine hK46 _ _ ?_
              refine bnd H (fun s47 hs47 H => ?_)
              refine seq_reg (fun K48 hK48 => ?_)
              refine stq hf rfl rfl rfl (ex_move hf rfl) (fun a hf => ?_)
              refine stq hf rfl rfl rfl (ex_move hf rfl) (fun a hf => ?_)
              refine stq hf rfl rfl rfl (ex_move hf rfl) (fun a hf => ?_)
              refine stq hf rfl rfl rfl (ex_lenS Try.underlying22 (rsl_isSl (osl_rsl _ (hs.get (i := 0) rfl))) hf rfl) (fun a hf => ?_)
              refine stq hf rfl rfl rfl (ex_move hf rfl) (fun a hf => ?_)
              refine stq hf rfl rfl rfl (ex_sub hf rfl rfl) (fun a hf => ?_)
              refine stepF hf rfl rfl rfl (ex_call cf_14 hf rfl) (help_Mod.calls k a3 (IntKind.i64.wrap ((s12.length : Int) - s45)) (hs.enter (.k (.k (.k (.k .nil))))) (Sr.nil _ _) hs47) (fun v w hR a hf => ?_)
              obtain ⟨rfl, hs'⟩ := hR
              replace hs := hs.step (.k (.k (.k (.k .nil)))) hs'
              clear hs'
              refine stq hf rfl rfl rfl (ex_add hf rfl rfl) (fun a hf => ?_)
              refine stq hf rfl rfl rfl (ex_assign hf rfl) (fun a hf => ?_)
              refine hK48 _ _ ?_
              refine seq_n (fun Q49 hN49 hR49 hX49 => ?_)
              refine bnd H (fun s50 hs50 H => ?_)
              refine seq_reg (fun K51 hK51 => ?_)
              refine stq hf rfl rfl rfl (ex_move hf rfl) (fun a hf => ?_)
              refine stq hf rfl rfl rfl (ex_move hf rfl) (fun a hf => ?_)
              refine stq hf rfl rfl rfl (ex_move hf rfl) (fun a hf => ?_)
              refine stepF hf rfl rfl rfl (ex_call cf_29 hf rfl) (perf_Governor_Limit.calls k c27.1 c27.2.1 c27.2.2.1 c27.2.2.2.1 c27.2.2.2.2.1 c27.2.2.2.2.2.1 c27.2.2.2.2.2.2.1 c27.2.2.2.2.2.2.2 s45 (IntKind.i64.wrap (s45 + s47)) b35 v36 (hs.enter (.k (.k (.c (.k .nil))))) (Sr.own hs (.k (.k (.c (.k .nil)))) (i := 2) rfl osl_rsl (fun _ h => h.1) (Sr.nil _ _)) hs50) (fun v w hR a hf => ?_)
              obtain ⟨rfl, hs'⟩ := hR
              replace hs := hs.step (.k (.k (.c (.k .nil)))) hs'
              clear hs'
              refine stq hf rfl rfl rfl (ex_neq hf rfl rfl) (fun a hf => ?_)
              refine hK51 _ _ ?_
              refine itt H (fun hc52 H => ?_) (fun hc52 H => ?_)
              · -- s50.2.2.2.2 = 0
                replace hf := hf.castB (t := 63) rfl (ndec_f hc52)
                refine cond_F hf rfl ?_
                refine wp_skip ?_
                refine hN49 _ _ ?_
                refine bnd H (fun x53 H53 HO53 => ?_)
                clear H
                refine seq_cut (fun a w => ∃ (x53s : Unit), x53 = .go x53s ∧ Fr a 156 [] ∧ St M w0 w []) (fun Q53 hJ53 hR53 hX53 => ?_) (fun a w hJ => ?_)
                · replace H := H53
                  refine seq_reg (fun K54 hK54 => ?_)
                  refine stq hf rfl rfl rfl (ex_assign hf rfl) (fun a hf => ?_)
                  refine hK54 _ _ ?_
                  refine block_k (fun Q55 hN55 hR55 hX55 hY55 => ?_)
                  refine loop_k (fun n a w => ∃ (y56 : Int) (y57 : Int) (y58 : Int), Fr a 156 [(4, v4), (11, v16), (12, .pointer (some ⟨b17, 0, none⟩)), (13, .pointer (some ⟨b35, 0, none⟩)), (15, .int .i64 s45), (16, .int .i64 (IntKind.i64.wrap (s45 + s47))), (17, .int .i64 y58)] ∧ St M w0 w [osl K_api_OperatingPoint v16 s12, bx b17 45 [.int .i64 s14.Up, .int .i64 s14.Down, .int .i64 s14.Samples], bx b35 66 [v36, .int .i64 c27.2.1, .int .i64 c27.2.2.1, .int .i64 c27.2.2.2.1, .int .i64 s50.1, .int .i64 s50.2.1, .int .i64 y56, .int .i64 y57], osl K_api_OperatingPoint v36 c27.1] ∧ law36_PerfGovernorStaysPermitted.l1 n a4 c27 s50 s45 s47 s14 s12 y56 y57 y58 = some x53) k ?_ (fun n60 a w hI Q60 hL60 hR60 hX60 => ?_)
                  · -- at the start
                    replace hs := hs.pick (.k (.k (.k (.c .nil))))
                    replace hs := hs.pick (.k (.c (.k (.k .nil))))
                    replace hs := hs.pick (.k (.k (.k (.c .nil))))
                    replace hs := hs.pick (.k (.k (.k (.c .nil))))
                    exact ⟨s50.2.2.1, s50.2.2.2.1, 0, hf.sub ⟨rfl, rfl, rfl, rfl, rfl, rfl, rfl, trivial⟩, hs, H⟩
                  · obtain ⟨y56, y57, y58, hf, hs, H⟩ := hI
                    cases n60 with
                    | zero => exact absurd H (by rw [law36_PerfGovernorStaysPermitted.l1.eq_1]; intro h; cases h)
                    | succ k60 =>
                      replace H := (law36_PerfGovernorStaysPermitted.l1.eq_2 ..).symm.trans H
                      refine seq_n (fun Q61 hN61 hR61 hX61 => ?_)
                      refine seq_reg (fun K62 hK62 => ?_)
                      refine stq hf rfl rfl rfl (ex_move hf rfl) (fun a hf => ?_)
                      refine stq hf rfl rfl rfl (ex_move hf rfl) (fun a hf => ?_)
                      refine stq hf rfl rfl rfl (ex_lenS Try.underlying52 (rsl_isSl (hr.now hs (i := 1) rfl)) hf rfl) (fun a hf => ?_)
                      refine stq hf rfl rfl rfl (ex_lss hf rfl rfl) (fun a hf => ?_)
                      refine hK62 _ _ ?_
                      refine itt H (fun hc63 H => ?_) (fun hc63 H => ?_)
                      · -- y58 < (a4.length : Int)
                        replace hf := hf.castB (t := 67) rfl (dec_t hc63)
                        refine cond_T hf rfl ?_
                        refine wp_skip ?_
                        refine hN61 _ _ ?_
                        refine bnd H (fun x64 H64 HO64 => ?_)
                        clear H
                        refine seq_cut (fun a w => ∃ (x64s : Int × Int), x64 = .go x64s ∧ Fr a 156 [(4, v4), (11, v16), (12, .pointer (some ⟨b17, 0, none⟩)), (13, .pointer (some ⟨b35, 0, none⟩)), (15, .int .i64 s45), (16, .int .i64 (IntKind.i64.wrap (s45 + s47))), (17, .int .i64 y58)] ∧ St M w0 w [osl K_api_OperatingPoint v16 s12, bx b17 45 [.int .i64 s14.Up, .int .i64 s14.Down, .int .i64 s14.Samples], bx b35 66 [v36, .int .i64 c27.2.1, .int .i64 c27.2.2.1, .int .i64 c27.2.2.2.1, .int .i64 s50.1, .int .i64 s50.2.1, .int .i64 x64s.1, .int .i64 x64s.2], osl K_api_OperatingPoint v36 c27.1]) (fun Q64 hJ64 hR64 hX64 => ?_) (fun a w hJ => ?_)
                        · replace H := H64
                          refine block_k (fun Q65 hN65 hR65 hX65 hY65 => ?_)
                          refine seq_n (fun Q66 hN66 hR66 hX66 => ?_)
                          refine bnd H (fun s67 hs67 H => ?_)
                          refine ck_some H (fun hc68 H => ?_)
                          refine bnd H (fun s69 hs69 H => ?_)
                          refine region_d fol 8 [(4, v4), (11, v16), (12, .pointer (some ⟨b17, 0, none⟩)), (13, .pointer (some ⟨b35, 0, none⟩)), (15, .int .i64 s45), (16, .int .i64 (IntKind.i64.wrap (s45 + s47))), (17, .int .i64 y58)] [(0, .pointer (some ⟨b35, 0, none⟩)), (2, v4), (3, .int .i64 y58), (4, .pointer (some (sla v4 (y58.toNat * 1)))), (5, .int .i64 (gd 0 a4 y58))] [1, 6] (fun w => (rsl K_int v4 a4).ok w ∧ True) (fun w => St M w0 w [osl K_api_OperatingPoint v16 s12, bx b17 45 [.int .i64 s14.Up, .int .i64 s14.Down, .int .i64 s14.Samples], bx b35 66 [v36, .int .i64 c27.2.1, .int .i64 c27.2.2.1, .int .i64 c27.2.2.2.1, .int .i64 s50.1, .int .i64 s50.2.1, .int .i64 y56, .int .i64 y57], osl K_api_OperatingPoint v36 c27.1]) hf ⟨rfl, rfl, rfl, rfl, rfl, rfl, rfl, trivial⟩ (by kernel_rfl) (by kernel_rfl) rfl (by decide) ⟨hr.now hs.drew (i := 1) rfl, trivial⟩ hs.drew (.cons (⟨_, _, rfl, rfl, rfl, rfl, fun a w hR hf => .inl ⟨wanted_yes hf rfl, ex_move hf rfl⟩⟩) (.cons (⟨_, _, rfl, rfl, rfl, rfl, fun a w hR hf => .inl ⟨wanted_yes hf rfl, ex_move hf rfl⟩⟩) (.cons (⟨_, _, rfl, rfl, rfl, rfl, fun a w hR hf => .inl ⟨wanted_yes hf rfl, ex_move hf rfl⟩⟩) (.cons (⟨_, _, rfl, rfl, rfl, rfl, fun a w hR hf => .inl ⟨wanted_yes hf rfl, ex_indexAddr sa_52 (rsl_isSl hR.1) hc68.1 hc68.2 hf rfl rfl⟩⟩) (.cons (⟨_, _, rfl, rfl, rfl, rfl, fun a w hR hf => .inl ⟨wanted_yes hf rfl, ex_load sc_3 hf rfl (el_cell (K := K_int) (f := 0) (rsl_rd hR.1) hc68.1 hc68.2 rfl)⟩⟩) (.nil)))))) (fun K70 hK70 => ?_)
                          refine RW.one 1 (by kernel_rfl) (by kernel_rfl) rfl (fun d hd => by cases hd; rfl) [(70, .pointer (some ⟨b35, 0, none⟩))] ⟨rfl, trivial⟩ (fun a w hR hs hf => ⟨wanted_yes hf rfl, ?_⟩)
                          refine estep_f (ex_call cf_27 hf rfl) (perf_Governor_Current.calls k60 c27.1 c27.2.1 c27.2.2.1 c27.2.2.2.1 s50.1 s50.2.1 y56 y57 b35 v36 (hs.enter (.k (.k (.k (.k .nil))))) (Sr.own hs (.k (.k (.k (.k .nil)))) (i := 2) rfl (fun _ h => h) (fun _ h => h) (Sr.own hs (.k (.k (.k (.k .nil)))) (i := 3) rfl osl_rsl (fun _ h => h.1) (Sr.nil _ _))) hs67) (fun v w hR => ?_)
                          obtain ⟨rfl, hs'⟩ := hR
                          replace hs := hs.step (.k (.k (.k (.k .nil)))) hs'
                          clear hs'
                          refine ⟨[], [(1, .int .i64 s67), (0, .pointer (some ⟨b35, 0, none⟩)), (2, v4), (3, .int .i64 y58), (4, .pointer (some (sla v4 (y58.toNat * 1)))), (5, .int .i64 (gd 0 a4 y58))], [6], (fun _ => True), (fun w => St M w0 w [osl K_api_OperatingPoint v16 s12, bx b17 45 [.int .i64 s14.Up, .int .i64 s14.Down, .int .i64 s14.Samples], bx b35 66 [v36, .int .i64 c27.2.1, .int .i64 c27.2.2.1, .int .i64 c27.2.2.2.1, .int .i64 s50.1, .int .i64 s50.2.1, .int .i64 y56, .int .i64 y57], osl K_api_OperatingPoint v36 c27.1]), rfl, rfl, ⟨hr.now hs (i := 1) rfl, trivial⟩, trivial, hs, (by kernel_rfl), .nil, ?_⟩
                          refine RW.one 6 (by kernel_rfl) (by kernel_rfl) rfl (fun d hd => by cases hd; rfl) [(75, .int .i64 (gd 0 a4 y58))] ⟨rfl, trivial⟩ (fun a w hR hs hf => ⟨wanted_yes hf rfl, ?_⟩)
                          refine estep_f (ex_call cf_14 hf rfl) (help_Mod.calls k60 (gd 0 a4 y58) 101 (hs.enter (.k (.k (.k (.k .nil))))) (Sr.nil _ _) hs69) (fun v w hR => ?_)
                          obtain ⟨rfl, hs'⟩ := hR
                          replace hs := hs.step (.k (.k (.k (.k .nil)))) hs'
                          clear hs'
                          refine ⟨[(7, .int .i64 s67)], [(7, .int .i64 s67), (6, .int .i64 s69), (1, .int .i64 s67), (0, .pointer (some ⟨b35, 0, none⟩)), (2, v4), (3, .int .i64 y58), (4, .pointer (some (sla v4 (y58.toNat * 1)))), (5, .int .i64 (gd 0 a4 y58))], [], (fun _ => True), (fun w => St M w0 w [osl K_api_OperatingPoint v16 s12, bx b17 45 [.int .i64 s14.Up, .int .i64 s14.Down, .int .i64 s14.Samples], bx b35 66 [v36, .int .i64 c27.2.1, .int .i64 c27.2.2.1, .int .i64 c27.2.2.2.1, .int .i64 s50.1, .int .i64 s50.2.1, .int .i64 y56, .int .i64 y57], osl K_api_OperatingPoint v36 c27.1]), rfl, rfl, ⟨⟨hr.now hs (i := 1) rfl, trivial⟩, trivial⟩, trivial, hs, (by kernel_rfl), .cons (⟨_, _, rfl, rfl, rfl, rfl, fun a w hR hf => .inl ⟨wanted_yes hf rfl, ex_assign hf rfl⟩⟩) (.nil), ?_⟩
                          refine RW.zero (by kernel_rfl) (by kernel_rfl) [(4, v4), (11, v16), (12, .pointer (some ⟨b17, 0, none⟩)), (13, .pointer (some ⟨b35, 0, none⟩)), (15, .int .i64 s45), (16, .int .i64 (IntKind.i64.wrap (s45 + s47))), (17, .int .i64 y58), (18, .int .i64 s67), (76, .int .i64 s69)] ⟨rfl, rfl, rfl, rfl, rfl, rfl, rfl, rfl, rfl, trivial⟩ (fun a w hR hs hf => ?_)
                          refine stq hf rfl rfl rfl (ex_assign hf rfl) (fun a hf => ?_)
                          refine hK70 _ _ ?_
                          refine hN66 _ _ ?_
                          refine bnd H (fun s71 hs71 H => ?_)
                          refine seq_reg (fun K72 hK72 => ?_)
                          refine stq hf rfl rfl rfl (ex_move hf rfl) (fun a hf => ?_)
                          refine stq hf rfl rfl rfl (ex_move hf rfl) (fun a hf => ?_)
                          refine stepF hf rfl rfl rfl (ex_call cf_26 hf rfl) (perf_Governor_Sample.calls k60 c27.1 c27.2.1 c27.2.2.1 c27.2.2.2.1 s50.1 s50.2.1 y56 y57 s69 b35 v36 (hs.enter (.k (.k (.c (.k .nil))))) (Sr.own hs (.k (.k (.c (.k .nil)))) (i := 2) rfl osl_rsl (fun _ h => h.1) (Sr.nil _ _)) hs71) (fun v w hR a hf => ?_)
                          obtain ⟨rfl, hs'⟩ := hR
                          replace hs := hs.step (.k (.k (.c (.k .nil)))) hs'
                          clear hs'
                          refine stq hf rfl rfl rfl (ex_move hf rfl) (fun a hf => ?_)
                          refine stq hf rfl rfl rfl (ex_extract hf rfl rfl) (fun a hf => ?_)
                          refine stq hf rfl rfl rfl (ex_extract hf rfl rfl) (fun a hf => ?_)
                          refine stq hf rfl rfl rfl (ex_assign hf rfl) (fun a hf => ?_)
                          refine stq hf rfl rfl rfl (ex_assign hf rfl) (fun a hf => ?_)
                          refine hK72 _ _ ?_
                          refine seq_n (fun Q73 hN73 hR73 hX73 => ?_)
                          refine bnd H (fun x74 H74 HO74 => ?_)
                          clear H
                          refine seq_cut (fun a w => Fr a 156 [(4, v4), (11, v16), (12, .pointer (some ⟨b17, 0, none⟩)), (13, .pointer (some ⟨b35, 0, none⟩)), (15, .int .i64 s45), (16, .int .i64 (IntKind.i64.wrap (s45 + s47))), (17, .int .i64 y58), (18, .int .i64 s67), (19, .int .i64 s69), (20, .int .i64 s71.2.2.1), (110, .bool x74)] ∧ St M w0 w [osl K_api_OperatingPoint v16 s12, bx b17 45 [.int .i64 s14.Up, .int .i64 s14.Down, .int .i64 s14.Samples], bx b35 66 [v36, .int .i64 c27.2.1, .int .i64 c27.2.2.1, .int .i64 c27.2.2.2.1, .int .i64 s50.1, .int .i64 s50.2.1, .int .i64 s71.1, .int .i64 s71.2.1], osl K_api_OperatingPoint v36 c27.1]) (fun Q74 hJ74 hR74 hX74 => ?_) (fun a w hJ => ?_)
                          · replace H := H74
                            refine itt H (fun hc75 H => ?_) (fun hc75 H => ?_)
                            · -- s71.2.2.2 = 0
                              refine bnd H (fun s76 hs76 H => ?_)
                              refine itt H (fun hc77 H => ?_) (fun hc77 H => ?_)
                              · -- s71.2.2.1 = s76
                                refine itt H (fun hc78 H => ?_) (fun hc78 H => ?_)
                                · -- s71.2.2.1 < s45
                                  refine region_k (fun K79 hK79 => ?_)
                                  refine stq hf rfl rfl rfl (ex_move hf rfl) (fun a hf => ?_)
                                  refine stq hf rfl rfl rfl (ex_neq hf rfl rfl) (fun a hf => ?_)
                                  refine stq hf rfl rfl rfl (ex_move hf rfl) (fun a hf => ?_)
                                  replace hf := hf.castB (t := 84) rfl (ndec_f hc75)
                                  replace hf := hf.castB (t := 85) rfl (ndec_f hc75)
                                  refine stq hf rfl rfl rfl (ex_move hf rfl) (fun a hf => ?_)
                                  refine stq hf rfl rfl rfl (ex_move hf rfl) (fun a hf => ?_)
                                  refine stepF hf rfl rfl rfl (ex_call cf_27 hf rfl) (perf_Governor_Current.calls k60 c27.1 c27.2.1 c27.2.2.1 c27.2.2.2.1 s50.1 s50.2.1 s71.1 s71.2.1 b35 v36 (hs.enter (.k (.k (.k (.k .nil))))) (Sr.own hs (.k (.k (.k (.k .nil)))) (i := 0) rfl (fun _ h => h) (fun _ h => h) (Sr.own hs (.k (.k (.k (.k .nil)))) (i := 3) rfl osl_rsl (fun _ h => h.1) (Sr.nil _ _))) hs76) (fun v w hR a hf => ?_)
                                  obtain ⟨rfl, hs'⟩ := hR
                                  replace hs := hs.step (.k (.k (.k (.k .nil)))) hs'
                                  clear hs'
                                  refine stq hf rfl rfl rfl (ex_neq hf rfl rfl) (fun a hf => ?_)
                                  refine stq hf rfl rfl rfl (ex_pickF hf rfl rfl) (fun a hf => ?_)
                                  refine stq hf rfl rfl rfl (ex_move hf rfl) (fun a hf => ?_)
                                  replace hf := hf.castB (t := 89) rfl (ndec_f hc77)
                                  replace hf := hf.castB (t := 90) rfl (ndec_f hc77)
                                  replace hf := hf.castB (t := 91) rfl (ndec_f hc77)
                                  refine stq hf rfl rfl rfl (ex_move hf rfl) (fun a hf => ?_)
                                  refine stq hf rfl rfl rfl (ex_move hf rfl) (fun a hf => ?_)
                                  refine stq hf rfl rfl rfl (ex_lss hf rfl rfl) (fun a hf => ?_)
                                  refine stq hf rfl rfl rfl (ex_pickF hf rfl rfl) (fun a hf => ?_)
                                  refine stq hf rfl rfl rfl (ex_move hf rfl) (fun a hf => ?_)
                                  replace hf := hf.castB (t := 94) rfl (dec_t hc78)
                                  replace hf := hf.castB (t := 95) rfl (dec_t hc78)
                                  replace hf := hf.castB (t := 96) rfl (dec_t hc78)
                                  refine stepN hf rfl rfl rfl (fun a hf => ?_)
                                  refine stepN hf rfl rfl rfl (fun a hf => ?_)
                                  refine stepN hf rfl rfl rfl (fun a hf => ?_)
                                  refine stq hf rfl rfl rfl (ex_pickT hf rfl rfl) (fun a hf => ?_)
                                  refine stq hf rfl rfl rfl (ex_move hf rfl) (fun a hf => ?_)
                                  refine stepN hf rfl rfl rfl (fun a hf => ?_)
                                  refine stepN hf rfl rfl rfl (fun a hf => ?_)
                                  refine stepN hf rfl rfl rfl (fun a hf => ?_)
                                  refine stq hf rfl rfl rfl (ex_pickT hf rfl rfl) (fun a hf => ?_)
                                  refine stq hf rfl rfl rfl (ex_move hf rfl) (fun a hf => ?_)
                                  refine stepN hf rfl rfl rfl (fun a hf => ?_)
                                  refine stepN hf rfl rfl rfl (fun a hf => ?_)
                                  refine stepN hf rfl rfl rfl (fun a hf => ?_)
                                  refine stq hf rfl rfl rfl (ex_pickT hf rfl rfl) (fun a hf => ?_)
                                  refine hK79 _ _ ?_
                                  replace hs := hs.pick (.k (.k (.k (.c .nil))))
                                  replace hs := hs.pick (.k (.c (.k (.k .nil))))
                                  replace hs := hs.pick (.k (.k (.k (.c .nil))))
                                  replace hs := hs.pick (.k (.k (.k (.c .nil))))
                                  have e74 := some_eq H; subst e74
                                  exact hJ74 _ _ ⟨hf.sub ⟨rfl, rfl, rfl, rfl, rfl, rfl, rfl, rfl, rfl, rfl, rfl, trivial⟩, hs⟩
                                · -- not s71.2.2.1 < s45
                                  refine itt H (fun hc80 H => ?_) (fun hc80 H => ?_)
                                  · -- (IntKind.i64.wrap (s45 + s47)) < s71.2.2.1
                                    refine region_k (fun K81 hK81 => ?_)
                                    refine stq hf rfl rfl rfl (ex_move hf rfl) (fun a hf => ?_)
                                    refine stq hf rfl rfl rfl (ex_neq hf rfl rfl) (fun a hf => ?_)
                                    refine stq hf rfl rfl rfl (ex_move hf rfl) (fun a hf => ?_)
                                    replace hf := hf.castB (t := 84) rfl (ndec_f hc75)
                                    replace hf := hf.castB (t := 85) rfl (ndec_f hc75)
                                    refine stq hf rfl rfl rfl (ex_move hf rfl) (fun a hf => ?_)
                                    refine stq hf rfl rfl rfl (ex_move hf rfl) (fun a hf => ?_)
                                    refine stepF hf rfl rfl rfl (ex_call cf_27 hf rfl) (perf_Governor_Current.calls k60 c27.1 c27.2.1 c27.2.2.1 c27.2.2.2.1 s50.1 s50.2.1 s71.1 s71.2.1 b35 v36 (hs.enter (.k (.k (.k (.k .nil))))) (Sr.own hs (.k (.k (.k (.k .nil)))) (i := 0) rfl (fun _ h => h) (fun _ h => h) (Sr.own hs (.k (.k (.k (.k .nil)))) (i := 3) rfl osl_rsl (fun _ h => h.1) (Sr.nil _ _))) hs76) (fun v w hR a hf => ?_)
                                    obtain ⟨rfl, hs'⟩ := hR
                                    replace hs := hs.step (.k (.k (.k (.k .nil)))) hs'
                                    clear hs'
                                    refine stq hf rfl rfl rfl (ex_neq hf rfl rfl) (fun a hf => ?_)
                                    refine stq hf rfl rfl rfl (ex_pickF hf rfl rfl) (fun a hf => ?_)
                                    refine stq hf rfl rfl rfl (ex_move hf rfl) (fun a hf => ?_)
                                    replace hf := hf.castB (t := 89) rfl (ndec_f hc77)
                                    replace hf := hf.castB (t := 90) rfl (ndec_f hc77)
                                    replace hf := hf.castB (t := 91) rfl (ndec_f hc77)
                                    refine stq hf rfl rfl rfl (ex_move hf rfl) (fun a hf => ?_)
                                    refine stq hf rfl rfl rfl (ex_move hf rfl) (fun a hf => ?_)
                                    refine stq hf rfl rfl rfl (ex_lss hf rfl rfl) (fun a hf => ?_)
                                    refine stq hf rfl rfl rfl (ex_pickF hf rfl rfl) (fun a hf => ?_)
                                    refine stq hf rfl rfl rfl (ex_move hf rfl) (fun a hf => ?_)
                                    replace hf := hf.castB (t := 94) rfl (dec_f hc78)
                                    replace hf := hf.castB (t := 95) rfl (dec_f hc78)
                                    replace hf := hf.castB (t := 96) rfl (dec_f hc78)
                                    refine stq hf rfl rfl rfl (ex_move hf rfl) (fun a hf => ?_)
                                    refine stq hf rfl rfl rfl (ex_move hf rfl) (fun a hf => ?_)
                                    refine stq hf rfl rfl rfl (ex_gtr hf rfl rfl) (fun a hf => ?_)
                                    refine stq hf rfl rfl rfl (ex_pickF hf rfl rfl) (fun a hf => ?_)
                                    refine stq hf rfl rfl rfl (ex_move hf rfl) (fun a hf => ?_)
                                    replace hf := hf.castB (t := 99) rfl (dec_t hc80)
                                    replace hf := hf.castB (t := 100) rfl (dec_t hc80)
                                    replace hf := hf.castB (t := 101) rfl (dec_t hc80)
                                    refine stepN hf rfl rfl rfl (fun a hf => ?_)
                                    refine stepN hf rfl rfl rfl (fun a hf => ?_)
                                    refine stepN hf rfl rfl rfl (fun a hf => ?_)
                                    refine stq hf rfl rfl rfl (ex_pickT hf rfl rfl) (fun a hf => ?_)
                                    refine stq hf rfl rfl rfl (ex_move hf rfl) (fun a hf => ?_)
                                    refine stepN hf rfl rfl rfl (fun a hf => ?_)
                                    refine stepN hf rfl rfl rfl (fun a hf => ?_)
                                    refine stepN hf rfl rfl rfl (fun a hf => ?_)
                                    refine stq hf rfl rfl rfl (ex_pickT hf rfl rfl) (fun a hf => ?_)
                                    refine hK81 _ _ ?_
                                    replace hs := hs.pick (.k (.k (.k (.c .nil))))
                                    replace hs := hs.pick (.k (.c (.k (.k .nil))))
                                    replace hs := hs.pick (.k (.k (.k (.c .nil))))
                                    replace hs := hs.pick (.k (.k (.k (.c .nil))))
                                    have e74 := some_eq H; subst e74
                                    exact hJ74 _ _ ⟨hf.sub ⟨rfl, rfl, rfl, rfl, rfl, rfl, rfl, rfl, rfl, rfl, rfl, trivial⟩, hs⟩
                                  · -- not (IntKind.i64.wrap (s45 + s47)) < s71.2.2.1
                                    refine itt H (fun hc82 H => ?_) (fun hc82 H => ?_)
                                    · -- s67 < s45
                                      refine region_k (fun K83 hK83 => ?_)
                                      refine stq hf rfl rfl rfl (ex_move hf rfl) (fun a hf => ?_)
                                      refine stq hf rfl rfl rfl (ex_neq hf rfl rfl) (fun a hf => ?_)
                                      refine stq hf rfl rfl rfl (ex_move hf rfl) (fun a hf => ?_)
                                      replace hf := hf.castB (t := 84) rfl (ndec_f hc75)
                                      replace hf := hf.castB (t := 85) rfl (ndec_f hc75)
                                      refine stq hf rfl rfl rfl (ex_move hf rfl) (fun a hf => ?_)
                                      refine stq hf rfl rfl rfl (ex_move hf rfl) (fun a hf => ?_)
                                      refine stepF hf rfl rfl rfl (ex_call cf_27 hf rfl) (perf_Governor_Current.calls k60 c27.1 c27.2.1 c27.2.2.1 c27.2.2.2.1 s50.1 s50.2.1 s71.1 s71.2.1 b35 v36 (hs.enter (.k (.k (.k (.k .nil))))) (Sr.own hs (.k (.k (.k (.k .nil)))) (i := 0) rfl (fun _ h => h) (fun _ h => h) (Sr.own hs (.k (.k (.k (.k .nil)))) (i := 3) rfl osl_rsl (fun _ h => h.1) (Sr.nil _ _))) hs76) (fun v w hR a hf => ?_)
                                      obtain ⟨rfl, hs'⟩ := hR
                                      replace hs := hs.step (.k (.k (.k (.k .nil)))) hs'
                                      clear hs'
                                      refine stq hf rfl rfl rfl (ex_neq hf rfl rfl) (fun a hf => ?_)
                                      refine stq hf rfl rfl rfl (ex_pickF hf rfl rfl) (fun a hf => ?_)
                                      refine stq hf rfl rfl rfl (ex_move hf rfl) (fun a hf => ?_)
                                      replace hf := hf.castB (t := 89) rfl (ndec_f hc77)
                                      replace hf := hf.castB (t := 90) rfl (ndec_f hc77)
                                      replace hf := hf.castB (t := 91) rfl (ndec_f hc77)
                                      refine stq hf rfl rfl rfl (ex_move hf rfl) (fun a hf => ?_)
                                      refine stq hf rfl rfl rfl (ex_move hf rfl) (fun a hf => ?_)
                                      refine stq hf rfl rfl rfl (ex_lss hf rfl rfl) (fun a hf => ?_)
                                      refine stq hf rfl rfl rfl (ex_pickF hf rfl rfl) (fun a hf => ?_)
                                      refine stq hf rfl rfl rfl (ex_move hf rfl) (fun a hf => ?_)
                                      replace hf := hf.castB (t := 94) rfl (dec_f hc78)
                                      replace hf := hf.castB (t := 95) rfl (dec_f hc78)
                                      replace hf := hf.castB (t := 96) rfl (dec_f hc78)
                                      refine stq hf rfl rfl rfl (ex_move hf rfl) (fun a hf => ?_)
                                      refine stq hf rfl rfl rfl (ex_move hf rfl) (fun a hf => ?_)
                                      refine stq hf rfl rfl rfl (ex_gtr hf rfl rfl) (fun a hf => ?_)
                                      refine stq hf rfl rfl rfl (ex_pickF hf rfl rfl) (fun a hf => ?_)
                                      refine stq hf rfl rfl rfl (ex_move hf rfl) (fun a hf => ?_)
                                      replace hf := hf.castB (t := 99) rfl (dec_f hc80)
                                      replace hf := hf.castB (t := 100) rfl (dec_f hc80)
                                      replace hf := hf.castB (t := 101) rfl (dec_f hc80)
                                      refine stq hf rfl rfl rfl (ex_move hf rfl) (fun a hf => ?_)
                                      refine stq hf rfl rfl rfl (ex_move hf rfl) (fun a hf => ?_)
                                      refine stq hf rfl rfl rfl (ex_lss hf rfl rfl) (fun a hf => ?_)
                                      refine stq hf rfl rfl rfl (ex_pickF hf rfl rfl) (fun a hf => ?_)
                                      refine stq hf rfl rfl rfl (ex_move hf rfl) (fun a hf => ?_)
                                      replace hf := hf.castB (t := 104) rfl (dec_t hc82)
                                      replace hf := hf.castB (t := 105) rfl (dec_t hc82)
                                      replace hf := hf.castB (t := 106) rfl (dec_t hc82)
                                      refine stepN hf rfl rfl rfl (fun a hf => ?_)
                                      refine stepN hf rfl rfl rfl (fun a hf => ?_)
                                      refine stepN hf rfl rfl rfl (fun a hf => ?_)
                                      refine stq hf rfl rfl rfl (ex_pickT hf rfl rfl) (fun a hf => ?_)
                                      refine hK83 _ _ ?_
                                      replace hs := hs.pick (.k (.k (.k (.c .nil))))
                                      replace hs := hs.pick (.k (.c (.k (.k .nil))))
                                      replace hs := hs.pick (.k (.k (.k (.c .nil))))
                                      replace hs := hs.pick (.k (.k (.k (.c .nil))))
                                      have e74 := some_eq H; subst e74
                                      exact hJ74 _ _ ⟨hf.sub ⟨rfl, rfl, rfl, rfl, rfl, rfl, rfl, rfl, rfl, rfl, rfl, trivial⟩, hs⟩
                                    · -- not s67 < s45
                                      refine region_k (fun K84 hK84 => ?_)
                                      refine stq hf rfl rfl rfl (ex_move hf rfl) (fun a hf => ?_)
                                      refine stq hf rfl rfl rfl (ex_neq hf rfl rfl) (fun a hf => ?_)
                                      refine stq hf rfl rfl rfl (ex_move hf rfl) (fun a hf => ?_)
                                      replace hf := hf.castB (t := 84) rfl (ndec_f hc75)
                                      replace hf := hf.castB (t := 85) rfl (ndec_f hc75)
                                      refine stq hf rfl rfl rfl (ex_move hf rfl) (fun a hf => ?_)
                                      refine stq hf rfl rfl rfl (ex_move hf rfl) (fun a hf => ?_)
                                      refine stepF hf rfl rfl rfl (ex_call cf_27 hf rfl) (perf_Governor_Current.calls k60 c27.1 c27.2.1 c27.2.2.1 c27.2.2.2.1 s50.1 s50.2.1 s71.1 s71.2.1 b35 v36 (hs.enter (.k (.k (.k (.k .nil))))) (Sr.own hs (.k (.k (.k (.k .nil)))) (i := 0) rfl (fun _ h => h) (fun _ h => h) (Sr.own hs (.k (.k (.k (.k .nil)))) (i := 3) rfl osl_rsl (fun _ h => h.1) (Sr.nil _ _))) hs76) (fun v w hR a hf => ?_)
                                      obtain ⟨rfl, hs'⟩ := hR
                                      replace hs := hs.step (.k (.k (.k (.k .nil)))) hs'
                                      clear hs'
                                      refine stq hf rfl rfl rfl (ex_neq hf rfl rfl) (fun a hf => ?_)
                                      refine stq hf rfl rfl rfl (ex_pickF hf rfl rfl) (fun a hf => ?_)
                                      refine stq hf rfl rfl rfl (ex_move hf rfl) (fun a hf => ?_)
                                      replace hf := hf.castB (t := 89) rfl (ndec_f hc77)
                                      replace hf := hf.castB (t := 90) rfl (ndec_f hc77)
                                      replace hf := hf.castB (t := 91) rfl (ndec_f hc77)
                                      refine stq hf rfl rfl rfl (ex_move hf rfl) (fun a hf => ?_)
                                      refine stq hf rfl rfl rfl (ex_move hf rfl) (fun a hf => ?_)
                                      refine stq hf rfl rfl rfl (ex_lss hf rfl rfl) (fun a hf => ?_)
                                      refine stq hf rfl rfl rfl (ex_pickF hf rfl rfl) (fun a hf => ?_)
                                      refine stq hf rfl rfl rfl (ex_move hf rfl) (fun a hf => ?_)
                                      replace hf := hf.castB (t := 94) rfl (dec_f hc78)
                                      replace hf := hf.castB (t := 95) rfl (dec_f hc78)
                                      replace hf := hf.castB (t := 96) rfl (dec_f hc78)
                                      refine stq hf rfl rfl rfl (ex_move hf rfl) (fun a hf => ?_)
                                      refine stq hf rfl rfl rfl (ex_move hf rfl) (fun a hf => ?_)
                                      refine stq hf rfl rfl rfl (ex_gtr hf rfl rfl) (fun a hf => ?_)
                                      refine stq hf rfl rfl rfl (ex_pickF hf rfl rfl) (fun a hf => ?_)
                                      refine stq hf rfl rfl rfl (ex_move hf rfl) (fun a hf => ?_)
                                      replace hf := hf.castB (t := 99) rfl (dec_f hc80)
                                      replace hf := hf.castB (t := 100) rfl (dec_f hc80)
                                      replace hf := hf.castB (t := 101) rfl (dec_f hc80)
                                      refine stq hf rfl rfl rfl (ex_move hf rfl) (fun a hf => ?_)
                                      refine stq hf rfl rfl rfl (ex_move hf rfl) (fun a hf => ?_)
                                      refine stq hf rfl rfl rfl (ex_lss hf rfl rfl) (fun a hf => ?_)
                                      refine stq hf rfl rfl rfl (ex_pickF hf rfl rfl) (fun a hf => ?_)
                                      refine stq hf rfl rfl rfl (ex_move hf rfl) (fun a hf => ?_)
                                      replace hf := hf.castB (t := 104) rfl (dec_f hc82)
                                      replace hf := hf.castB (t := 105) rfl (dec_f hc82)
                                      replace hf := hf.castB (t := 106) rfl (dec_f hc82)
                                      refine stq hf rfl rfl rfl (ex_move hf rfl) (fun a hf => ?_)
                                      refine stq hf rfl rfl rfl (ex_move hf rfl) (fun a hf => ?_)
                                      refine stq hf rfl rfl rfl (ex_gtr hf rfl rfl) (fun a hf => ?_)
                                      refine stq hf rfl rfl rfl (ex_pickF hf rfl rfl) (fun a hf => ?_)
                                      refine hK84 _ _ ?_
                                      replace hs := hs.pick (.k (.k (.k (.c .nil))))
                                      replace hs := hs.pick (.k (.c (.k (.k .nil))))
                                      replace hs := hs.pick (.k (.k (.k (.c .nil))))
                                      replace hs := hs.pick (.k (.k (.k (.c .nil))))
                                      have e74 := some_eq H; subst e74
                                      exact hJ74 _ _ ⟨hf.sub ⟨rfl, rfl, rfl, rfl, rfl, rfl, rfl, rfl, rfl, rfl, rfl, trivial⟩, hs⟩
                              · -- not s71.2.2.1 = s76
                                refine region_k (fun K85 hK85 => ?_)
                                refine stq hf rfl rfl rfl (ex_move hf rfl) (fun a hf => ?_)
                                refine stq hf rfl rfl rfl (ex_neq hf rfl rfl) (fun a hf => ?_)
                                refine stq hf rfl rfl rfl (ex_move hf rfl) (fun a hf => ?_)
                                replace hf := hf.castB (t := 84) rfl (ndec_f hc75)
                                replace hf := hf.castB (t := 85) rfl (ndec_f hc75)
                                refine stq hf rfl rfl rfl (ex_move hf rfl) (fun a hf => ?_)
                                refine stq hf rfl rfl rfl (ex_move hf rfl) (fun a hf => ?_)
                                refine stepF hf rfl rfl rfl (ex_call cf_27 hf rfl) (perf_Governor_Current.calls k60 c27.1 c27.2.1 c27.2.2.1 c27.2.2.2.1 s50.1 s50.2.1 s71.1 s71.2.1 b35 v36 (hs.enter (.k (.k (.k (.k .nil))))) (Sr.own hs (.k (.k (.k (.k .nil)))) (i := 0) rfl (fun _ h => h) (fun _ h => h) (Sr.own hs (.k (.k (.k (.k .nil)))) (i := 3) rfl osl_rsl (fun _ h => h.1) (Sr.nil _ _))) hs76) (fun v w hR a hf => ?_)
                                obtain ⟨rfl, hs'⟩ := hR
                                replace hs := hs.step (.k (.k (.k (.k .nil)))) hs'
                                clear hs'
                                refine stq hf rfl rfl rfl (ex_neq hf rfl rfl) (fun a hf => ?_)
                                refine stq hf rfl rfl rfl (ex_pickF hf rfl rfl) (fun a hf => ?_)
                                refine stq hf rfl rfl rfl (ex_move hf rfl) (fun a hf => ?_)
                                replace hf := hf.castB (t := 89) rfl (ndec_t hc77)
                                replace hf := hf.castB (t := 90) rfl (ndec_t hc77)
                                replace hf := hf.castB (t := 91) rfl (ndec_t hc77)
                                refine stepN hf rfl rfl rfl (fun a hf => ?_)
                                refine stepN hf rfl rfl rfl (fun a hf => ?_)
                                refine stepN hf rfl rfl rfl (fun a hf => ?_)
                                refine stq hf rfl rfl rfl (ex_pickT hf rfl rfl) (fun a hf => ?_)
                                refine stq hf rfl rfl rfl (ex_move hf rfl) (fun a hf => ?_)
                                refine stepN hf rfl rfl rfl (fun a hf => ?_)
                                refine stepN hf rfl rfl rfl (fun a hf => ?_)
                                refine stepN hf rfl rfl rfl (fun a hf => ?_)
                                refine stq hf rfl rfl rfl (ex_pickT hf rfl rfl) (fun a hf => ?_)
                                refine stq hf rfl rfl rfl (ex_move hf rfl) (fun a hf => ?_)
                                refine stepN hf rfl rfl rfl (fun a hf => ?_)
                                refine stepN hf rfl rfl rfl (fun a hf => ?_)
                                refine stepN hf rfl rfl rfl (fun a hf => ?_)
                                refine stq hf rfl rfl rfl (ex_pickT hf rfl rfl) (fun a hf => ?_)
                                refine stq hf rfl rfl rfl (ex_move hf rfl) (fun a hf => ?_)
                                refine stepN hf rfl rfl rfl (fun a hf => ?_)
                                refine stepN hf rfl rfl rfl (fun a hf => ?_)
                                refine stepN hf rfl rfl rfl (fun a hf => ?_)
                                refine stq hf rfl rfl rfl (ex_pickT hf rfl rfl) (fun a hf => ?_)
                                refine hK85 _ _ ?_
                                replace hs := hs.pick (.k (.k (.k (.c .nil))))
                                replace hs := hs.pick (.k (.c (.k (.k .nil))))
                                replace hs := hs.pick (.k (.k (.k (.c .nil))))
                                replace hs := hs.pick (.k (.k (.k (.c .nil))))
                                have e74 := some_eq H; subst e74
                                exact hJ74 _ _ ⟨hf.sub ⟨rfl, rfl, rfl, rfl, rfl, rfl, rfl, rfl, rfl, rfl, rfl, trivial⟩, hs⟩
                            · -- not s71.2.2.2 = 0
                              refine region_k (fun K86 hK86 => ?_)
                              refine stq hf rfl rfl rfl (ex_move hf rfl) (fun a hf => ?_)
                              refine stq hf rfl rfl rfl (ex_neq hf rfl rfl) (fun a hf => ?_)
                              refine stq hf rfl rfl rfl (ex_move hf rfl) (fun a hf => ?_)
                              replace hf := hf.castB (t := 84) rfl (ndec_t hc75)
                              replace hf := hf.castB (t := 85) rfl (ndec_t hc75)
                              refine stepN hf rfl rfl rfl (fun a hf => ?_)
                              refine stepN hf rfl rfl rfl (fun a hf => ?_)
                              refine stepN hf rfl rfl rfl (fun a hf => ?_)
                              refine stepN hf rfl rfl rfl (fun a hf => ?_)
                              refine stq hf rfl rfl rfl (ex_pickT hf rfl rfl) (fun a hf => ?_)
                              refine stq hf rfl rfl rfl (ex_move hf rfl) (fun a hf => ?_)
                              refine stepN hf rfl rfl rfl (fun a hf => ?_)
                              refine stepN hf rfl rfl rfl (fun a hf => ?_)
                              refine stepN hf rfl rfl rfl (fun a hf => ?_)
                              refine stq hf rfl rfl rfl (ex_pickT hf rfl rfl) (fun a hf => ?_)
                              refine stq hf rfl rfl rfl (ex_move hf rfl) (fun a hf => ?_)
                              refine stepN hf rfl rfl rfl (fun a hf => ?_)
                              refine stepN hf rfl rfl rfl (fun a hf => ?_)
                              refine stepN hf rfl rfl rfl (fun a hf => ?_)
                              refine stq hf rfl rfl rfl (ex_pickT hf rfl rfl) (fun a hf => ?_)
                              refine stq hf rfl rfl rfl (ex_move hf rfl) (fun a hf => ?_)
                              refine stepN hf rfl rfl rfl (fun a hf => ?_)
                              refine stepN hf rfl rfl rfl (fun a hf => ?_)
                              refine stepN hf rfl rfl rfl (fun a hf => ?_)
                              refine stq hf rfl rfl rfl (ex_pickT hf rfl rfl) (fun a hf => ?_)
                              refine stq hf rfl rfl rfl (ex_move hf rfl) (fun a hf => ?_)
                              refine stepN hf rfl rfl rfl (fun a hf => ?_)
                              refine stepN hf rfl rfl rfl (fun a hf => ?_)
                              refine stepN hf rfl rfl rfl (fun a hf => ?_)
                              refine stq hf rfl rfl rfl (ex_pickT hf rfl rfl) (fun a hf => ?_)
                              refine hK86 _ _ ?_
                              replace hs := hs.pick (.k (.k (.k (.c .nil))))
                              replace hs := hs.pick (.k (.c (.k (.k .nil))))
                              replace hs := hs.pick (.k (.k (.k (.c .nil))))
                              replace hs := hs.pick (.k (.k (.k (.c .nil))))
                              have e74 := some_eq H; subst e74
                              exact hJ74 _ _ ⟨hf.sub ⟨rfl, rfl, rfl, rfl, rfl, rfl, rfl, rfl, rfl, rfl, rfl, trivial⟩, hs⟩
                          · obtain ⟨hf, hs⟩ := hJ
                            replace H := HO74
                            clear HO74
                            refine itt H (fun hc87 H => ?_) (fun hc87 H => ?_)
                            · -- x74 = true
                              replace hf := hf.castB (t := 110) rfl hc87
                              refine cond_T hf rfl ?_
                              refine seq_reg (fun K88 hK88 => ?_)
                              refine stq hf rfl rfl rfl (ex_assign hf rfl) (fun a hf => ?_)
                              refine hK88 _ _ ?_
                              refine wp_ret ?_
                              refine hR73 _ _ ?_
                              refine hR65 _ _ ?_
                              have e64 := some_eq H; subst e64; replace H := el_rt HO64
                              refine hR64 _ _ ?_
                              refine hR60 _ _ ?_
                              refine hR55 _ _ ?_
                              have e53 := some_eq H; subst e53; replace H := el_rt HO53
                              refine hR53 _ _ ?_
                              have eR := some_eq H; subst eR
                              replace hs := hs.keep (.d (.d (.d (.d .nil))))
                              exact ret1 Try.results11 hf rfl ⟨_, rfl, ⟨rfl, hs⟩⟩
                            · -- not x74 = true
                              replace hf := hf.castB (t := 110) rfl (bool_f hc87)
                              refine cond_F hf rfl ?_
                              refine wp_skip ?_
                              refine hN73 _ _ ?_
                              refine block_k (fun Q89 hN89 hR89 hX89 hY89 => ?_)
                              refine seq_reg (fun K90 hK90 => ?_)
                              refine stq hf rfl rfl rfl (ex_move hf rfl) (fun a hf => ?_)
                              refine stq hf rfl rfl rfl (ex_fieldAddrB fa_45_0 rfl hf rfl) (fun a hf => ?_)
                              refine stq hf rfl rfl rfl (ex_load sc_3 hf rfl (bx_cell (hs.get (i := 1) rfl) _ rfl)) (fun a hf => ?_)
                              refine stq hf rfl rfl rfl (ex_gtr hf rfl rfl) (fun a hf => ?_)
                              refine stq hf rfl rfl rfl (ex_assign hf rfl) (fun a hf => ?_)
                              refine hK90 _ _ ?_
                              refine itt H (fun hc91 H => ?_) (fun hc91 H => ?_)
                              · -- s14.Up < s69
                                replace hf := hf.castB (t := 143) rfl (dec_t hc91)
                                replace hf := hf.castB (t := 139) rfl (dec_t hc91)
                                refine cond_T hf rfl ?_
                                refine seq_reg (fun K92 hK92 => ?_)
                                refine stq hf rfl rfl rfl (ex_move hf rfl) (fun a hf => ?_)
                                refine stq hf rfl rfl rfl (ex_move hf rfl) (fun a hf => ?_)
                                refine stq hf rfl rfl rfl (ex_neq hf rfl rfl) (fun a hf => ?_)
                                refine hK92 _ _ ?_
                                refine itt H (fun hc93 H => ?_) (fun hc93 H => ?_)
                                · -- s71.2.2.1 = (IntKind.i64.wrap (s45 + s47))
                                  replace hf := hf.castB (t := 146) rfl (ndec_f hc93)
                                  refine cond_F hf rfl ?_
                                  refine wp_skip ?_
                                  refine hN89 _ _ ?_
                                  refine hN65 _ _ ?_
                                  have e64 := some_eq H; subst e64
                                  exact hJ64 _ _ ⟨_, rfl, hf.sub ⟨rfl, rfl, rfl, rfl, rfl, rfl, rfl, trivial⟩, hs⟩
                                · -- not s71.2.2.1 = (IntKind.i64.wrap (s45 + s47))
                                  replace hf := hf.castB (t := 146) rfl (ndec_t hc93)
                                  refine cond_T hf rfl ?_
                                  refine seq_reg (fun K94 hK94 => ?_)
                                  refine stq hf rfl rfl rfl (ex_assign hf rfl) (fun a hf => ?_)
                                  refine hK94 _ _ ?_
                                  refine wp_ret ?_
                                  refine hR89 _ _ ?_
                                  refine hR65 _ _ ?_
                                  have e64 := some_eq H; subst e64; replace H := el_rt HO64
                                  refine hR64 _ _ ?_
                                  refine hR60 _ _ ?_
                                  refine hR55 _ _ ?_
                                  have e53 := some_eq H; subst e53; replace H := el_rt HO53
                                  refine hR53 _ _ ?_
                                  have eR := some_eq H; subst eR
                                  replace hs := hs.keep (.d (.d (.d (.d .nil))))
                                  exact ret1 Try.results11 hf rfl ⟨_, rfl, ⟨rfl, hs⟩⟩
                              · -- not s14.Up < s69
                                replace hf := hf.castB (t := 143) rfl (dec_f hc91)
                                replace hf := hf.castB (t := 139) rfl (dec_f hc91)
                                refine cond_F hf rfl ?_
                                refine seq_reg (fun K95 hK95 => ?_)
                                refine stq hf rfl rfl rfl (ex_move hf rfl) (fun a hf => ?_)
                                refine stq hf rfl rfl rfl (ex_fieldAddrB fa_45_1 rfl hf rfl) (fun a hf => ?_)
                                refine stq hf rfl rfl rfl (ex_load sc_3 hf rfl (bx_cell (hs.get (i := 1) rfl) _ rfl)) (fun a hf => ?_)
                                refine stq hf rfl rfl rfl (ex_geq hf rfl rfl) (fun a hf => ?_)
                                refine stq hf rfl rfl rfl (ex_assign hf rfl) (fun a hf => ?_)
                                refine hK95 _ _ ?_
                                refine itt H (fun hc96 H => ?_) (fun hc96 H => ?_)
                                · -- s14.Down ≤ s69
                                  replace hf := hf.castB (t := 151) rfl (dec_t hc96)
                                  replace hf := hf.castB (t := 147) rfl (dec_t hc96)
                                  refine cond_T hf rfl ?_
                                  refine seq_reg (fun K97 hK97 => ?_)
                                  refine stq hf rfl rfl rfl (ex_move hf rfl) (fun a hf => ?_)
                                  refine stq hf rfl rfl rfl (ex_move hf rfl) (fun a hf => ?_)
                                  refine stq hf rfl rfl rfl (ex_neq hf rfl rfl) (fun a hf => ?_)
                                  refine hK97 _ _ ?_
                                  refine itt H (fun hc98 H => ?_) (fun hc98 H => ?_)
                                  · -- s71.2.2.1 = s67
                                    replace hf := hf.castB (t := 154) rfl (ndec_f hc98)
                                    refine cond_F hf rfl ?_
                                    refine wp_skip ?_
                                    refine hN89 _ _ ?_
                                    refine hN65 _ _ ?_
                                    have e64 := some_eq H; subst e64
                                    exact hJ64 _ _ ⟨_, rfl, hf.sub ⟨rfl, rfl, rfl, rfl, rfl, rfl, rfl, trivial⟩, hs⟩
                                  · -- not s71.2.2.1 = s67
                                    replace hf := hf.castB (t := 154) rfl (ndec_t hc98)
                                    refine cond_T hf rfl ?_
                                    refine seq_reg (fun K99 hK99 => ?_)
                                    refine stq hf rfl rfl rfl (ex_assign hf rfl) (fun a hf => ?_)
                                    refine hK99 _ _ ?_
                                    refine wp_ret ?_
                                    refine hR89 _ _ ?_
                                    refine hR65 _ _ ?_
                                    have e64 := some_eq H; subst e64; replace H := el_rt HO64
                                    refine hR64 _ _ ?_
                                    refine hR60 _ _ ?_
                                    refine hR55 _ _ ?_
                                    have e53 := some_eq H; subst e53; replace H := el_rt HO53
                                    refine hR53 _ _ ?_
                                    have eR := some_eq H; subst eR
                                    replace hs := hs.keep (.d (.d (.d (.d .nil))))
                                    exact ret1 Try.results11 hf rfl ⟨_, rfl, ⟨rfl, hs⟩⟩
                                · -- not s14.Down ≤ s69
                                  replace hf := hf.castB (t := 151) rfl (dec_f hc96)
                                  replace hf := hf.castB (t := 147) rfl (dec_f hc96)
                                  refine cond_F hf rfl ?_
                                  refine bnd H (fun x100 H100 HO100 => ?_)
                                  clear H
                                  refine seq_cut (fun a w => Fr a 156 [(4, v4), (11, v16), (12, .pointer (some ⟨b17, 0, none⟩)), (13, .pointer (some ⟨b35, 0, none⟩)), (15, .int .i64 s45), (16, .int .i64 (IntKind.i64.wrap (s45 + s47))), (17, .int .i64 y58), (138, .bool x100)] ∧ St M w0 w [osl K_api_OperatingPoint v16 s12, bx b17 45 [.int .i64 s14.Up, .int .i64 s14.Down, .int .i64 s14.Samples], bx b35 66 [v36, .int .i64 c27.2.1, .int .i64 c27.2.2.1, .int .i64 c27.2.2.2.1, .int .i64 s50.1, .int .i64 s50.2.1, .int .i64 s71.1, .int .i64 s71.2.1], osl K_api_OperatingPoint v36 c27.1]) (fun Q100 hJ100 hR100 hX100 => ?_) (fun a w hJ => ?_)
                                  · replace H := H100
                                    refine itt H (fun hc101 H => ?_) (fun hc101 H => ?_)
                                    · -- s67 < s71.2.2.1
                                      refine region_d fol 28 [(4, v4), (11, v16), (12, .pointer (some ⟨b17, 0, none⟩)), (13, .pointer (some ⟨b35, 0, none⟩)), (15, .int .i64 s45), (16, .int .i64 (IntKind.i64.wrap (s45 + s47))), (17, .int .i64 y58), (18, .int .i64 s67), (19, .int .i64 s69), (20, .int .i64 s71.2.2.1)] [(0, .int .i64 s71.2.2.1), (1, .int .i64 s67), (2, .bool true), (3, .bool true), (4, undef), (5, undef), (6, undef), (7, undef), (8, undef), (9, undef), (10, undef), (11, undef), (12, undef), (13, undef), (14, undef), (15, undef), (16, undef), (17, undef), (18, undef), (19, undef), (20, undef), (21, undef), (22, undef), (23, undef), (24, undef), (25, undef), (26, undef), (27, .bool true)] [] (fun w => True) (fun w => St M w0 w [osl K_api_OperatingPoint v16 s12, bx b17 45 [.int .i64 s14.Up, .int .i64 s14.Down, .int .i64 s14.Samples], bx b35 66 [v36, .int .i64 c27.2.1, .int .i64 c27.2.2.1, .int .i64 c27.2.2.2.1, .int .i64 s50.1, .int .i64 s50.2.1, .int .i64 s71.1, .int .i64 s71.2.1], osl K_api_OperatingPoint v36 c27.1]) hf ⟨rfl, rfl, rfl, rfl, rfl, rfl, rfl, rfl, rfl, rfl, trivial⟩ (by kernel_rfl) (by kernel_rfl) rfl (by decide) trivial hs.drew (.cons (⟨_, _, rfl, rfl, rfl, rfl, fun a w hR hf => .inl ⟨wanted_yes hf rfl, ex_move hf rfl⟩⟩) (.cons (⟨_, _, rfl, rfl, rfl, rfl, fun a w hR hf => .inl ⟨wanted_yes hf rfl, ex_move hf rfl⟩⟩) (.cons (⟨_, _, rfl, rfl, rfl, rfl, fun a w hR hf => .inl ⟨wanted_yes hf rfl, ex_castB (ex_gtr hf rfl rfl) (dec_t hc101)⟩⟩) (.cons (⟨_, _, rfl, rfl, rfl, rfl, fun a w hR hf => .inl ⟨wanted_yes hf rfl, ex_move hf rfl⟩⟩) (.cons (⟨_, _, rfl, rfl, rfl, rfl, fun a w hR hf => .inr ⟨wanted_no hf rfl, rfl⟩⟩) (.cons (⟨_, _, rfl, rfl, rfl, rfl, fun a w hR hf => .inr ⟨wanted_no hf rfl, rfl⟩⟩) (.cons (⟨_, _, rfl, rfl, rfl, rfl, fun a w hR hf => .inr ⟨wanted_no hf rfl, rfl⟩⟩) (.cons (⟨_, _, rfl, rfl, rfl, rfl, fun a w hR hf => .inr ⟨wanted_no hf rfl, rfl⟩⟩) (.cons (⟨_, _, rfl, rfl, rfl, rfl, fun a w hR hf => .inr ⟨wanted_no hf rfl, rfl⟩⟩) (.cons (⟨_, _, rfl, rfl, rfl, rfl, fun a w hR hf => .inr ⟨wanted_no hf rfl, rfl⟩⟩) (.cons (⟨_, _, rfl, rfl, rfl, rfl, fun a w hR hf => .inr ⟨wanted_no hf rfl, rfl⟩⟩) (.cons (⟨_, _, rfl, rfl, rfl, rfl, fun a w hR hf => .inr ⟨wanted_no hf rfl, rfl⟩⟩) (.cons (⟨_, _, rfl, rfl, rfl, rfl, fun a w hR hf => .inr ⟨wanted_no hf rfl, rfl⟩⟩) (.cons (⟨_, _, rfl, rfl, rfl, rfl, fun a w hR hf => .inr ⟨wanted_no hf rfl, rfl⟩⟩) (.cons (⟨_, _, rfl, rfl, rfl, rfl, fun a w hR hf => .inr ⟨wanted_no hf rfl, rfl⟩⟩) (.cons (⟨_, _, rfl, rfl, rfl, rfl, fun a w hR hf => .inr ⟨wanted_no hf rfl, rfl⟩⟩) (.cons (⟨_, _, rfl, rfl, rfl, rfl, fun a w hR hf => .inr ⟨wanted_no hf rfl, rfl⟩⟩) (.cons (⟨_, _, rfl, rfl, rfl, rfl, fun a w hR hf => .inr ⟨wanted_no hf rfl, rfl⟩⟩) (.cons (⟨_, _, rfl, rfl, rfl, rfl, fun a w hR hf => .inr ⟨wanted_no hf rfl, rfl⟩⟩) (.cons (⟨_, _, rfl, rfl, rfl, rfl, fun a w hR hf => .inr ⟨wanted_no hf rfl, rfl⟩⟩) (.cons (⟨_, _, rfl, rfl, rfl, rfl, fun a w hR hf => .inr ⟨wanted_no hf rfl, rfl⟩⟩) (.cons (⟨_, _, rfl, rfl, rfl, rfl, fun a w hR hf => .inr ⟨wanted_no hf rfl, rfl⟩⟩) (.cons (⟨_, _, rfl, rfl, rfl, rfl, fun a w hR hf => .inr ⟨wanted_no hf rfl, rfl⟩⟩) (.cons (⟨_, _, rfl, rfl, rfl, rfl, fun a w hR hf => .inr ⟨wanted_no hf rfl, rfl⟩⟩) (.cons (⟨_, _, rfl, rfl, rfl, rfl, fun a w hR hf => .inr ⟨wanted_no hf rfl, rfl⟩⟩) (.cons (⟨_, _, rfl, rfl, rfl, rfl, fun a w hR hf => .inr ⟨wanted_no hf rfl, rfl⟩⟩) (.cons (⟨_, _, rfl, rfl, rfl, rfl, fun a w hR hf => .inr ⟨wanted_no hf rfl, rfl⟩⟩) (.cons (⟨_, _, rfl, rfl, rfl, rfl, fun a w hR hf => .inl ⟨wanted_yes hf rfl, ex_pickT hf rfl rfl⟩⟩) (.nil))))))))))))))))))))))))))))) (fun K102 hK102 => ?_)
                                      refine RW.zero (by kernel_rfl) (by kernel_rfl) [(4, v4), (11, v16), (12, .pointer (some ⟨b17, 0, none⟩)), (13, .pointer (some ⟨b35, 0, none⟩)), (15, .int .i64 s45), (16, .int .i64 (IntKind.i64.wrap (s45 + s47))), (17, .int .i64 y58), (138, .bool true)] ⟨rfl, rfl, rfl, rfl, rfl, rfl, rfl, rfl, trivial⟩ (fun a w hR hs hf => ?_)
                                      refine hK102 _ _ ?_
                                      have e100 := some_eq H; subst e100
                                      exact hJ100 _ _ ⟨hf.sub ⟨rfl, rfl, rfl, rfl, rfl, rfl, rfl, rfl, trivial⟩, hs⟩
                                    · -- not s67 < s71.2.2.1
                                      refine itt H (fun hc103 H => ?_) (fun hc103 H => ?_)
                                      · -- s71.2.2.1 < s67
                                        refine ck_some H (fun hc104 H => ?_)
                                        refine ck_some H (fun hc105 H => ?_)
                                        refine region_d fol 28 [(4, v4), (11, v16), (12, .pointer (some ⟨b17, 0, none⟩)), (13, .pointer (some ⟨b35, 0, none⟩)), (15, .int .i64 s45), (16, .int .i64 (IntKind.i64.wrap (s45 + s47))), (17, .int .i64 y58), (18, .int .i64 s67), (19, .int .i64 s69), (20, .int .i64 s71.2.2.1)] [(0, .int .i64 s71.2.2.1), (1, .int .i64 s67), (2, .bool false), (3, .bool false), (4, .int .i64 s71.2.2.1), (5, .int .i64 s67), (6, .bool true), (7, .bool true), (8, .int .i64 s69), (9, .int .u64 (IntKind.u64.wrap s69)), (10, v16), (11, .int .i64 s67), (12, .pointer (some (sla v16 (s67.toNat * 3)))), (13, .pointer (some (sla v16 (s67.toNat * 3 + 0)))), (14, .int .u64 ((gd OperatingPoint.zero s12 s67).Frequency)), (15, .int .u64 (IntKind.u64.wrap ((IntKind.u64.wrap s69) * ((gd OperatingPoint.zero s12 s67).Frequency)))), (16, .pointer (some ⟨b17, 0, none⟩)), (17, .int .i64 s14.Up), (18, .int .u64 (IntKind.u64.wrap s14.Up)), (19, v16), (20, .int .i64 s71.2.2.1), (21, .pointer (some (sla v16 (s71.2.2.1.toNat * 3)))), (22, .pointer (some (sla v16 (s71.2.2.1.toNat * 3 + 0)))), (23, .int .u64 ((gd OperatingPoint.zero s12 s71.2.2.1).Frequency)), (24, .int .u64 (IntKind.u64.wrap ((IntKind.u64.wrap s14.Up) * ((gd OperatingPoint.zero s12 s71.2.2.1).Frequency)))), (25, .bool (decide ((IntKind.u64.wrap ((IntKind.u64.wrap s14.Up) * ((gd OperatingPoint.zero s12 s71.2.2.1).Frequency))) < (IntKind.u64.wrap ((IntKind.u64.wrap s69) * ((gd OperatingPoint.zero s12 s67).Frequency)))))), (26, .bool (decide ((IntKind.u64.wrap ((IntKind.u64.wrap s14.Up) * ((gd OperatingPoint.zero s12 s71.2.2.1).Frequency))) < (IntKind.u64.wrap ((IntKind.u64.wrap s69) * ((gd OperatingPoint.zero s12 s67).Frequency)))))), (27, .bool (decide ((IntKind.u64.wrap ((IntKind.u64.wrap s14.Up) * ((gd OperatingPoint.zero s12 s71.2.2.1).Frequency))) < (IntKind.u64.wrap ((IntKind.u64.wrap s69) * ((gd OperatingPoint.zero s12 s67).Frequency))))))] [] (fun w => (osl K_api_OperatingPoint v16 s12).ok w ∧ (bx b17 45 [.int .i64 s14.Up, .int .i64 s14.Down, .int .i64 s14.Samples]).ok w ∧ True) (fun w => St M w0 w [osl K_api_OperatingPoint v16 s12, bx b17 45 [.int .i64 s14.Up, .int .i64 s14.Down, .int .i64 s14.Samples], bx b35 66 [v36, .int .i64 c27.2.1, .int .i64 c27.2.2.1, .int .i64 c27.2.2.2.1, .int .i64 s50.1, .int .i64 s50.2.1, .int .i64 s71.1, .int .i64 s71.2.1], osl K_api_OperatingPoint v36 c27.1]) hf ⟨rfl, rfl, rfl, rfl, rfl, rfl, rfl, rfl, rfl, rfl, trivial⟩ (by kernel_rfl) (by kernel_rfl) rfl (by decide) ⟨hs.drew.get (i := 0) rfl, hs.drew.get (i := 1) rfl, trivial⟩ hs.drew (.cons (⟨_, _, rfl, rfl, rfl, rfl, fun a w hR hf => .inl ⟨wanted_yes hf rfl, ex_move hf rfl⟩⟩) (.cons (⟨_, _, rfl, rfl, rfl, rfl, fun a w hR hf => .inl ⟨wanted_yes hf rfl, ex_move hf rfl⟩⟩) (.cons (⟨_, _, rfl, rfl, rfl, rfl, fun a w hR hf => .inl ⟨wanted_yes hf rfl, ex_castB (ex_gtr hf rfl rfl) (dec_f hc101)⟩⟩) (.cons (⟨_, _, rfl, rfl, rfl, rfl, fun a w hR hf => .inl ⟨wanted_yes hf rfl, ex_move hf rfl⟩⟩) (.cons (⟨_, _, rfl, rfl, rfl, rfl, fun a w hR hf => .inl ⟨wanted_yes hf rfl, ex_move hf rfl⟩⟩) (.cons (⟨_, _, rfl, rfl, rfl, rfl, fun a w hR hf => .inl ⟨wanted_yes hf rfl, ex_move hf rfl⟩⟩) (.cons (⟨_, _, rfl, rfl, rfl, rfl, fun a w hR hf => .inl ⟨wanted_yes hf rfl, ex_castB (ex_lss hf rfl rfl) (dec_t hc103)⟩⟩) (.cons (⟨_, _, rfl, rfl, rfl, rfl, fun a w hR hf => .inl ⟨wanted_yes hf rfl, ex_move hf rfl⟩⟩) (.cons (⟨_, _, rfl, rfl, rfl, rfl, fun a w hR hf => .inl ⟨wanted_yes hf rfl, ex_move hf rfl⟩⟩) (.cons (⟨_, _, rfl, rfl, rfl, rfl, fun a w hR hf => .inl ⟨wanted_yes hf rfl, ex_conv Try.underlying3 Try.underlying23 hf rfl⟩⟩) (.cons (⟨_, _, rfl, rfl, rfl, rfl, fun a w hR hf => .inl ⟨wanted_yes hf rfl, ex_move hf rfl⟩⟩) (.cons (⟨_, _, rfl, rfl, rfl, rfl, fun a w hR hf => .inl ⟨wanted_yes hf rfl, ex_move hf rfl⟩⟩) (.cons (⟨_, _, rfl, rfl, rfl, rfl, fun a w hR hf => .inl ⟨wanted_yes hf rfl, ex_indexAddr sa_22 (rsl_isSl (osl_rsl _ hR.1)) hc104.1 hc104.2 hf rfl rfl⟩⟩) (.cons (⟨_, _, rfl, rfl, rfl, rfl, fun a w hR hf => .inl ⟨wanted_yes hf rfl, ex_fieldAddrS fa_25_0 rfl hf rfl⟩⟩) (.cons (⟨_, _, rfl, rfl, rfl, rfl, fun a w hR hf => .inl ⟨wanted_yes hf rfl, ex_load sc_23 hf rfl (el_cell (K := K_api_OperatingPoint) (f := 0) (rsl_rd (osl_rsl _ hR.1)) hc104.1 hc104.2 rfl)⟩⟩) (.cons (⟨_, _, rfl, rfl, rfl, rfl, fun a w hR hf => .inl ⟨wanted_yes hf rfl, ex_mul hf rfl rfl⟩⟩) (.cons (⟨_, _, rfl, rfl, rfl, rfl, fun a w hR hf => .inl ⟨wanted_yes hf rfl, ex_fieldAddrB fa_45_0 rfl hf rfl⟩⟩) (.cons (⟨_, _, rfl, rfl, rfl, rfl, fun a w hR hf => .inl ⟨wanted_yes hf rfl, ex_load sc_3 hf rfl (bx_cell (hR.2.1) _ rfl)⟩⟩) (.cons (⟨_, _, rfl, rfl, rfl, rfl, fun a w hR hf => .inl ⟨wanted_yes hf rfl, ex_conv Try.underlying3 Try.underlying23 hf rfl⟩⟩) (.cons (⟨_, _, rfl, rfl, rfl, rfl, fun a w hR hf => .inl ⟨wanted_yes hf rfl, ex_move hf rfl⟩⟩) (.cons (⟨_, _, rfl, rfl, rfl, rfl, fun a w hR hf => .inl ⟨wanted_yes hf rfl, ex_move hf rfl⟩⟩) (.cons (⟨_, _, rfl, rfl, rfl, rfl, fun a w hR hf => .inl ⟨wanted_yes hf rfl, ex_indexAddr sa_22 (rsl_isSl (osl_rsl _ hR.1)) hc105.1 hc105.2 hf rfl rfl⟩⟩) (.cons (⟨_, _, rfl, rfl, rfl, rfl, fun a w hR hf => .inl ⟨wanted_yes hf rfl, ex_fieldAddrS fa_25_0 rfl hf rfl⟩⟩) (.cons (⟨_, _, rfl, rfl, rfl, rfl, fun a w hR hf => .inl ⟨wanted_yes hf rfl, ex_load sc_23 hf rfl (el_cell (K := K_api_OperatingPoint) (f := 0) (rsl_rd (osl_rsl _ hR.1)) hc105.1 hc105.2 rfl)⟩⟩) (.cons (⟨_, _, rfl, rfl, rfl, rfl, fun a w hR hf => .inl ⟨wanted_yes hf rfl, ex_mul hf rfl rfl⟩⟩) (.cons (⟨_, _, rfl, rfl, rfl, rfl, fun a w hR hf => .inl ⟨wanted_yes hf rfl, ex_gtr hf rfl rfl⟩⟩) (.cons (⟨_, _, rfl, rfl, rfl, rfl, fun a w hR hf => .inl ⟨wanted_yes hf rfl, ex_pickT hf rfl rfl⟩⟩) (.cons (⟨_, _, rfl, rfl, rfl, rfl, fun a w hR hf => .inl ⟨wanted_yes hf rfl, ex_pickF hf rfl rfl⟩⟩) (.nil))))))))))))))))))))))))))))) (fun K106 hK106 => ?_)
                                        refine RW.zero (by kernel_rfl) (by kernel_rfl) [(4, v4), (11, v16), (12, .pointer (some ⟨b17, 0, none⟩)), (13, .pointer (some ⟨b35, 0, none⟩)), (15, .int .i64 s45), (16, .int .i64 (IntKind.i64.wrap (s45 + s47))), (17, .int .i64 y58), (138, .bool (decide ((IntKind.u64.wrap ((IntKind.u64.wrap s14.Up) * ((gd OperatingPoint.zero s12 s71.2.2.1).Frequency))) < (IntKind.u64.wrap ((IntKind.u64.wrap s69) * ((gd OperatingPoint.zero s12 s67).Frequency))))))] ⟨rfl, rfl, rfl, rfl, rfl, rfl, rfl, rfl, trivial⟩ (fun a w hR hs hf => ?_)
                                        refine hK106 _ _ ?_
                                        have e100 := some_eq H; subst e100
                                        exact hJ100 _ _ ⟨hf.sub ⟨rfl, rfl, rfl, rfl, rfl, rfl, rfl, rfl, trivial⟩, hs⟩
                                      · -- not s71.2.2.1 < s67
                                        refine region_d fol 28 [(4, v4), (11, v16), (12, .pointer (some ⟨b17, 0, none⟩)), (13, .pointer (some ⟨b35, 0, none⟩)), (15, .int .i64 s45), (16, .int .i64 (IntKind.i64.wrap (s45 + s47))), (17, .int .i64 y58), (18, .int .i64 s67), (19, .int .i64 s69), (20, .int .i64 s71.2.2.1)] [(0, .int .i64 s71.2.2.1), (1, .int .i64 s67), (2, .bool false), (3, .bool false), (4, .int .i64 s71.2.2.1), (5, .int .i64 s67), (6, .bool false), (7, .bool false), (8, undef), (9, undef), (10, undef), (11, undef), (12, undef), (13, undef), (14, undef), (15, undef), (16, undef), (17, undef), (18, undef), (19, undef), (20, undef), (21, undef), (22, undef), (23, undef), (24, undef), (25, undef), (26, .bool false), (27, .bool false)] [] (fun w => (osl K_api_OperatingPoint v16 s12).ok w ∧ (bx b17 45 [.int .i64 s14.Up, .int .i64 s14.Down, .int .i64 s14.Samples]).ok w ∧ True) (fun w => St M w0 w [osl K_api_OperatingPoint v16 s12, bx b17 45 [.int .i64 s14.Up, .int .i64 s14.Down, .int .i64 s14.Samples], bx b35 66 [v36, .int .i64 c27.2.1, .int .i64 c27.2.2.1, .int .i64 c27.2.2.2.1, .int .i64 s50.1, .int .i64 s50.2.1, .int .i64 s71.1, .int .i64 s71.2.1], osl K_api_OperatingPoint v36 c27.1]) hf ⟨rfl, rfl, rfl, rfl, rfl, rfl, rfl, rfl, rfl, rfl, trivial⟩ (by kernel_rfl) (by kernel_rfl) rfl (by decide) ⟨hs.drew.get (i := 0) rfl, hs.drew.get (i := 1) rfl, trivial⟩ hs.drew (.cons (⟨_, _, rfl, rfl, rfl, rfl, fun a w hR hf => .inl ⟨wanted_yes hf rfl, ex_move hf rfl⟩⟩) (.cons (⟨_, _, rfl, rfl, rfl, rfl, fun a w hR hf => .inl ⟨wanted_yes hf rfl, ex_move hf rfl⟩⟩) (.cons (⟨_, _, rfl, rfl, rfl, rfl, fun a w hR hf => .inl ⟨wanted_yes hf rfl, ex_castB (ex_gtr hf rfl rfl) (dec_f hc101)⟩⟩) (.cons (⟨_, _, rfl, rfl, rfl, rfl, fun a w hR hf => .inl ⟨wanted_yes hf rfl, ex_move hf rfl⟩⟩) (.cons (⟨_, _, rfl, rfl, rfl, rfl, fun a w hR hf => .inl ⟨wanted_yes hf rfl, ex_move hf rfl⟩⟩) (.cons (⟨_, _, rfl, rfl, rfl, rfl, fun a w hR hf => .inl ⟨wanted_yes hf rfl, ex_move hf rfl⟩⟩) (.cons (⟨_, _, rfl, rfl, rfl, rfl, fun a w hR hf => .inl ⟨wanted_yes hf rfl, ex_castB (ex_lss hf rfl rfl) (dec_f hc103)⟩⟩) (.cons (⟨_, _, rfl, rfl, rfl, rfl, fun a w hR hf => .inl ⟨wanted_yes hf rfl, ex_move hf rfl⟩⟩) (.cons (⟨_, _, rfl, rfl, rfl, rfl, fun a w hR hf => .inr ⟨wanted_no hf rfl, rfl⟩⟩) (.cons (⟨_, _, rfl, rfl, rfl, rfl, fun a w hR hf => .inr ⟨wanted_no hf rfl, rfl⟩⟩) (.cons (⟨_, _, rfl, rfl, rfl, rfl, fun a w hR hf => .inr ⟨wanted_no hf rfl, rfl⟩⟩) (.cons (⟨_, _, rfl, rfl, rfl, rfl, fun a w hR hf => .inr ⟨wanted_no hf rfl, rfl⟩⟩) (.cons (⟨_, _, rfl, rfl, rfl, rfl, fun a w hR hf => .inr ⟨wanted_no hf rfl, rfl⟩⟩) (.cons (⟨_, _, rfl, rfl, rfl, rfl, fun a w hR hf => .inr ⟨wanted_no hf rfl, rfl⟩⟩) (.cons (⟨_, _, rfl, rfl, rfl, rfl, fun a w hR hf => .inr ⟨wanted_no hf rfl, rfl⟩⟩) (.cons (⟨_, _, rfl, rfl, rfl, rfl, fun a w hR hf => .inr ⟨wanted_no hf rfl, rfl⟩⟩) (.cons (⟨_, _, rfl, rfl, rfl, rfl, fun a w hR hf => .inr ⟨wanted_no hf rfl, rfl⟩⟩) (.cons (⟨_, _, rfl, rfl, rfl, rfl, fun a w hR hf => .inr ⟨wanted_no hf rfl, rfl⟩⟩) (.cons (⟨_, _, rfl, rfl, rfl, rfl, fun a w hR hf => .inr ⟨wanted_no hf rfl, rfl⟩⟩) (.cons (⟨_, _, rfl, rfl, rfl, rfl, fun a w hR hf => .inr ⟨wanted_no hf rfl, rfl⟩⟩) (.cons (⟨_, _, rfl, rfl, rfl, rfl, fun a w hR hf => .inr ⟨wanted_no hf rfl, rfl⟩⟩) (.cons (⟨_, _, rfl, rfl, rfl, rfl, fun a w hR hf => .inr ⟨wanted_no hf rfl, rfl⟩⟩) (.cons (⟨_, _, rfl, rfl, rfl, rfl, fun a w hR hf => .inr ⟨wanted_no hf rfl, rfl⟩⟩) (.cons (⟨_, _, rfl, rfl, rfl, rfl, fun a w hR hf => .inr ⟨wanted_no hf rfl, rfl⟩⟩) (.cons (⟨_, _, rfl, rfl, rfl, rfl, fun a w hR hf => .inr ⟨wanted_no hf rfl, rfl⟩⟩) (.cons (⟨_, _, rfl, rfl, rfl, rfl, fun a w hR hf => .inr ⟨wanted_no hf rfl, rfl⟩⟩) (.cons (⟨_, _, rfl, rfl, rfl, rfl, fun a w hR hf => .inl ⟨wanted_yes hf rfl, ex_pickF hf rfl rfl⟩⟩) (.cons (⟨_, _, rfl, rfl, rfl, rfl, fun a w hR hf => .inl ⟨wanted_yes hf rfl, ex_pickF hf rfl rfl⟩⟩) (.nil))))))))))))))))))))))))))))) (fun K107 hK107 => ?_)
                                        refine RW.zero (by kernel_rfl) (by kernel_rfl) [(4, v4), (11, v16), (12, .pointer (some ⟨b17, 0, none⟩)), (13, .pointer (some ⟨b35, 0, none⟩)), (15, .int .i64 s45), (16, .int .i64 (IntKind.i64.wrap (s45 + s47))), (17, .int .i64 y58), (138, .bool false)] ⟨rfl, rfl, rfl, rfl, rfl, rfl, rfl, rfl, trivial⟩ (fun a w hR hs hf => ?_)
                                        refine hK107 _ _ ?_
                                        have e100 := some_eq H; subst e100
                                        exact hJ100 _ _ ⟨hf.sub ⟨rfl, rfl, rfl, rfl, rfl, rfl, rfl, rfl, trivial⟩, hs⟩
                                  · obtain ⟨hf, hs⟩ := hJ
                                    replace H := HO100
                                    clear HO100
                                    refine itt H (fun hc108 H => ?_) (fun hc108 H => ?_)
                                    · -- x100 = true
                                      replace hf := hf.castB (t := 138) rfl hc108
                                      refine cond_T hf rfl ?_
                                      refine seq_reg (fun K109 hK109 => ?_)
                                      refine stq hf rfl rfl rfl (ex_assign hf rfl) (fun a hf => ?_)
                                      refine hK109 _ _ ?_
                                      refine wp_ret ?_
                                      refine hR89 _ _ ?_
                                      refine hR65 _ _ ?_
                                      have e64 := some_eq H; subst e64; replace H := el_rt HO64
                                      refine hR64 _ _ ?_
                                      refine hR60 _ _ ?_
                                      refine hR55 _ _ ?_
                                      have e53 := some_eq H; subst e53; replace H := el_rt HO53
                                      refine hR53 _ _ ?_
                                      have eR := some_eq H; subst eR
                                      replace hs := hs.keep (.d (.d (.d (.d .nil))))
                                      exact ret1 Try.results11 hf rfl ⟨_, rfl, ⟨rfl, hs⟩⟩
                                    · -- not x100 = true
                                      replace hf := hf.castB (t := 138) rfl (bool_f hc108)
                                      refine cond_F hf rfl ?_
                                      refine wp_skip ?_
                                      refine hN89 _ _ ?_
                                      refine hN65 _ _ ?_
                                      have e64 := some_eq H; subst e64
                                      exact hJ64 _ _ ⟨_, rfl, hf.sub ⟨rfl, rfl, rfl, rfl, rfl, rfl, rfl, trivial⟩, hs⟩
                        · obtain ⟨x64s, rfl, hf, hs⟩ := hJ
                          replace H := el_go HO64
                          clear HO64
                          refine region_k (fun K110 hK110 => ?_)
                          refine stq hf rfl rfl rfl (ex_move hf rfl) (fun a hf => ?_)
                          refine stq hf rfl rfl rfl (ex_add hf rfl rfl) (fun a hf => ?_)
                          refine stq hf rfl rfl rfl (ex_assign hf rfl) (fun a hf => ?_)
                          refine hK110 _ _ ?_
                          exact hL60 k60 _ _ (Nat.lt_succ_self _) ⟨x64s.1, x64s.2, (IntKind.i64.wrap (y58 + 1)), hf.sub ⟨rfl, rfl, rfl, rfl, rfl, rfl, rfl, trivial⟩, hs, H⟩
                      · -- not y58 < (a4.length : Int)
                        replace hf := hf.castB (t := 67) rfl (dec_f hc63)
                        refine cond_F hf rfl ?_
                        refine wp_exit ?_
                        refine hX61 0 _ _ ?_
                        refine hX60 0 _ _ ?_
                        refine hX55 _ _ ?_
                        replace hs := hs.keep (.d (.d (.d (.d .nil))))
                        have e53 := some_eq H; subst e53
                        exact hJ53 _ _ ⟨_, rfl, hf.sub trivial, hs⟩
                · obtain ⟨x53s, rfl, hf, hs⟩ := hJ
                  replace H := el_go HO53
                  clear HO53
                  refine bnd H (fun s111 hs111 H => ?_)
                  refine seq_reg (fun K112 hK112 => ?_)
                  refine stepF hf rfl rfl rfl (ex_call cf_12 hf rfl) (law36_awake.calls k (hs.enter .nil) (Sr.nil _ _) hs111) (fun v w hR a hf => ?_)
                  obtain ⟨rfl, hs'⟩ := hR
                  replace hs := hs.step .nil hs'
                  clear hs'
                  refine stq hf rfl rfl rfl (ex_assign hf rfl) (fun a hf => ?_)
                  refine hK112 _ _ ?_
                  refine wp_ret ?_
                  have eR := some_eq H; subst eR
                  exact ret1 Try.results11 hf rfl ⟨_, rfl, ⟨rfl, hs⟩⟩
              · -- not s50.2.2.2.2 = 0
                replace hf := hf.castB (t := 63) rfl (ndec_t hc52)
                refine cond_T hf rfl ?_
                refine seq_reg (fun K113 hK113 => ?_)
                refine stq hf rfl rfl rfl (ex_assign hf rfl) (fun a hf => ?_)
                refine hK113 _ _ ?_
                refine wp_ret ?_
                refine hR49 _ _ ?_
                have eR := some_eq H; subst eR
                replace hs := hs.keep (.d (.d (.d (.d .nil))))
                exact ret1 Try.results11 hf rfl ⟨_, rfl, ⟨rfl, hs⟩⟩

end Go.Proofs.Ythemeobgfgmblaa.X
