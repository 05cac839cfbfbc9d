/- Each function of the machine comes to what its pure function says. -/
import Derived.Test.YthemeobgfgmblaaFc2
import Derived.Test.YthemeobgfgmblaaFc3
import Derived.Test.YthemeobgfgmblaaFc4
import Derived.Test.YthemeobgfgmblaaFb
namespace Go.Proofs.Ythemeobgfgmblaa.X
open Go Go.RowKit Go.Sx
set_option linter.unusedVariables false

set_option maxHeartbeats 4000000 in
set_option maxRecDepth 100000 in
theorem law36_PerfGovernorAgrees.calls {M : Nat → Prop} {w0 : World} (k : Nat) (a0 : (List OperatingPoint)) (a1 : GovernorParams) (a2 : (List Int)) (v0 : Value) (v2 : Value) {r : Bool} (hs : St M w0 w0 []) (hr : Sr M w0 [rsl K_api_OperatingPoint v0 a0, rsl K_int v2 a2])
    (h : law36_PerfGovernorAgrees.f k a0 a1 a2 = some r) : Calls Try.prog 10 #[v0, .agg #[.int .i64 a1.Up, .int .i64 a1.Down, .int .i64 a1.Samples], v2] w0 fun e w => ∃ v, e = .returned v ∧ (.bool r = v ∧ St M w0 w []) := by
  have H := (law36_PerfGovernorAgrees.f.eq_1 ..).symm.trans h
  clear h
  refine enter Try.func10 rfl Try.ntmps10 rfl (fun a hf => ?_)
  refine seq_reg (fun K2 hK2 => ?_)
  refine stepV hf rfl rfl rfl (er_box (cs := [.int .i64 a1.Up, .int .i64 a1.Down, .int .i64 a1.Samples]) hs hf rfl rfl) (fun v w hR a hf => ?_)
  obtain ⟨b1, rfl, hs⟩ := hR
  refine stq hf rfl rfl rfl (ex_assign hf rfl) (fun a hf => ?_)
  refine hK2 _ _ ?_
  refine seq_n (fun Q3 hN3 hR3 hX3 => ?_)
  refine bnd H (fun x4 H4 HO4 => ?_)
  clear H
  refine seq_cut (fun a w => Fr a 180 [(0, v0), (2, v2), (4, .pointer (some ⟨b1, 0, none⟩)), (35, .bool x4)] ∧ St M w0 w [bx b1 45 [.int .i64 a1.Up, .int .i64 a1.Down, .int .i64 a1.Samples]]) (fun Q4 hJ4 hR4 hX4 => ?_) (fun a w hJ => ?_)
  · replace H := H4
    refine itt H (fun hc5 H => ?_) (fun hc5 H => ?_)
    · -- 20 < (a0.length : Int)
      refine region_k (fun K6 hK6 => ?_)
      refine stq hf rfl rfl rfl (ex_move hf rfl) (fun a hf => ?_)
      refine stq hf rfl rfl rfl (ex_lenS Try.underlying22 (rsl_isSl (hr.now hs (i := 0) rfl)) hf rfl) (fun a hf => ?_)
      refine stq hf rfl rfl rfl (ex_gtr hf rfl rfl) (fun a hf => ?_)
      refine stq hf rfl rfl rfl (ex_move hf rfl) (fun a hf => ?_)
      replace hf := hf.castB (t := 30) rfl (dec_t hc5)
      replace hf := hf.castB (t := 31) rfl (dec_t hc5)
      refine stepN hf rfl rfl rfl (fun a hf => ?_)
      refine stepN hf rfl rfl rfl (fun a hf => ?_)
      refine stepN hf rfl rfl rfl (fun a hf => ?_)
      refine stq hf rfl rfl rfl (ex_pickT hf rfl rfl) (fun a hf => ?_)
      refine hK6 _ _ ?_
      have e4 := some_eq H; subst e4
      exact hJ4 _ _ ⟨hf.sub ⟨rfl, rfl, rfl, rfl, trivial⟩, hs⟩
    · -- not 20 < (a0.length : Int)
      refine region_k (fun K7 hK7 => ?_)
      refine stq hf rfl rfl rfl (ex_move hf rfl) (fun a hf => ?_)
      refine stq hf rfl rfl rfl (ex_lenS Try.underlying22 (rsl_isSl (hr.now hs (i := 0) rfl)) hf rfl) (fun a hf => ?_)
      refine stq hf rfl rfl rfl (ex_gtr hf rfl rfl) (fun a hf => ?_)
      refine stq hf rfl rfl rfl (ex_move hf rfl) (fun a hf => ?_)
      replace hf := hf.castB (t := 30) rfl (dec_f hc5)
      replace hf := hf.castB (t := 31) rfl (dec_f hc5)
      refine stq hf rfl rfl rfl (ex_move hf rfl) (fun a hf => ?_)
      refine stq hf rfl rfl rfl (ex_lenS Try.underlying52 (rsl_isSl (hr.now hs (i := 1) rfl)) hf rfl) (fun a hf => ?_)
      refine stq hf rfl rfl rfl (ex_gtr hf rfl rfl) (fun a hf => ?_)
      refine stq hf rfl rfl rfl (ex_pickF hf rfl rfl) (fun a hf => ?_)
      refine hK7 _ _ ?_
      have e4 := some_eq H; subst e4
      exact hJ4 _ _ ⟨hf.sub ⟨rfl, rfl, rfl, rfl, trivial⟩, hs⟩
  · obtain ⟨hf, hs⟩ := hJ
    replace H := HO4
    clear HO4
    refine itt H (fun hc8 H => ?_) (fun hc8 H => ?_)
    · -- x4 = true
      replace hf := hf.castB (t := 35) rfl hc8
      refine cond_T hf rfl ?_
      refine bnd H (fun s9 hs9 H => ?_)
      refine seq_reg (fun K10 hK10 => ?_)
      refine stepF hf rfl rfl rfl (ex_call cf_12 hf rfl) (law36_awake.calls k (hs.enter (.k .nil)) (Sr.nil _ _) hs9) (fun v w hR a hf => ?_)
      obtain ⟨rfl, hs'⟩ := hR
      replace hs := hs.step (.k .nil) hs'
      clear hs'
      refine stq hf rfl rfl rfl (ex_assign hf rfl) (fun a hf => ?_)
      refine hK10 _ _ ?_
      refine wp_ret ?_
      refine hR3 _ _ ?_
      have eR := some_eq H; subst eR
      replace hs := hs.keep (.d .nil)
      exact ret1 Try.results10 hf rfl ⟨_, rfl, ⟨rfl, hs⟩⟩
    · -- not x4 = true
      replace hf := hf.castB (t := 35) rfl (bool_f hc8)
      refine cond_F hf rfl ?_
      refine wp_skip ?_
      refine hN3 _ _ ?_
      refine bnd H (fun x11 H11 HO11 => ?_)
      clear H
      refine seq_cut (fun a w => Fr a 180 [(0, v0), (2, v2), (4, .pointer (some ⟨b1, 0, none⟩)), (8, .int .i64 x11)] ∧ St M w0 w [bx b1 45 [.int .i64 a1.Up, .int .i64 a1.Down, .int .i64 a1.Samples]]) (fun Q11 hJ11 hR11 hX11 => ?_) (fun a w hJ => ?_)
      · replace H := H11
        refine bnd H (fun s12 hs12 H => ?_)
        cases hps12 : s12.1 with
        | none =>
          replace H := elim_n hps12 H
          refine region_k (fun K14 hK14 => ?_)
          refine stq hf rfl rfl rfl (ex_move hf rfl) (fun a hf => ?_)
          refine stq hf rfl rfl rfl (ex_loadA (cs := [.int .i64 a1.Up, .int .i64 a1.Down, .int .i64 a1.Samples]) ag_45 hf rfl (bx_cells (hs.get (i := 0) rfl) rfl)) (fun a hf => ?_)
          refine stepF hf rfl rfl rfl (ex_call cf_25 hf rfl) (perf_New.calls k a0 a1 v0 (hs.enter (.k .nil)) (Sr.old hr hs (.k .nil) (i := 0) rfl (fun _ h => h) (fun _ h => h) (Sr.nil _ _)) hs12) (fun v w hR a hf => ?_)
          obtain ⟨_, rfl, hs'⟩ | ⟨_, hc', _⟩ := hR
          case inr => rw [hps12] at hc'; cases hc'
          replace hs := hs.step (.k .nil) hs'
          clear hs'
          refine stq hf rfl rfl rfl (ex_move hf rfl) (fun a hf => ?_)
          refine stq hf rfl rfl rfl (ex_extract hf rfl rfl) (fun a hf => ?_)
          refine stq hf rfl rfl rfl (ex_extract hf rfl rfl) (fun a hf => ?_)
          refine stq hf rfl rfl rfl (ex_assign hf rfl) (fun a hf => ?_)
          refine stq hf rfl rfl rfl (ex_assign hf rfl) (fun a hf => ?_)
          refine hK14 _ _ ?_
          have e11 := some_eq H; subst e11
          exact hJ11 _ _ ⟨hf.sub ⟨rfl, rfl, rfl, rfl, trivial⟩, hs⟩
        | some c13 =>
          replace H := elim_s hps12 H
          refine region_k (fun K17 hK17 => ?_)
          refine stq hf rfl rfl rfl (ex_move hf rfl) (fun a hf => ?_)
          refine stq hf rfl rfl rfl (ex_loadA (cs := [.int .i64 a1.Up, .int .i64 a1.Down, .int .i64 a1.Samples]) ag_45 hf rfl (bx_cells (hs.get (i := 0) rfl) rfl)) (fun a hf => ?_)
          refine stepF hf rfl rfl rfl (ex_call cf_25 hf rfl) (perf_New.calls k a0 a1 v0 (hs.enter (.k .nil)) (Sr.old hr hs (.k .nil) (i := 0) rfl (fun _ h => h) (fun _ h => h) (Sr.nil _ _)) hs12) (fun v w hR a hf => ?_)
          obtain ⟨hc', _⟩ | ⟨cc, hc', b15, v16, rfl, hs'⟩ := hR
          case inl => rw [hps12] at hc'; cases hc'
          obtain rfl : c13 = cc := by rw [hps12] at hc'; exact Option.some.inj hc'
          replace hs := hs.step (.k .nil) hs'
          clear hs'
          refine stq hf rfl rfl rfl (ex_move hf rfl) (fun a hf => ?_)
          refine stq hf rfl rfl rfl (ex_extract hf rfl rfl) (fun a hf => ?_)
          refine stq hf rfl rfl rfl (ex_extract hf rfl rfl) (fun a hf => ?_)
          refine stq hf rfl rfl rfl (ex_assign hf rfl) (fun a hf => ?_)
          refine stq hf rfl rfl rfl (ex_assign hf rfl) (fun a hf => ?_)
          refine hK17 _ _ ?_
          replace hs := hs.keep (.d (.d (.k .nil)))
          have e11 := some_eq H; subst e11
          exact hJ11 _ _ ⟨hf.sub ⟨rfl, rfl, rfl, rfl, trivial⟩, hs⟩
      · obtain ⟨hf, hs⟩ := hJ
        replace H := HO11
        clear HO11
        refine bnd H (fun x18 H18 HO18 => ?_)
        clear H
        refine seq_cut (fun a w => Fr a 180 [(0, v0), (2, v2), (4, .pointer (some ⟨b1, 0, none⟩)), (8, .int .i64 x11), (10, .int .i64 x18)] ∧ St M w0 w [bx b1 45 [.int .i64 a1.Up, .int .i64 a1.Down, .int .i64 a1.Samples]]) (fun Q18 hJ18 hR18 hX18 => ?_) (fun a w hJ => ?_)
        · replace H := H18
          refine bnd H (fun s19 hs19 H => ?_)
          cases hps19 : s19.1 with
          | none =>
            replace H := elim_n hps19 H
            refine region_k (fun K21 hK21 => ?_)
            refine stq hf rfl rfl rfl (ex_move hf rfl) (fun a hf => ?_)
            refine stq hf rfl rfl rfl (ex_loadA (cs := [.int .i64 a1.Up, .int .i64 a1.Down, .int .i64 a1.Samples]) ag_45 hf rfl (bx_cells (hs.get (i := 0) rfl) rfl)) (fun a hf => ?_)
            refine stepF hf rfl rfl rfl (ex_call cf_28 hf rfl) (ref36_New.calls k a0 a1 v0 (hs.enter (.k .nil)) (Sr.old hr hs (.k .nil) (i := 0) rfl (fun _ h => h) (fun _ h => h) (Sr.nil _ _)) hs19) (fun v w hR a hf => ?_)
            obtain ⟨_, rfl, hs'⟩ | ⟨_, hc', _⟩ := hR
            case inr => rw [hps19] at hc'; cases hc'
            replace hs := hs.step (.k .nil) hs'
            clear hs'
            refine stq hf rfl rfl rfl (ex_move hf rfl) (fun a hf => ?_)
            refine stq hf rfl rfl rfl (ex_extract hf rfl rfl) (fun a hf => ?_)
            refine stq hf rfl rfl rfl (ex_extract hf rfl rfl) (fun a hf => ?_)
            refine stq hf rfl rfl rfl (ex_assign hf rfl) (fun a hf => ?_)
            refine stq hf rfl rfl rfl (ex_assign hf rfl) (fun a hf => ?_)
            refine hK21 _ _ ?_
            have e18 := some_eq H; subst e18
            exact hJ18 _ _ ⟨hf.sub ⟨rfl, rfl, rfl, rfl, rfl, trivial⟩, hs⟩
          | some c20 =>
            replace H := elim_s hps19 H
            refine region_k (fun K24 hK24 => ?_)
            refine stq hf rfl rfl rfl (ex_move hf rfl) (fun a hf => ?_)
            refine stq hf rfl rfl rfl (ex_loadA (cs := [.int .i64 a1.Up, .int .i64 a1.Down, .int .i64 a1.Samples]) ag_45 hf rfl (bx_cells (hs.get (i := 0) rfl) rfl)) (fun a hf => ?_)
            refine stepF hf rfl rfl rfl (ex_call cf_28 hf rfl) (ref36_New.calls k a0 a1 v0 (hs.enter (.k .nil)) (Sr.old hr hs (.k .nil) (i := 0) rfl (fun _ h => h) (fun _ h => h) (Sr.nil _ _)) hs19) (fun v w hR a hf => ?_)
            obtain ⟨hc', _⟩ | ⟨cc, hc', b22, v23, rfl, hs'⟩ := hR
            case inl => rw [hps19] at hc'; cases hc'
            obtain rfl : c20 = cc := by rw [hps19] at hc'; exact Option.some.inj hc'
            replace hs := hs.step (.k .nil) hs'
            clear hs'
            refine stq hf rfl rfl rfl (ex_move hf rfl) (fun a hf => ?_)
            refine stq hf rfl rfl rfl (ex_extract hf rfl rfl) (fun a hf => ?_)
            refine stq hf rfl rfl rfl (ex_extract hf rfl rfl) (fun a hf => ?_)
            refine stq hf rfl rfl rfl (ex_assign hf rfl) (fun a hf => ?_)
            refine stq hf rfl rfl rfl (ex_assign hf rfl) (fun a hf => ?_)
            refine hK24 _ _ ?_
            replace hs := hs.keep (.d (.d (.k .nil)))
            have e18 := some_eq H; subst e18
            exact hJ18 _ _ ⟨hf.sub ⟨rfl, rfl, rfl, rfl, rfl, trivial⟩, hs⟩
        · obtain ⟨hf, hs⟩ := hJ
          replace H := HO18
          clear HO18
          refine bnd H (fun s25 hs25 H => ?_)
          refine seq_reg (fun K27 hK27 => ?_)
          refine stq hf rfl rfl rfl (ex_move hf rfl) (fun a hf => ?_)
          refine stepF hf rfl rfl rfl (ex_call cf_13 hf rfl) (law36_Table.calls k a0 v0 (hs.enter (.k .nil)) (Sr.old hr hs (.k .nil) (i := 0) rfl (fun _ h => h) (fun _ h => h) (Sr.nil _ _)) hs25) (fun v w hR a hf => ?_)
          obtain ⟨v26, rfl, hs'⟩ := hR
          replace hs := hs.step (.k .nil) hs'
          clear hs'
          refine stq hf rfl rfl rfl (ex_assign hf rfl) (fun a hf => ?_)
          refine hK27 _ _ ?_
          refine bnd H (fun x28 H28 HO28 => ?_)
          clear H
          refine seq_cut (fun a w => Fr a 180 [(2, v2), (4, .pointer (some ⟨b1, 0, none⟩)), (8, .int .i64 x11), (10, .int .i64 x18), (11, v26), (13, .int .i64 x28)] ∧ St M w0 w [bx b1 45 [.int .i64 a1.Up, .int .i64 a1.Down, .int .i64 a1.Samples], osl K_api_OperatingPoint v26 s25]) (fun Q28 hJ28 hR28 hX28 => ?_) (fun a w hJ => ?_)
          · replace H := H28
            refine bnd H (fun s29 hs29 H => ?_)
            cases hps29 : s29.1 with
            | none =>
              replace H := elim_n hps29 H
              refine region_k (fun K31 hK31 => ?_)
              refine stq hf rfl rfl rfl (ex_move hf rfl) (fun a hf => ?_)
              refine stq hf rfl rfl rfl (ex_loadA (cs := [.int .i64 a1.Up, .int .i64 a1.Down, .int .i64 a1.Samples]) ag_45 hf rfl (bx_cells (hs.get (i := 1) rfl) rfl)) (fun a hf => ?_)
              refine stepF hf rfl rfl rfl (ex_call cf_25 hf rfl) (perf_New.calls k s25 a1 v26 (hs.enter (.k (.k .nil))) (Sr.own hs (.k (.k .nil)) (i := 0) rfl osl_rsl (fun _ h => h.1) (Sr.nil _ _)) hs29) (fun v w hR a hf => ?_)
              obtain ⟨_, rfl, hs'⟩ | ⟨_, hc', _⟩ := hR
              case inr => rw [hps29] at hc'; cases hc'
              replace hs := hs.step (.k (.k .nil)) hs'
              clear hs'
              refine stq hf rfl rfl rfl (ex_move hf rfl) (fun a hf => ?_)
              refine stq hf rfl rfl rfl (ex_extract hf rfl rfl) (fun a hf => ?_)
              refine stq hf rfl rfl rfl (ex_extract hf rfl rfl) (fun a hf => ?_)
              refine stq hf rfl rfl rfl (ex_assign hf rfl) (fun a hf => ?_)
              refine stq hf rfl rfl rfl (ex_assign hf rfl) (fun a hf => ?_)
              refine hK31 _ _ ?_
              replace hs := hs.pick (.k (.c .nil))
              have e28 := some_eq H; subst e28
              exact hJ28 _ _ ⟨hf.sub ⟨rfl, rfl, rfl, rfl, rfl, rfl, trivial⟩, hs⟩
            | some c30 =>
              replace H := elim_s hps29 H
              refine region_k (fun K34 hK34 => ?_)
              refine stq hf rfl rfl rfl (ex_move hf rfl) (fun a hf => ?_)
              refine stq hf rfl rfl rfl (ex_loadA (cs := [.int .i64 a1.Up, .int .i64 a1.Down, .int .i64 a1.Samples]) ag_45 hf rfl (bx_cells (hs.get (i := 1) rfl) rfl)) (fun a hf => ?_)
              refine stepF hf rfl rfl rfl (ex_call cf_25 hf rfl) (perf_New.calls k s25 a1 v26 (hs.enter (.k (.k .nil))) (Sr.own hs (.k (.k .nil)) (i := 0) rfl osl_rsl (fun _ h => h.1) (Sr.nil _ _)) hs29) (fun v w hR a hf => ?_)
              obtain ⟨hc', _⟩ | ⟨cc, hc', b32, v33, rfl, hs'⟩ := hR
              case inl => rw [hps29] at hc'; cases hc'
              obtain rfl : c30 = cc := by rw [hps29] at hc'; exact Option.some.inj hc'
              replace hs := hs.step (.k (.k .nil)) hs'
              clear hs'
              refine stq hf rfl rfl rfl (ex_move hf rfl) (fun a hf => ?_)
              refine stq hf rfl rfl rfl (ex_extract hf rfl rfl) (fun a hf => ?_)
              refine stq hf rfl rfl rfl (ex_extract hf rfl rfl) (fun a hf => ?_)
              refine stq hf rfl rfl rfl (ex_assign hf rfl) (fun a hf => ?_)
              refine stq hf rfl rfl rfl (ex_assign hf rfl) (fun a hf => ?_)
              refine hK34 _ _ ?_
              replace hs := hs.keep (.d (.d (.k (.k .nil))))
              replace hs := hs.pick (.k (.c .nil))
              have e28 := some_eq H; subst e28
              exact hJ28 _ _ ⟨hf.sub ⟨rfl, rfl, rfl, rfl, rfl, rfl, trivial⟩, hs⟩
          · obtain ⟨hf, hs⟩ := hJ
            replace H := HO28
            clear HO28
            refine bnd H (fun x35 H35 HO35 => ?_)
            clear H
            refine seq_cut (fun a w => Fr a 180 [(2, v2), (4, .pointer (some ⟨b1, 0, none⟩)), (8, .int .i64 x11), (10, .int .i64 x18), (11, v26), (13, .int .i64 x28), (15, .int .i64 x35)] ∧ St M w0 w [bx b1 45 [.int .i64 a1.Up, .int .i64 a1.Down, .int .i64 a1.Samples], osl K_api_OperatingPoint v26 s25]) (fun Q35 hJ35 hR35 hX35 => ?_) (fun a w hJ => ?_)
            · replace H := H35
              refine bnd H (fun s36 hs36 H => ?_)
              cases hps36 : s36.1 with
              | none =>
                replace H := elim_n hps36 H
                refine region_k (fun K38 hK38 => ?_)
                refine stq hf rfl rfl rfl (ex_move hf rfl) (fun a hf => ?_)
                refine stq hf rfl rfl rfl (ex_loadA (cs := [.int .i64 a1.Up, .int .i64 a1.Down, .int .i64 a1.Samples]) ag_45 hf rfl (bx_cells (hs.get (i := 0) rfl) rfl)) (fun a hf => ?_)
                refine stepF hf rfl rfl rfl (ex_call cf_28 hf rfl) (ref36_New.calls k s25 a1 v26 (hs.enter (.k (.k .nil))) (Sr.own hs (.k (.k .nil)) (i := 1) rfl osl_rsl (fun _ h => h.1) (Sr.nil _ _)) hs36) (fun v w hR a hf => ?_)
                obtain ⟨_, rfl, hs'⟩ | ⟨_, hc', _⟩ := hR
                case inr => rw [hps36] at hc'; cases hc'
                replace hs := hs.step (.k (.k .nil)) hs'
                clear hs'
                refine stq hf rfl rfl rfl (ex_move hf rfl) (fun a hf => ?_)
                refine stq hf rfl rfl rfl (ex_extract hf rfl rfl) (fun a hf => ?_)
                refine stq hf rfl rfl rfl (ex_extract hf rfl rfl) (fun a hf => ?_)
                refine stq hf rfl rfl rfl (ex_assign hf rfl) (fun a hf => ?_)
                refine stq hf rfl rfl rfl (ex_assign hf rfl) (fun a hf => ?_)
                refine hK38 _ _ ?_
                have e35 := some_eq H; subst e35
                exact hJ35 _ _ ⟨hf.sub ⟨rfl, rfl, rfl, rfl, rfl, rfl, rfl, trivial⟩, hs⟩
              | some c37 =>
                replace H := elim_s hps36 H
                refine region_k (fun K41 hK41 => ?_)
                refine stq hf rfl rfl rfl (ex_move hf rfl) (fun a hf => ?_)
                refine stq hf rfl rfl rfl (ex_loadA (cs := [.int .i64 a1.Up, .int .i64 a1.Down, .int .i64 a1.Samples]) ag_45 hf rfl (bx_cells (hs.get (i := 0) rfl) rfl)) (fun a hf => ?_)
                refine stepF hf rfl rfl rfl (ex_call cf_28 hf rfl) (ref36_New.calls k s25 a1 v26 (hs.enter (.k (.k .nil))) (Sr.own hs (.k (.k .nil)) (i := 1) rfl osl_rsl (fun _ h => h.1) (Sr.nil _ _)) hs36) (fun v w hR a hf => ?_)
                obtain ⟨hc', _⟩ | ⟨cc, hc', b39, v40, rfl, hs'⟩ := hR
                case inl => rw [hps36] at hc'; cases hc'
                obtain rfl : c37 = cc := by rw [hps36] at hc'; exact Option.some.inj hc'
                replace hs := hs.step (.k (.k .nil)) hs'
                clear hs'
                refine stq hf rfl rfl rfl (ex_move hf rfl) (fun a hf => ?_)
                refine stq hf rfl rfl rfl (ex_extract hf rfl rfl) (fun a hf => ?_)
                refine stq hf rfl rfl rfl (ex_extract hf rfl rfl) (fun a hf => ?_)
                refine stq hf rfl rfl rfl (ex_assign hf rfl) (fun a hf => ?_)
                refine stq hf rfl rfl rfl (ex_assign hf rfl) (fun a hf => ?_)
                refine hK41 _ _ ?_
                replace hs := hs.keep (.d (.d (.k (.k .nil))))
                have e35 := some_eq H; subst e35
                exact hJ35 _ _ ⟨hf.sub ⟨rfl, rfl, rfl, rfl, rfl, rfl, rfl, trivial⟩, hs⟩
            · obtain ⟨hf, hs⟩ := hJ
              replace H := HO35
              clear HO35
              refine seq_n (fun Q42 hN42 hR42 hX42 => ?_)
              refine bnd H (fun s43 hs43 H => ?_)
              refine bnd H (fun s44 hs44 H => ?_)
              cases hps44 : s44.1 with
              | none =>
                replace H := elim_n hps44 H
                refine region_k (fun K46 hK46 => ?_)
                refine stq hf rfl rfl rfl (ex_move hf rfl) (fun a hf => ?_)
                refine stq hf rfl rfl rfl (ex_loadA (cs := [.int .i64 a1.Up, .int .i64 a1.Down, .int .i64 a1.Samples]) ag_45 hf rfl (bx_cells (hs.get (i := 0) rfl) rfl)) (fun a hf => ?_)
                refine stepF hf rfl rfl rfl (ex_call cf_24 hf rfl) (law36_params.calls k a1 (hs.enter (.k (.k .nil))) (Sr.nil _ _) hs43) (fun v w hR a hf => ?_)
                obtain ⟨rfl, hs'⟩ := hR
                replace hs := hs.step (.k (.k .nil)) hs'
                clear hs'
                refine stepF hf rfl rfl rfl (ex_call cf_25 hf rfl) (perf_New.calls k s25 s43 v26 (hs.enter (.k (.k .nil))) (Sr.own hs (.k (.k .nil)) (i := 1) rfl osl_rsl (fun _ h => h.1) (Sr.nil _ _)) hs44) (fun v w hR a hf => ?_)
                obtain ⟨_, rfl, hs'⟩ | ⟨_, hc', _⟩ := hR
                case inr => rw [hps44] at hc'; cases hc'
                replace hs := hs.step (.k (.k .nil)) hs'
                clear hs'
                refine stq hf rfl rfl rfl (ex_move hf rfl) (fun a hf => ?_)
                refine stq hf rfl rfl rfl (ex_extract hf rfl rfl) (fun a hf => ?_)
                refine stq hf rfl rfl rfl (ex_extract hf rfl rfl) (fun a hf => ?_)
                refine stq hf rfl rfl rfl (ex_assign hf rfl) (fun a hf => ?_)
                refine stq hf rfl rfl rfl (ex_assign hf rfl) (fun a hf => ?_)
                refine hK46 _ _ ?_
                refine hN42 _ _ ?_
                refine seq_n (fun Q47 hN47 hR47 hX47 => ?_)
                refine bnd H (fun s48 hs48 H => ?_)
                refine bnd H (fun s49 hs49 H => ?_)
                cases hps49 : s49.1 with
                | none =>
                  replace H := elim_n hps49 H
                  refine region_k (fun K51 hK51 => ?_)
                  refine stq hf rfl rfl rfl (ex_move hf rfl) (fun a hf => ?_)
                  refine stq hf rfl rfl rfl (ex_loadA (cs := [.int .i64 a1.Up, .int .i64 a1.Down, .int .i64 a1.Samples]) ag_45 hf rfl (bx_cells (hs.get (i := 0) rfl) rfl)) (fun a hf => ?_)
                  refine stepF hf rfl rfl rfl (ex_call cf_24 hf rfl) (law36_params.calls k a1 (hs.enter (.k (.k .nil))) (Sr.nil _ _) hs48) (fun v w hR a hf => ?_)
                  obtain ⟨rfl, hs'⟩ := hR
                  replace hs := hs.step (.k (.k .nil)) hs'
                  clear hs'
                  refine stepF hf rfl rfl rfl (ex_call cf_28 hf rfl) (ref36_New.calls k s25 s48 v26 (hs.enter (.k (.k .nil))) (Sr.own hs (.k (.k .nil)) (i := 1) rfl osl_rsl (fun _ h => h.1) (Sr.nil _ _)) hs49) (fun v w hR a hf => ?_)
                  obtain ⟨_, rfl, hs'⟩ | ⟨_, hc', _⟩ := hR
                  case inr => rw [hps49] at hc'; cases hc'
                  replace hs := hs.step (.k (.k .nil)) hs'
                  clear hs'
                  refine stq hf rfl rfl rfl (ex_move hf rfl) (fun a hf => ?_)
                  refine stq hf rfl rfl rfl (ex_extract hf rfl rfl) (fun a hf => ?_)
                  refine stq hf rfl rfl rfl (ex_extract hf rfl rfl) (fun a hf => ?_)
                  refine stq hf rfl rfl rfl (ex_assign hf rfl) (fun a hf => ?_)
                  refine stq hf rfl rfl rfl (ex_assign hf rfl) (fun a hf => ?_)
                  refine hK51 _ _ ?_
                  refine hN47 _ _ ?_
                  refine seq_n (fun Q52 hN52 hR52 hX52 => ?_)
                  refine bnd H (fun x53 H53 HO53 => ?_)
                  clear H
                  refine seq_cut (fun a w => Fr a 180 [(2, v2), (11, v26), (16, .pointer none), (18, .pointer none), (96, .bool true)] ∧ St M w0 w [osl K_api_OperatingPoint v26 s25]) (fun Q53 hJ53 hR53 hX53 => ?_) (fun a w hJ => ?_)
                  · replace H := H53
                    refine itt H (fun hc54 H => ?_) (fun hc54 H => ?_)
                    · -- x11 = x18
                      refine itt H (fun hc55 H => ?_) (fun hc55 H => ?_)
                      · -- x28 = x35
                        refine itt H (fun hc56 H => ?_) (fun hc56 H => ?_)
                        · -- s44.2 = 0
                          refine itt H (fun hc57 H => ?_) (fun hc57 H => ?_)
                          · -- s49.2 = 0
                            refine region_k (fun K58 hK58 => ?_)
                            refine stq hf rfl rfl rfl (ex_move hf rfl) (fun a hf => ?_)
                            refine stq hf rfl rfl rfl (ex_move hf rfl) (fun a hf => ?_)
                            refine stq hf rfl rfl rfl (ex_neq hf rfl rfl) (fun a hf => ?_)
                            refine stq hf rfl rfl rfl (ex_move hf rfl) (fun a hf => ?_)
                            replace hf := hf.castB (t := 79) rfl (ndec_f hc54)
                            replace hf := hf.castB (t := 80) rfl (ndec_f hc54)
                            refine stq hf rfl rfl rfl (ex_move hf rfl) (fun a hf => ?_)
                            refine stq hf rfl rfl rfl (ex_move hf rfl) (fun a hf => ?_)
                            refine stq hf rfl rfl rfl (ex_neq hf rfl rfl) (fun a hf => ?_)
                            refine stq hf rfl rfl rfl (ex_pickF hf rfl rfl) (fun a hf => ?_)
                            refine stq hf rfl rfl rfl (ex_move hf rfl) (fun a hf => ?_)
                            replace hf := hf.castB (t := 83) rfl (ndec_f hc55)
                            replace hf := hf.castB (t := 84) rfl (ndec_f hc55)
                            replace hf := hf.castB (t := 85) rfl (ndec_f hc55)
                            refine stq hf rfl rfl rfl (ex_move hf rfl) (fun a hf => ?_)
                            refine stq hf rfl rfl rfl (ex_neq hf rfl rfl) (fun a hf => ?_)
                            refine stq hf rfl rfl rfl (ex_pickF hf rfl rfl) (fun a hf => ?_)
                            refine stq hf rfl rfl rfl (ex_move hf rfl) (fun a hf => ?_)
                            replace hf := hf.castB (t := 87) rfl (ndec_f hc56)
                            replace hf := hf.castB (t := 88) rfl (ndec_f hc56)
                            replace hf := hf.castB (t := 89) rfl (ndec_f hc56)
                            refine stq hf rfl rfl rfl (ex_move hf rfl) (fun a hf => ?_)
                            refine stq hf rfl rfl rfl (ex_neq hf rfl rfl) (fun a hf => ?_)
                            refine stq hf rfl rfl rfl (ex_pickF hf rfl rfl) (fun a hf => ?_)
                            refine stq hf rfl rfl rfl (ex_move hf rfl) (fun a hf => ?_)
                            replace hf := hf.castB (t := 91) rfl (ndec_f hc57)
                            replace hf := hf.castB (t := 92) rfl (ndec_f hc57)
                            replace hf := hf.castB (t := 93) rfl (ndec_f hc57)
                            refine stq hf rfl rfl rfl (ex_move hf rfl) (fun a hf => ?_)
                            refine stq hf rfl rfl rfl (ex_eqp Try.underlying47 hf rfl rfl) (fun a hf => ?_)
                            refine stq hf rfl rfl rfl (ex_pickF hf rfl rfl) (fun a hf => ?_)
                            refine hK58 _ _ ?_
                            replace hs := hs.keep (.d (.k .nil))
                            have e53 := some_eq H; subst e53
                            exact hJ53 _ _ ⟨hf.sub ⟨rfl, rfl, rfl, rfl, rfl, trivial⟩, hs⟩
                          · -- not s49.2 = 0
                            refine region_k (fun K59 hK59 => ?_)
                            refine stq hf rfl rfl rfl (ex_move hf rfl) (fun a hf => ?_)
                            refine stq hf rfl rfl rfl (ex_move hf rfl) (fun a hf => ?_)
                            refine stq hf rfl rfl rfl (ex_neq hf rfl rfl) (fun a hf => ?_)
                            refine stq hf rfl rfl rfl (ex_move hf rfl) (fun a hf => ?_)
                            replace hf := hf.castB (t := 79) rfl (ndec_f hc54)
                            replace hf := hf.castB (t := 80) rfl (ndec_f hc54)
                            refine stq hf rfl rfl rfl (ex_move hf rfl) (fun a hf => ?_)
                            refine stq hf rfl rfl rfl (ex_move hf rfl) (fun a hf => ?_)
                            refine stq hf rfl rfl rfl (ex_neq hf rfl rfl) (fun a hf => ?_)
                            refine stq hf rfl rfl rfl (ex_pickF hf rfl rfl) (fun a hf => ?_)
                            refine stq hf rfl rfl rfl (ex_move hf rfl) (fun a hf => ?_)
                            replace hf := hf.castB (t := 83) rfl (ndec_f hc55)
                            replace hf := hf.castB (t := 84) rfl (ndec_f hc55)
                            replace hf := hf.castB (t := 85) rfl (ndec_f hc55)
                            refine stq hf rfl rfl rfl (ex_move hf rfl) (fun a hf => ?_)
                            refine stq hf rfl rfl rfl (ex_neq hf rfl rfl) (fun a hf => ?_)
                            refine stq hf rfl rfl rfl (ex_pickF hf rfl rfl) (fun a hf => ?_)
                            refine stq hf rfl rfl rfl (ex_move hf rfl) (fun a hf => ?_)
                            replace hf := hf.castB (t := 87) rfl (ndec_f hc56)
                            replace hf := hf.castB (t := 88) rfl (ndec_f hc56)
                            replace hf := hf.castB (t := 89) rfl (ndec_f hc56)
                            refine stq hf rfl rfl rfl (ex_move hf rfl) (fun a hf => ?_)
                            refine stq hf rfl rfl rfl (ex_neq hf rfl rfl) (fun a hf => ?_)
                            refine stq hf rfl rfl rfl (ex_pickF hf rfl rfl) (fun a hf => ?_)
                            refine stq hf rfl rfl rfl (ex_move hf rfl) (fun a hf => ?_)
                            replace hf := hf.castB (t := 91) rfl (ndec_t hc57)
                            replace hf := hf.castB (t := 92) rfl (ndec_t hc57)
                            replace hf := hf.castB (t := 93) rfl (ndec_t hc57)
                            refine stepN hf rfl rfl rfl (fun a hf => ?_)
                            refine stepN hf rfl rfl rfl (fun a hf => ?_)
                            refine stq hf rfl rfl rfl (ex_pickT hf rfl rfl) (fun a hf => ?_)
                            refine hK59 _ _ ?_
                            replace hs := hs.keep (.d (.k .nil))
                            have e53 := some_eq H; subst e53
                            exact hJ53 _ _ ⟨hf.sub ⟨rfl, rfl, rfl, rfl, rfl, trivial⟩, hs⟩
                        · -- not s44.2 = 0
                          refine region_k (fun K60 hK60 => ?_)
                          refine stq hf rfl rfl rfl (ex_move hf rfl) (fun a hf => ?_)
                          refine stq hf rfl rfl rfl (ex_move hf rfl) (fun a hf => ?_)
                          refine stq hf rfl rfl rfl (ex_neq hf rfl rfl) (fun a hf => ?_)
                          refine stq hf rfl rfl rfl (ex_move hf rfl) (fun a hf => ?_)
                          replace hf := hf.castB (t := 79) rfl (ndec_f hc54)
                          replace hf := hf.castB (t := 80) rfl (ndec_f hc54)
                          refine stq hf rfl rfl rfl (ex_move hf rfl) (fun a hf => ?_)
                          refine stq hf rfl rfl rfl (ex_move hf rfl) (fun a hf => ?_)
                          refine stq hf rfl rfl rfl (ex_neq hf rfl rfl) (fun a hf => ?_)
                          refine stq hf rfl rfl rfl (ex_pickF hf rfl rfl) (fun a hf => ?_)
                          refine stq hf rfl rfl rfl (ex_move hf rfl) (fun a hf => ?_)
                          replace hf := hf.castB (t := 83) rfl (ndec_f hc55)
                          replace hf := hf.castB (t := 84) rfl (ndec_f hc55)
                          replace hf := hf.castB (t := 85) rfl (ndec_f hc55)
                          refine stq hf rfl rfl rfl (ex_move hf rfl) (fun a hf => ?_)
                          refine stq hf rfl rfl rfl (ex_neq hf rfl rfl) (fun a hf => ?_)
                          refine stq hf rfl rfl rfl (ex_pickF hf rfl rfl) (fun a hf => ?_)
                          refine stq hf rfl rfl rfl (ex_move hf rfl) (fun a hf => ?_)
                          replace hf := hf.castB (t := 87) rfl (ndec_t hc56)
                          replace hf := hf.castB (t := 88) rfl (ndec_t hc56)
                          replace hf := hf.castB (t := 89) rfl (ndec_t hc56)
                          refine stepN hf rfl rfl rfl (fun a hf => ?_)
                          refine stepN hf rfl rfl rfl (fun a hf => ?_)
                          refine stq hf rfl rfl rfl (ex_pickT hf rfl rfl) (fun a hf => ?_)
                          refine stq hf rfl rfl rfl (ex_move hf rfl) (fun a hf => ?_)
                          refine stepN hf rfl rfl rfl (fun a hf => ?_)
                          refine stepN hf rfl rfl rfl (fun a hf => ?_)
                          refine stq hf rfl rfl rfl (ex_pickT hf rfl rfl) (fun a hf => ?_)
                          refine hK60 _ _ ?_
                          replace hs := hs.keep (.d (.k .nil))
                          have e53 := some_eq H; subst e53
                          exact hJ53 _ _ ⟨hf.sub ⟨rfl, rfl, rfl, rfl, rfl, trivial⟩, hs⟩
                      · -- not x28 = x35
                        refine region_k (fun K61 hK61 => ?_)
                        refine stq hf rfl rfl rfl (ex_move hf rfl) (fun a hf => ?_)
                        refine stq hf rfl rfl rfl (ex_move hf rfl) (fun a hf => ?_)
                        refine stq hf rfl rfl rfl (ex_neq hf rfl rfl) (fun a hf => ?_)
                        refine stq hf rfl rfl rfl (ex_move hf rfl) (fun a hf => ?_)
                        replace hf := hf.castB (t := 79) rfl (ndec_f hc54)
                        replace hf := hf.castB (t := 80) rfl (ndec_f hc54)
                        refine stq hf rfl rfl rfl (ex_move hf rfl) (fun a hf => ?_)
                        refine stq hf rfl rfl rfl (ex_move hf rfl) (fun a hf => ?_)
                        refine stq hf rfl rfl rfl (ex_neq hf rfl rfl) (fun a hf => ?_)
                        refine stq hf rfl rfl rfl (ex_pickF hf rfl rfl) (fun a hf => ?_)
                        refine stq hf rfl rfl rfl (ex_move hf rfl) (fun a hf => ?_)
                        replace hf := hf.castB (t := 83) rfl (ndec_t hc55)
                        replace hf := hf.castB (t := 84) rfl (ndec_t hc55)
                        replace hf := hf.castB (t := 85) rfl (ndec_t hc55)
                        refine stepN hf rfl rfl rfl (fun a hf => ?_)
                        refine stepN hf rfl rfl rfl (fun a hf => ?_)
                        refine stq hf rfl rfl rfl (ex_pickT hf rfl rfl) (fun a hf => ?_)
                        refine stq hf rfl rfl rfl (ex_move hf rfl) (fun a hf => ?_)
                        refine stepN hf rfl rfl rfl (fun a hf => ?_)
                        refine stepN hf rfl rfl rfl (fun a hf => ?_)
                        refine stq hf rfl rfl rfl (ex_pickT hf rfl rfl) (fun a hf => ?_)
                        refine stq hf rfl rfl rfl (ex_move hf rfl) (fun a hf => ?_)
                        refine stepN hf rfl rfl rfl (fun a hf => ?_)
                        refine stepN hf rfl rfl rfl (fun a hf => ?_)
                        refine stq hf rfl rfl rfl (ex_pickT hf rfl rfl) (fun a hf => ?_)
                        refine hK61 _ _ ?_
                        replace hs := hs.keep (.d (.k .nil))
                        have e53 := some_eq H; subst e53
                        exact hJ53 _ _ ⟨hf.sub ⟨rfl, rfl, rfl, rfl, rfl, trivial⟩, hs⟩
                    · -- not x11 = x18
                      refine region_k (fun K62 hK62 => ?_)
                      refine stq hf rfl rfl rfl (ex_move hf rfl) (fun a hf => ?_)
                      refine stq hf rfl rfl rfl (ex_move hf rfl) (fun a hf => ?_)
                      refine stq hf rfl rfl rfl (ex_neq hf rfl rfl) (fun a hf => ?_)
                      refine stq hf rfl rfl rfl (ex_move hf rfl) (fun a hf => ?_)
                      replace hf := hf.castB (t := 79) rfl (ndec_t hc54)
                      replace hf := hf.castB (t := 80) rfl (ndec_t hc54)
                      refine stepN hf rfl rfl rfl (fun a hf => ?_)
                      refine stepN hf rfl rfl rfl (fun a hf => ?_)
                      refine stepN hf rfl rfl rfl (fun a hf => ?_)
                      refine stq hf rfl rfl rfl (ex_pickT hf rfl rfl) (fun a hf => ?_)
                      refine stq hf rfl rfl rfl (ex_move hf rfl) (fun a hf => ?_)
                      refine stepN hf rfl rfl rfl (fun a hf => ?_)
                      refine stepN hf rfl rfl rfl (fun a hf => ?_)
                      refine stq hf rfl rfl rfl (ex_pickT hf rfl rfl) (fun a hf => ?_)
                      refine stq hf rfl rfl rfl (ex_move hf rfl) (fun a hf => ?_)
                      refine stepN hf rfl rfl rfl (fun a hf => ?_)
                      refine stepN hf rfl rfl rfl (fun a hf => ?_)
                      refine stq hf rfl rfl rfl (ex_pickT hf rfl rfl) (fun a hf => ?_)
                      refine stq hf rfl rfl rfl (ex_move hf rfl) (fun a hf => ?_)
                      refine stepN hf rfl rfl rfl (fun a hf => ?_)
                      refine stepN hf rfl rfl rfl (fun a hf => ?_)
                      refine stq hf rfl rfl rfl (ex_pickT hf rfl rfl) (fun a hf => ?_)
                      refine hK62 _ _ ?_
                      replace hs := hs.keep (.d (.k .nil))
                      have e53 := some_eq H; subst e53
                      exact hJ53 _ _ ⟨hf.sub ⟨rfl, rfl, rfl, rfl, rfl, trivial⟩, hs⟩
                  · obtain ⟨hf, hs⟩ := hJ
                    replace H := HO53
                    clear HO53
                    refine cond_T hf rfl ?_
                    refine seq_reg (fun K63 hK63 => ?_)
                    refine stq hf rfl rfl rfl (ex_assign hf rfl) (fun a hf => ?_)
                    refine hK63 _ _ ?_
                    refine wp_ret ?_
                    refine hR52 _ _ ?_
                    have eR := some_eq H; subst eR
                    replace hs := hs.keep (.d .nil)
                    exact ret1 Try.results10 hf rfl ⟨_, rfl, ⟨rfl, hs⟩⟩
                | some c50 =>
                  replace H := elim_s hps49 H
                  refine region_k (fun K66 hK66 => ?_)
                  refine stq hf rfl rfl rfl (ex_move hf rfl) (fun a hf => ?_)
                  refine stq hf rfl rfl rfl (ex_loadA (cs := [.int .i64 a1.Up, .int .i64 a1.Down, .int .i64 a1.Samples]) ag_45 hf rfl (bx_cells (hs.get (i := 0) rfl) rfl)) (fun a hf => ?_)
                  refine stepF hf rfl rfl rfl (ex_call cf_24 hf rfl) (law36_params.calls k a1 (hs.enter (.k (.k .nil))) (Sr.nil _ _) hs48) (fun v w hR a hf => ?_)
                  obtain ⟨rfl, hs'⟩ := hR
                  replace hs := hs.step (.k (.k .nil)) hs'
                  clear hs'
                  refine stepF hf rfl rfl rfl (ex_call cf_28 hf rfl) (ref36_New.calls k s25 s48 v26 (hs.enter (.k (.k .nil))) (Sr.own hs (.k (.k .nil)) (i := 1) rfl osl_rsl (fun _ h => h.1) (Sr.nil _ _)) hs49) (fun v w hR a hf => ?_)
                  obtain ⟨hc', _⟩ | ⟨cc, hc', b64, v65, rfl, hs'⟩ := hR
                  case inl => rw [hps49] at hc'; cases hc'
                  obtain rfl : c50 = cc := by rw [hps49] at hc'; exact Option.some.inj hc'
                  replace hs := hs.step (.k (.k .nil)) hs'
                  clear hs'
                  refine stq hf rfl rfl rfl (ex_move hf rfl) (fun a hf => ?_)
                  refine stq hf rfl rfl rfl (ex_extract hf rfl rfl) (fun a hf => ?_)
                  refine stq hf rfl rfl rfl (ex_extract hf rfl rfl) (fun a hf => ?_)
                  refine stq hf rfl rfl rfl (ex_assign hf rfl) (fun a hf => ?_)
                  refine stq hf rfl rfl rfl (ex_assign hf rfl) (fun a hf => ?_)
                  refine hK66 _ _ ?_
                  refine hN47 _ _ ?_
                  refine seq_n (fun Q67 hN67 hR67 hX67 => ?_)
                  refine bnd H (fun x68 H68 HO68 => ?_)
                  clear H
                  refine seq_cut (fun a w => Fr a 180 [(2, v2), (11, v26), (16, .pointer none), (18, .pointer (some ⟨b64, 0, none⟩)), (96, .bool true)] ∧ St M w0 w [osl K_api_OperatingPoint v26 s25, bx b64 69 [v65, .int .i64 c50.2.1, .int .i64 c50.2.2.1, .int .i64 c50.2.2.2.1, .int .i64 c50.2.2.2.2.1, .int .i64 c50.2.2.2.2.2.1, .int .i64 c50.2.2.2.2.2.2.1, .int .i64 c50.2.2.2.2.2.2.2], osl K_api_OperatingPoint v65 c50.1]) (fun Q68 hJ68 hR68 hX68 => ?_) (fun a w hJ => ?_)
                  · replace H := H68
                    refine itt H (fun hc69 H => ?_) (fun hc69 H => ?_)
                    · -- x11 = x18
                      refine itt H (fun hc70 H => ?_) (fun hc70 H => ?_)
                      · -- x28 = x35
                        refine itt H (fun hc71 H => ?_) (fun hc71 H => ?_)
                        · -- s44.2 = 0
                          refine itt H (fun hc72 H => ?_) (fun hc72 H => ?_)
                          · -- s49.2 = 0
                            refine region_k (fun K73 hK73 => ?_)
                            refine stq hf rfl rfl rfl (ex_move hf rfl) (fun a hf => ?_)
                            refine stq hf rfl rfl rfl (ex_move hf rfl) (fun a hf => ?_)
                            refine stq hf rfl rfl rfl (ex_neq hf rfl rfl) (fun a hf => ?_)
                            refine stq hf rfl rfl rfl (ex_move hf rfl) (fun a hf => ?_)
                            replace hf := hf.castB (t := 79) rfl (ndec_f hc69)
                            replace hf := hf.castB (t := 80) rfl (ndec_f hc69)
                            refine stq hf rfl rfl rfl (ex_move hf rfl) (fun a hf => ?_)
                            refine stq hf rfl rfl rfl (ex_move hf rfl) (fun a hf => ?_)
                            refine stq hf rfl rfl rfl (ex_neq hf rfl rfl) (fun a hf => ?_)
                            refine stq hf rfl rfl rfl (ex_pickF hf rfl rfl) (fun a hf => ?_)
                            refine stq hf rfl rfl rfl (ex_move hf rfl) (fun a hf => ?_)
                            replace hf := hf.castB (t := 83) rfl (ndec_f hc70)
                            replace hf := hf.castB (t := 84) rfl (ndec_f hc70)
                            replace hf := hf.castB (t := 85) rfl (ndec_f hc70)
                            refine stq hf rfl rfl rfl (ex_move hf rfl) (fun a hf => ?_)
                            refine stq hf rfl rfl rfl (ex_neq hf rfl rfl) (fun a hf => ?_)
                            refine stq hf rfl rfl rfl (ex_pickF hf rfl rfl) (fun a hf => ?_)
                            refine stq hf rfl rfl rfl (ex_move hf rfl) (fun a hf => ?_)
                            replace hf := hf.castB (t := 87) rfl (ndec_f hc71)
                            replace hf := hf.castB (t := 88) rfl (ndec_f hc71)
                            replace hf := hf.castB (t := 89) rfl (ndec_f hc71)
                            refine stq hf rfl rfl rfl (ex_move hf rfl) (fun a hf => ?_)
                            refine stq hf rfl rfl rfl (ex_neq hf rfl rfl) (fun a hf => ?_)
                            refine stq hf rfl rfl rfl (ex_pickF hf rfl rfl) (fun a hf => ?_)
                            refine stq hf rfl rfl rfl (ex_move hf rfl) (fun a hf => ?_)
                            replace hf := hf.castB (t := 91) rfl (ndec_f hc72)
                            replace hf := hf.castB (t := 92) rfl (ndec_f hc72)
                            replace hf := hf.castB (t := 93) rfl (ndec_f hc72)
                            refine stq hf rfl rfl rfl (ex_move hf rfl) (fun a hf => ?_)
                            refine stq hf rfl rfl rfl (ex_eqp Try.underlying47 hf rfl rfl) (fun a hf => ?_)
                            refine stq hf rfl rfl rfl (ex_pickF hf rfl rfl) (fun a hf => ?_)
                            refine hK73 _ _ ?_
                            replace hs := hs.keep (.k (.k (.d (.k .nil))))
                            replace hs := hs.pick (.k (.c (.k .nil)))
                            replace hs := hs.pick (.k (.c (.k .nil)))
                            replace hs := hs.pick (.k (.k (.c .nil)))
                            have e68 := some_eq H; subst e68
                            exact hJ68 _ _ ⟨hf.sub ⟨rfl, rfl, rfl, rfl, rfl, trivial⟩, hs⟩
                          · -- not s49.2 = 0
                            refine region_k (fun K74 hK74 => ?_)
                            refine stq hf rfl rfl rfl (ex_move hf rfl) (fun a hf => ?_)
                            refine stq hf rfl rfl rfl (ex_move hf rfl) (fun a hf => ?_)
                            refine stq hf rfl rfl rfl (ex_neq hf rfl rfl) (fun a hf => ?_)
                            refine stq hf rfl rfl rfl (ex_move hf rfl) (fun a hf => ?_)
                            replace hf := hf.castB (t := 79) rfl (ndec_f hc69)
                            replace hf := hf.castB (t := 80) rfl (ndec_f hc69)
                            refine stq hf rfl rfl rfl (ex_move hf rfl) (fun a hf => ?_)
                            refine stq hf rfl rfl rfl (ex_move hf rfl) (fun a hf => ?_)
                            refine stq hf rfl rfl rfl (ex_neq hf rfl rfl) (fun a hf => ?_)
                            refine stq hf rfl rfl rfl (ex_pickF hf rfl rfl) (fun a hf => ?_)
                            refine stq hf rfl rfl rfl (ex_move hf rfl) (fun a hf => ?_)
                            replace hf := hf.castB (t := 83) rfl (ndec_f hc70)
                            replace hf := hf.castB (t := 84) rfl (ndec_f hc70)
                            replace hf := hf.castB (t := 85) rfl (ndec_f hc70)
                            refine stq hf rfl rfl rfl (ex_move hf rfl) (fun a hf => ?_)
                            refine stq hf rfl rfl rfl (ex_neq hf rfl rfl) (fun a hf => ?_)
                            refine stq hf rfl rfl rfl (ex_pickF hf rfl rfl) (fun a hf => ?_)
                            refine stq hf rfl rfl rfl (ex_move hf rfl) (fun a hf => ?_)
                            replace hf := hf.castB (t := 87) rfl (ndec_f hc71)
                            replace hf := hf.castB (t := 88) rfl (ndec_f hc71)
                            replace hf := hf.castB (t := 89) rfl (ndec_f hc71)
                            refine stq hf rfl rfl rfl (ex_move hf rfl) (fun a hf => ?_)
                            refine stq hf rfl rfl rfl (ex_neq hf rfl rfl) (fun a hf => ?_)
                            refine stq hf rfl rfl rfl (ex_pickF hf rfl rfl) (fun a hf => ?_)
                            refine stq hf rfl rfl rfl (ex_move hf rfl) (fun a hf => ?_)
                            replace hf := hf.castB (t := 91) rfl (ndec_t hc72)
                            replace hf := hf.castB (t := 92) rfl (ndec_t hc72)
                            replace hf := hf.castB (t := 93) rfl (ndec_t hc72)
                            refine stepN hf rfl rfl rfl (fun a hf => ?_)
                            refine stepN hf rfl rfl rfl (fun a hf => ?_)
                            refine stq hf rfl rfl rfl (ex_pickT hf rfl rfl) (fun a hf => ?_)
                            refine hK74 _ _ ?_
                            replace hs := hs.keep (.k (.k (.d (.k .nil))))
                            replace hs := hs.pick (.k (.c (.k .nil)))
                            replace hs := hs.pick (.k (.c (.k .nil)))
                            replace hs := hs.pick (.k (.k (.c .nil)))
                            have e68 := some_eq H; subst e68
                            exact hJ68 _ _ ⟨hf.sub ⟨rfl, rfl, rfl, rfl, rfl, trivial⟩, hs⟩
                        · -- not s44.2 = 0
                          refine region_k (fun K75 hK75 => ?_)
                          refine stq hf rfl rfl rfl (ex_move hf rfl) (fun a hf => ?_)
                          refine stq hf rfl rfl rfl (ex_move hf rfl) (fun a hf => ?_)
                          refine stq hf rfl rfl rfl (ex_neq hf rfl rfl) (fun a hf => ?_)
                          refine stq hf rfl rfl rfl (ex_move hf rfl) (fun a hf => ?_)
                          replace hf := hf.castB (t := 79) rfl (ndec_f hc69)
                          replace hf := hf.castB (t := 80) rfl (ndec_f hc69)
                          refine stq hf rfl rfl rfl (ex_move hf rfl) (fun a hf => ?_)
                          refine stq hf rfl rfl rfl (ex_move hf rfl) (fun a hf => ?_)
                          refine stq hf rfl rfl rfl (ex_neq hf rfl rfl) (fun a hf => ?_)
                          refine stq hf rfl rfl rfl (ex_pickF hf rfl rfl) (fun a hf => ?_)
                          refine stq hf rfl rfl rfl (ex_move hf rfl) (fun a hf => ?_)
                          replace hf := hf.castB (t := 83) rfl (ndec_f hc70)
                          replace hf := hf.castB (t := 84) rfl (ndec_f hc70)
                          replace hf := hf.castB (t := 85) rfl (ndec_f hc70)
                          refine stq hf rfl rfl rfl (ex_move hf rfl) (fun a hf => ?_)
                          refine stq hf rfl rfl rfl (ex_neq hf rfl rfl) (fun a hf => ?_)
                          refine stq hf rfl rfl rfl (ex_pickF hf rfl rfl) (fun a hf => ?_)
                          refine stq hf rfl rfl rfl (ex_move hf rfl) (fun a hf => ?_)
                          replace hf := hf.castB (t := 87) rfl (ndec_t hc71)
                          replace hf := hf.castB (t := 88) rfl (ndec_t hc71)
                          replace hf := hf.castB (t := 89) rfl (ndec_t hc71)
                          refine stepN hf rfl rfl rfl (fun a hf => ?_)
                          refine stepN hf rfl rfl rfl (fun a hf => ?_)
                          refine stq hf rfl rfl rfl (ex_pickT hf rfl rfl) (fun a hf => ?_)
                          refine stq hf rfl rfl rfl (ex_move hf rfl) (fun a hf => ?_)
                          refine stepN hf rfl rfl rfl (fun a hf => ?_)
                          refine stepN hf rfl rfl rfl (fun a hf => ?_)
                          refine stq hf rfl rfl rfl (ex_pickT hf rfl rfl) (fun a hf => ?_)
                          refine hK75 _ _ ?_
                          replace hs := hs.keep (.k (.k (.d (.k .nil))))
                          replace hs := hs.pick (.k (.c (.k .nil)))
                          replace hs := hs.pick (.k (.c (.k .nil)))
                          replace hs := hs.pick (.k (.k (.c .nil)))
                          have e68 := some_eq H; subst e68
                          exact hJ68 _ _ ⟨hf.sub ⟨rfl, rfl, rfl, rfl, rfl, trivial⟩, hs⟩
                      · -- not x28 = x35
                        refine region_k (fun K76 hK76 => ?_)
                        refine stq hf rfl rfl rfl (ex_move hf rfl) (fun a hf => ?_)
                        refine stq hf rfl rfl rfl (ex_move hf rfl) (fun a hf => ?_)
                        refine stq hf rfl rfl rfl (ex_neq hf rfl rfl) (fun a hf => ?_)
                        refine stq hf rfl rfl rfl (ex_move hf rfl) (fun a hf => ?_)
                        replace hf := hf.castB (t := 79) rfl (ndec_f hc69)
                        replace hf := hf.castB (t := 80) rfl (ndec_f hc69)
                        refine stq hf rfl rfl rfl (ex_move hf rfl) (fun a hf => ?_)
                        refine stq hf rfl rfl rfl (ex_move hf rfl) (fun a hf => ?_)
                        refine stq hf rfl rfl rfl (ex_neq hf rfl rfl) (fun a hf => ?_)
                        refine stq hf rfl rfl rfl (ex_pickF hf rfl rfl) (fun a hf => ?_)
                        refine stq hf rfl rfl rfl (ex_move hf rfl) (fun a hf => ?_)
                        replace hf := hf.castB (t := 83) rfl (ndec_t hc70)
                        replace hf := hf.castB (t := 84) rfl (ndec_t hc70)
                        replace hf := hf.castB (t := 85) rfl (ndec_t hc70)
                        refine stepN hf rfl rfl rfl (fun a hf => ?_)
                        refine stepN hf rfl rfl rfl (fun a hf => ?_)
                        refine stq hf rfl rfl rfl (ex_pickT hf rfl rfl) (fun a hf => ?_)
                        refine stq hf rfl rfl rfl (ex_move hf rfl) (fun a hf => ?_)
                        refine stepN hf rfl rfl rfl (fun a hf => ?_)
                        refine stepN hf rfl rfl rfl (fun a hf => ?_)
                        refine stq hf rfl rfl rfl (ex_pickT hf rfl rfl) (fun a hf => ?_)
                        refine stq hf rfl rfl rfl (ex_move hf rfl) (fun a hf => ?_)
                        refine stepN hf rfl rfl rfl (fun a hf => ?_)
                        refine stepN hf rfl rfl rfl (fun a hf => ?_)
                        refine stq hf rfl rfl rfl (ex_pickT hf rfl rfl) (fun a hf => ?_)
                        refine hK76 _ _ ?_
                        replace hs := hs.keep (.k (.k (.d (.k .nil))))
                        replace hs := hs.pick (.k (.c (.k .nil)))
                        replace hs := hs.pick (.k (.c (.k .nil)))
                        replace hs := hs.pick (.k (.k (.c .nil)))
                        have e68 := some_eq H; subst e68
                        exact hJ68 _ _ ⟨hf.sub ⟨rfl, rfl, rfl, rfl, rfl, trivial⟩, hs⟩
                    · -- not x11 = x18
                      refine region_k (fun K77 hK77 => ?_)
                      refine stq hf rfl rfl rfl (ex_move hf rfl) (fun a hf => ?_)
                      refine stq hf rfl rfl rfl (ex_move hf rfl) (fun a hf => ?_)
                      refine stq hf rfl rfl rfl (ex_neq hf rfl rfl) (fun a hf => ?_)
                      refine stq hf rfl rfl rfl (ex_move hf rfl) (fun a hf => ?_)
                      replace hf := hf.castB (t := 79) rfl (ndec_t hc69)
                      replace hf := hf.castB (t := 80) rfl (ndec_t hc69)
                      refine stepN hf rfl rfl rfl (fun a hf => ?_)
                      refine stepN hf rfl rfl rfl (fun a hf => ?_)
                      refine stepN hf rfl rfl rfl (fun a hf => ?_)
                      refine stq hf rfl rfl rfl (ex_pickT hf rfl rfl) (fun a hf => ?_)
                      refine stq hf rfl rfl rfl (ex_move hf rfl) (fun a hf => ?_)
                      refine stepN hf rfl rfl rfl (fun a hf => ?_)
                      refine stepN hf rfl rfl rfl (fun a hf => ?_)
                      refine stq hf rfl rfl rfl (ex_pickT hf rfl rfl) (fun a hf => ?_)
                      refine stq hf rfl rfl rfl (ex_move hf rfl) (fun a hf => ?_)
                      refine stepN hf rfl rfl rfl (fun a hf => ?_)
                      refine stepN hf rfl rfl rfl (fun a hf => ?_)
                      refine stq hf rfl rfl rfl (ex_pickT hf rfl rfl) (fun a hf => ?_)
                      refine stq hf rfl rfl rfl (ex_move hf rfl) (fun a hf => ?_)
                      refine stepN hf rfl rfl rfl (fun a hf => ?_)
                      refine stepN hf rfl rfl rfl (fun a hf => ?_)
                      refine stq hf rfl rfl rfl (ex_pickT hf rfl rfl) (fun a hf => ?_)
                      refine hK77 _ _ ?_
                      replace hs := hs.keep (.k (.k (.d (.k .nil))))
                      replace hs := hs.pick (.k (.c (.k .nil)))
                      replace hs := hs.pick (.k (.c (.k .nil)))
                      replace hs := hs.pick (.k (.k (.c .nil)))
                      have e68 := some_eq H; subst e68
                      exact hJ68 _ _ ⟨hf.sub ⟨rfl, rfl, rfl, rfl, rfl, trivial⟩, hs⟩
                  · obtain ⟨hf, hs⟩ := hJ
                    replace H := HO68
                    clear HO68
                    refine cond_T hf rfl ?_
                    refine seq_reg (fun K78 hK78 => ?_)
                    refine stq hf rfl rfl rfl (ex_assign hf rfl) (fun a hf => ?_)
                    refine hK78 _ _ ?_
                    refine wp_ret ?_
                    refine hR67 _ _ ?_
                    have eR := some_eq H; subst eR
                    replace hs := hs.keep (.d (.d (.d .nil)))
                    exact ret1 Try.results10 hf rfl ⟨_, rfl, ⟨rfl, hs⟩⟩
              | some c45 =>
                replace H := elim_s hps44 H
                refine region_k (fun K81 hK81 => ?_)
                refine stq hf rfl rfl rfl (ex_move hf rfl) (fun a hf => ?_)
                refine stq hf rfl rfl rfl (ex_loadA (cs := [.int .i64 a1.Up, .int .i64 a1.Down, .int .i64 a1.Samples]) ag_45 hf rfl (bx_cells (hs.get (i := 0) rfl) rfl)) (fun a hf => ?_)
                refine stepF hf rfl rfl rfl (ex_call cf_24 hf rfl) (law36_params.calls k a1 (hs.enter (.k (.k .nil))) (Sr.nil _ _) hs43) (fun v w hR a hf => ?_)
                obtain ⟨rfl, hs'⟩ := hR
                replace hs := hs.step (.k (.k .nil)) hs'
                clear hs'
                refine stepF hf rfl rfl rfl (ex_call cf_25 hf rfl) (perf_New.calls k s25 s43 v26 (hs.enter (.k (.k .nil))) (Sr.own hs (.k (.k .nil)) (i := 1) rfl osl_rsl (fun _ h => h.1) (Sr.nil _ _)) hs44) (fun v w hR a hf => ?_)
                obtain ⟨hc', _⟩ | ⟨cc, hc', b79, v80, rfl, hs'⟩ := hR
                case inl => rw [hps44] at hc'; cases hc'
                obtain rfl : c45 = cc := by rw [hps44] at hc'; exact Option.some.inj hc'
                replace hs := hs.step (.k (.k .nil)) hs'
                clear hs'
                refine stq hf rfl rfl rfl (ex_move hf rfl) (fun a hf => ?_)
                refine stq hf rfl rfl rfl (ex_extract hf rfl rfl) (fun a hf => ?_)
                refine stq hf rfl rfl rfl (ex_extract hf rfl rfl) (fun a hf => ?_)
                refine stq hf rfl rfl rfl (ex_assign hf rfl) (fun a hf => ?_)
                refine stq hf rfl rfl rfl (ex_assign hf rfl) (fun a hf => ?_)
                refine hK81 _ _ ?_
                refine hN42 _ _ ?_
                refine seq_n (fun Q82 hN82 hR82 hX82 => ?_)
                refine bnd H (fun s83 hs83 H => ?_)
                refine bnd H (fun s84 hs84 H => ?_)
                cases hps84 : s84.1 with
                | none =>
                  replace H := elim_n hps84 H
                  refine region_k (fun K86 hK86 => ?_)
                  refine stq hf rfl rfl rfl (ex_move hf rfl) (fun a hf => ?_)
                  refine stq hf rfl rfl rfl (ex_loadA (cs := [.int .i64 a1.Up, .int .i64 a1.Down, .int .i64 a1.Samples]) ag_45 hf rfl (bx_cells (hs.get (i := 2) rfl) rfl)) (fun a hf => ?_)
                  refine stepF hf rfl rfl rfl (ex_call cf_24 hf rfl) (law36_params.calls k a1 (hs.enter (.k (.k (.k (.k .nil))))) (Sr.nil _ _) hs83) (fun v w hR a hf => ?_)
                  obtain ⟨rfl, hs'⟩ := hR
                  replace hs := hs.step (.k (.k (.k (.k .nil)))) hs'
                  clear hs'
                  refine stepF hf rfl rfl rfl (ex_call cf_28 hf rfl) (ref36_New.calls k s25 s83 v26 (hs.enter (.k (.k (.k (.k .nil))))) (Sr.own hs (.k (.k (.k (.k .nil)))) (i := 3) rfl osl_rsl (fun _ h => h.1) (Sr.nil _ _)) hs84) (fun v w hR a hf => ?_)
                  obtain ⟨_, rfl, hs'⟩ | ⟨_, hc', _⟩ := hR
                  case inr => rw [hps84] at hc'; cases hc'
                  replace hs := hs.step (.k (.k (.k (.k .nil)))) hs'
                  clear hs'
                  refine stq hf rfl rfl rfl (ex_move hf rfl) (fun a hf => ?_)
                  refine stq hf rfl rfl rfl (ex_extract hf rfl rfl) (fun a hf => ?_)
                  refine stq hf rfl rfl rfl (ex_extract hf rfl rfl) (fun a hf => ?_)
                  refine stq hf rfl rfl rfl (ex_assign hf rfl) (fun a hf => ?_)
                  refine stq hf rfl rfl rfl (ex_assign hf rfl) (fun a hf => ?_)
                  refine hK86 _ _ ?_
                  refine hN82 _ _ ?_
                  refine seq_n (fun Q87 hN87 hR87 hX87 => ?_)
                  refine bnd H (fun x88 H88 HO88 => ?_)
                  clear H
                  refine seq_cut (fun a w => Fr a 180 [(2, v2), (11, v26), (16, .pointer (some ⟨b79, 0, none⟩)), (18, .pointer none), (96, .bool x88)] ∧ St M w0 w [osl K_api_OperatingPoint v26 s25, bx b79 66 [v80, .int .i64 c45.2.1, .int .i64 c45.2.2.1, .int .i64 c45.2.2.2.1, .int .i64 c45.2.2.2.2.1, .int .i64 c45.2.2.2.2.2.1, .int .i64 c45.2.2.2.2.2.2.1, .int .i64 c45.2.2.2.2.2.2.2], osl K_api_OperatingPoint v80 c45.1]) (fun Q88 hJ88 hR88 hX88 => ?_) (fun a w hJ => ?_)
                  · replace H := H88
                    refine itt H (fun hc89 H => ?_) (fun hc89 H => ?_)
                    · -- x11 = x18
                      refine itt H (fun hc90 H => ?_) (fun hc90 H => ?_)
                      · -- x28 = x35
                        refine itt H (fun hc91 H => ?_) (fun hc91 H => ?_)
                        · -- s44.2 = 0
                          refine itt H (fun hc92 H => ?_) (fun hc92 H => ?_)
                          · -- s84.2 = 0
                            refine region_k (fun K93 hK93 => ?_)
                            refine stq hf rfl rfl rfl (ex_move hf rfl) (fun a hf => ?_)
                            refine stq hf rfl rfl rfl (ex_move hf rfl) (fun a hf => ?_)
                            refine stq hf rfl rfl rfl (ex_neq hf rfl rfl) (fun a hf => ?_)
                            refine stq hf rfl rfl rfl (ex_move hf rfl) (fun a hf => ?_)
                            replace hf := hf.castB (t := 79) rfl (ndec_f hc89)
                            replace hf := hf.castB (t := 80) rfl (ndec_f hc89)
                            refine stq hf rfl rfl rfl (ex_move hf rfl) (fun a hf => ?_)
                            refine stq hf rfl rfl rfl (ex_move hf rfl) (fun a hf => ?_)
                            refine stq hf rfl rfl rfl (ex_neq hf rfl rfl) (fun a hf => ?_)
                            refine stq hf rfl rfl rfl (ex_pickF hf rfl rfl) (fun a hf => ?_)
                            refine stq hf rfl rfl rfl (ex_move hf rfl) (fun a hf => ?_)
                            replace hf := hf.castB (t := 83) rfl (ndec_f hc90)
                            replace hf := hf.castB (t := 84) rfl (ndec_f hc90)
                            replace hf := hf.castB (t := 85) rfl (ndec_f hc90)
                            refine stq hf rfl rfl rfl (ex_move hf rfl) (fun a hf => ?_)
                            refine stq hf rfl rfl rfl (ex_neq hf rfl rfl) (fun a hf => ?_)
                            refine stq hf rfl rfl rfl (ex_pickF hf rfl rfl) (fun a hf => ?_)
                            refine stq hf rfl rfl rfl (ex_move hf rfl) (fun a hf => ?_)
                            replace hf := hf.castB (t := 87) rfl (ndec_f hc91)
                            replace hf := hf.castB (t := 88) rfl (ndec_f hc91)
                            replace hf := hf.castB (t := 89) rfl (ndec_f hc91)
                            refine stq hf rfl rfl rfl (ex_move hf rfl) (fun a hf => ?_)
                            refine stq hf rfl rfl rfl (ex_neq hf rfl rfl) (fun a hf => ?_)
                            refine stq hf rfl rfl rfl (ex_pickF hf rfl rfl) (fun a hf => ?_)
                            refine stq hf rfl rfl rfl (ex_move hf rfl) (fun a hf => ?_)
                            replace hf := hf.castB (t := 91) rfl (ndec_f hc92)
                            replace hf := hf.castB (t := 92) rfl (ndec_f hc92)
                            replace hf := hf.castB (t := 93) rfl (ndec_f hc92)
                            refine stq hf rfl rfl rfl (ex_move hf rfl) (fun a hf => ?_)
                            refine stq hf rfl rfl rfl (ex_eqp Try.underlying47 hf rfl rfl) (fun a hf => ?_)
                            refine stq hf rfl rfl rfl (ex_pickF hf rfl rfl) (fun a hf => ?_)
                            refine hK93 _ _ ?_
                            replace hs := hs.keep (.k (.k (.d (.k .nil))))
                            replace hs := hs.pick (.k (.c (.k .nil)))
                            replace hs := hs.pick (.k (.c (.k .nil)))
                            replace hs := hs.pick (.k (.k (.c .nil)))
                            have e88 := some_eq H; subst e88
                            exact hJ88 _ _ ⟨hf.sub ⟨rfl, rfl, rfl, rfl, rfl, trivial⟩, hs⟩
                          · -- not s84.2 = 0
                            refine region_k (fun K94 hK94 => ?_)
                            refine stq hf rfl rfl rfl (ex_move hf rfl) (fun a hf => ?_)
                            refine stq hf rfl rfl rfl (ex_move hf rfl) (fun a hf => ?_)
                            refine stq hf rfl rfl rfl (ex_neq hf rfl rfl) (fun a hf => ?_)
                            refine stq hf rfl rfl rfl (ex_move hf rfl) (fun a hf => ?_)
                            replace hf := hf.castB (t := 79) rfl (ndec_f hc89)
                            replace hf := hf.castB (t := 80) rfl (ndec_f hc89)
                            refine stq hf rfl rfl rfl (ex_move hf rfl) (fun a hf => ?_)
                            refine stq hf rfl rfl rfl (ex_move hf rfl) (fun a hf => ?_)
                            refine stq hf rfl rfl rfl (ex_neq hf rfl rfl) (fun a hf => ?_)
                            refine stq hf rfl rfl rfl (ex_pickF hf rfl rfl) (fun a hf => ?_)
                            refine stq hf rfl rfl rfl (ex_move hf rfl) (fun a hf => ?_)
                            replace hf := hf.castB (t := 83) rfl (ndec_f hc90)
                            replace hf := hf.castB (t := 84) rfl (ndec_f hc90)
                            replace hf := hf.castB (t := 85) rfl (ndec_f hc90)
                            refine stq hf rfl rfl rfl (ex_move hf rfl) (fun a hf => ?_)
                            refine stq hf rfl rfl rfl (ex_neq hf rfl rfl) (fun a hf => ?_)
                            refine stq hf rfl rfl rfl (ex_pickF hf rfl rfl) (fun a hf => ?_)
                            refine stq hf rfl rfl rfl (ex_move hf rfl) (fun a hf => ?_)
                            replace hf := hf.castB (t := 87) rfl (ndec_f hc91)
                            replace hf := hf.castB (t := 88) rfl (ndec_f hc91)
                            replace hf := hf.castB (t := 89) rfl (ndec_f hc91)
                            refine stq hf rfl rfl rfl (ex_move hf rfl) (fun a hf => ?_)
                            refine stq hf rfl rfl rfl (ex_neq hf rfl rfl) (fun a hf => ?_)
                            refine stq hf rfl rfl rfl (ex_pickF hf rfl rfl) (fun a hf => ?_)
                            refine stq hf rfl rfl rfl (ex_move hf rfl) (fun a hf => ?_)
                            replace hf := hf.castB (t := 91) rfl (ndec_t hc92)
                            replace hf := hf.castB (t := 92) rfl (ndec_t hc92)
                            replace hf := hf.castB (t := 93) rfl (ndec_t hc92)
                            refine stepN hf rfl rfl rfl (fun a hf => ?_)
                            refine stepN hf rfl rfl rfl (fun a hf => ?_)
                            refine stq hf rfl rfl rfl (ex_pickT hf rfl rfl) (fun a hf => ?_)
                            refine hK94 _ _ ?_
                            replace hs := hs.keep (.k (.k (.d (.k .nil))))
                            replace hs := hs.pick (.k (.c (.k .nil)))
                            replace hs := hs.pick (.k (.c (.k .nil)))
                            replace hs := hs.pick (.k (.k (.c .nil)))
                            have e88 := some_eq H; subst e88
                            exact hJ88 _ _ ⟨hf.sub ⟨rfl, rfl, rfl, rfl, rfl, trivial⟩, hs⟩
                        · -- not s44.2 = 0
                          refine region_k (fun K95 hK95 => ?_)
                          refine stq hf rfl rfl rfl (ex_move hf rfl) (fun a hf => ?_)
                          refine stq hf rfl rfl rfl (ex_move hf rfl) (fun a hf => ?_)
                          refine stq hf rfl rfl rfl (ex_neq hf rfl rfl) (fun a hf => ?_)
                          refine stq hf rfl rfl rfl (ex_move hf rfl) (fun a hf => ?_)
                          replace hf := hf.castB (t := 79) rfl (ndec_f hc89)
                          replace hf := hf.castB (t := 80) rfl (ndec_f hc89)
                          refine stq hf rfl rfl rfl (ex_move hf rfl) (fun a hf => ?_)
                          refine stq hf rfl rfl rfl (ex_move hf rfl) (fun a hf => ?_)
                          refine stq hf rfl rfl rfl (ex_neq hf rfl rfl) (fun a hf => ?_)
                          refine stq hf rfl rfl rfl (ex_pickF hf rfl rfl) (fun a hf => ?_)
                          refine stq hf rfl rfl rfl (ex_move hf rfl) (fun a hf => ?_)
                          replace hf := hf.castB (t := 83) rfl (ndec_f hc90)
                          replace hf := hf.castB (t := 84) rfl (ndec_f hc90)
                          replace hf := hf.castB (t := 85) rfl (ndec_f hc90)
                          refine stq hf rfl rfl rfl (ex_move hf rfl) (fun a hf => ?_)
                          refine stq hf rfl rfl rfl (ex_neq hf rfl rfl) (fun a hf => ?_)
                          refine stq hf rfl rfl rfl (ex_pickF hf rfl rfl) (fun a hf => ?_)
                          refine stq hf rfl rfl rfl (ex_move hf rfl) (fun a hf => ?_)
                          replace hf := hf.castB (t := 87) rfl (ndec_t hc91)
                          replace hf := hf.castB (t := 88) rfl (ndec_t hc91)
                          replace hf := hf.castB (t := 89) rfl (ndec_t hc91)
                          refine stepN hf rfl rfl rfl (fun a hf => ?_)
                          refine stepN hf rfl rfl rfl (fun a hf => ?_)
                          refine stq hf rfl rfl rfl (ex_pickT hf rfl rfl) (fun a hf => ?_)
                          refine stq hf rfl rfl rfl (ex_move hf rfl) (fun a hf => ?_)
                          refine stepN hf rfl rfl rfl (fun a hf => ?_)
                          refine stepN hf rfl rfl rfl (fun a hf => ?_)
                          refine stq hf rfl rfl rfl (ex_pickT hf rfl rfl) (fun a hf => ?_)
                          refine hK95 _ _ ?_
                          replace hs := hs.keep (.k (.k (.d (.k .nil))))
                          replace hs := hs.pick (.k (.c (.k .nil)))
                          replace hs := hs.pick (.k (.c (.k .nil)))
                          replace hs := hs.pick (.k (.k (.c .nil)))
                          have e88 := some_eq H; subst e88
                          exact hJ88 _ _ ⟨hf.sub ⟨rfl, rfl, rfl, rfl, rfl, trivial⟩, hs⟩
                      · -- not x28 = x35
                        refine region_k (fun K96 hK96 => ?_)
                        refine stq hf rfl rfl rfl (ex_move hf rfl) (fun a hf => ?_)
                        refine stq hf rfl rfl rfl (ex_move hf rfl) (fun a hf => ?_)
                        refine stq hf rfl rfl rfl (ex_neq hf rfl rfl) (fun a hf => ?_)
                        refine stq hf rfl rfl rfl (ex_move hf rfl) (fun a hf => ?_)
                        replace hf := hf.castB (t := 79) rfl (ndec_f hc89)
                        replace hf := hf.castB (t := 80) rfl (ndec_f hc89)
                        refine stq hf rfl rfl rfl (ex_move hf rfl) (fun a hf => ?_)
                        refine stq hf rfl rfl rfl (ex_move hf rfl) (fun a hf => ?_)
                        refine stq hf rfl rfl rfl (ex_neq hf rfl rfl) (fun a hf => ?_)
                        refine stq hf rfl rfl rfl (ex_pickF hf rfl rfl) (fun a hf => ?_)
                        refine stq hf rfl rfl rfl (ex_move hf rfl) (fun a hf => ?_)
                        replace hf := hf.castB (t := 83) rfl (ndec_t hc90)
                        replace hf := hf.castB (t := 84) rfl (ndec_t hc90)
                        replace hf := hf.castB (t := 85) rfl (ndec_t hc90)
                        refine stepN hf rfl rfl rfl (fun a hf => ?_)
                        refine stepN hf rfl rfl rfl (fun a hf => ?_)
                        refine stq hf rfl rfl rfl (ex_pickT hf rfl rfl) (fun a hf => ?_)
                        refine stq hf rfl rfl rfl (ex_move hf rfl) (fun a hf => ?_)
                        refine stepN hf rfl rfl rfl (fun a hf => ?_)
                        refine stepN hf rfl rfl rfl (fun a hf => ?_)
                        refine stq hf rfl rfl rfl (ex_pickT hf rfl rfl) (fun a hf => ?_)
                        refine stq hf rfl rfl rfl (ex_move hf rfl) (fun a hf => ?_)
                        refine stepN hf rfl rfl rfl (fun a hf => ?_)
                        refine stepN hf rfl rfl rfl (fun a hf => ?_)
                        refine stq hf rfl rfl rfl (ex_pickT hf rfl rfl) (fun a hf => ?_)
                        refine hK96 _ _ ?_
                        replace hs := hs.keep (.k (.k (.d (.k .nil))))
                        replace hs := hs.pick (.k (.c (.k .nil)))
                        replace hs := hs.pick (.k (.c (.k .nil)))
                        replace hs := hs.pick (.k (.k (.c .nil)))
                        have e88 := some_eq H; subst e88
                        exact hJ88 _ _ ⟨hf.sub ⟨rfl, rfl, rfl, rfl, rfl, trivial⟩, hs⟩
                    · -- not x11 = x18
                      refine region_k (fun K97 hK97 => ?_)
                      refine stq hf rfl rfl rfl (ex_move hf rfl) (fun a hf => ?_)
                      refine stq hf rfl rfl rfl (ex_move hf rfl) (fun a hf => ?_)
                      refine stq hf rfl rfl rfl (ex_neq hf rfl rfl) (fun a hf => ?_)
                      refine stq hf rfl rfl rfl (ex_move hf rfl) (fun a hf => ?_)
                      replace hf := hf.castB (t := 79) rfl (ndec_t hc89)
                      replace hf := hf.castB (t := 80) rfl (ndec_t hc89)
                      refine stepN hf rfl rfl rfl (fun a hf => ?_)
                      refine stepN hf rfl rfl rfl (fun a hf => ?_)
                      refine stepN hf rfl rfl rfl (fun a hf => ?_)
                      refine stq hf rfl rfl rfl (ex_pickT hf rfl rfl) (fun a hf => ?_)
                      refine stq hf rfl rfl rfl (ex_move hf rfl) (fun a hf => ?_)
                      refine stepN hf rfl rfl rfl (fun a hf => ?_)
                      refine stepN hf rfl rfl rfl (fun a hf => ?_)
                      refine stq hf rfl rfl rfl (ex_pickT hf rfl rfl) (fun a hf => ?_)
                      refine stq hf rfl rfl rfl (ex_move hf rfl) (fun a hf => ?_)
                      refine stepN hf rfl rfl rfl (fun a hf => ?_)
                      refine stepN hf rfl rfl rfl (fun a hf => ?_)
                      refine stq hf rfl rfl rfl (ex_pickT hf rfl rfl) (fun a hf => ?_)
                      refine stq hf rfl rfl rfl (ex_move hf rfl) (fun a hf => ?_)
                      refine stepN hf rfl rfl rfl (fun a hf => ?_)
                      refine stepN hf rfl rfl rfl (fun a hf => ?_)
                      refine stq hf rfl rfl rfl (ex_pickT hf rfl rfl) (fun a hf => ?_)
                      refine hK97 _ _ ?_
                      replace hs := hs.keep (.k (.k (.d (.k .nil))))
                      replace hs := hs.pick (.k (.c (.k .nil)))
                      replace hs := hs.pick (.k (.c (.k .nil)))
                      replace hs := hs.pick (.k (.k (.c .nil)))
                      have e88 := some_eq H; subst e88
                      exact hJ88 _ _ ⟨hf.sub ⟨rfl, rfl, rfl, rfl, rfl, trivial⟩, hs⟩
                  · obtain ⟨hf, hs⟩ := hJ
                    replace H := HO88
                    clear HO88
                    refine itt H (fun hc98 H => ?_) (fun hc98 H => ?_)
                    · -- x88 = true
                      replace hf := hf.castB (t := 96) rfl hc98
                      refine cond_T hf rfl ?_
                      refine seq_reg (fun K99 hK99 => ?_)
                      refine stq hf rfl rfl rfl (ex_assign hf rfl) (fun a hf => ?_)
                      refine hK99 _ _ ?_
                      refine wp_ret ?_
                      refine hR87 _ _ ?_
                      have eR := some_eq H; subst eR
                      replace hs := hs.keep (.d (.d (.d .nil)))
                      exact ret1 Try.results10 hf rfl ⟨_, rfl, ⟨rfl, hs⟩⟩
                    · -- not x88 = true
                      replace hf := hf.castB (t := 96) rfl (bool_f hc98)
                      refine cond_F hf rfl ?_
                      refine wp_skip ?_
                      refine hN87 _ _ ?_
                      refine bnd H (fun x100 H100 HO100 => ?_)
                      clear H
                      refine seq_cut (fun a w => Fr a 180 [] ∧ St M w0 w []) (fun Q100 hJ100 hR100 hX100 => ?_) (fun a w hJ => ?_)
                      · replace H := H100
                        refine seq_reg (fun K101 hK101 => ?_)
                        refine stq hf rfl rfl rfl (ex_assign hf rfl) (fun a hf => ?_)
                        refine hK101 _ _ ?_
                        refine block_k (fun Q102 hN102 hR102 hX102 hY102 => ?_)
                        refine loop_k (fun n a w => ∃ (_ : Unit), Fr a 180 [(2, v2), (11, v26), (16, .pointer (some ⟨b79, 0, none⟩)), (18, .pointer none), (20, .int .i64 0)] ∧ St M w0 w [osl K_api_OperatingPoint v26 s25, bx b79 66 [v80, .int .i64 c45.2.1, .int .i64 c45.2.2.1, .int .i64 c45.2.2.2.1, .int .i64 c45.2.2.2.2.1, .int .i64 c45.2.2.2.2.2.1, .int .i64 c45.2.2.2.2.2.2.1, .int .i64 c45.2.2.2.2.2.2.2], osl K_api_OperatingPoint v80 c45.1] ∧ law36_PerfGovernorAgrees.l1 n a2 s25 c45 = some x100) k ?_ (fun n104 a w hI Q104 hL104 hR104 hX104 => ?_)
                        · -- at the start
                          exact ⟨(), hf.sub ⟨rfl, rfl, rfl, rfl, rfl, trivial⟩, hs, H⟩
                        · obtain ⟨_, hf, hs, H⟩ := hI
                          cases n104 with
                          | zero => exact absurd H (by rw [law36_PerfGovernorAgrees.l1.eq_1]; intro h; cases h)
                          | succ k104 =>
                            replace H := (law36_PerfGovernorAgrees.l1.eq_2 ..).symm.trans H
                            refine seq_n (fun Q105 hN105 hR105 hX105 => ?_)
                            refine seq_reg (fun K106 hK106 => ?_)
                            refine stq hf rfl rfl rfl (ex_move hf rfl) (fun a hf => ?_)
                            refine stq hf rfl rfl rfl (ex_move hf rfl) (fun a hf => ?_)
                            refine stq hf rfl rfl rfl (ex_lenS Try.underlying52 (rsl_isSl (hr.now hs (i := 1) rfl)) hf rfl) (fun a hf => ?_)
                            refine stq hf rfl rfl rfl (ex_lss hf rfl rfl) (fun a hf => ?_)
                            refine hK106 _ _ ?_
                            refine itt H (fun hc107 H => ?_) (fun hc107 H => ?_)
                            · -- 0 < (a2.length : Int)
                              replace hf := hf.castB (t := 100) rfl (dec_t hc107)
                              refine cond_T hf rfl ?_
                              refine wp_skip ?_
                              refine hN105 _ _ ?_
                              refine seq_n (fun Q108 hN108 hR108 hX108 => ?_)
                              refine block_k (fun Q109 hN109 hR109 hX109 hY109 => ?_)
                              refine ck_some H (fun hc110 H => ?_)
                              refine seq_reg (fun K111 hK111 => ?_)
                              refine stq hf rfl rfl rfl (ex_move hf rfl) (fun a hf => ?_)
                              refine stq hf rfl rfl rfl (ex_move hf rfl) (fun a hf => ?_)
                              refine stq hf rfl rfl rfl (ex_indexAddr sa_52 (rsl_isSl (hr.now hs (i := 1) rfl)) hc110.1 hc110.2 hf rfl rfl) (fun a hf => ?_)
                              refine stq hf rfl rfl rfl (ex_load sc_3 hf rfl (el_cell (K := K_int) (f := 0) (rsl_rd (hr.now hs (i := 1) rfl)) hc110.1 hc110.2 rfl)) (fun a hf => ?_)
                              refine stq hf rfl rfl rfl (ex_assign hf rfl) (fun a hf => ?_)
                              refine hK111 _ _ ?_
                              refine seq_reg (fun K112 hK112 => ?_)
                              refine stq hf rfl rfl rfl (ex_assign hf rfl) (fun a hf => ?_)
                              refine stq hf rfl rfl rfl (ex_assign hf rfl) (fun a hf => ?_)
                              refine hK112 _ _ ?_
                              refine seq_reg (fun K113 hK113 => ?_)
                              refine stq hf rfl rfl rfl (ex_assign hf rfl) (fun a hf => ?_)
                              refine stq hf rfl rfl rfl (ex_assign hf rfl) (fun a hf => ?_)
                              refine hK113 _ _ ?_
                              refine seq_n (fun Q114 hN114 hR114 hX114 => ?_)
                              refine block_k (fun Q115 hN115 hR115 hX115 hY115 => ?_)
                              refine bnd H (fun s116 hs116 H => ?_)
                              refine seq_reg (fun K117 hK117 => ?_)
                              refine stq hf rfl rfl rfl (ex_move hf rfl) (fun a hf => ?_)
                              refine stepF hf rfl rfl rfl (ex_call cf_14 hf rfl) (help_Mod.calls k104 (gd 0 a2 0) 7 (hs.enter (.k (.k (.k .nil)))) (Sr.nil _ _) hs116) (fun v w hR a hf => ?_)
                              obtain ⟨rfl, hs'⟩ := hR
                              replace hs := hs.step (.k (.k (.k .nil))) hs'
                              clear hs'
                              refine stq hf rfl rfl rfl (ex_eql hf rfl rfl) (fun a hf => ?_)
                              refine stq hf rfl rfl rfl (ex_assign hf rfl) (fun a hf => ?_)
                              refine hK117 _ _ ?_
                              refine itt H (fun hc118 H => ?_) (fun hc118 H => ?_)
                              · -- s116 = 0
                                replace hf := hf.castB (t := 124) rfl (dec_t hc118)
                                replace hf := hf.castB (t := 121) rfl (dec_t hc118)
                                refine cond_T hf rfl ?_
                                refine bnd H (fun s119 hs119 H => ?_)
                                refine bnd H (fun s120 hs120 H => ?_)
                                refine bnd H (fun s121 hs121 H => ?_)
                                refine seq_reg (fun K122 hK122 => ?_)
                                refine stq hf rfl rfl rfl (ex_move hf rfl) (fun a hf => ?_)
                                refine stq hf rfl rfl rfl (ex_quo hf rfl rfl (by decide)) (fun a hf => ?_)
                                refine stq hf rfl rfl rfl (ex_move hf rfl) (fun a hf => ?_)
                                refine stq hf rfl rfl rfl (ex_lenS Try.underlying22 (rsl_isSl (osl_rsl _ (hs.get (i := 0) rfl))) hf rfl) (fun a hf => ?_)
                                refine stq hf rfl rfl rfl (ex_add hf rfl rfl) (fun a hf => ?_)
                                refine stepF hf rfl rfl rfl (ex_call cf_14 hf rfl) (help_Mod.calls k104 (IntKind.i64.wrap (Int.tdiv (gd 0 a2 0) 7)) (IntKind.i64.wrap ((s25.length : Int) + 1)) (hs.enter (.k (.k (.k .nil)))) (Sr.nil _ _) hs119) (fun v w hR a hf => ?_)
                                obtain ⟨rfl, hs'⟩ := hR
                                replace hs := hs.step (.k (.k (.k .nil))) hs'
                                clear hs'
                                refine stq hf rfl rfl rfl (ex_move hf rfl) (fun a hf => ?_)
                                refine stepF hf rfl rfl rfl (ex_call cf_14 hf rfl) (help_Mod.calls k104 (gd 0 a2 0) 2 (hs.enter (.k (.k (.k .nil)))) (Sr.nil _ _) hs120) (fun v w hR a hf => ?_)
                                obtain ⟨rfl, hs'⟩ := hR
                                replace hs := hs.step (.k (.k (.k .nil))) hs'
                                clear hs'
                                refine stq hf rfl rfl rfl (ex_sub hf rfl rfl) (fun a hf => ?_)
                                refine stq hf rfl rfl rfl (ex_move hf rfl) (fun a hf => ?_)
                                refine stq hf rfl rfl rfl (ex_quo hf rfl rfl (by decide)) (fun a hf => ?_)
                                refine stq hf rfl rfl rfl (ex_move hf rfl) (fun a hf => ?_)
                                refine stq hf rfl rfl rfl (ex_lenS Try.underlying22 (rsl_isSl (osl_rsl _ (hs.get (i := 0) rfl))) hf rfl) (fun a hf => ?_)
                                refine stq hf rfl rfl rfl (ex_add hf rfl rfl) (fun a hf => ?_)
                                refine stepF hf rfl rfl rfl (ex_call cf_14 hf rfl) (help_Mod.calls k104 (IntKind.i64.wrap (Int.tdiv (gd 0 a2 0) 50)) (IntKind.i64.wrap ((s25.length : Int) + 1)) (hs.enter (.k (.k (.k .nil)))) (Sr.nil _ _) hs121) (fun v w hR a hf => ?_)
                                obtain ⟨rfl, hs'⟩ := hR
                                replace hs := hs.step (.k (.k (.k .nil))) hs'
                                clear hs'
                                refine stq hf rfl rfl rfl (ex_assign hf rfl) (fun a hf => ?_)
                                refine stq hf rfl rfl rfl (ex_assign hf rfl) (fun a hf => ?_)
                                refine hK122 _ _ ?_
                                refine bnd H (fun s123 hs123 H => ?_)
                                cases H
                              · -- not s116 = 0
                                replace hf := hf.castB (t := 124) rfl (dec_f hc118)
                                replace hf := hf.castB (t := 121) rfl (dec_f hc118)
                                refine cond_F hf rfl ?_
                                refine bnd H (fun s124 hs124 H => ?_)
                                refine seq_reg (fun K125 hK125 => ?_)
                                refine stq hf rfl rfl rfl (ex_move hf rfl) (fun a hf => ?_)
                                refine stepF hf rfl rfl rfl (ex_call cf_14 hf rfl) (help_Mod.calls k104 (gd 0 a2 0) 13 (hs.enter (.k (.k (.k .nil)))) (Sr.nil _ _) hs124) (fun v w hR a hf => ?_)
                                obtain ⟨rfl, hs'⟩ := hR
                                replace hs := hs.step (.k (.k (.k .nil))) hs'
                                clear hs'
                                refine stq hf rfl rfl rfl (ex_eql hf rfl rfl) (fun a hf => ?_)
                                refine stq hf rfl rfl rfl (ex_assign hf rfl) (fun a hf => ?_)
                                refine hK125 _ _ ?_
                                refine itt H (fun hc126 H => ?_) (fun hc126 H => ?_)
                                · -- s124 = 0
                                  replace hf := hf.castB (t := 151) rfl (dec_t hc126)
                                  replace hf := hf.castB (t := 148) rfl (dec_t hc126)
                                  refine cond_T hf rfl ?_
                                  refine bnd H (fun s127 hs127 H => ?_)
                                  refine seq_reg (fun K128 hK128 => ?_)
                                  refine stq hf rfl rfl rfl (ex_move hf rfl) (fun a hf => ?_)
                                  refine stq hf rfl rfl rfl (ex_move hf rfl) (fun a hf => ?_)
                                  refine stepF hf rfl rfl rfl (ex_call cf_26 hf rfl) (perf_Governor_Sample.calls k104 c45.1 c45.2.1 c45.2.2.1 c45.2.2.2.1 c45.2.2.2.2.1 c45.2.2.2.2.2.1 c45.2.2.2.2.2.2.1 c45.2.2.2.2.2.2.2 (gd 0 a2 0) b79 v80 (hs.enter (.k (.c (.k .nil)))) (Sr.own hs (.k (.c (.k .nil))) (i := 1) rfl osl_rsl (fun _ h => h.1) (Sr.nil _ _)) hs127) (fun v w hR a hf => ?_)
                                  obtain ⟨rfl, hs'⟩ := hR
                                  replace hs := hs.step (.k (.c (.k .nil))) hs'
                                  clear hs'
                                  refine stq hf rfl rfl rfl (ex_move hf rfl) (fun a hf => ?_)
                                  refine stq hf rfl rfl rfl (ex_extract hf rfl rfl) (fun a hf => ?_)
                                  refine stq hf rfl rfl rfl (ex_extract hf rfl rfl) (fun a hf => ?_)
                                  refine stq hf rfl rfl rfl (ex_assign hf rfl) (fun a hf => ?_)
                                  refine stq hf rfl rfl rfl (ex_assign hf rfl) (fun a hf => ?_)
                                  refine hK128 _ _ ?_
                                  cases H
                                · -- not s124 = 0
                                  replace hf := hf.castB (t := 151) rfl (dec_f hc126)
                                  replace hf := hf.castB (t := 148) rfl (dec_f hc126)
                                  refine cond_F hf rfl ?_
                                  refine bnd H (fun s129 hs129 H => ?_)
                                  refine bnd H (fun s130 hs130 H => ?_)
                                  refine seq_reg (fun K131 hK131 => ?_)
                                  refine stq hf rfl rfl rfl (ex_move hf rfl) (fun a hf => ?_)
                                  refine stq hf rfl rfl rfl (ex_move hf rfl) (fun a hf => ?_)
                                  refine stepF hf rfl rfl rfl (ex_call cf_14 hf rfl) (help_Mod.calls k104 (gd 0 a2 0) 101 (hs.enter (.k (.k (.k .nil)))) (Sr.nil _ _) hs129) (fun v w hR a hf => ?_)
                                  obtain ⟨rfl, hs'⟩ := hR
                                  replace hs := hs.step (.k (.k (.k .nil))) hs'
                                  clear hs'
                                  refine stepF hf rfl rfl rfl (ex_call cf_26 hf rfl) (perf_Governor_Sample.calls k104 c45.1 c45.2.1 c45.2.2.1 c45.2.2.2.1 c45.2.2.2.2.1 c45.2.2.2.2.2.1 c45.2.2.2.2.2.2.1 c45.2.2.2.2.2.2.2 s129 b79 v80 (hs.enter (.k (.c (.k .nil)))) (Sr.own hs (.k (.c (.k .nil))) (i := 1) rfl osl_rsl (fun _ h => h.1) (Sr.nil _ _)) hs130) (fun v w hR a hf => ?_)
                                  obtain ⟨rfl, hs'⟩ := hR
                                  replace hs := hs.step (.k (.c (.k .nil))) hs'
                                  clear hs'
                                  refine stq hf rfl rfl rfl (ex_move hf rfl) (fun a hf => ?_)
                                  refine stq hf rfl rfl rfl (ex_extract hf rfl rfl) (fun a hf => ?_)
                                  refine stq hf rfl rfl rfl (ex_extract hf rfl rfl) (fun a hf => ?_)
                                  refine stq hf rfl rfl rfl (ex_assign hf rfl) (fun a hf => ?_)
                                  refine stq hf rfl rfl rfl (ex_assign hf rfl) (fun a hf => ?_)
                                  refine hK131 _ _ ?_
                                  refine bnd H (fun s132 hs132 H => ?_)
                                  cases H
                            · -- not 0 < (a2.length : Int)
                              replace hf := hf.castB (t := 100) rfl (dec_f hc107)
                              refine cond_F hf rfl ?_
                              refine wp_exit ?_
                              refine hX105 0 _ _ ?_
                              refine hX104 0 _ _ ?_
                              refine hX102 _ _ ?_
                              replace hs := hs.keep (.d (.d (.d .nil)))
                              have e100 := some_eq H; subst e100
                              exact hJ100 _ _ ⟨hf.sub trivial, hs⟩
                      · obtain ⟨hf, hs⟩ := hJ
                        replace H := HO100
                        clear HO100
                        refine bnd H (fun s133 hs133 H => ?_)
                        refine seq_reg (fun K134 hK134 => ?_)
                        refine stepF hf rfl rfl rfl (ex_call cf_12 hf rfl) (law36_awake.calls k (hs.enter .nil) (Sr.nil _ _) hs133) (fun v w hR a hf => ?_)
                        obtain ⟨rfl, hs'⟩ := hR
                        replace hs := hs.step .nil hs'
                        clear hs'
                        refine stq hf rfl rfl rfl (ex_assign hf rfl) (fun a hf => ?_)
                        refine hK134 _ _ ?_
                        refine wp_ret ?_
                        have eR := some_eq H; subst eR
                        exact ret1 Try.results10 hf rfl ⟨_, rfl, ⟨rfl, hs⟩⟩
                | some c85 =>
                  replace H := elim_s hps84 H
                  refine region_k (fun K137 hK137 => ?_)
                  refine stq hf rfl rfl rfl (ex_move hf rfl) (fun a hf => ?_)
                  refine stq hf rfl rfl rfl (ex_loadA (cs := [.int .i64 a1.Up, .int .i64 a1.Down, .int .i64 a1.Samples]) ag_45 hf rfl (bx_cells (hs.get (i := 2) rfl) rfl)) (fun a hf => ?_)
                  refine stepF hf rfl rfl rfl (ex_call cf_24 hf rfl) (law36_params.calls k a1 (hs.enter (.k (.k (.k (.k .nil))))) (Sr.nil _ _) hs83) (fun v w hR a hf => ?_)
                  obtain ⟨rfl, hs'⟩ := hR
                  replace hs := hs.step (.k (.k (.k (.k .nil)))) hs'
                  clear hs'
                  refine stepF hf rfl rfl rfl (ex_call cf_28 hf rfl) (ref36_New.calls k s25 s83 v26 (hs.enter (.k (.k (.k (.k .nil))))) (Sr.own hs (.k (.k (.k (.k .nil)))) (i := 3) rfl osl_rsl (fun _ h => h.1) (Sr.nil _ _)) hs84) (fun v w hR a hf => ?_)
                  obtain ⟨hc', _⟩ | ⟨cc, hc', b135, v136, rfl, hs'⟩ := hR
                  case inl => rw [hps84] at hc'; cases hc'
                  obtain rfl : c85 = cc := by rw [hps84] at hc'; exact Option.some.inj hc'
                  replace hs := hs.step (.k (.k (.k (.k .nil)))) hs'
                  clear hs'
                  refine stq hf rfl rfl rfl (ex_move hf rfl) (fun a hf => ?_)
                  refine stq hf rfl rfl rfl (ex_extract hf rfl rfl) (fun a hf => ?_)
                  refine stq hf rfl rfl rfl (ex_extract hf rfl rfl) (fun a hf => ?_)
                  refine stq hf rfl rfl rfl (ex_assign hf rfl) (fun a hf => ?_)
                  refine stq hf rfl rfl rfl (ex_assign hf rfl) (fun a hf => ?_)
                  refine hK137 _ _ ?_
                  refine hN82 _ _ ?_
                  refine seq_n (fun Q138 hN138 hR138 hX138 => ?_)
                  refine bnd H (fun x139 H139 HO139 => ?_)
                  clear H
                  refine seq_cut (fun a w => Fr a 180 [(2, v2), (11, v26), (16, .pointer (some ⟨b79, 0, none⟩)), (18, .pointer (some ⟨b135, 0, none⟩)), (96, .bool x139)] ∧ St M w0 w [osl K_api_OperatingPoint v26 s25, bx b79 66 [v80, .int .i64 c45.2.1, .int .i64 c45.2.2.1, .int .i64 c45.2.2.2.1, .int .i64 c45.2.2.2.2.1, .int .i64 c45.2.2.2.2.2.1, .int .i64 c45.2.2.2.2.2.2.1, .int .i64 c45.2.2.2.2.2.2.2], osl K_api_OperatingPoint v80 c45.1, bx b135 69 [v136, .int .i64 c85.2.1, .int .i64 c85.2.2.1, .int .i64 c85.2.2.2.1, .int .i64 c85.2.2.2.2.1, .int .i64 c85.2.2.2.2.2.1, .int .i64 c85.2.2.2.2.2.2.1, .int .i64 c85.2.2.2.2.2.2.2], osl K_api_OperatingPoint v136 c85.1]) (fun Q139 hJ139 hR139 hX139 => ?_) (fun a w hJ => ?_)
                  · replace H := H139
                    refine itt H (fun hc140 H => ?_) (fun hc140 H => ?_)
                    · -- x11 = x18
                      refine itt H (fun hc141 H => ?_) (fun hc141 H => ?_)
                      · -- x28 = x35
                        refine itt H (fun hc142 H => ?_) (fun hc142 H => ?_)
                        · -- s44.2 = 0
                          refine itt H (fun hc143 H => ?_) (fun hc143 H => ?_)
                          · -- s84.2 = 0
                            refine region_k (fun K144 hK144 => ?_)
                            refine stq hf rfl rfl rfl (ex_move hf rfl) (fun a hf => ?_)
                            refine stq hf rfl rfl rfl (ex_move hf rfl) (fun a hf => ?_)
                            refine stq hf rfl rfl rfl (ex_neq hf rfl rfl) (fun a hf => ?_)
                            refine stq hf rfl rfl rfl (ex_move hf rfl) (fun a hf => ?_)
                            replace hf := hf.castB (t := 79) rfl (ndec_f hc140)
                            replace hf := hf.castB (t := 80) rfl (ndec_f hc140)
                            refine stq hf rfl rfl rfl (ex_move hf rfl) (fun a hf => ?_)
                            refine stq hf rfl rfl rfl (ex_move hf rfl) (fun a hf => ?_)
                            refine stq hf rfl rfl rfl (ex_neq hf rfl rfl) (fun a hf => ?_)
                            refine stq hf rfl rfl rfl (ex_pickF hf rfl rfl) (fun a hf => ?_)
                            refine stq hf rfl rfl rfl (ex_move hf rfl) (fun a hf => ?_)
                            replace hf := hf.castB (t := 83) rfl (ndec_f hc141)
                            replace hf := hf.castB (t := 84) rfl (ndec_f hc141)
                            replace hf := hf.castB (t := 85) rfl (ndec_f hc141)
                            refine stq hf rfl rfl rfl (ex_move hf rfl) (fun a hf => ?_)
                            refine stq hf rfl rfl rfl (ex_neq hf rfl rfl) (fun a hf => ?_)
                            refine stq hf rfl rfl rfl (ex_pickF hf rfl rfl) (fun a hf => ?_)
                            refine stq hf rfl rfl rfl (ex_move hf rfl) (fun a hf => ?_)
                            replace hf := hf.castB (t := 87) rfl (ndec_f hc142)
                            replace hf := hf.castB (t := 88) rfl (ndec_f hc142)
                            replace hf := hf.castB (t := 89) rfl (ndec_f hc142)
                            refine stq hf rfl rfl rfl (ex_move hf rfl) (fun a hf => ?_)
                            refine stq hf rfl rfl rfl (ex_neq hf rfl rfl) (fun a hf => ?_)
                            refine stq hf rfl rfl rfl (ex_pickF hf rfl rfl) (fun a hf => ?_)
                            refine stq hf rfl rfl rfl (ex_move hf rfl) (fun a hf => ?_)
                            replace hf := hf.castB (t := 91) rfl (ndec_f hc143)
                            replace hf := hf.castB (t := 92) rfl (ndec_f hc143)
                            replace hf := hf.castB (t := 93) rfl (ndec_f hc143)
                            refine stq hf rfl rfl rfl (ex_move hf rfl) (fun a hf => ?_)
                            refine stq hf rfl rfl rfl (ex_eqp Try.underlying47 hf rfl rfl) (fun a hf => ?_)
                            refine stq hf rfl rfl rfl (ex_pickF hf rfl rfl) (fun a hf => ?_)
                            refine hK144 _ _ ?_
                            replace hs := hs.keep (.k (.k (.k (.k (.d (.k .nil))))))
                            replace hs := hs.pick (.k (.c (.k (.k (.k .nil)))))
                            replace hs := hs.pick (.k (.c (.k (.k (.k .nil)))))
                            replace hs := hs.pick (.k (.k (.k (.c (.k .nil)))))
                            replace hs := hs.pick (.k (.k (.k (.c (.k .nil)))))
                            replace hs := hs.pick (.k (.k (.k (.k (.c .nil)))))
                            have e139 := some_eq H; subst e139
                            exact hJ139 _ _ ⟨hf.sub ⟨rfl, rfl, rfl, rfl, rfl, trivial⟩, hs⟩
                          · -- not s84.2 = 0
                            refine region_k (fun K145 hK145 => ?_)
                            refine stq hf rfl rfl rfl (ex_move hf rfl) (fun a hf => ?_)
                            refine stq hf rfl rfl rfl (ex_move hf rfl) (fun a hf => ?_)
                            refine stq hf rfl rfl rfl (ex_neq hf rfl rfl) (fun a hf => ?_)
                            refine stq hf rfl rfl rfl (ex_move hf rfl) (fun a hf => ?_)
                            replace hf := hf.castB (t := 79) rfl (ndec_f hc140)
                            replace hf := hf.castB (t := 80) rfl (ndec_f hc140)
                            refine stq hf rfl rfl rfl (ex_move hf rfl) (fun a hf => ?_)
                            refine stq hf rfl rfl rfl (ex_move hf rfl) (fun a hf => ?_)
                            refine stq hf rfl rfl rfl (ex_neq hf rfl rfl) (fun a hf => ?_)
                            refine stq hf rfl rfl rfl (ex_pickF hf rfl rfl) (fun a hf => ?_)
                            refine stq hf rfl rfl rfl (ex_move hf rfl) (fun a hf => ?_)
                            replace hf := hf.castB (t := 83) rfl (ndec_f hc141)
                            replace hf := hf.castB (t := 84) rfl (ndec_f hc141)
                            replace hf := hf.castB (t := 85) rfl (ndec_f hc141)
                            refine stq hf rfl rfl rfl (ex_move hf rfl) (fun a hf => ?_)
                            refine stq hf rfl rfl rfl (ex_neq hf rfl rfl) (fun a hf => ?_)
                            refine stq hf rfl rfl rfl (ex_pickF hf rfl rfl) (fun a hf => ?_)
                            refine stq hf rfl rfl rfl (ex_move hf rfl) (fun a hf => ?_)
                            replace hf := hf.castB (t := 87) rfl (ndec_f hc142)
                            replace hf := hf.castB (t := 88) rfl (ndec_f hc142)
                            replace hf := hf.castB (t := 89) rfl (ndec_f hc142)
                            refine stq hf rfl rfl rfl (ex_move hf rfl) (fun a hf => ?_)
                            refine stq hf rfl rfl rfl (ex_neq hf rfl rfl) (fun a hf => ?_)
                            refine stq hf rfl rfl rfl (ex_pickF hf rfl rfl) (fun a hf => ?_)
                            refine stq hf rfl rfl rfl (ex_move hf rfl) (fun a hf => ?_)
                            replace hf := hf.castB (t := 91) rfl (ndec_t hc143)
                            replace hf := hf.castB (t := 92) rfl (ndec_t hc143)
                            replace hf := hf.castB (t := 93) rfl (ndec_t hc143)
                            refine stepN hf rfl rfl rfl (fun a hf => ?_)
                            refine stepN hf rfl rfl rfl (fun a hf => ?_)
                            refine stq hf rfl rfl rfl (ex_pickT hf rfl rfl) (fun a hf => ?_)
                            refine hK145 _ _ ?_
                            replace hs := hs.keep (.k (.k (.k (.k (.d (.k .nil))))))
                            replace hs := hs.pick (.k (.c (.k (.k (.k .nil)))))
                            replace hs := hs.pick (.k (.c (.k (.k (.k .nil)))))
                            replace hs := hs.pick (.k (.k (.k (.c (.k .nil)))))
                            replace hs := hs.pick (.k (.k (.k (.c (.k .nil)))))
                            replace hs := hs.pick (.k (.k (.k (.k (.c .nil)))))
                            have e139 := some_eq H; subst e139
                            exact hJ139 _ _ ⟨hf.sub ⟨rfl, rfl, rfl, rfl, rfl, trivial⟩, hs⟩
                        · -- not s44.2 = 0
                          refine region_k (fun K146 hK146 => ?_)
                          refine stq hf rfl rfl rfl (ex_move hf rfl) (fun a hf => ?_)
                          refine stq hf rfl rfl rfl (ex_move hf rfl) (fun a hf => ?_)
                          refine stq hf rfl rfl rfl (ex_neq hf rfl rfl) (fun a hf => ?_)
                          refine stq hf rfl rfl rfl (ex_move hf rfl) (fun a hf => ?_)
                          replace hf := hf.castB (t := 79) rfl (ndec_f hc140)
                          replace hf := hf.castB (t := 80) rfl (ndec_f hc140)
                          refine stq hf rfl rfl rfl (ex_move hf rfl) (fun a hf => ?_)
                          refine stq hf rfl rfl rfl (ex_move hf rfl) (fun a hf => ?_)
                          refine stq hf rfl rfl rfl (ex_neq hf rfl rfl) (fun a hf => ?_)
                          refine stq hf rfl rfl rfl (ex_pickF hf rfl rfl) (fun a hf => ?_)
                          refine stq hf rfl rfl rfl (ex_move hf rfl) (fun a hf => ?_)
                          replace hf := hf.castB (t := 83) rfl (ndec_f hc141)
                          replace hf := hf.castB (t := 84) rfl (ndec_f hc141)
                          replace hf := hf.castB (t := 85) rfl (ndec_f hc141)
                          refine stq hf rfl rfl rfl (ex_move hf rfl) (fun a hf => ?_)
                          refine stq hf rfl rfl rfl (ex_neq hf rfl rfl) (fun a hf => ?_)
                          refine stq hf rfl rfl rfl (ex_pickF hf rfl rfl) (fun a hf => ?_)
                          refine stq hf rfl rfl rfl (ex_move hf rfl) (fun a hf => ?_)
                          replace hf := hf.castB (t := 87) rfl (ndec_t hc142)
                          replace hf := hf.castB (t := 88) rfl (ndec_t hc142)
                          replace hf := hf.castB (t := 89) rfl (ndec_t hc142)
                          refine stepN hf rfl rfl rfl (fun a hf => ?_)
                          refine stepN hf rfl rfl rfl (fun a hf => ?_)
                          refine stq hf rfl rfl rfl (ex_pickT hf rfl rfl) (fun a hf => ?_)
                          refine stq hf rfl rfl rfl (ex_move hf rfl) (fun a hf => ?_)
                          refine stepN hf rfl rfl rfl (fun a hf => ?_)
                          refine stepN hf rfl rfl rfl (fun a hf => ?_)
                          refine stq hf rfl rfl rfl (ex_pickT hf rfl rfl) (fun a hf => ?_)
                          refine hK146 _ _ ?_
                          replace hs := hs.keep (.k (.k (.k (.k (.d (.k .nil))))))
                          replace hs := hs.pick (.k (.c (.k (.k (.k .nil)))))
                          replace hs := hs.pick (.k (.c (.k (.k (.k .nil)))))
                          replace hs := hs.pick (.k (.k (.k (.c (.k .nil)))))
                          replace hs := hs.pick (.k (.k (.k (.c (.k .nil)))))
                          replace hs := hs.pick (.k (.k (.k (.k (.c .nil)))))
                          have e139 := some_eq H; subst e139
                          exact hJ139 _ _ ⟨hf.sub ⟨rfl, rfl, rfl, rfl, rfl, trivial⟩, hs⟩
                      · -- not x28 = x35
                        refine region_k (fun K147 hK147 => ?_)
                        refine stq hf rfl rfl rfl (ex_move hf rfl) (fun a hf => ?_)
                        refine stq hf rfl rfl rfl (ex_move hf rfl) (fun a hf => ?_)
                        refine stq hf rfl rfl rfl (ex_neq hf rfl rfl) (fun a hf => ?_)
                        refine stq hf rfl rfl rfl (ex_move hf rfl) (fun a hf => ?_)
                        replace hf := hf.castB (t := 79) rfl (ndec_f hc140)
                        replace hf := hf.castB (t := 80) rfl (ndec_f hc140)
                        refine stq hf rfl rfl rfl (ex_move hf rfl) (fun a hf => ?_)
                        refine stq hf rfl rfl rfl (ex_move hf rfl) (fun a hf => ?_)
                        refine stq hf rfl rfl rfl (ex_neq hf rfl rfl) (fun a hf => ?_)
                        refine stq hf rfl rfl rfl (ex_pickF hf rfl rfl) (fun a hf => ?_)
                        refine stq hf rfl rfl rfl (ex_move hf rfl) (fun a hf => ?_)
                        replace hf := hf.castB (t := 83) rfl (ndec_t hc141)
                        replace hf := hf.castB (t := 84) rfl (ndec_t hc141)
                        replace hf := hf.castB (t := 85) rfl (ndec_t hc141)
                        refine stepN hf rfl rfl rfl (fun a hf => ?_)
                        refine stepN hf rfl rfl rfl (fun a hf => ?_)
                        refine stq hf rfl rfl rfl (ex_pickT hf rfl rfl) (fun a hf => ?_)
                        refine stq hf rfl rfl rfl (ex_move hf rfl) (fun a hf => ?_)
                        refine stepN hf rfl rfl rfl (fun a hf => ?_)
                        refine stepN hf rfl rfl rfl (fun a hf => ?_)
                        refine stq hf rfl rfl rfl (ex_pickT hf rfl rfl) (fun a hf => ?_)
                        refine stq hf rfl rfl rfl (ex_move hf rfl) (fun a hf => ?_)
                        refine stepN hf rfl rfl rfl (fun a hf => ?_)
                        refine stepN hf rfl rfl rfl (fun a hf => ?_)
                        refine stq hf rfl rfl rfl (ex_pickT hf rfl rfl) (fun a hf => ?_)
                        refine hK147 _ _ ?_
                        replace hs := hs.keep (.k (.k (.k (.k (.d (.k .nil))))))
                        replace hs := hs.pick (.k (.c (.k (.k (.k .nil)))))
                        replace hs := hs.pick (.k (.c (.k (.k (.k .nil)))))
                        replace hs := hs.pick (.k (.k (.k (.c (.k .nil)))))
                        replace hs := hs.pick (.k (.k (.k (.c (.k .nil)))))
                        replace hs := hs.pick (.k (.k (.k (.k (.c .nil)))))
                        have e139 := some_eq H; subst e139
                        exact hJ139 _ _ ⟨hf.sub ⟨rfl, rfl, rfl, rfl, rfl, trivial⟩, hs⟩
                    · -- not x11 = x18
                      refine region_k (fun K148 hK148 => ?_)
                      refine stq hf rfl rfl rfl (ex_move hf rfl) (fun a hf => ?_)
                      refine stq hf rfl rfl rfl (ex_move hf rfl) (fun a hf => ?_)
                      refine stq hf rfl rfl rfl (ex_neq hf rfl rfl) (fun a hf => ?_)
                      refine stq hf rfl rfl rfl (ex_move hf rfl) (fun a hf => ?_)
                      replace hf := hf.castB (t := 79) rfl (ndec_t hc140)
                      replace hf := hf.castB (t := 80) rfl (ndec_t hc140)
                      refine stepN hf rfl rfl rfl (fun a hf => ?_)
                      refine stepN hf rfl rfl rfl (fun a hf => ?_)
                      refine stepN hf rfl rfl rfl (fun a hf => ?_)
                      refine stq hf rfl rfl rfl (ex_pickT hf rfl rfl) (fun a hf => ?_)
                      refine stq hf rfl rfl rfl (ex_move hf rfl) (fun a hf => ?_)
                      refine stepN hf rfl rfl rfl (fun a hf => ?_)
                      refine stepN hf rfl rfl rfl (fun a hf => ?_)
                      refine stq hf rfl rfl rfl (ex_pickT hf rfl rfl) (fun a hf => ?_)
                      refine stq hf rfl rfl rfl (ex_move hf rfl) (fun a hf => ?_)
                      refine stepN hf rfl rfl rfl (fun a hf => ?_)
                      refine stepN hf rfl rfl rfl (fun a hf => ?_)
                      refine stq hf rfl rfl rfl (ex_pickT hf rfl rfl) (fun a hf => ?_)
                      refine stq hf rfl rfl rfl (ex_move hf rfl) (fun a hf => ?_)
                      refine stepN hf rfl rfl rfl (fun a hf => ?_)
                      refine stepN hf rfl rfl rfl (fun a hf => ?_)
                      refine stq hf rfl rfl rfl (ex_pickT hf rfl rfl) (fun a hf => ?_)
                      refine hK148 _ _ ?_
                      replace hs := hs.keep (.k (.k (.k (.k (.d (.k .nil))))))
                      replace hs := hs.pick (.k (.c (.k (.k (.k .nil)))))
                      replace hs := hs.pick (.k (.c (.k (.k (.k .nil)))))
                      replace hs := hs.pick (.k (.k (.k (.c (.k .nil)))))
                      replace hs := hs.pick (.k (.k (.k (.c (.k .nil)))))
                      replace hs := hs.pick (.k (.k (.k (.k (.c .nil)))))
                      have e139 := some_eq H; subst e139
                      exact hJ139 _ _ ⟨hf.sub ⟨rfl, rfl, rfl, rfl, rfl, trivial⟩, hs⟩
                  · obtain ⟨hf, hs⟩ := hJ
                    replace H := HO139
                    clear HO139
                    refine itt H (fun hc149 H => ?_) (fun hc149 H => ?_)
                    · -- x139 = true
                      replace hf := hf.castB (t := 96) rfl hc149
                      refine cond_T hf rfl ?_
                      refine seq_reg (fun K150 hK150 => ?_)
                      refine stq hf rfl rfl rfl (ex_assign hf rfl) (fun a hf => ?_)
                      refine hK150 _ _ ?_
                      refine wp_ret ?_
                      refine hR138 _ _ ?_
                      have eR := some_eq H; subst eR
                      replace hs := hs.keep (.d (.d (.d (.d (.d .nil)))))
                      exact ret1 Try.results10 hf rfl ⟨_, rfl, ⟨rfl, hs⟩⟩
                    · -- not x139 = true
                      replace hf := hf.castB (t := 96) rfl (bool_f hc149)
                      refine cond_F hf rfl ?_
                      refine wp_skip ?_
                      refine hN138 _ _ ?_
                      refine bnd H (fun x151 H151 HO151 => ?_)
                      clear H
                      refine seq_cut (fun a w => ∃ (x151s : Unit), x151 = .go x151s ∧ Fr a 180 [] ∧ St M w0 w []) (fun Q151 hJ151 hR151 hX151 => ?_) (fun a w hJ => ?_)
                      · replace H := H151
                        refine seq_reg (fun K152 hK152 => ?_)
                        refine stq hf rfl rfl rfl (ex_assign hf rfl) (fun a hf => ?_)
                        refine hK152 _ _ ?_
                        refine block_k (fun Q153 hN153 hR153 hX153 hY153 => ?_)
                        refine loop_k (fun n a w => ∃ (y154 : Int) (y155 : Int) (y156 : Int) (y157 : Int) (y158 : Int) (y159 : Int) (y160 : Int) (y161 : Int) (y162 : Int), Fr a 180 [(2, v2), (11, v26), (16, .pointer (some ⟨b79, 0, none⟩)), (18, .pointer (some ⟨b135, 0, none⟩)), (20, .int .i64 y162)] ∧ St M w0 w [osl K_api_OperatingPoint v26 s25, bx b79 66 [v80, .int .i64 c45.2.1, .int .i64 c45.2.2.1, .int .i64 c45.2.2.2.1, .int .i64 y154, .int .i64 y155, .int .i64 y156, .int .i64 y157], osl K_api_OperatingPoint v80 c45.1, bx b135 69 [v136, .int .i64 c85.2.1, .int .i64 c85.2.2.1, .int .i64 c85.2.2.2.1, .int .i64 y158, .int .i64 y159, .int .i64 y160, .int .i64 y161], osl K_api_OperatingPoint v136 c85.1] ∧ law36_PerfGovernorAgrees.l2 n a2 s25 c45 c85 y154 y155 y156 y157 y158 y159 y160 y161 y162 = some x151) k ?_ (fun n164 a w hI Q164 hL164 hR164 hX164 => ?_)
                        · -- at the start
                          exact ⟨c45.2.2.2.2.1, c45.2.2.2.2.2.1, c45.2.2.2.2.2.2.1, c45.2.2.2.2.2.2.2, c85.2.2.2.2.1, c85.2.2.2.2.2.1, c85.2.2.2.2.2.2.1, c85.2.2.2.2.2.2.2, 0, hf.sub ⟨rfl, rfl, rfl, rfl, rfl, trivial⟩, hs, H⟩
                        · obtain ⟨y154, y155, y156, y157, y158, y159, y160, y161, y162, hf, hs, H⟩ := hI
                          cases n164 with
                          | zero => exact absurd H (by rw [law36_PerfGovernorAgrees.l2.eq_1]; intro h; cases h)
                          | succ k164 =>
                            replace H := (law36_PerfGovernorAgrees.l2.eq_2 ..).symm.trans H
                            refine seq_n (fun Q165 hN165 hR165 hX165 => ?_)
                            refine seq_reg (fun K166 hK166 => ?_)
                            refine stq hf rfl rfl rfl (ex_move hf rfl) (fun a hf => ?_)
                            refine stq hf rfl rfl rfl (ex_move hf rfl) (fun a hf => ?_)
                            refine stq hf rfl rfl rfl (ex_lenS Try.underlying52 (rsl_isSl (hr.now hs (i := 1) rfl)) hf rfl) (fun a hf => ?_)
                            refine stq hf rfl rfl rfl (ex_lss hf rfl rfl) (fun a hf => ?_)
                            refine hK166 _ _ ?_
                            refine itt H (fun hc167 H => ?_) (fun hc167 H => ?_)
                            · -- y162 < (a2.length : Int)
                              replace hf := hf.castB (t := 100) rfl (dec_t hc167)
                              refine cond_T hf rfl ?_
                              refine wp_skip ?_
                              refine hN165 _ _ ?_
                              refine seq_n (fun Q168 hN168 hR168 hX168 => ?_)
                              refine block_k (fun Q169 hN169 hR169 hX169 hY169 => ?_)
                              refine ck_some H (fun hc170 H => ?_)
                              refine seq_reg (fun K171 hK171 => ?_)
                              refine stq hf rfl rfl rfl (ex_move hf rfl) (fun a hf => ?_)
                              refine stq hf rfl rfl rfl (ex_move hf rfl) (fun a hf => ?_)
                              refine stq hf rfl rfl rfl (ex_indexAddr sa_52 (rsl_isSl (hr.now hs (i := 1) rfl)) hc170.1 hc170.2 hf rfl rfl) (fun a hf => ?_)
                              refine stq hf rfl rfl rfl (ex_load sc_3 hf rfl (el_cell (K := K_int) (f := 0) (rsl_rd (hr.now hs (i := 1) rfl)) hc170.1 hc170.2 rfl)) (fun a hf => ?_)
                              refine stq hf rfl rfl rfl (ex_assign hf rfl) (fun a hf => ?_)
                              refine hK171 _ _ ?_
                              refine seq_reg (fun K172 hK172 => ?_)
                              refine stq hf rfl rfl rfl (ex_assign hf rfl) (fun a hf => ?_)
                              refine stq hf rfl rfl rfl (ex_assign hf rfl) (fun a hf => ?_)
                              refine hK172 _ _ ?_
                              refine seq_reg (fun K173 hK173 => ?_)
                              refine stq hf rfl rfl rfl (ex_assign hf rfl) (fun a hf => ?_)
                              refine stq hf rfl rfl rfl (ex_assign hf rfl) (fun a hf => ?_)
                              refine hK173 _ _ ?_
                              refine bnd H (fun x174 H174 HO174 => ?_)
                              clear H
                              refine seq_cut (fun a w => Fr a 180 [(2, v2), (11, v26), (16, .pointer (some ⟨b79, 0, none⟩)), (18, .pointer (some ⟨b135, 0, none⟩)), (20, .int .i64 y162), (22, .int .i64 x174.2.2.2.2.2.2.2.2.1), (23, .int .i64 x174.2.2.2.2.2.2.2.2.2.1), (24, .int .i64 x174.2.2.2.2.2.2.2.2.2.2.1), (25, .int .i64 x174.2.2.2.2.2.2.2.2.2.2.2)] ∧ St M w0 w [osl K_api_OperatingPoint v26 s25, bx b79 66 [v80, .int .i64 c45.2.1, .int .i64 c45.2.2.1, .int .i64 c45.2.2.2.1, .int .i64 x174.1, .int .i64 x174.2.1, .int .i64 x174.2.2.1, .int .i64 x174.2.2.2.1], osl K_api_OperatingPoint v80 c45.1, bx b135 69 [v136, .int .i64 c85.2.1, .int .i64 c85.2.2.1, .int .i64 c85.2.2.2.1, .int .i64 x174.2.2.2.2.1, .int .i64 x174.2.2.2.2.2.1, .int .i64 x174.2.2.2.2.2.2.1, .int .i64 x174.2.2.2.2.2.2.2.1], osl K_api_OperatingPoint v136 c85.1]) (fun Q174 hJ174 hR174 hX174 => ?_) (fun a w hJ => ?_)
                              · replace H := H174
                                refine block_k (fun Q175 hN175 hR175 hX175 hY175 => ?_)
                                refine bnd H (fun s176 hs176 H => ?_)
                                refine seq_reg (fun K177 hK177 => ?_)
                                refine stq hf rfl rfl rfl (ex_move hf rfl) (fun a hf => ?_)
                                refine stepF hf rfl rfl rfl (ex_call cf_14 hf rfl) (help_Mod.calls k164 (gd 0 a2 y162) 7 (hs.enter (.k (.k (.k (.k (.k .nil)))))) (Sr.nil _ _) hs176) (fun v w hR a hf => ?_)
                                obtain ⟨rfl, hs'⟩ := hR
                                replace hs := hs.step (.k (.k (.k (.k (.k .nil))))) hs'
                                clear hs'
                                refine stq hf rfl rfl rfl (ex_eql hf rfl rfl) (fun a hf => ?_)
                                refine stq hf rfl rfl rfl (ex_assign hf rfl) (fun a hf => ?_)
                                refine hK177 _ _ ?_
                                refine itt H (fun hc178 H => ?_) (fun hc178 H => ?_)
                                · -- s176 = 0
                                  replace hf := hf.castB (t := 124) rfl (dec_t hc178)
                                  replace hf := hf.castB (t := 121) rfl (dec_t hc178)
                                  refine cond_T hf rfl ?_
                                  refine bnd H (fun s179 hs179 H => ?_)
                                  refine bnd H (fun s180 hs180 H => ?_)
                                  refine bnd H (fun s181 hs181 H => ?_)
                                  refine seq_reg (fun K182 hK182 => ?_)
                                  refine stq hf rfl rfl rfl (ex_move hf rfl) (fun a hf => ?_)
                                  refine stq hf rfl rfl rfl (ex_quo hf rfl rfl (by decide)) (fun a hf => ?_)
                                  refine stq hf rfl rfl rfl (ex_move hf rfl) (fun a hf => ?_)
                                  refine stq hf rfl rfl rfl (ex_lenS Try.underlying22 (rsl_isSl (osl_rsl _ (hs.get (i := 0) rfl))) hf rfl) (fun a hf => ?_)
                                  refine stq hf rfl rfl rfl (ex_add hf rfl rfl) (fun a hf => ?_)
                                  refine stepF hf rfl rfl rfl (ex_call cf_14 hf rfl) (help_Mod.calls k164 (IntKind.i64.wrap (Int.tdiv (gd 0 a2 y162) 7)) (IntKind.i64.wrap ((s25.length : Int) + 1)) (hs.enter (.k (.k (.k (.k (.k .nil)))))) (Sr.nil _ _) hs179) (fun v w hR a hf => ?_)
                                  obtain ⟨rfl, hs'⟩ := hR
                                  replace hs := hs.step (.k (.k (.k (.k (.k .nil))))) hs'
                                  clear hs'
                                  refine stq hf rfl rfl rfl (ex_move hf rfl) (fun a hf => ?_)
                                  refine stepF hf rfl rfl rfl (ex_call cf_14 hf rfl) (help_Mod.calls k164 (gd 0 a2 y162) 2 (hs.enter (.k (.k (.k (.k (.k .nil)))))) (Sr.nil _ _) hs180) (fun v w hR a hf => ?_)
                                  obtain ⟨rfl, hs'⟩ := hR
                                  replace hs := hs.step (.k (.k (.k (.k (.k .nil))))) hs'
                                  clear hs'
                                  refine stq hf rfl rfl rfl (ex_sub hf rfl rfl) (fun a hf => ?_)
                                  refine stq hf rfl rfl rfl (ex_move hf rfl) (fun a hf => ?_)
                                  refine stq hf rfl rfl rfl (ex_quo hf rfl rfl (by decide)) (fun a hf => ?_)
                                  refine stq hf rfl rfl rfl (ex_move hf rfl) (fun a hf => ?_)
                                  refine stq hf rfl rfl rfl (ex_lenS Try.underlying22 (rsl_isSl (osl_rsl _ (hs.get (i := 0) rfl))) hf rfl) (fun a hf => ?_)
                                  refine stq hf rfl rfl rfl (ex_add hf rfl rfl) (fun a hf => ?_)
                                  refine stepF hf rfl rfl rfl (ex_call cf_14 hf rfl) (help_Mod.calls k164 (IntKind.i64.wrap (Int.tdiv (gd 0 a2 y162) 50)) (IntKind.i64.wrap ((s25.length : Int) + 1)) (hs.enter (.k (.k (.k (.k (.k .nil)))))) (Sr.nil _ _) hs181) (fun v w hR a hf => ?_)
                                  obtain ⟨rfl, hs'⟩ := hR
                                  replace hs := hs.step (.k (.k (.k (.k (.k .nil))))) hs'
                                  clear hs'
                                  refine stq hf rfl rfl rfl (ex_assign hf rfl) (fun a hf => ?_)
                                  refine stq hf rfl rfl rfl (ex_assign hf rfl) (fun a hf => ?_)
                                  refine hK182 _ _ ?_
                                  refine bnd H (fun s183 hs183 H => ?_)
                                  refine bnd H (fun s184 hs184 H => ?_)
                                  refine region_k (fun K185 hK185 => ?_)
                                  refine stq hf rfl rfl rfl (ex_move hf rfl) (fun a hf => ?_)
                                  refine stq hf rfl rfl rfl (ex_move hf rfl) (fun a hf => ?_)
                                  refine stq hf rfl rfl rfl (ex_move hf rfl) (fun a hf => ?_)
                                  refine stepF hf rfl rfl rfl (ex_call cf_29 hf rfl) (perf_Governor_Limit.calls k164 c45.1 c45.2.1 c45.2.2.1 c45.2.2.2.1 y154 y155 y156 y157 (IntKind.i64.wrap (s179 - s180)) s181 b79 v80 (hs.enter (.k (.c (.k (.k (.k .nil)))))) (Sr.own hs (.k (.c (.k (.k (.k .nil))))) (i := 1) rfl osl_rsl (fun _ h => h.1) (Sr.nil _ _)) hs183) (fun v w hR a hf => ?_)
                                  obtain ⟨rfl, hs'⟩ := hR
                                  replace hs := hs.step (.k (.c (.k (.k (.k .nil))))) hs'
                                  clear hs'
                                  refine stq hf rfl rfl rfl (ex_move hf rfl) (fun a hf => ?_)
                                  refine stq hf rfl rfl rfl (ex_move hf rfl) (fun a hf => ?_)
                                  refine stq hf rfl rfl rfl (ex_move hf rfl) (fun a hf => ?_)
                                  refine stepF hf rfl rfl rfl (ex_call cf_30 hf rfl) (ref36_Governor_Limit.calls k164 c85.1 c85.2.1 c85.2.2.1 c85.2.2.2.1 y158 y159 y160 y161 (IntKind.i64.wrap (s179 - s180)) s181 b135 v136 (hs.enter (.k (.k (.k (.c (.k .nil)))))) (Sr.own hs (.k (.k (.k (.c (.k .nil))))) (i := 3) rfl osl_rsl (fun _ h => h.1) (Sr.nil _ _)) hs184) (fun v w hR a hf => ?_)
                                  obtain ⟨rfl, hs'⟩ := hR
                                  replace hs := hs.step (.k (.k (.k (.c (.k .nil))))) hs'
                                  clear hs'
                                  refine stq hf rfl rfl rfl (ex_assign hf rfl) (fun a hf => ?_)
                                  refine stq hf rfl rfl rfl (ex_assign hf rfl) (fun a hf => ?_)
                                  refine hK185 _ _ ?_
                                  refine hN175 _ _ ?_
                                  replace hs := hs.pick (.k (.k (.k (.k (.c .nil)))))
                                  replace hs := hs.pick (.k (.c (.k (.k (.k .nil)))))
                                  replace hs := hs.pick (.k (.k (.k (.k (.c .nil)))))
                                  replace hs := hs.pick (.k (.k (.k (.c (.k .nil)))))
                                  replace hs := hs.pick (.k (.k (.k (.k (.c .nil)))))
                                  have e174 := some_eq H; subst e174
                                  exact hJ174 _ _ ⟨hf.sub ⟨rfl, rfl, rfl, rfl, rfl, rfl, rfl, rfl, rfl, trivial⟩, hs⟩
                                · -- not s176 = 0
                                  replace hf := hf.castB (t := 124) rfl (dec_f hc178)
                                  replace hf := hf.castB (t := 121) rfl (dec_f hc178)
                                  refine cond_F hf rfl ?_
                                  refine bnd H (fun s186 hs186 H => ?_)
                                  refine seq_reg (fun K187 hK187 => ?_)
                                  refine stq hf rfl rfl rfl (ex_move hf rfl) (fun a hf => ?_)
                                  refine stepF hf rfl rfl rfl (ex_call cf_14 hf rfl) (help_Mod.calls k164 (gd 0 a2 y162) 13 (hs.enter (.k (.k (.k (.k (.k .nil)))))) (Sr.nil _ _) hs186) (fun v w hR a hf => ?_)
                                  obtain ⟨rfl, hs'⟩ := hR
                                  replace hs := hs.step (.k (.k (.k (.k (.k .nil))))) hs'
                                  clear hs'
                                  refine stq hf rfl rfl rfl (ex_eql hf rfl rfl) (fun a hf => ?_)
                                  refine stq hf rfl rfl rfl (ex_assign hf rfl) (fun a hf => ?_)
                                  refine hK187 _ _ ?_
                                  refine itt H (fun hc188 H => ?_) (fun hc188 H => ?_)
                                  · -- s186 = 0
                                    replace hf := hf.castB (t := 151) rfl (dec_t hc188)
                                    replace hf := hf.castB (t := 148) rfl (dec_t hc188)
                                    refine cond_T hf rfl ?_
                                    refine bnd H (fun s189 hs189 H => ?_)
                                    refine seq_reg (fun K190 hK190 => ?_)
                                    refine stq hf rfl rfl rfl (ex_move hf rfl) (fun a hf => ?_)
                                    refine stq hf rfl rfl rfl (ex_move hf rfl) (fun a hf => ?_)
                                    refine stepF hf rfl rfl rfl (ex_call cf_26 hf rfl) (perf_Governor_Sample.calls k164 c45.1 c45.2.1 c45.2.2.1 c45.2.2.2.1 y154 y155 y156 y157 (gd 0 a2 y162) b79 v80 (hs.enter (.k (.c (.k (.k (.k .nil)))))) (Sr.own hs (.k (.c (.k (.k (.k .nil))))) (i := 1) rfl osl_rsl (fun _ h => h.1) (Sr.nil _ _)) hs189) (fun v w hR a hf => ?_)
                                    obtain ⟨rfl, hs'⟩ := hR
                                    replace hs := hs.step (.k (.c (.k (.k (.k .nil))))) hs'
                                    clear hs'
                                    refine stq hf rfl rfl rfl (ex_move hf rfl) (fun a hf => ?_)
                                    refine stq hf rfl rfl rfl (ex_extract hf rfl rfl) (fun a hf => ?_)
                                    refine stq hf rfl rfl rfl (ex_extract hf rfl rfl) (fun a hf => ?_)
                                    refine stq hf rfl rfl rfl (ex_assign hf rfl) (fun a hf => ?_)
                                    refine stq hf rfl rfl rfl (ex_assign hf rfl) (fun a hf => ?_)
                                    refine hK190 _ _ ?_
                                    refine bnd H (fun s191 hs191 H => ?_)
                                    refine region_k (fun K192 hK192 => ?_)
                                    refine stq hf rfl rfl rfl (ex_move hf rfl) (fun a hf => ?_)
                                    refine stq hf rfl rfl rfl (ex_move hf rfl) (fun a hf => ?_)
                                    refine stepF hf rfl rfl rfl (ex_call cf_31 hf rfl) (ref36_Governor_Sample.calls k164 c85.1 c85.2.1 c85.2.2.1 c85.2.2.2.1 y158 y159 y160 y161 (gd 0 a2 y162) b135 v136 (hs.enter (.k (.k (.k (.c (.k .nil)))))) (Sr.own hs (.k (.k (.k (.c (.k .nil))))) (i := 3) rfl osl_rsl (fun _ h => h.1) (Sr.nil _ _)) hs191) (fun v w hR a hf => ?_)
                                    obtain ⟨rfl, hs'⟩ := hR
                                    replace hs := hs.step (.k (.k (.k (.c (.k .nil))))) hs'
                                    clear hs'
                                    refine stq hf rfl rfl rfl (ex_move hf rfl) (fun a hf => ?_)
                                    refine stq hf rfl rfl rfl (ex_extract hf rfl rfl) (fun a hf => ?_)
                                    refine stq hf rfl rfl rfl (ex_extract hf rfl rfl) (fun a hf => ?_)
                                    refine stq hf rfl rfl rfl (ex_assign hf rfl) (fun a hf => ?_)
                                    refine stq hf rfl rfl rfl (ex_assign hf rfl) (fun a hf => ?_)
                                    refine hK192 _ _ ?_
                                    refine hN175 _ _ ?_
                                    replace hs := hs.pick (.k (.k (.k (.k (.c .nil)))))
                                    replace hs := hs.pick (.k (.c (.k (.k (.k .nil)))))
                                    replace hs := hs.pick (.k (.k (.k (.k (.c .nil)))))
                                    replace hs := hs.pick (.k (.k (.k (.c (.k .nil)))))
                                    replace hs := hs.pick (.k (.k (.k (.k (.c .nil)))))
                                    have e174 := some_eq H; subst e174
                                    exact hJ174 _ _ ⟨hf.sub ⟨rfl, rfl, rfl, rfl, rfl, rfl, rfl, rfl, rfl, trivial⟩, hs⟩
                                  · -- not s186 = 0
                                    replace hf := hf.castB (t := 151) rfl (dec_f hc188)
                                    replace hf := hf.castB (t := 148) rfl (dec_f hc188)
                                    refine cond_F hf rfl ?_
                                    refine bnd H (fun s193 hs193 H => ?_)
                                    refine bnd H (fun s194 hs194 H => ?_)
                                    refine seq_reg (fun K195 hK195 => ?_)
                                    refine stq hf rfl rfl rfl (ex_move hf rfl) (fun a hf => ?_)
                                    refine stq hf rfl rfl rfl (ex_move hf rfl) (fun a hf => ?_)
                                    refine stepF hf rfl rfl rfl (ex_call cf_14 hf rfl) (help_Mod.calls k164 (gd 0 a2 y162) 101 (hs.enter (.k (.k (.k (.k (.k .nil)))))) (Sr.nil _ _) hs193) (fun v w hR a hf => ?_)
                                    obtain ⟨rfl, hs'⟩ := hR
                                    replace hs := hs.step (.k (.k (.k (.k (.k .nil))))) hs'
                                    clear hs'
                                    refine stepF hf rfl rfl rfl (ex_call cf_26 hf rfl) (perf_Governor_Sample.calls k164 c45.1 c45.2.1 c45.2.2.1 c45.2.2.2.1 y154 y155 y156 y157 s193 b79 v80 (hs.enter (.k (.c (.k (.k (.k .nil)))))) (Sr.own hs (.k (.c (.k (.k (.k .nil))))) (i := 1) rfl osl_rsl (fun _ h => h.1) (Sr.nil _ _)) hs194) (fun v w hR a hf => ?_)
                                    obtain ⟨rfl, hs'⟩ := hR
                                    replace hs := hs.step (.k (.c (.k (.k (.k .nil))))) hs'
                                    clear hs'
                                    refine stq hf rfl rfl rfl (ex_move hf rfl) (fun a hf => ?_)
                                    refine stq hf rfl rfl rfl (ex_extract hf rfl rfl) (fun a hf => ?_)
                                    refine stq hf rfl rfl rfl (ex_extract hf rfl rfl) (fun a hf => ?_)
                                    refine stq hf rfl rfl rfl (ex_assign hf rfl) (fun a hf => ?_)
                                    refine stq hf rfl rfl rfl (ex_assign hf rfl) (fun a hf => ?_)
                                    refine hK195 _ _ ?_
                                    refine bnd H (fun s196 hs196 H => ?_)
                                    refine bnd H (fun s197 hs197 H => ?_)
                                    refine region_k (fun K198 hK198 => ?_)
                                    refine stq hf rfl rfl rfl (ex_move hf rfl) (fun a hf => ?_)
                                    refine stq hf rfl rfl rfl (ex_move hf rfl) (fun a hf => ?_)
                                    refine stepF hf rfl rfl rfl (ex_call cf_14 hf rfl) (help_Mod.calls k164 (gd 0 a2 y162) 101 (hs.enter (.k (.k (.k (.k (.k .nil)))))) (Sr.nil _ _) hs196) (fun v w hR a hf => ?_)
                                    obtain ⟨rfl, hs'⟩ := hR
                                    replace hs := hs.step (.k (.k (.k (.k (.k .nil))))) hs'
                                    clear hs'
                                    refine stepF hf rfl rfl rfl (ex_call cf_31 hf rfl) (ref36_Governor_Sample.calls k164 c85.1 c85.2.1 c85.2.2.1 c85.2.2.2.1 y158 y159 y160 y161 s196 b135 v136 (hs.enter (.k (.k (.k (.c (.k .nil)))))) (Sr.own hs (.k (.k (.k (.c (.k .nil))))) (i := 3) rfl osl_rsl (fun _ h => h.1) (Sr.nil _ _)) hs197) (fun v w hR a hf => ?_)
                                    obtain ⟨rfl, hs'⟩ := hR
                                    replace hs := hs.step (.k (.k (.k (.c (.k .nil))))) hs'
                                    clear hs'
                                    refine stq hf rfl rfl rfl (ex_move hf rfl) (fun a hf => ?_)
                                    refine stq hf rfl rfl rfl (ex_extract hf rfl rfl) (fun a hf => ?_)
                                    refine stq hf rfl rfl rfl (ex_extract hf rfl rfl) (fun a hf => ?_)
                                    refine stq hf rfl rfl rfl (ex_assign hf rfl) (fun a hf => ?_)
                                    refine stq hf rfl rfl rfl (ex_assign hf rfl) (fun a hf => ?_)
                                    refine hK198 _ _ ?_
                                    refine hN175 _ _ ?_
                                    replace hs := hs.pick (.k (.k (.k (.k (.c .nil)))))
                                    replace hs := hs.pick (.k (.c (.k (.k (.k .nil)))))
                                    replace hs := hs.pick (.k (.k (.k (.k (.c .nil)))))
                                    replace hs := hs.pick (.k (.k (.k (.c (.k .nil)))))
                                    replace hs := hs.pick (.k (.k (.k (.k (.c .nil)))))
                                    have e174 := some_eq H; subst e174
                                    exact hJ174 _ _ ⟨hf.sub ⟨rfl, rfl, rfl, rfl, rfl, rfl, rfl, rfl, rfl, trivial⟩, hs⟩
                              · obtain ⟨hf, hs⟩ := hJ
                                replace H := HO174
                                clear HO174
                                refine bnd H (fun x199 H199 HO199 => ?_)
                                clear H
                                refine seq_cut (fun a w => Fr a 180 [(2, v2), (11, v26), (16, .pointer (some ⟨b79, 0, none⟩)), (18, .pointer (some ⟨b135, 0, none⟩)), (20, .int .i64 y162), (178, .bool x199)] ∧ St M w0 w [osl K_api_OperatingPoint v26 s25, bx b79 66 [v80, .int .i64 c45.2.1, .int .i64 c45.2.2.1, .int .i64 c45.2.2.2.1, .int .i64 x174.1, .int .i64 x174.2.1, .int .i64 x174.2.2.1, .int .i64 x174.2.2.2.1], osl K_api_OperatingPoint v80 c45.1, bx b135 69 [v136, .int .i64 c85.2.1, .int .i64 c85.2.2.1, .int .i64 c85.2.2.2.1, .int .i64 x174.2.2.2.2.1, .int .i64 x174.2.2.2.2.2.1, .int .i64 x174.2.2.2.2.2.2.1, .int .i64 x174.2.2.2.2.2.2.2.1], osl K_api_OperatingPoint v136 c85.1]) (fun Q199 hJ199 hR199 hX199 => ?_) (fun a w hJ => ?_)
                                · replace H := H199
                                  refine itt H (fun hc200 H => ?_) (fun hc200 H => ?_)
                                  · -- x174.2.2.2.2.2.2.2.2.1 = x174.2.2.2.2.2.2.2.2.2.1
                                    refine itt H (fun hc201 H => ?_) (fun hc201 H => ?_)
                                    · -- x174.2.2.2.2.2.2.2.2.2.2.1 = x174.2.2.2.2.2.2.2.2.2.2.2
                                      refine bnd H (fun s202 hs202 H => ?_)
                                      refine bnd H (fun s203 hs203 H => ?_)
                                      refine region_k (fun K204 hK204 => ?_)
                                      refine stq hf rfl rfl rfl (ex_move hf rfl) (fun a hf => ?_)
                                      refine stq hf rfl rfl rfl (ex_move hf rfl) (fun a hf => ?_)
                                      refine stq hf rfl rfl rfl (ex_neq hf rfl rfl) (fun a hf => ?_)
                                      refine stq hf rfl rfl rfl (ex_move hf rfl) (fun a hf => ?_)
                                      replace hf := hf.castB (t := 166) rfl (ndec_f hc200)
                                      replace hf := hf.castB (t := 167) rfl (ndec_f hc200)
                                      refine stq hf rfl rfl rfl (ex_move hf rfl) (fun a hf => ?_)
                                      refine stq hf rfl rfl rfl (ex_move hf rfl) (fun a hf => ?_)
                                      refine stq hf rfl rfl rfl (ex_neq hf rfl rfl) (fun a hf => ?_)
                                      refine stq hf rfl rfl rfl (ex_pickF hf rfl rfl) (fun a hf => ?_)
                                      refine stq hf rfl rfl rfl (ex_move hf rfl) (fun a hf => ?_)
                                      replace hf := hf.castB (t := 170) rfl (ndec_f hc201)
                                      replace hf := hf.castB (t := 171) rfl (ndec_f hc201)
                                      replace hf := hf.castB (t := 172) rfl (ndec_f hc201)
                                      refine stq hf rfl rfl rfl (ex_move hf rfl) (fun a hf => ?_)
                                      refine stepF hf rfl rfl rfl (ex_call cf_27 hf rfl) (perf_Governor_Current.calls k164 c45.1 c45.2.1 c45.2.2.1 c45.2.2.2.1 x174.1 x174.2.1 x174.2.2.1 x174.2.2.2.1 b79 v80 (hs.enter (.k (.k (.k (.k (.k .nil)))))) (Sr.own hs (.k (.k (.k (.k (.k .nil))))) (i := 1) rfl (fun _ h => h) (fun _ h => h) (Sr.own hs (.k (.k (.k (.k (.k .nil))))) (i := 2) rfl osl_rsl (fun _ h => h.1) (Sr.nil _ _))) hs202) (fun v w hR a hf => ?_)
                                      obtain ⟨rfl, hs'⟩ := hR
                                      replace hs := hs.step (.k (.k (.k (.k (.k .nil))))) hs'
                                      clear hs'
                                      refine stq hf rfl rfl rfl (ex_move hf rfl) (fun a hf => ?_)
                                      refine stepF hf rfl rfl rfl (ex_call cf_32 hf rfl) (ref36_Governor_Current.calls k164 c85.1 c85.2.1 c85.2.2.1 c85.2.2.2.1 x174.2.2.2.2.1 x174.2.2.2.2.2.1 x174.2.2.2.2.2.2.1 x174.2.2.2.2.2.2.2.1 b135 v136 (hs.enter (.k (.k (.k (.k (.k .nil)))))) (Sr.own hs (.k (.k (.k (.k (.k .nil))))) (i := 3) rfl (fun _ h => h) (fun _ h => h) (Sr.own hs (.k (.k (.k (.k (.k .nil))))) (i := 4) rfl osl_rsl (fun _ h => h.1) (Sr.nil _ _))) hs203) (fun v w hR a hf => ?_)
                                      obtain ⟨rfl, hs'⟩ := hR
                                      replace hs := hs.step (.k (.k (.k (.k (.k .nil))))) hs'
                                      clear hs'
                                      refine stq hf rfl rfl rfl (ex_neq hf rfl rfl) (fun a hf => ?_)
                                      refine stq hf rfl rfl rfl (ex_pickF hf rfl rfl) (fun a hf => ?_)
                                      refine hK204 _ _ ?_
                                      have e199 := some_eq H; subst e199
                                      exact hJ199 _ _ ⟨hf.sub ⟨rfl, rfl, rfl, rfl, rfl, rfl, trivial⟩, hs⟩
                                    · -- not x174.2.2.2.2.2.2.2.2.2.2.1 = x174.2.2.2.2.2.2.2.2.2.2.2
                                      refine region_k (fun K205 hK205 => ?_)
                                      refine stq hf rfl rfl rfl (ex_move hf rfl) (fun a hf => ?_)
                                      refine stq hf rfl rfl rfl (ex_move hf rfl) (fun a hf => ?_)
                                      refine stq hf rfl rfl rfl (ex_neq hf rfl rfl) (fun a hf => ?_)
                                      refine stq hf rfl rfl rfl (ex_move hf rfl) (fun a hf => ?_)
                                      replace hf := hf.castB (t := 166) rfl (ndec_f hc200)
                                      replace hf := hf.castB (t := 167) rfl (ndec_f hc200)
                                      refine stq hf rfl rfl rfl (ex_move hf rfl) (fun a hf => ?_)
                                      refine stq hf rfl rfl rfl (ex_move hf rfl) (fun a hf => ?_)
                                      refine stq hf rfl rfl rfl (ex_neq hf rfl rfl) (fun a hf => ?_)
                                      refine stq hf rfl rfl rfl (ex_pickF hf rfl rfl) (fun a hf => ?_)
                                      refine stq hf rfl rfl rfl (ex_move hf rfl) (fun a hf => ?_)
                                      replace hf := hf.castB (t := 170) rfl (ndec_t hc201)
                                      replace hf := hf.castB (t := 171) rfl (ndec_t hc201)
                                      replace hf := hf.castB (t := 172) rfl (ndec_t hc201)
                                      refine stepN hf rfl rfl rfl (fun a hf => ?_)
                                      refine stepN hf rfl rfl rfl (fun a hf => ?_)
                                      refine stepN hf rfl rfl rfl (fun a hf => ?_)
                                      refine stepN hf rfl rfl rfl (fun a hf => ?_)
                                      refine stepN hf rfl rfl rfl (fun a hf => ?_)
                                      refine stq hf rfl rfl rfl (ex_pickT hf rfl rfl) (fun a hf => ?_)
                                      refine hK205 _ _ ?_
                                      have e199 := some_eq H; subst e199
                                      exact hJ199 _ _ ⟨hf.sub ⟨rfl, rfl, rfl, rfl, rfl, rfl, trivial⟩, hs⟩
                                  · -- not x174.2.2.2.2.2.2.2.2.1 = x174.2.2.2.2.2.2.2.2.2.1
                                    refine region_k (fun K206 hK206 => ?_)
                                    refine stq hf rfl rfl rfl (ex_move hf rfl) (fun a hf => ?_)
                                    refine stq hf rfl rfl rfl (ex_move hf rfl) (fun a hf => ?_)
                                    refine stq hf rfl rfl rfl (ex_neq hf rfl rfl) (fun a hf => ?_)
                                    refine stq hf rfl rfl rfl (ex_move hf rfl) (fun a hf => ?_)
                                    replace hf := hf.castB (t := 166) rfl (ndec_t hc200)
                                    replace hf := hf.castB (t := 167) rfl (ndec_t hc200)
                                    refine stepN hf rfl rfl rfl (fun a hf => ?_)
                                    refine stepN hf rfl rfl rfl (fun a hf => ?_)
                                    refine stepN hf rfl rfl rfl (fun a hf => ?_)
                                    refine stq hf rfl rfl rfl (ex_pickT hf rfl rfl) (fun a hf => ?_)
                                    refine stq hf rfl rfl rfl (ex_move hf rfl) (fun a hf => ?_)
                                    refine stepN hf rfl rfl rfl (fun a hf => ?_)
                                    refine stepN hf rfl rfl rfl (fun a hf => ?_)
                                    refine stepN hf rfl rfl rfl (fun a hf => ?_)
                                    refine stepN hf rfl rfl rfl (fun a hf => ?_)
                                    refine stepN hf rfl rfl rfl (fun a hf => ?_)
                                    refine stq hf rfl rfl rfl (ex_pickT hf rfl rfl) (fun a hf => ?_)
                                    refine hK206 _ _ ?_
                                    have e199 := some_eq H; subst e199
                                    exact hJ199 _ _ ⟨hf.sub ⟨rfl, rfl, rfl, rfl, rfl, rfl, trivial⟩, hs⟩
                                · obtain ⟨hf, hs⟩ := hJ
                                  replace H := HO199
                                  clear HO199
                                  refine itt H (fun hc207 H => ?_) (fun hc207 H => ?_)
                                  · -- x199 = true
                                    replace hf := hf.castB (t := 178) rfl hc207
                                    refine cond_T hf rfl ?_
                                    refine seq_reg (fun K208 hK208 => ?_)
                                    refine stq hf rfl rfl rfl (ex_assign hf rfl) (fun a hf => ?_)
                                    refine hK208 _ _ ?_
                                    refine wp_ret ?_
                                    refine hR169 _ _ ?_
                                    refine hR168 _ _ ?_
                                    refine hR164 _ _ ?_
                                    refine hR153 _ _ ?_
                                    have e151 := some_eq H; subst e151; replace H := el_rt HO151
                                    refine hR151 _ _ ?_
                                    have eR := some_eq H; subst eR
                                    replace hs := hs.keep (.d (.d (.d (.d (.d .nil)))))
                                    exact ret1 Try.results10 hf rfl ⟨_, rfl, ⟨rfl, hs⟩⟩
                                  · -- not x199 = true
                                    replace hf := hf.castB (t := 178) rfl (bool_f hc207)
                                    refine cond_F hf rfl ?_
                                    refine wp_skip ?_
                                    refine hN169 _ _ ?_
                                    refine hN168 _ _ ?_
                                    refine region_k (fun K209 hK209 => ?_)
                                    refine stq hf rfl rfl rfl (ex_move hf rfl) (fun a hf => ?_)
                                    refine stq hf rfl rfl rfl (ex_add hf rfl rfl) (fun a hf => ?_)
                                    refine stq hf rfl rfl rfl (ex_assign hf rfl) (fun a hf => ?_)
                                    refine hK209 _ _ ?_
                                    exact hL164 k164 _ _ (Nat.lt_succ_self _) ⟨x174.1, x174.2.1, x174.2.2.1, x174.2.2.2.1, x174.2.2.2.2.1, x174.2.2.2.2.2.1, x174.2.2.2.2.2.2.1, x174.2.2.2.2.2.2.2.1, (IntKind.i64.wrap (y162 + 1)), hf.sub ⟨rfl, rfl, rfl, rfl, rfl, trivial⟩, hs, H⟩
                            · -- not y162 < (a2.length : Int)
                              replace hf := hf.castB (t := 100) rfl (dec_f hc167)
                              refine cond_F hf rfl ?_
                              refine wp_exit ?_
                              refine hX165 0 _ _ ?_
                              refine hX164 0 _ _ ?_
                              refine hX153 _ _ ?_
                              replace hs := hs.keep (.d (.d (.d (.d (.d .nil)))))
                              have e151 := some_eq H; subst e151
                              exact hJ151 _ _ ⟨_, rfl, hf.sub trivial, hs⟩
                      · obtain ⟨x151s, rfl, hf, hs⟩ := hJ
                        replace H := el_go HO151
                        clear HO151
                        refine bnd H (fun s210 hs210 H => ?_)
                        refine seq_reg (fun K211 hK211 => ?_)
                        refine stepF hf rfl rfl rfl (ex_call cf_12 hf rfl) (law36_awake.calls k (hs.enter .nil) (Sr.nil _ _) hs210) (fun v w hR a hf => ?_)
                        obtain ⟨rfl, hs'⟩ := hR
                        replace hs := hs.step .nil hs'
                        clear hs'
                        refine stq hf rfl rfl rfl (ex_assign hf rfl) (fun a hf => ?_)
                        refine hK211 _ _ ?_
                        refine wp_ret ?_
                        have eR := some_eq H; subst eR
                        exact ret1 Try.results10 hf rfl ⟨_, rfl, ⟨rfl, hs⟩⟩

end Go.Proofs.Ythemeobgfgmblaa.X
