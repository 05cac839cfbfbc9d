/- Each function of the machine comes to what its pure function says. -/
import Derived.Test.YtmjfdknjloidoaaFc1
import Derived.Test.YtmjfdknjloidoaaFb
namespace Go.Proofs.Ytmjfdknjloidoaa.X
open Go Go.RowKit Go.Sx
set_option linter.unusedVariables false

set_option maxRecDepth 100000 in
theorem law37_IdleTighterIsShallower.calls {M : Nat → Prop} {w0 : World} (k : Nat) (a0 : (List IdleState)) (a1 : Int) (a2 : Int) (a3 : Int) (a4 : Int) (v0 : Value) {r : Bool} (hs : St M w0 w0 []) (hr : Sr M w0 [rsl K_api_IdleState v0 a0])
    (h : law37_IdleTighterIsShallower.f k a0 a1 a2 a3 a4 = some r) : Calls Try.prog 10 #[v0, .int .u64 a1, .int .u64 a2, .int .u64 a3, .int .u64 a4] w0 fun e w => ∃ v, e = .returned v ∧ (.bool r = v ∧ St M w0 w []) := by
  have H := (law37_IdleTighterIsShallower.f.eq_1 ..).symm.trans h
  clear h
  refine enter Try.func10 rfl Try.ntmps10 rfl (fun a hf => ?_)
  refine seq_reg (fun K1 hK1 => ?_)
  refine stq hf rfl rfl rfl (ex_assign hf rfl) (fun a hf => ?_)
  refine hK1 _ _ ?_
  refine seq_n (fun Q2 hN2 hR2 hX2 => ?_)
  refine seq_reg (fun K3 hK3 => ?_)
  refine stq hf rfl rfl rfl (ex_move hf rfl) (fun a hf => ?_)
  refine stq hf rfl rfl rfl (ex_lenS Try.underlying22 (rsl_isSl (hr.now hs (i := 0) rfl)) hf rfl) (fun a hf => ?_)
  refine stq hf rfl rfl rfl (ex_gtr hf rfl rfl) (fun a hf => ?_)
  refine hK3 _ _ ?_
  refine itt H (fun hc4 H => ?_) (fun hc4 H => ?_)
  · -- 20 < (a0.length : Int)
    replace hf := hf.castB (t := 24) rfl (dec_t hc4)
    refine cond_T hf rfl ?_
    refine bnd H (fun s5 hs5 H => ?_)
    refine seq_reg (fun K6 hK6 => ?_)
    refine stepF hf rfl rfl rfl (ex_call cf_13 hf rfl) (law37_awake.calls k (hs.enter .nil) (Sr.nil _ _) hs5) (fun v w hR a hf => ?_)
    obtain ⟨rfl, hs'⟩ := hR
    replace hs := hs.step .nil hs'
    clear hs'
    refine stq hf rfl rfl rfl (ex_assign hf rfl) (fun a hf => ?_)
    refine hK6 _ _ ?_
    refine wp_ret ?_
    refine hR2 _ _ ?_
    have eR := some_eq H; subst eR
    exact ret1 Try.results10 hf rfl ⟨_, rfl, ⟨rfl, hs⟩⟩
  · -- not 20 < (a0.length : Int)
    replace hf := hf.castB (t := 24) rfl (dec_f hc4)
    refine cond_F hf rfl ?_
    refine wp_skip ?_
    refine hN2 _ _ ?_
    refine bnd H (fun s7 hs7 H => ?_)
    refine seq_reg (fun K9 hK9 => ?_)
    refine stq hf rfl rfl rfl (ex_move hf rfl) (fun a hf => ?_)
    refine stepF hf rfl rfl rfl (ex_call cf_14 hf rfl) (law37_States.calls k a0 v0 (hs.enter .nil) (Sr.old hr hs .nil (i := 0) rfl (fun _ h => h) (fun _ h => h) (Sr.nil _ _)) hs7) (fun v w hR a hf => ?_)
    obtain ⟨v8, rfl, hs'⟩ := hR
    replace hs := hs.step .nil hs'
    clear hs'
    refine stq hf rfl rfl rfl (ex_assign hf rfl) (fun a hf => ?_)
    refine hK9 _ _ ?_
    refine bnd H (fun s10 hs10 H => ?_)
    refine seq_reg (fun K13 hK13 => ?_)
    refine stepF hf rfl rfl rfl (ex_call cf_22 hf rfl) (idle_NewLimits.calls k (hs.enter (.k .nil)) (Sr.nil _ _) hs10) (fun v w hR a hf => ?_)
    obtain ⟨b11, b12, rfl, hs'⟩ := hR
    replace hs := hs.step (.k .nil) hs'
    clear hs'
    refine stq hf rfl rfl rfl (ex_assign hf rfl) (fun a hf => ?_)
    refine hK13 _ _ ?_
    refine seq_n (fun Q14 hN14 hR14 hX14 => ?_)
    refine bnd H (fun s15 hs15 H => ?_)
    refine seq_reg (fun K16 hK16 => ?_)
    refine stq hf rfl rfl rfl (ex_move hf rfl) (fun a hf => ?_)
    refine stq hf rfl rfl rfl (ex_eqp Try.underlying40 hf rfl rfl) (fun a hf => ?_)
    refine stq hf rfl rfl rfl (ex_move hf rfl) (fun a hf => ?_)
    refine stq hf rfl rfl rfl (ex_move hf rfl) (fun a hf => ?_)
    refine stq hf rfl rfl rfl (ex_move hf rfl) (fun a hf => ?_)
    refine stq hf rfl rfl rfl (ex_rem hf rfl rfl (by decide)) (fun a hf => ?_)
    refine stepF hf rfl rfl rfl (ex_call cf_23 hf rfl) (idle_Limits_Set.calls k s10 3 (Int.tmod a3 300) b11 b12 (hs.enter (.c (.c (.k .nil)))) (Sr.nil _ _) hs15) (fun v w hR a hf => ?_)
    obtain ⟨rfl, hs'⟩ := hR
    replace hs := hs.step (.c (.c (.k .nil))) hs'
    clear hs'
    refine stq hf rfl rfl rfl (ex_neq hf rfl rfl) (fun a hf => ?_)
    refine stq hf rfl rfl rfl (ex_pickF hf rfl rfl) (fun a hf => ?_)
    refine hK16 _ _ ?_
    refine itt H (fun hc17 H => ?_) (fun hc17 H => ?_)
    · -- s15.2 = 0
      replace hf := hf.castB (t := 36) rfl (ndec_f hc17)
      replace hf := hf.castB (t := 37) rfl (ndec_f hc17)
      refine cond_F hf rfl ?_
      refine wp_skip ?_
      refine hN14 _ _ ?_
      refine seq_reg (fun K18 hK18 => ?_)
      refine stq hf rfl rfl rfl (ex_move hf rfl) (fun a hf => ?_)
      refine stq hf rfl rfl rfl (ex_rem hf rfl rfl (by decide)) (fun a hf => ?_)
      refine stq hf rfl rfl rfl (ex_assign hf rfl) (fun a hf => ?_)
      refine hK18 _ _ ?_
      refine bnd H (fun s19 hs19 H => ?_)
      refine bnd H (fun s20 hs20 H => ?_)
      refine seq_reg (fun K21 hK21 => ?_)
      refine stq hf rfl rfl rfl (ex_move hf rfl) (fun a hf => ?_)
      refine stq hf rfl rfl rfl (ex_move hf rfl) (fun a hf => ?_)
      refine stq hf rfl rfl rfl (ex_move hf rfl) (fun a hf => ?_)
      refine stepF hf rfl rfl rfl (ex_call cf_24 hf rfl) (idle_Limits_Limit.calls k s15.1 b11 b12 (hs.enter (.k (.k (.k .nil)))) (Sr.own hs (.k (.k (.k .nil))) (i := 0) rfl (fun _ h => h) (fun _ h => h) (Sr.own hs (.k (.k (.k .nil))) (i := 1) rfl (fun _ h => h) (fun _ h => h) (Sr.nil _ _))) hs19) (fun v w hR a hf => ?_)
      obtain ⟨rfl, hs'⟩ := hR
      replace hs := hs.step (.k (.k (.k .nil))) hs'
      clear hs'
      refine stepF hf rfl rfl rfl (ex_call cf_16 hf rfl) (idle_Select.calls k s7 (Int.tmod a1 1500) s19 v8 (hs.enter (.k (.k (.k .nil)))) (Sr.own hs (.k (.k (.k .nil))) (i := 2) rfl osl_rsl (fun _ h => h.1) (Sr.nil _ _)) hs20) (fun v w hR a hf => ?_)
      obtain ⟨rfl, hs'⟩ := hR
      replace hs := hs.step (.k (.k (.k .nil))) hs'
      clear hs'
      refine stq hf rfl rfl rfl (ex_move hf rfl) (fun a hf => ?_)
      refine stq hf rfl rfl rfl (ex_extract hf rfl rfl) (fun a hf => ?_)
      refine stq hf rfl rfl rfl (ex_extract hf rfl rfl) (fun a hf => ?_)
      refine stq hf rfl rfl rfl (ex_assign hf rfl) (fun a hf => ?_)
      refine stq hf rfl rfl rfl (ex_assign hf rfl) (fun a hf => ?_)
      refine hK21 _ _ ?_
      refine seq_n (fun Q22 hN22 hR22 hX22 => ?_)
      refine ck_some H (fun hc23 H => ?_)
      refine bnd H (fun s24 hs24 H => ?_)
      refine bnd H (fun s25 hs25 H => ?_)
      refine region_d fol 14 [(2, .int .u64 a2), (4, .int .u64 a4), (11, v8), (12, .pointer (some ⟨b11, 0, none⟩)), (13, .int .u64 (Int.tmod a1 1500)), (14, .int .i64 s20.1), (15, .int .i64 s20.2)] [(0, v8), (1, .int .u64 (Int.tmod a1 1500)), (2, .int .u64 a2), (3, .int .u64 (Int.tmod a1 1500)), (4, .int .u64 (IntKind.u64.wrap ((Int.tmod a1 1500) + 1))), (5, .int .u64 (Int.tmod a2 (IntKind.u64.wrap ((Int.tmod a1 1500) + 1)))), (6, .int .u64 (IntKind.u64.wrap ((Int.tmod a1 1500) - (Int.tmod a2 (IntKind.u64.wrap ((Int.tmod a1 1500) + 1)))))), (7, .pointer (some ⟨b11, 0, none⟩))] [8, 9] (fun w => True) (fun w => St M w0 w [bx b11 64 [.map (some b12)], mp b12 .i64 .u64 s15.1, osl K_api_IdleState v8 s7]) hf ⟨rfl, rfl, rfl, rfl, rfl, rfl, rfl, trivial⟩ (by kernel_rfl) (by kernel_rfl) rfl (by decide) trivial hs.drew (.cons (⟨_, _, rfl, rfl, rfl, rfl, fun a w hR hf => .inl ⟨wanted_yes hf rfl, ex_move hf rfl⟩⟩) (.cons (⟨_, _, rfl, rfl, rfl, rfl, fun a w hR hf => .inl ⟨wanted_yes hf rfl, ex_move hf rfl⟩⟩) (.cons (⟨_, _, rfl, rfl, rfl, rfl, fun a w hR hf => .inl ⟨wanted_yes hf rfl, ex_move hf rfl⟩⟩) (.cons (⟨_, _, rfl, rfl, rfl, rfl, fun a w hR hf => .inl ⟨wanted_yes hf rfl, ex_move hf rfl⟩⟩) (.cons (⟨_, _, rfl, rfl, rfl, rfl, fun a w hR hf => .inl ⟨wanted_yes hf rfl, ex_add hf rfl rfl⟩⟩) (.cons (⟨_, _, rfl, rfl, rfl, rfl, fun a w hR hf => .inl ⟨wanted_yes hf rfl, ex_rem hf rfl rfl hc23⟩⟩) (.cons (⟨_, _, rfl, rfl, rfl, rfl, fun a w hR hf => .inl ⟨wanted_yes hf rfl, ex_sub hf rfl rfl⟩⟩) (.cons (⟨_, _, rfl, rfl, rfl, rfl, fun a w hR hf => .inl ⟨wanted_yes hf rfl, ex_move hf rfl⟩⟩) (.nil))))))))) (fun K26 hK26 => ?_)
      refine RW.one 8 (by kernel_rfl) (by kernel_rfl) rfl (fun d hd => by cases hd; rfl) [(56, .pointer (some ⟨b11, 0, none⟩))] ⟨rfl, trivial⟩ (fun a w hR hs hf => ⟨wanted_yes hf rfl, ?_⟩)
      refine estep_f (ex_call cf_24 hf rfl) (idle_Limits_Limit.calls k s15.1 b11 b12 (hs.enter (.k (.k (.k .nil)))) (Sr.own hs (.k (.k (.k .nil))) (i := 0) rfl (fun _ h => h) (fun _ h => h) (Sr.own hs (.k (.k (.k .nil))) (i := 1) rfl (fun _ h => h) (fun _ h => h) (Sr.nil _ _))) hs24) (fun v w hR => ?_)
      obtain ⟨rfl, hs'⟩ := hR
      replace hs := hs.step (.k (.k (.k .nil))) hs'
      clear hs'
      refine ⟨[], [(8, .int .u64 s24), (0, v8), (1, .int .u64 (Int.tmod a1 1500)), (2, .int .u64 a2), (3, .int .u64 (Int.tmod a1 1500)), (4, .int .u64 (IntKind.u64.wrap ((Int.tmod a1 1500) + 1))), (5, .int .u64 (Int.tmod a2 (IntKind.u64.wrap ((Int.tmod a1 1500) + 1)))), (6, .int .u64 (IntKind.u64.wrap ((Int.tmod a1 1500) - (Int.tmod a2 (IntKind.u64.wrap ((Int.tmod a1 1500) + 1)))))), (7, .pointer (some ⟨b11, 0, none⟩))], [9], (fun _ => True), (fun w => St M w0 w [bx b11 64 [.map (some b12)], mp b12 .i64 .u64 s15.1, osl K_api_IdleState v8 s7]), rfl, rfl, trivial, trivial, hs, (by kernel_rfl), .nil, ?_⟩
      refine RW.one 9 (by kernel_rfl) (by kernel_rfl) rfl (fun d hd => by cases hd; rfl) [(49, v8), (55, .int .u64 (IntKind.u64.wrap ((Int.tmod a1 1500) - (Int.tmod a2 (IntKind.u64.wrap ((Int.tmod a1 1500) + 1)))))), (57, .int .u64 s24)] ⟨rfl, rfl, rfl, trivial⟩ (fun a w hR hs hf => ⟨wanted_yes hf rfl, ?_⟩)
      refine estep_f (ex_call cf_16 hf rfl) (idle_Select.calls k s7 (IntKind.u64.wrap ((Int.tmod a1 1500) - (Int.tmod a2 (IntKind.u64.wrap ((Int.tmod a1 1500) + 1))))) s24 v8 (hs.enter (.k (.k (.k .nil)))) (Sr.own hs (.k (.k (.k .nil))) (i := 2) rfl osl_rsl (fun _ h => h.1) (Sr.nil _ _)) hs25) (fun v w hR => ?_)
      obtain ⟨rfl, hs'⟩ := hR
      replace hs := hs.step (.k (.k (.k .nil))) hs'
      clear hs'
      refine ⟨[(10, .tuple #[.int .i64 s25.1, .int .i64 s25.2]), (11, .int .i64 s25.1), (12, .int .i64 s25.2), (13, .int .i64 s25.1)], [(10, .tuple #[.int .i64 s25.1, .int .i64 s25.2]), (11, .int .i64 s25.1), (12, .int .i64 s25.2), (13, .int .i64 s25.1), (9, .tuple #[.int .i64 s25.1, .int .i64 s25.2]), (8, .int .u64 s24), (0, v8), (1, .int .u64 (Int.tmod a1 1500)), (2, .int .u64 a2), (3, .int .u64 (Int.tmod a1 1500)), (4, .int .u64 (IntKind.u64.wrap ((Int.tmod a1 1500) + 1))), (5, .int .u64 (Int.tmod a2 (IntKind.u64.wrap ((Int.tmod a1 1500) + 1)))), (6, .int .u64 (IntKind.u64.wrap ((Int.tmod a1 1500) - (Int.tmod a2 (IntKind.u64.wrap ((Int.tmod a1 1500) + 1)))))), (7, .pointer (some ⟨b11, 0, none⟩))], [], (fun _ => True), (fun w => St M w0 w [bx b11 64 [.map (some b12)], mp b12 .i64 .u64 s15.1, osl K_api_IdleState v8 s7]), rfl, rfl, ⟨trivial, trivial⟩, trivial, hs, (by kernel_rfl), .cons (⟨_, _, rfl, rfl, rfl, rfl, fun a w hR hf => .inl ⟨wanted_yes hf rfl, ex_move hf rfl⟩⟩) (.cons (⟨_, _, rfl, rfl, rfl, rfl, fun a w hR hf => .inl ⟨wanted_yes hf rfl, ex_extract hf rfl rfl⟩⟩) (.cons (⟨_, _, rfl, rfl, rfl, rfl, fun a w hR hf => .inl ⟨wanted_yes hf rfl, ex_extract hf rfl rfl⟩⟩) (.cons (⟨_, _, rfl, rfl, rfl, rfl, fun a w hR hf => .inl ⟨wanted_yes hf rfl, ex_assign hf rfl⟩⟩) (.nil)))), ?_⟩
      refine RW.zero (by kernel_rfl) (by kernel_rfl) [(4, .int .u64 a4), (11, v8), (12, .pointer (some ⟨b11, 0, none⟩)), (13, .int .u64 (Int.tmod a1 1500)), (14, .int .i64 s20.1), (15, .int .i64 s20.2), (16, .int .i64 s25.1), (60, .int .i64 s25.2)] ⟨rfl, rfl, rfl, rfl, rfl, rfl, rfl, rfl, trivial⟩ (fun a w hR hs hf => ?_)
      refine stq hf rfl rfl rfl (ex_assign hf rfl) (fun a hf => ?_)
      refine hK26 _ _ ?_
      refine hN22 _ _ ?_
      refine seq_n (fun Q27 hN27 hR27 hX27 => ?_)
      refine bnd H (fun s28 hs28 H => ?_)
      refine seq_reg (fun K29 hK29 => ?_)
      refine stq hf rfl rfl rfl (ex_move hf rfl) (fun a hf => ?_)
      refine stq hf rfl rfl rfl (ex_move hf rfl) (fun a hf => ?_)
      refine stq hf rfl rfl rfl (ex_rem hf rfl rfl (by decide)) (fun a hf => ?_)
      refine stepF hf rfl rfl rfl (ex_call cf_23 hf rfl) (idle_Limits_Set.calls k s15.1 7 (Int.tmod a4 300) b11 b12 (hs.enter (.c (.c (.k .nil)))) (Sr.nil _ _) hs28) (fun v w hR a hf => ?_)
      obtain ⟨rfl, hs'⟩ := hR
      replace hs := hs.step (.c (.c (.k .nil))) hs'
      clear hs'
      refine stq hf rfl rfl rfl (ex_neq hf rfl rfl) (fun a hf => ?_)
      refine hK29 _ _ ?_
      refine itt H (fun hc30 H => ?_) (fun hc30 H => ?_)
      · -- s28.2 = 0
        replace hf := hf.castB (t := 65) rfl (ndec_f hc30)
        refine cond_F hf rfl ?_
        refine wp_skip ?_
        refine hN27 _ _ ?_
        refine bnd H (fun s31 hs31 H => ?_)
        refine bnd H (fun s32 hs32 H => ?_)
        refine seq_reg (fun K33 hK33 => ?_)
        refine stq hf rfl rfl rfl (ex_move hf rfl) (fun a hf => ?_)
        refine stq hf rfl rfl rfl (ex_move hf rfl) (fun a hf => ?_)
        refine stq hf rfl rfl rfl (ex_move hf rfl) (fun a hf => ?_)
        refine stepF hf rfl rfl rfl (ex_call cf_24 hf rfl) (idle_Limits_Limit.calls k s28.1 b11 b12 (hs.enter (.k (.k (.k .nil)))) (Sr.own hs (.k (.k (.k .nil))) (i := 0) rfl (fun _ h => h) (fun _ h => h) (Sr.own hs (.k (.k (.k .nil))) (i := 1) rfl (fun _ h => h) (fun _ h => h) (Sr.nil _ _))) hs31) (fun v w hR a hf => ?_)
        obtain ⟨rfl, hs'⟩ := hR
        replace hs := hs.step (.k (.k (.k .nil))) hs'
        clear hs'
        refine stepF hf rfl rfl rfl (ex_call cf_16 hf rfl) (idle_Select.calls k s7 (Int.tmod a1 1500) s31 v8 (hs.enter (.k (.k (.k .nil)))) (Sr.own hs (.k (.k (.k .nil))) (i := 2) rfl osl_rsl (fun _ h => h.1) (Sr.nil _ _)) hs32) (fun v w hR a hf => ?_)
        obtain ⟨rfl, hs'⟩ := hR
        replace hs := hs.step (.k (.k (.k .nil))) hs'
        clear hs'
        refine stq hf rfl rfl rfl (ex_move hf rfl) (fun a hf => ?_)
        refine stq hf rfl rfl rfl (ex_extract hf rfl rfl) (fun a hf => ?_)
        refine stq hf rfl rfl rfl (ex_extract hf rfl rfl) (fun a hf => ?_)
        refine stq hf rfl rfl rfl (ex_assign hf rfl) (fun a hf => ?_)
        refine stq hf rfl rfl rfl (ex_assign hf rfl) (fun a hf => ?_)
        refine hK33 _ _ ?_
        refine seq_n (fun Q34 hN34 hR34 hX34 => ?_)
        refine bnd H (fun s35 hs35 H => ?_)
        refine seq_reg (fun K36 hK36 => ?_)
        refine stq hf rfl rfl rfl (ex_move hf rfl) (fun a hf => ?_)
        refine stepF hf rfl rfl rfl (ex_call cf_26 hf rfl) (idle_Limits_Remove.calls k s28.1 7 b11 b12 (hs.enter (.c (.c (.k .nil)))) (Sr.nil _ _) hs35) (fun v w hR a hf => ?_)
        obtain ⟨rfl, hs'⟩ := hR
        replace hs := hs.step (.c (.c (.k .nil))) hs'
        clear hs'
        refine stq hf rfl rfl rfl (ex_neq hf rfl rfl) (fun a hf => ?_)
        refine hK36 _ _ ?_
        refine itt H (fun hc37 H => ?_) (fun hc37 H => ?_)
        · -- s35.2 = 0
          replace hf := hf.castB (t := 76) rfl (ndec_f hc37)
          refine cond_F hf rfl ?_
          refine wp_skip ?_
          refine hN34 _ _ ?_
          refine bnd H (fun s38 hs38 H => ?_)
          refine bnd H (fun s39 hs39 H => ?_)
          refine seq_reg (fun K40 hK40 => ?_)
          refine stq hf rfl rfl rfl (ex_move hf rfl) (fun a hf => ?_)
          refine stq hf rfl rfl rfl (ex_move hf rfl) (fun a hf => ?_)
          refine stq hf rfl rfl rfl (ex_move hf rfl) (fun a hf => ?_)
          refine stepF hf rfl rfl rfl (ex_call cf_24 hf rfl) (idle_Limits_Limit.calls k s35.1 b11 b12 (hs.enter (.k (.k (.k .nil)))) (Sr.own hs (.k (.k (.k .nil))) (i := 0) rfl (fun _ h => h) (fun _ h => h) (Sr.own hs (.k (.k (.k .nil))) (i := 1) rfl (fun _ h => h) (fun _ h => h) (Sr.nil _ _))) hs38) (fun v w hR a hf => ?_)
          obtain ⟨rfl, hs'⟩ := hR
          replace hs := hs.step (.k (.k (.k .nil))) hs'
          clear hs'
          refine stepF hf rfl rfl rfl (ex_call cf_16 hf rfl) (idle_Select.calls k s7 (Int.tmod a1 1500) s38 v8 (hs.enter (.k (.k (.k .nil)))) (Sr.own hs (.k (.k (.k .nil))) (i := 2) rfl osl_rsl (fun _ h => h.1) (Sr.nil _ _)) hs39) (fun v w hR a hf => ?_)
          obtain ⟨rfl, hs'⟩ := hR
          replace hs := hs.step (.k (.k (.k .nil))) hs'
          clear hs'
          refine stq hf rfl rfl rfl (ex_move hf rfl) (fun a hf => ?_)
          refine stq hf rfl rfl rfl (ex_extract hf rfl rfl) (fun a hf => ?_)
          refine stq hf rfl rfl rfl (ex_extract hf rfl rfl) (fun a hf => ?_)
          refine stq hf rfl rfl rfl (ex_assign hf rfl) (fun a hf => ?_)
          refine stq hf rfl rfl rfl (ex_assign hf rfl) (fun a hf => ?_)
          refine hK40 _ _ ?_
          refine itt H (fun hc41 H => ?_) (fun hc41 H => ?_)
          · -- s20.2 = 0
            refine itt H (fun hc42 H => ?_) (fun hc42 H => ?_)
            · -- s25.2 = 0
              refine itt H (fun hc43 H => ?_) (fun hc43 H => ?_)
              · -- s32.2 = 0
                refine itt H (fun hc44 H => ?_) (fun hc44 H => ?_)
                · -- s39.2 = 0
                  refine itt H (fun hc45 H => ?_) (fun hc45 H => ?_)
                  · -- s25.1 ≤ s20.1
                    refine itt H (fun hc46 H => ?_) (fun hc46 H => ?_)
                    · -- s32.1 ≤ s20.1
                      refine itt H (fun hc47 H => ?_) (fun hc47 H => ?_)
                      · -- s39.1 = s20.1
                        refine bnd H (fun s48 hs48 H => ?_)
                        refine seq_reg (fun K49 hK49 => ?_)
                        refine stq hf rfl rfl rfl (ex_move hf rfl) (fun a hf => ?_)
                        refine stq hf rfl rfl rfl (ex_eql hf rfl rfl) (fun a hf => ?_)
                        refine stq hf rfl rfl rfl (ex_move hf rfl) (fun a hf => ?_)
                        replace hf := hf.castB (t := 86) rfl (dec_t hc41)
                        replace hf := hf.castB (t := 87) rfl (dec_t hc41)
                        refine stq hf rfl rfl rfl (ex_move hf rfl) (fun a hf => ?_)
                        refine stq hf rfl rfl rfl (ex_eql hf rfl rfl) (fun a hf => ?_)
                        refine stq hf rfl rfl rfl (ex_pickT hf rfl rfl) (fun a hf => ?_)
                        refine stq hf rfl rfl rfl (ex_move hf rfl) (fun a hf => ?_)
                        replace hf := hf.castB (t := 89) rfl (dec_t hc42)
                        replace hf := hf.castB (t := 90) rfl (dec_t hc42)
                        replace hf := hf.castB (t := 91) rfl (dec_t hc42)
                        refine stq hf rfl rfl rfl (ex_move hf rfl) (fun a hf => ?_)
                        refine stq hf rfl rfl rfl (ex_eql hf rfl rfl) (fun a hf => ?_)
                        refine stq hf rfl rfl rfl (ex_pickT hf rfl rfl) (fun a hf => ?_)
                        refine stq hf rfl rfl rfl (ex_move hf rfl) (fun a hf => ?_)
                        replace hf := hf.castB (t := 93) rfl (dec_t hc43)
                        replace hf := hf.castB (t := 94) rfl (dec_t hc43)
                        replace hf := hf.castB (t := 95) rfl (dec_t hc43)
                        refine stq hf rfl rfl rfl (ex_move hf rfl) (fun a hf => ?_)
                        refine stq hf rfl rfl rfl (ex_eql hf rfl rfl) (fun a hf => ?_)
                        refine stq hf rfl rfl rfl (ex_pickT hf rfl rfl) (fun a hf => ?_)
                        refine stq hf rfl rfl rfl (ex_move hf rfl) (fun a hf => ?_)
                        replace hf := hf.castB (t := 97) rfl (dec_t hc44)
                        replace hf := hf.castB (t := 98) rfl (dec_t hc44)
                        replace hf := hf.castB (t := 99) rfl (dec_t hc44)
                        refine stq hf rfl rfl rfl (ex_move hf rfl) (fun a hf => ?_)
                        refine stq hf rfl rfl rfl (ex_move hf rfl) (fun a hf => ?_)
                        refine stq hf rfl rfl rfl (ex_leq hf rfl rfl) (fun a hf => ?_)
                        refine stq hf rfl rfl rfl (ex_pickT hf rfl rfl) (fun a hf => ?_)
                        refine stq hf rfl rfl rfl (ex_move hf rfl) (fun a hf => ?_)
                        replace hf := hf.castB (t := 102) rfl (dec_t hc45)
                        replace hf := hf.castB (t := 103) rfl (dec_t hc45)
                        replace hf := hf.castB (t := 104) rfl (dec_t hc45)
                        refine stq hf rfl rfl rfl (ex_move hf rfl) (fun a hf => ?_)
                        refine stq hf rfl rfl rfl (ex_move hf rfl) (fun a hf => ?_)
                        refine stq hf rfl rfl rfl (ex_leq hf rfl rfl) (fun a hf => ?_)
                        refine stq hf rfl rfl rfl (ex_pickT hf rfl rfl) (fun a hf => ?_)
                        refine stq hf rfl rfl rfl (ex_move hf rfl) (fun a hf => ?_)
                        replace hf := hf.castB (t := 107) rfl (dec_t hc46)
                        replace hf := hf.castB (t := 108) rfl (dec_t hc46)
                        replace hf := hf.castB (t := 109) rfl (dec_t hc46)
                        refine stq hf rfl rfl rfl (ex_move hf rfl) (fun a hf => ?_)
                        refine stq hf rfl rfl rfl (ex_move hf rfl) (fun a hf => ?_)
                        refine stq hf rfl rfl rfl (ex_eql hf rfl rfl) (fun a hf => ?_)
                        refine stq hf rfl rfl rfl (ex_pickT hf rfl rfl) (fun a hf => ?_)
                        refine stq hf rfl rfl rfl (ex_move hf rfl) (fun a hf => ?_)
                        replace hf := hf.castB (t := 112) rfl (dec_t hc47)
                        replace hf := hf.castB (t := 113) rfl (dec_t hc47)
                        replace hf := hf.castB (t := 114) rfl (dec_t hc47)
                        refine stepF hf rfl rfl rfl (ex_call cf_13 hf rfl) (law37_awake.calls k (hs.enter (.k (.k (.k .nil)))) (Sr.nil _ _) hs48) (fun v w hR a hf => ?_)
                        obtain ⟨rfl, hs'⟩ := hR
                        replace hs := hs.step (.k (.k (.k .nil))) hs'
                        clear hs'
                        refine stq hf rfl rfl rfl (ex_pickT hf rfl rfl) (fun a hf => ?_)
                        refine stq hf rfl rfl rfl (ex_assign hf rfl) (fun a hf => ?_)
                        refine hK49 _ _ ?_
                        refine wp_ret ?_
                        have eR := some_eq H; subst eR
                        replace hs := hs.keep (.d (.d (.d .nil)))
                        exact ret1 Try.results10 hf rfl ⟨_, rfl, ⟨rfl, hs⟩⟩
                      · -- not s39.1 = s20.1
                        refine seq_reg (fun K50 hK50 => ?_)
                        refine stq hf rfl rfl rfl (ex_move hf rfl) (fun a hf => ?_)
                        refine stq hf rfl rfl rfl (ex_eql hf rfl rfl) (fun a hf => ?_)
                        refine stq hf rfl rfl rfl (ex_move hf rfl) (fun a hf => ?_)
                        replace hf := hf.castB (t := 86) rfl (dec_t hc41)
                        replace hf := hf.castB (t := 87) rfl (dec_t hc41)
                        refine stq hf rfl rfl rfl (ex_move hf rfl) (fun a hf => ?_)
                        refine stq hf rfl rfl rfl (ex_eql hf rfl rfl) (fun a hf => ?_)
                        refine stq hf rfl rfl rfl (ex_pickT hf rfl rfl) (fun a hf => ?_)
                        refine stq hf rfl rfl rfl (ex_move hf rfl) (fun a hf => ?_)
                        replace hf := hf.castB (t := 89) rfl (dec_t hc42)
                        replace hf := hf.castB (t := 90) rfl (dec_t hc42)
                        replace hf := hf.castB (t := 91) rfl (dec_t hc42)
                        refine stq hf rfl rfl rfl (ex_move hf rfl) (fun a hf => ?_)
                        refine stq hf rfl rfl rfl (ex_eql hf rfl rfl) (fun a hf => ?_)
                        refine stq hf rfl rfl rfl (ex_pickT hf rfl rfl) (fun a hf => ?_)
                        refine stq hf rfl rfl rfl (ex_move hf rfl) (fun a hf => ?_)
                        replace hf := hf.castB (t := 93) rfl (dec_t hc43)
                        replace hf := hf.castB (t := 94) rfl (dec_t hc43)
                        replace hf := hf.castB (t := 95) rfl (dec_t hc43)
                        refine stq hf rfl rfl rfl (ex_move hf rfl) (fun a hf => ?_)
                        refine stq hf rfl rfl rfl (ex_eql hf rfl rfl) (fun a hf => ?_)
                        refine stq hf rfl rfl rfl (ex_pickT hf rfl rfl) (fun a hf => ?_)
                        refine stq hf rfl rfl rfl (ex_move hf rfl) (fun a hf => ?_)
                        replace hf := hf.castB (t := 97) rfl (dec_t hc44)
                        replace hf := hf.castB (t := 98) rfl (dec_t hc44)
                        replace hf := hf.castB (t := 99) rfl (dec_t hc44)
                        refine stq hf rfl rfl rfl (ex_move hf rfl) (fun a hf => ?_)
                        refine stq hf rfl rfl rfl (ex_move hf rfl) (fun a hf => ?_)
                        refine stq hf rfl rfl rfl (ex_leq hf rfl rfl) (fun a hf => ?_)
                        refine stq hf rfl rfl rfl (ex_pickT hf rfl rfl) (fun a hf => ?_)
                        refine stq hf rfl rfl rfl (ex_move hf rfl) (fun a hf => ?_)
                        replace hf := hf.castB (t := 102) rfl (dec_t hc45)
                        replace hf := hf.castB (t := 103) rfl (dec_t hc45)
                        replace hf := hf.castB (t := 104) rfl (dec_t hc45)
                        refine stq hf rfl rfl rfl (ex_move hf rfl) (fun a hf => ?_)
                        refine stq hf rfl rfl rfl (ex_move hf rfl) (fun a hf => ?_)
                        refine stq hf rfl rfl rfl (ex_leq hf rfl rfl) (fun a hf => ?_)
                        refine stq hf rfl rfl rfl (ex_pickT hf rfl rfl) (fun a hf => ?_)
                        refine stq hf rfl rfl rfl (ex_move hf rfl) (fun a hf => ?_)
                        replace hf := hf.castB (t := 107) rfl (dec_t hc46)
                        replace hf := hf.castB (t := 108) rfl (dec_t hc46)
                        replace hf := hf.castB (t := 109) rfl (dec_t hc46)
                        refine stq hf rfl rfl rfl (ex_move hf rfl) (fun a hf => ?_)
                        refine stq hf rfl rfl rfl (ex_move hf rfl) (fun a hf => ?_)
                        refine stq hf rfl rfl rfl (ex_eql hf rfl rfl) (fun a hf => ?_)
                        refine stq hf rfl rfl rfl (ex_pickT hf rfl rfl) (fun a hf => ?_)
                        refine stq hf rfl rfl rfl (ex_move hf rfl) (fun a hf => ?_)
                        replace hf := hf.castB (t := 112) rfl (dec_f hc47)
                        replace hf := hf.castB (t := 113) rfl (dec_f hc47)
                        replace hf := hf.castB (t := 114) rfl (dec_f hc47)
                        refine stepN hf rfl rfl rfl (fun a hf => ?_)
                        refine stq hf rfl rfl rfl (ex_pickF hf rfl rfl) (fun a hf => ?_)
                        refine stq hf rfl rfl rfl (ex_assign hf rfl) (fun a hf => ?_)
                        refine hK50 _ _ ?_
                        refine wp_ret ?_
                        have eR := some_eq H; subst eR
                        replace hs := hs.keep (.d (.d (.d .nil)))
                        exact ret1 Try.results10 hf rfl ⟨_, rfl, ⟨rfl, hs⟩⟩
                    · -- not s32.1 ≤ s20.1
                      refine seq_reg (fun K51 hK51 => ?_)
                      refine stq hf rfl rfl rfl (ex_move hf rfl) (fun a hf => ?_)
                      refine stq hf rfl rfl rfl (ex_eql hf rfl rfl) (fun a hf => ?_)
                      refine stq hf rfl rfl rfl (ex_move hf rfl) (fun a hf => ?_)
                      replace hf := hf.castB (t := 86) rfl (dec_t hc41)
                      replace hf := hf.castB (t := 87) rfl (dec_t hc41)
                      refine stq hf rfl rfl rfl (ex_move hf rfl) (fun a hf => ?_)
                      refine stq hf rfl rfl rfl (ex_eql hf rfl rfl) (fun a hf => ?_)
                      refine stq hf rfl rfl rfl (ex_pickT hf rfl rfl) (fun a hf => ?_)
                      refine stq hf rfl rfl rfl (ex_move hf rfl) (fun a hf => ?_)
                      replace hf := hf.castB (t := 89) rfl (dec_t hc42)
                      replace hf := hf.castB (t := 90) rfl (dec_t hc42)
                      replace hf := hf.castB (t := 91) rfl (dec_t hc42)
                      refine stq hf rfl rfl rfl (ex_move hf rfl) (fun a hf => ?_)
                      refine stq hf rfl rfl rfl (ex_eql hf rfl rfl) (fun a hf => ?_)
                      refine stq hf rfl rfl rfl (ex_pickT hf rfl rfl) (fun a hf => ?_)
                      refine stq hf rfl rfl rfl (ex_move hf rfl) (fun a hf => ?_)
                      replace hf := hf.castB (t := 93) rfl (dec_t hc43)
                      replace hf := hf.castB (t := 94) rfl (dec_t hc43)
                      replace hf := hf.castB (t := 95) rfl (dec_t hc43)
                      refine stq hf rfl rfl rfl (ex_move hf rfl) (fun a hf => ?_)
                      refine stq hf rfl rfl rfl (ex_eql hf rfl rfl) (fun a hf => ?_)
                      refine stq hf rfl rfl rfl (ex_pickT hf rfl rfl) (fun a hf => ?_)
                      refine stq hf rfl rfl rfl (ex_move hf rfl) (fun a hf => ?_)
                      replace hf := hf.castB (t := 97) rfl (dec_t hc44)
                      replace hf := hf.castB (t := 98) rfl (dec_t hc44)
                      replace hf := hf.castB (t := 99) rfl (dec_t hc44)
                      refine stq hf rfl rfl rfl (ex_move hf rfl) (fun a hf => ?_)
                      refine stq hf rfl rfl rfl (ex_move hf rfl) (fun a hf => ?_)
                      refine stq hf rfl rfl rfl (ex_leq hf rfl rfl) (fun a hf => ?_)
                      refine stq hf rfl rfl rfl (ex_pickT hf rfl rfl) (fun a hf => ?_)
                      refine stq hf rfl rfl rfl (ex_move hf rfl) (fun a hf => ?_)
                      replace hf := hf.castB (t := 102) rfl (dec_t hc45)
                      replace hf := hf.castB (t := 103) rfl (dec_t hc45)
                      replace hf := hf.castB (t := 104) rfl (dec_t hc45)
                      refine stq hf rfl rfl rfl (ex_move hf rfl) (fun a hf => ?_)
                      refine stq hf rfl rfl rfl (ex_move hf rfl) (fun a hf => ?_)
                      refine stq hf rfl rfl rfl (ex_leq hf rfl rfl) (fun a hf => ?_)
                      refine stq hf rfl rfl rfl (ex_pickT hf rfl rfl) (fun a hf => ?_)
                      refine stq hf rfl rfl rfl (ex_move hf rfl) (fun a hf => ?_)
                      replace hf := hf.castB (t := 107) rfl (dec_f hc46)
                      replace hf := hf.castB (t := 108) rfl (dec_f hc46)
                      replace hf := hf.castB (t := 109) rfl (dec_f hc46)
                      refine stepN hf rfl rfl rfl (fun a hf => ?_)
                      refine stepN hf rfl rfl rfl (fun a hf => ?_)
                      refine stepN hf rfl rfl rfl (fun a hf => ?_)
                      refine stq hf rfl rfl rfl (ex_pickF hf rfl rfl) (fun a hf => ?_)
                      refine stq hf rfl rfl rfl (ex_move hf rfl) (fun a hf => ?_)
                      refine stepN hf rfl rfl rfl (fun a hf => ?_)
                      refine stq hf rfl rfl rfl (ex_pickF hf rfl rfl) (fun a hf => ?_)
                      refine stq hf rfl rfl rfl (ex_assign hf rfl) (fun a hf => ?_)
                      refine hK51 _ _ ?_
                      refine wp_ret ?_
                      have eR := some_eq H; subst eR
                      replace hs := hs.keep (.d (.d (.d .nil)))
                      exact ret1 Try.results10 hf rfl ⟨_, rfl, ⟨rfl, hs⟩⟩
                  · -- not s25.1 ≤ s20.1
                    refine seq_reg (fun K52 hK52 => ?_)
                    refine stq hf rfl rfl rfl (ex_move hf rfl) (fun a hf => ?_)
                    refine stq hf rfl rfl rfl (ex_eql hf rfl rfl) (fun a hf => ?_)
                    refine stq hf rfl rfl rfl (ex_move hf rfl) (fun a hf => ?_)
                    replace hf := hf.castB (t := 86) rfl (dec_t hc41)
                    replace hf := hf.castB (t := 87) rfl (dec_t hc41)
                    refine stq hf rfl rfl rfl (ex_move hf rfl) (fun a hf => ?_)
                    refine stq hf rfl rfl rfl (ex_eql hf rfl rfl) (fun a hf => ?_)
                    refine stq hf rfl rfl rfl (ex_pickT hf rfl rfl) (fun a hf => ?_)
                    refine stq hf rfl rfl rfl (ex_move hf rfl) (fun a hf => ?_)
                    replace hf := hf.castB (t := 89) rfl (dec_t hc42)
                    replace hf := hf.castB (t := 90) rfl (dec_t hc42)
                    replace hf := hf.castB (t := 91) rfl (dec_t hc42)
                    refine stq hf rfl rfl rfl (ex_move hf rfl) (fun a hf => ?_)
                    refine stq hf rfl rfl rfl (ex_eql hf rfl rfl) (fun a hf => ?_)
                    refine stq hf rfl rfl rfl (ex_pickT hf rfl rfl) (fun a hf => ?_)
                    refine stq hf rfl rfl rfl (ex_move hf rfl) (fun a hf => ?_)
                    replace hf := hf.castB (t := 93) rfl (dec_t hc43)
                    replace hf := hf.castB (t := 94) rfl (dec_t hc43)
                    replace hf := hf.castB (t := 95) rfl (dec_t hc43)
                    refine stq hf rfl rfl rfl (ex_move hf rfl) (fun a hf => ?_)
                    refine stq hf rfl rfl rfl (ex_eql hf rfl rfl) (fun a hf => ?_)
                    refine stq hf rfl rfl rfl (ex_pickT hf rfl rfl) (fun a hf => ?_)
                    refine stq hf rfl rfl rfl (ex_move hf rfl) (fun a hf => ?_)
                    replace hf := hf.castB (t := 97) rfl (dec_t hc44)
                    replace hf := hf.castB (t := 98) rfl (dec_t hc44)
                    replace hf := hf.castB (t := 99) rfl (dec_t hc44)
                    refine stq hf rfl rfl rfl (ex_move hf rfl) (fun a hf => ?_)
                    refine stq hf rfl rfl rfl (ex_move hf rfl) (fun a hf => ?_)
                    refine stq hf rfl rfl rfl (ex_leq hf rfl rfl) (fun a hf => ?_)
                    refine stq hf rfl rfl rfl (ex_pickT hf rfl rfl) (fun a hf => ?_)
                    refine stq hf rfl rfl rfl (ex_move hf rfl) (fun a hf => ?_)
                    replace hf := hf.castB (t := 102) rfl (dec_f hc45)
                    replace hf := hf.castB (t := 103) rfl (dec_f hc45)
                    replace hf := hf.castB (t := 104) rfl (dec_f hc45)
                    refine stepN hf rfl rfl rfl (fun a hf => ?_)
                    refine stepN hf rfl rfl rfl (fun a hf => ?_)
                    refine stepN hf rfl rfl rfl (fun a hf => ?_)
                    refine stq hf rfl rfl rfl (ex_pickF hf rfl rfl) (fun a hf => ?_)
                    refine stq hf rfl rfl rfl (ex_move hf rfl) (fun a hf => ?_)
                    refine stepN hf rfl rfl rfl (fun a hf => ?_)
                    refine stepN hf rfl rfl rfl (fun a hf => ?_)
                    refine stepN hf rfl rfl rfl (fun a hf => ?_)
                    refine stq hf rfl rfl rfl (ex_pickF hf rfl rfl) (fun a hf => ?_)
                    refine stq hf rfl rfl rfl (ex_move hf rfl) (fun a hf => ?_)
                    refine stepN hf rfl rfl rfl (fun a hf => ?_)
                    refine stq hf rfl rfl rfl (ex_pickF hf rfl rfl) (fun a hf => ?_)
                    refine stq hf rfl rfl rfl (ex_assign hf rfl) (fun a hf => ?_)
                    refine hK52 _ _ ?_
                    refine wp_ret ?_
                    have eR := some_eq H; subst eR
                    replace hs := hs.keep (.d (.d (.d .nil)))
                    exact ret1 Try.results10 hf rfl ⟨_, rfl, ⟨rfl, hs⟩⟩
                · -- not s39.2 = 0
                  refine seq_reg (fun K53 hK53 => ?_)
                  refine stq hf rfl rfl rfl (ex_move hf rfl) (fun a hf => ?_)
                  refine stq hf rfl rfl rfl (ex_eql hf rfl rfl) (fun a hf => ?_)
                  refine stq hf rfl rfl rfl (ex_move hf rfl) (fun a hf => ?_)
                  replace hf := hf.castB (t := 86) rfl (dec_t hc41)
                  replace hf := hf.castB (t := 87) rfl (dec_t hc41)
                  refine stq hf rfl rfl rfl (ex_move hf rfl) (fun a hf => ?_)
                  refine stq hf rfl rfl rfl (ex_eql hf rfl rfl) (fun a hf => ?_)
                  refine stq hf rfl rfl rfl (ex_pickT hf rfl rfl) (fun a hf => ?_)
                  refine stq hf rfl rfl rfl (ex_move hf rfl) (fun a hf => ?_)
                  replace hf := hf.castB (t := 89) rfl (dec_t hc42)
                  replace hf := hf.castB (t := 90) rfl (dec_t hc42)
                  replace hf := hf.castB (t := 91) rfl (dec_t hc42)
                  refine stq hf rfl rfl rfl (ex_move hf rfl) (fun a hf => ?_)
                  refine stq hf rfl rfl rfl (ex_eql hf rfl rfl) (fun a hf => ?_)
                  refine stq hf rfl rfl rfl (ex_pickT hf rfl rfl) (fun a hf => ?_)
                  refine stq hf rfl rfl rfl (ex_move hf rfl) (fun a hf => ?_)
                  replace hf := hf.castB (t := 93) rfl (dec_t hc43)
                  replace hf := hf.castB (t := 94) rfl (dec_t hc43)
                  replace hf := hf.castB (t := 95) rfl (dec_t hc43)
                  refine stq hf rfl rfl rfl (ex_move hf rfl) (fun a hf => ?_)
                  refine stq hf rfl rfl rfl (ex_eql hf rfl rfl) (fun a hf => ?_)
                  refine stq hf rfl rfl rfl (ex_pickT hf rfl rfl) (fun a hf => ?_)
                  refine stq hf rfl rfl rfl (ex_move hf rfl) (fun a hf => ?_)
                  replace hf := hf.castB (t := 97) rfl (dec_f hc44)
                  replace hf := hf.castB (t := 98) rfl (dec_f hc44)
                  replace hf := hf.castB (t := 99) rfl (dec_f hc44)
                  refine stepN hf rfl rfl rfl (fun a hf => ?_)
                  refine stepN hf rfl rfl rfl (fun a hf => ?_)
                  refine stepN hf rfl rfl rfl (fun a hf => ?_)
                  refine stq hf rfl rfl rfl (ex_pickF hf rfl rfl) (fun a hf => ?_)
                  refine stq hf rfl rfl rfl (ex_move hf rfl) (fun a hf => ?_)
                  refine stepN hf rfl rfl rfl (fun a hf => ?_)
                  refine stepN hf rfl rfl rfl (fun a hf => ?_)
                  refine stepN hf rfl rfl rfl (fun a hf => ?_)
                  refine stq hf rfl rfl rfl (ex_pickF hf rfl rfl) (fun a hf => ?_)
                  refine stq hf rfl rfl rfl (ex_move hf rfl) (fun a hf => ?_)
                  refine stepN hf rfl rfl rfl (fun a hf => ?_)
                  refine stepN hf rfl rfl rfl (fun a hf => ?_)
                  refine stepN hf rfl rfl rfl (fun a hf => ?_)
                  refine stq hf rfl rfl rfl (ex_pickF hf rfl rfl) (fun a hf => ?_)
                  refine stq hf rfl rfl rfl (ex_move hf rfl) (fun a hf => ?_)
                  refine stepN hf rfl rfl rfl (fun a hf => ?_)
                  refine stq hf rfl rfl rfl (ex_pickF hf rfl rfl) (fun a hf => ?_)
                  refine stq hf rfl rfl rfl (ex_assign hf rfl) (fun a hf => ?_)
                  refine hK53 _ _ ?_
                  refine wp_ret ?_
                  have eR := some_eq H; subst eR
                  replace hs := hs.keep (.d (.d (.d .nil)))
                  exact ret1 Try.results10 hf rfl ⟨_, rfl, ⟨rfl, hs⟩⟩
              · -- not s32.2 = 0
                refine seq_reg (fun K54 hK54 => ?_)
                refine stq hf rfl rfl rfl (ex_move hf rfl) (fun a hf => ?_)
                refine stq hf rfl rfl rfl (ex_eql hf rfl rfl) (fun a hf => ?_)
                refine stq hf rfl rfl rfl (ex_move hf rfl) (fun a hf => ?_)
                replace hf := hf.castB (t := 86) rfl (dec_t hc41)
                replace hf := hf.castB (t := 87) rfl (dec_t hc41)
                refine stq hf rfl rfl rfl (ex_move hf rfl) (fun a hf => ?_)
                refine stq hf rfl rfl rfl (ex_eql hf rfl rfl) (fun a hf => ?_)
                refine stq hf rfl rfl rfl (ex_pickT hf rfl rfl) (fun a hf => ?_)
                refine stq hf rfl rfl rfl (ex_move hf rfl) (fun a hf => ?_)
                replace hf := hf.castB (t := 89) rfl (dec_t hc42)
                replace hf := hf.castB (t := 90) rfl (dec_t hc42)
                replace hf := hf.castB (t := 91) rfl (dec_t hc42)
                refine stq hf rfl rfl rfl (ex_move hf rfl) (fun a hf => ?_)
                refine stq hf rfl rfl rfl (ex_eql hf rfl rfl) (fun a hf => ?_)
                refine stq hf rfl rfl rfl (ex_pickT hf rfl rfl) (fun a hf => ?_)
                refine stq hf rfl rfl rfl (ex_move hf rfl) (fun a hf => ?_)
                replace hf := hf.castB (t := 93) rfl (dec_f hc43)
                replace hf := hf.castB (t := 94) rfl (dec_f hc43)
                replace hf := hf.castB (t := 95) rfl (dec_f hc43)
                refine stepN hf rfl rfl rfl (fun a hf => ?_)
                refine stepN hf rfl rfl rfl (fun a hf => ?_)
                refine stq hf rfl rfl rfl (ex_pickF hf rfl rfl) (fun a hf => ?_)
                refine stq hf rfl rfl rfl (ex_move hf rfl) (fun a hf => ?_)
                refine stepN hf rfl rfl rfl (fun a hf => ?_)
                refine stepN hf rfl rfl rfl (fun a hf => ?_)
                refine stepN hf rfl rfl rfl (fun a hf => ?_)
                refine stq hf rfl rfl rfl (ex_pickF hf rfl rfl) (fun a hf => ?_)
                refine stq hf rfl rfl rfl (ex_move hf rfl) (fun a hf => ?_)
                refine stepN hf rfl rfl rfl (fun a hf => ?_)
                refine stepN hf rfl rfl rfl (fun a hf => ?_)
                refine stepN hf rfl rfl rfl (fun a hf => ?_)
                refine stq hf rfl rfl rfl (ex_pickF hf rfl rfl) (fun a hf => ?_)
                refine stq hf rfl rfl rfl (ex_move hf rfl) (fun a hf => ?_)
                refine stepN hf rfl rfl rfl (fun a hf => ?_)
                refine stepN hf rfl rfl rfl (fun a hf => ?_)
                refine stepN hf rfl rfl rfl (fun a hf => ?_)
                refine stq hf rfl rfl rfl (ex_pickF hf rfl rfl) (fun a hf => ?_)
                refine stq hf rfl rfl rfl (ex_move hf rfl) (fun a hf => ?_)
                refine stepN hf rfl rfl rfl (fun a hf => ?_)
                refine stq hf rfl rfl rfl (ex_pickF hf rfl rfl) (fun a hf => ?_)
                refine stq hf rfl rfl rfl (ex_assign hf rfl) (fun a hf => ?_)
                refine hK54 _ _ ?_
                refine wp_ret ?_
                have eR := some_eq H; subst eR
                replace hs := hs.keep (.d (.d (.d .nil)))
                exact ret1 Try.results10 hf rfl ⟨_, rfl, ⟨rfl, hs⟩⟩
            · -- not s25.2 = 0
              refine seq_reg (fun K55 hK55 => ?_)
              refine stq hf rfl rfl rfl (ex_move hf rfl) (fun a hf => ?_)
              refine stq hf rfl rfl rfl (ex_eql hf rfl rfl) (fun a hf => ?_)
              refine stq hf rfl rfl rfl (ex_move hf rfl) (fun a hf => ?_)
              replace hf := hf.castB (t := 86) rfl (dec_t hc41)
              replace hf := hf.castB (t := 87) rfl (dec_t hc41)
              refine stq hf rfl rfl rfl (ex_move hf rfl) (fun a hf => ?_)
              refine stq hf rfl rfl rfl (ex_eql hf rfl rfl) (fun a hf => ?_)
              refine stq hf rfl rfl rfl (ex_pickT hf rfl rfl) (fun a hf => ?_)
              refine stq hf rfl rfl rfl (ex_move hf rfl) (fun a hf => ?_)
              replace hf := hf.castB (t := 89) rfl (dec_f hc42)
              replace hf := hf.castB (t := 90) rfl (dec_f hc42)
              replace hf := hf.castB (t := 91) rfl (dec_f hc42)
              refine stepN hf rfl rfl rfl (fun a hf => ?_)
              refine stepN hf rfl rfl rfl (fun a hf => ?_)
              refine stq hf rfl rfl rfl (ex_pickF hf rfl rfl) (fun a hf => ?_)
              refine stq hf rfl rfl rfl (ex_move hf rfl) (fun a hf => ?_)
              refine stepN hf rfl rfl rfl (fun a hf => ?_)
              refine stepN hf rfl rfl rfl (fun a hf => ?_)
              refine stq hf rfl rfl rfl (ex_pickF hf rfl rfl) (fun a hf => ?_)
              refine stq hf rfl rfl rfl (ex_move hf rfl) (fun a hf => ?_)
              refine stepN hf rfl rfl rfl (fun a hf => ?_)
              refine stepN hf rfl rfl rfl (fun a hf => ?_)
              refine stepN hf rfl rfl rfl (fun a hf => ?_)
              refine stq hf rfl rfl rfl (ex_pickF hf rfl rfl) (fun a hf => ?_)
              refine stq hf rfl rfl rfl (ex_move hf rfl) (fun a hf => ?_)
              refine stepN hf rfl rfl rfl (fun a hf => ?_)
              refine stepN hf rfl rfl rfl (fun a hf => ?_)
              refine stepN hf rfl rfl rfl (fun a hf => ?_)
              refine stq hf rfl rfl rfl (ex_pickF hf rfl rfl) (fun a hf => ?_)
              refine stq hf rfl rfl rfl (ex_move hf rfl) (fun a hf => ?_)
              refine stepN hf rfl rfl rfl (fun a hf => ?_)
              refine stepN hf rfl rfl rfl (fun a hf => ?_)
              refine stepN hf rfl rfl rfl (fun a hf => ?_)
              refine stq hf rfl rfl rfl (ex_pickF hf rfl rfl) (fun a hf => ?_)
              refine stq hf rfl rfl rfl (ex_move hf rfl) (fun a hf => ?_)
              refine stepN hf rfl rfl rfl (fun a hf => ?_)
              refine stq hf rfl rfl rfl (ex_pickF hf rfl rfl) (fun a hf => ?_)
              refine stq hf rfl rfl rfl (ex_assign hf rfl) (fun a hf => ?_)
              refine hK55 _ _ ?_
              refine wp_ret ?_
              have eR := some_eq H; subst eR
              replace hs := hs.keep (.d (.d (.d .nil)))
              exact ret1 Try.results10 hf rfl ⟨_, rfl, ⟨rfl, hs⟩⟩
          · -- not s20.2 = 0
            refine seq_reg (fun K56 hK56 => ?_)
            refine stq hf rfl rfl rfl (ex_move hf rfl) (fun a hf => ?_)
            refine stq hf rfl rfl rfl (ex_eql hf rfl rfl) (fun a hf => ?_)
            refine stq hf rfl rfl rfl (ex_move hf rfl) (fun a hf => ?_)
            replace hf := hf.castB (t := 86) rfl (dec_f hc41)
            replace hf := hf.castB (t := 87) rfl (dec_f hc41)
            refine stepN hf rfl rfl rfl (fun a hf => ?_)
            refine stepN hf rfl rfl rfl (fun a hf => ?_)
            refine stq hf rfl rfl rfl (ex_pickF hf rfl rfl) (fun a hf => ?_)
            refine stq hf rfl rfl rfl (ex_move hf rfl) (fun a hf => ?_)
            refine stepN hf rfl rfl rfl (fun a hf => ?_)
            refine stepN hf rfl rfl rfl (fun a hf => ?_)
            refine stq hf rfl rfl rfl (ex_pickF hf rfl rfl) (fun a hf => ?_)
            refine stq hf rfl rfl rfl (ex_move hf rfl) (fun a hf => ?_)
            refine stepN hf rfl rfl rfl (fun a hf => ?_)
            refine stepN hf rfl rfl rfl (fun a hf => ?_)
            refine stq hf rfl rfl rfl (ex_pickF hf rfl rfl) (fun a hf => ?_)
            refine stq hf rfl rfl rfl (ex_move hf rfl) (fun a hf => ?_)
            refine stepN hf rfl rfl rfl (fun a hf => ?_)
            refine stepN hf rfl rfl rfl (fun a hf => ?_)
            refine stepN hf rfl rfl rfl (fun a hf => ?_)
            refine stq hf rfl rfl rfl (ex_pickF hf rfl rfl) (fun a hf => ?_)
            refine stq hf rfl rfl rfl (ex_move hf rfl) (fun a hf => ?_)
            refine stepN hf rfl rfl rfl (fun a hf => ?_)
            refine stepN hf rfl rfl rfl (fun a hf => ?_)
            refine stepN hf rfl rfl rfl (fun a hf => ?_)
            refine stq hf rfl rfl rfl (ex_pickF hf rfl rfl) (fun a hf => ?_)
            refine stq hf rfl rfl rfl (ex_move hf rfl) (fun a hf => ?_)
            refine stepN hf rfl rfl rfl (fun a hf => ?_)
            refine stepN hf rfl rfl rfl (fun a hf => ?_)
            refine stepN hf rfl rfl rfl (fun a hf => ?_)
            refine stq hf rfl rfl rfl (ex_pickF hf rfl rfl) (fun a hf => ?_)
            refine stq hf rfl rfl rfl (ex_move hf rfl) (fun a hf => ?_)
            refine stepN hf rfl rfl rfl (fun a hf => ?_)
            refine stq hf rfl rfl rfl (ex_pickF hf rfl rfl) (fun a hf => ?_)
            refine stq hf rfl rfl rfl (ex_assign hf rfl) (fun a hf => ?_)
            refine hK56 _ _ ?_
            refine wp_ret ?_
            have eR := some_eq H; subst eR
            replace hs := hs.keep (.d (.d (.d .nil)))
            exact ret1 Try.results10 hf rfl ⟨_, rfl, ⟨rfl, hs⟩⟩
        · -- not s35.2 = 0
          replace hf := hf.castB (t := 76) rfl (ndec_t hc37)
          refine cond_T hf rfl ?_
          refine seq_reg (fun K57 hK57 => ?_)
          refine stq hf rfl rfl rfl (ex_assign hf rfl) (fun a hf => ?_)
          refine hK57 _ _ ?_
          refine wp_ret ?_
          refine hR34 _ _ ?_
          have eR := some_eq H; subst eR
          replace hs := hs.keep (.d (.d (.d .nil)))
          exact ret1 Try.results10 hf rfl ⟨_, rfl, ⟨rfl, hs⟩⟩
      · -- not s28.2 = 0
        replace hf := hf.castB (t := 65) rfl (ndec_t hc30)
        refine cond_T hf rfl ?_
        refine seq_reg (fun K58 hK58 => ?_)
        refine stq hf rfl rfl rfl (ex_assign hf rfl) (fun a hf => ?_)
        refine hK58 _ _ ?_
        refine wp_ret ?_
        refine hR27 _ _ ?_
        have eR := some_eq H; subst eR
        replace hs := hs.keep (.d (.d (.d .nil)))
        exact ret1 Try.results10 hf rfl ⟨_, rfl, ⟨rfl, hs⟩⟩
    · -- not s15.2 = 0
      replace hf := hf.castB (t := 36) rfl (ndec_t hc17)
      replace hf := hf.castB (t := 37) rfl (ndec_t hc17)
      refine cond_T hf rfl ?_
      refine seq_reg (fun K59 hK59 => ?_)
      refine stq hf rfl rfl rfl (ex_assign hf rfl) (fun a hf => ?_)
      refine hK59 _ _ ?_
      refine wp_ret ?_
      refine hR14 _ _ ?_
      have eR := some_eq H; subst eR
      replace hs := hs.keep (.d (.d (.d .nil)))
      exact ret1 Try.results10 hf rfl ⟨_, rfl, ⟨rfl, hs⟩⟩

end Go.Proofs.Ytmjfdknjloidoaa.X
