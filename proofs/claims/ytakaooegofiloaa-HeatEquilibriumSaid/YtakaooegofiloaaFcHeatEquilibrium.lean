/- Each function of the machine comes to what its pure function says. -/
import Derived.Test.YtakaooegofiloaaFc1
import Derived.Test.YtakaooegofiloaaFc2
import Derived.Test.YtakaooegofiloaaFc3
import Derived.Test.YtakaooegofiloaaFc5
import Derived.Test.YtakaooegofiloaaFb
namespace Go.Proofs.Ytakaooegofiloaa.X
open Go Go.RowKit Go.Sx
set_option linter.unusedVariables false

set_option maxHeartbeats 4000000 in
set_option maxRecDepth 100000 in
theorem law38_HeatEquilibrium.calls {M : Nat → Prop} {w0 : World} (k : Nat) (a0 : (List HeatDomain)) (a1 : (List HeatLink)) (a2 : Int) (a3 : Int) (v0 : Value) (v1 : Value) {r : Bool} (hs : St M w0 w0 []) (hr : Sr M w0 [rsl K_api_HeatDomain v0 a0, rsl K_api_HeatLink v1 a1])
    (h : law38_HeatEquilibrium.f k a0 a1 a2 a3 = some r) : Calls Try.prog 7 #[v0, v1, .int .i64 a2, .int .u8 a3] w0 fun e w => ∃ v, e = .returned v ∧ (.bool r = v ∧ St M w0 w []) := by
  have H := (law38_HeatEquilibrium.f.eq_1 ..).symm.trans h
  clear h
  refine enter Try.func7 rfl Try.ntmps7 rfl (fun a hf => ?_)
  refine seq_reg (fun K1 hK1 => ?_)
  refine stq hf rfl rfl rfl (ex_assign hf rfl) (fun a hf => ?_)
  refine hK1 _ _ ?_
  refine bnd H (fun s2 hs2 H => ?_)
  refine seq_reg (fun K6 hK6 => ?_)
  refine stq hf rfl rfl rfl (ex_move hf rfl) (fun a hf => ?_)
  refine stq hf rfl rfl rfl (ex_move hf rfl) (fun a hf => ?_)
  refine stq hf rfl rfl rfl (ex_move hf rfl) (fun a hf => ?_)
  refine stepF hf rfl rfl rfl (ex_call cf_12 hf rfl) (law38_Some.calls k a0 a1 a2 v0 v1 (hs.enter .nil) (Sr.old hr hs .nil (i := 0) rfl (fun _ h => h) (fun _ h => h) (Sr.old hr hs .nil (i := 1) rfl (fun _ h => h) (fun _ h => h) (Sr.nil _ _))) hs2) (fun v w hR a hf => ?_)
  obtain ⟨v3, v4, rfl, hs'⟩ := hR
  replace hs := hs.step .nil hs'
  clear hs'
  refine stepV hf rfl rfl rfl (er_alloc hs ti_27 (cs := [(.slice none 0 0), (.slice none 0 0), .int .i64 0]) rfl) (fun v w hR a hf => ?_)
  obtain ⟨b5, rfl, hs⟩ := hR
  refine stepS hf rfl rfl (er_storeAB (vs := [v3, v4, .int .i64 s2.2.2]) (cs' := [v3, v4, .int .i64 s2.2.2]) hs (.c (.k (.k .nil))) sz_27 hf rfl rfl (all1 (IsSl.one (rsl_isSl (osl_rsl _ (hs.get (i := 1) rfl)))) (all1 (IsSl.one (rsl_isSl (osl_rsl _ (hs.get (i := 2) rfl)))) (all1 rfl (all1_nil)))) rfl rfl) (fun w hs => ?_)
  refine hK6 _ _ ?_
  refine seq_n (fun Q7 hN7 hR7 hX7 => ?_)
  refine bnd H (fun s8 hs8 H => ?_)
  cases hps8 : s8.1 with
  | none =>
    replace H := elim_n hps8 H
    refine region_k (fun K10 hK10 => ?_)
    refine stq hf rfl rfl rfl (ex_fieldAddrB fa_27_0 rfl hf rfl) (fun a hf => ?_)
    refine stq hf rfl rfl rfl (ex_load sc_22 hf rfl (bx_cell (hs.get (i := 0) rfl) _ rfl)) (fun a hf => ?_)
    refine stq hf rfl rfl rfl (ex_fieldAddrB fa_27_1 rfl hf rfl) (fun a hf => ?_)
    refine stq hf rfl rfl rfl (ex_load sc_23 hf rfl (bx_cell (hs.get (i := 0) rfl) _ rfl)) (fun a hf => ?_)
    refine stq hf rfl rfl rfl (ex_fieldAddrB fa_27_2 rfl hf rfl) (fun a hf => ?_)
    refine stq hf rfl rfl rfl (ex_load sc_2 hf rfl (bx_cell (hs.get (i := 0) rfl) _ rfl)) (fun a hf => ?_)
    refine stepF hf rfl rfl rfl (ex_call cf_13 hf rfl) (heat_New.calls k s2.1 s2.2.1 s2.2.2 v3 v4 (hs.enter (.k (.k (.k .nil)))) (Sr.own hs (.k (.k (.k .nil))) (i := 1) rfl osl_rsl (fun _ h => h.1) (Sr.own hs (.k (.k (.k .nil))) (i := 2) rfl osl_rsl (fun _ h => h.1) (Sr.nil _ _))) hs8) (fun v w hR a hf => ?_)
    obtain ⟨_, rfl, hs'⟩ | ⟨_, hc', _⟩ := hR
    case inr => rw [hps8] at hc'; cases hc'
    replace hs := hs.step (.k (.k (.k .nil))) hs'
    clear hs'
    refine stq hf rfl rfl rfl (ex_move hf rfl) (fun a hf => ?_)
    refine stq hf rfl rfl rfl (ex_extract hf rfl rfl) (fun a hf => ?_)
    refine stq hf rfl rfl rfl (ex_extract hf rfl rfl) (fun a hf => ?_)
    refine stq hf rfl rfl rfl (ex_assign hf rfl) (fun a hf => ?_)
    refine stq hf rfl rfl rfl (ex_assign hf rfl) (fun a hf => ?_)
    refine hK10 _ _ ?_
    refine hN7 _ _ ?_
    refine seq_n (fun Q11 hN11 hR11 hX11 => ?_)
    refine ck_some H (fun hc12 H => ?_)
    refine bnd H (fun s13 hs13 H => ?_)
    cases hps13 : s13.1 with
    | none =>
      replace H := elim_n hps13 H
      refine region_d fol 10 [(3, .int .u8 a3), (9, .pointer (some ⟨b5, 0, none⟩)), (10, .pointer none), (11, .int .i64 s8.2)] [(0, .pointer (some ⟨b5, 0, none⟩)), (1, v3), (2, (slv v3 0 (1 : Int).toNat 2)), (3, .pointer (some ⟨b5, 2, none⟩)), (4, .int .i64 s2.2.2)] [5] (fun w => (bx b5 27 [v3, v4, .int .i64 s2.2.2]).ok w ∧ (osl K_api_HeatDomain v3 s2.1).ok w ∧ True) (fun w => St M w0 w [bx b5 27 [v3, v4, .int .i64 s2.2.2], osl K_api_HeatDomain v3 s2.1, osl K_api_HeatLink v4 s2.2.1]) hf ⟨rfl, rfl, rfl, rfl, trivial⟩ (by kernel_rfl) (by kernel_rfl) rfl (by decide) ⟨hs.drew.get (i := 0) rfl, hs.drew.get (i := 1) rfl, trivial⟩ hs.drew (.cons (⟨_, _, rfl, rfl, rfl, rfl, fun a w hR hf => .inl ⟨wanted_yes hf rfl, ex_fieldAddrB fa_27_0 rfl hf rfl⟩⟩) (.cons (⟨_, _, rfl, rfl, rfl, rfl, fun a w hR hf => .inl ⟨wanted_yes hf rfl, ex_load sc_22 hf rfl (bx_cell (hR.1) _ rfl)⟩⟩) (.cons (⟨_, _, rfl, rfl, rfl, rfl, fun a w hR hf => .inl ⟨wanted_yes hf rfl, ex_slice_h sa_22 (rsl_isSl (osl_rsl _ hR.2.1)) hc12 hf rfl rfl⟩⟩) (.cons (⟨_, _, rfl, rfl, rfl, rfl, fun a w hR hf => .inl ⟨wanted_yes hf rfl, ex_fieldAddrB fa_27_2 rfl hf rfl⟩⟩) (.cons (⟨_, _, rfl, rfl, rfl, rfl, fun a w hR hf => .inl ⟨wanted_yes hf rfl, ex_load sc_2 hf rfl (bx_cell (hR.1) _ rfl)⟩⟩) (.nil)))))) (fun K15 hK15 => ?_)
      refine RW.one 5 (by kernel_rfl) (by kernel_rfl) rfl (fun d hd => by cases hd; rfl) [(42, (slv v3 0 (1 : Int).toNat 2)), (44, .int .i64 s2.2.2)] ⟨rfl, rfl, trivial⟩ (fun a w hR hs hf => ⟨wanted_yes hf rfl, ?_⟩)
      refine estep_f (ex_call cf_13 hf rfl) (heat_New.calls k ((s2.1.drop 0).take ((1 : Int).toNat - 0)) [] s2.2.2 (slv v3 0 (1 : Int).toNat 2) (.slice none 0 0) (hs.enter (.k (.k (.k .nil)))) (Sr.own hs (.k (.k (.k .nil))) (i := 1) rfl (fun _ h => rsl_slv _ (osl_rsl _ h) (view_1 (lo := 0) hc12) (view_2 (lo := 0) hc12)) (fun _ h => (slv_fs h).1) (Sr.free (nil_rsl _ _) nil_fs (Sr.nil _ _))) hs13) (fun v w hR => ?_)
      obtain ⟨_, rfl, hs'⟩ | ⟨_, hc', _⟩ := hR
      case inr => rw [hps13] at hc'; cases hc'
      replace hs := hs.step (.k (.k (.k .nil))) hs'
      clear hs'
      refine ⟨[(6, .tuple #[.pointer none, .int .i64 s13.2]), (7, .pointer none), (8, .int .i64 s13.2), (9, .pointer none)], [(6, .tuple #[.pointer none, .int .i64 s13.2]), (7, .pointer none), (8, .int .i64 s13.2), (9, .pointer none), (5, .tuple #[.pointer none, .int .i64 s13.2]), (0, .pointer (some ⟨b5, 0, none⟩)), (1, v3), (2, (slv v3 0 (1 : Int).toNat 2)), (3, .pointer (some ⟨b5, 2, none⟩)), (4, .int .i64 s2.2.2)], [], (fun _ => True), (fun w => St M w0 w [bx b5 27 [v3, v4, .int .i64 s2.2.2], osl K_api_HeatDomain v3 s2.1, osl K_api_HeatLink v4 s2.2.1]), rfl, rfl, ⟨hs.get (i := 0) rfl, hs.get (i := 1) rfl, trivial⟩, trivial, hs, (by kernel_rfl), .cons (⟨_, _, rfl, rfl, rfl, rfl, fun a w hR hf => .inl ⟨wanted_yes hf rfl, ex_move hf rfl⟩⟩) (.cons (⟨_, _, rfl, rfl, rfl, rfl, fun a w hR hf => .inl ⟨wanted_yes hf rfl, ex_extract hf rfl rfl⟩⟩) (.cons (⟨_, _, rfl, rfl, rfl, rfl, fun a w hR hf => .inl ⟨wanted_yes hf rfl, ex_extract hf rfl rfl⟩⟩) (.cons (⟨_, _, rfl, rfl, rfl, rfl, fun a w hR hf => .inl ⟨wanted_yes hf rfl, ex_assign hf rfl⟩⟩) (.nil)))), ?_⟩
      refine RW.zero (by kernel_rfl) (by kernel_rfl) [(3, .int .u8 a3), (9, .pointer (some ⟨b5, 0, none⟩)), (10, .pointer none), (11, .int .i64 s8.2), (12, .pointer none), (47, .int .i64 s13.2)] ⟨rfl, rfl, rfl, rfl, rfl, rfl, trivial⟩ (fun a w hR hs hf => ?_)
      refine stq hf rfl rfl rfl (ex_assign hf rfl) (fun a hf => ?_)
      refine hK15 _ _ ?_
      refine hN11 _ _ ?_
      refine seq_n (fun Q16 hN16 hR16 hX16 => ?_)
      refine bnd H (fun x17 H17 HO17 => ?_)
      clear H
      refine seq_cut (fun a w => Fr a 152 [(3, .int .u8 a3), (9, .pointer (some ⟨b5, 0, none⟩)), (10, .pointer none), (12, .pointer none), (61, .bool true)] ∧ St M w0 w [bx b5 27 [v3, v4, .int .i64 s2.2.2], osl K_api_HeatDomain v3 s2.1, osl K_api_HeatLink v4 s2.2.1]) (fun Q17 hJ17 hR17 hX17 => ?_) (fun a w hJ => ?_)
      · replace H := H17
        refine itt H (fun hc18 H => ?_) (fun hc18 H => ?_)
        · -- s8.2 = 0
          refine itt H (fun hc19 H => ?_) (fun hc19 H => ?_)
          · -- s13.2 = 0
            refine region_k (fun K20 hK20 => ?_)
            refine stq hf rfl rfl rfl (ex_move hf rfl) (fun a hf => ?_)
            refine stq hf rfl rfl rfl (ex_neq hf rfl rfl) (fun a hf => ?_)
            refine stq hf rfl rfl rfl (ex_move hf rfl) (fun a hf => ?_)
            replace hf := hf.castB (t := 49) rfl (ndec_f hc18)
            replace hf := hf.castB (t := 50) rfl (ndec_f hc18)
            refine stq hf rfl rfl rfl (ex_move hf rfl) (fun a hf => ?_)
            refine stq hf rfl rfl rfl (ex_neq hf rfl rfl) (fun a hf => ?_)
            refine stq hf rfl rfl rfl (ex_pickF hf rfl rfl) (fun a hf => ?_)
            refine stq hf rfl rfl rfl (ex_move hf rfl) (fun a hf => ?_)
            replace hf := hf.castB (t := 52) rfl (ndec_f hc19)
            replace hf := hf.castB (t := 53) rfl (ndec_f hc19)
            replace hf := hf.castB (t := 54) rfl (ndec_f hc19)
            refine stq hf rfl rfl rfl (ex_move hf rfl) (fun a hf => ?_)
            refine stq hf rfl rfl rfl (ex_eqp Try.underlying29 hf rfl rfl) (fun a hf => ?_)
            refine stq hf rfl rfl rfl (ex_pickF hf rfl rfl) (fun a hf => ?_)
            refine stq hf rfl rfl rfl (ex_move hf rfl) (fun a hf => ?_)
            refine stepN hf rfl rfl rfl (fun a hf => ?_)
            refine stepN hf rfl rfl rfl (fun a hf => ?_)
            refine stq hf rfl rfl rfl (ex_pickT hf rfl rfl) (fun a hf => ?_)
            refine hK20 _ _ ?_
            have e17 := some_eq H; subst e17
            exact hJ17 _ _ ⟨hf.sub ⟨rfl, rfl, rfl, rfl, rfl, trivial⟩, hs⟩
          · -- not s13.2 = 0
            refine region_k (fun K21 hK21 => ?_)
            refine stq hf rfl rfl rfl (ex_move hf rfl) (fun a hf => ?_)
            refine stq hf rfl rfl rfl (ex_neq hf rfl rfl) (fun a hf => ?_)
            refine stq hf rfl rfl rfl (ex_move hf rfl) (fun a hf => ?_)
            replace hf := hf.castB (t := 49) rfl (ndec_f hc18)
            replace hf := hf.castB (t := 50) rfl (ndec_f hc18)
            refine stq hf rfl rfl rfl (ex_move hf rfl) (fun a hf => ?_)
            refine stq hf rfl rfl rfl (ex_neq hf rfl rfl) (fun a hf => ?_)
            refine stq hf rfl rfl rfl (ex_pickF hf rfl rfl) (fun a hf => ?_)
            refine stq hf rfl rfl rfl (ex_move hf rfl) (fun a hf => ?_)
            replace hf := hf.castB (t := 52) rfl (ndec_t hc19)
            replace hf := hf.castB (t := 53) rfl (ndec_t hc19)
            replace hf := hf.castB (t := 54) rfl (ndec_t hc19)
            refine stepN hf rfl rfl rfl (fun a hf => ?_)
            refine stepN hf rfl rfl rfl (fun a hf => ?_)
            refine stq hf rfl rfl rfl (ex_pickT hf rfl rfl) (fun a hf => ?_)
            refine stq hf rfl rfl rfl (ex_move hf rfl) (fun a hf => ?_)
            refine stepN hf rfl rfl rfl (fun a hf => ?_)
            refine stepN hf rfl rfl rfl (fun a hf => ?_)
            refine stq hf rfl rfl rfl (ex_pickT hf rfl rfl) (fun a hf => ?_)
            refine hK21 _ _ ?_
            have e17 := some_eq H; subst e17
            exact hJ17 _ _ ⟨hf.sub ⟨rfl, rfl, rfl, rfl, rfl, trivial⟩, hs⟩
        · -- not s8.2 = 0
          refine region_k (fun K22 hK22 => ?_)
          refine stq hf rfl rfl rfl (ex_move hf rfl) (fun a hf => ?_)
          refine stq hf rfl rfl rfl (ex_neq hf rfl rfl) (fun a hf => ?_)
          refine stq hf rfl rfl rfl (ex_move hf rfl) (fun a hf => ?_)
          replace hf := hf.castB (t := 49) rfl (ndec_t hc18)
          replace hf := hf.castB (t := 50) rfl (ndec_t hc18)
          refine stepN hf rfl rfl rfl (fun a hf => ?_)
          refine stepN hf rfl rfl rfl (fun a hf => ?_)
          refine stq hf rfl rfl rfl (ex_pickT hf rfl rfl) (fun a hf => ?_)
          refine stq hf rfl rfl rfl (ex_move hf rfl) (fun a hf => ?_)
          refine stepN hf rfl rfl rfl (fun a hf => ?_)
          refine stepN hf rfl rfl rfl (fun a hf => ?_)
          refine stq hf rfl rfl rfl (ex_pickT hf rfl rfl) (fun a hf => ?_)
          refine stq hf rfl rfl rfl (ex_move hf rfl) (fun a hf => ?_)
          refine stepN hf rfl rfl rfl (fun a hf => ?_)
          refine stepN hf rfl rfl rfl (fun a hf => ?_)
          refine stq hf rfl rfl rfl (ex_pickT hf rfl rfl) (fun a hf => ?_)
          refine hK22 _ _ ?_
          have e17 := some_eq H; subst e17
          exact hJ17 _ _ ⟨hf.sub ⟨rfl, rfl, rfl, rfl, rfl, trivial⟩, hs⟩
      · obtain ⟨hf, hs⟩ := hJ
        replace H := HO17
        clear HO17
        refine cond_T hf rfl ?_
        refine seq_reg (fun K23 hK23 => ?_)
        refine stq hf rfl rfl rfl (ex_assign hf rfl) (fun a hf => ?_)
        refine hK23 _ _ ?_
        refine wp_ret ?_
        refine hR16 _ _ ?_
        have eR := some_eq H; subst eR
        replace hs := hs.keep (.d (.d (.d .nil)))
        exact ret1 Try.results7 hf rfl ⟨_, rfl, ⟨rfl, hs⟩⟩
    | some c14 =>
      replace H := elim_s hps13 H
      refine region_d fol 10 [(3, .int .u8 a3), (9, .pointer (some ⟨b5, 0, none⟩)), (10, .pointer none), (11, .int .i64 s8.2)] [(0, .pointer (some ⟨b5, 0, none⟩)), (1, v3), (2, (slv v3 0 (1 : Int).toNat 2)), (3, .pointer (some ⟨b5, 2, none⟩)), (4, .int .i64 s2.2.2)] [5] (fun w => (bx b5 27 [v3, v4, .int .i64 s2.2.2]).ok w ∧ (osl K_api_HeatDomain v3 s2.1).ok w ∧ True) (fun w => St M w0 w [bx b5 27 [v3, v4, .int .i64 s2.2.2], osl K_api_HeatDomain v3 s2.1, osl K_api_HeatLink v4 s2.2.1]) hf ⟨rfl, rfl, rfl, rfl, trivial⟩ (by kernel_rfl) (by kernel_rfl) rfl (by decide) ⟨hs.drew.get (i := 0) rfl, hs.drew.get (i := 1) rfl, trivial⟩ hs.drew (.cons (⟨_, _, rfl, rfl, rfl, rfl, fun a w hR hf => .inl ⟨wanted_yes hf rfl, ex_fieldAddrB fa_27_0 rfl hf rfl⟩⟩) (.cons (⟨_, _, rfl, rfl, rfl, rfl, fun a w hR hf => .inl ⟨wanted_yes hf rfl, ex_load sc_22 hf rfl (bx_cell (hR.1) _ rfl)⟩⟩) (.cons (⟨_, _, rfl, rfl, rfl, rfl, fun a w hR hf => .inl ⟨wanted_yes hf rfl, ex_slice_h sa_22 (rsl_isSl (osl_rsl _ hR.2.1)) hc12 hf rfl rfl⟩⟩) (.cons (⟨_, _, rfl, rfl, rfl, rfl, fun a w hR hf => .inl ⟨wanted_yes hf rfl, ex_fieldAddrB fa_27_2 rfl hf rfl⟩⟩) (.cons (⟨_, _, rfl, rfl, rfl, rfl, fun a w hR hf => .inl ⟨wanted_yes hf rfl, ex_load sc_2 hf rfl (bx_cell (hR.1) _ rfl)⟩⟩) (.nil)))))) (fun K28 hK28 => ?_)
      refine RW.one 5 (by kernel_rfl) (by kernel_rfl) rfl (fun d hd => by cases hd; rfl) [(42, (slv v3 0 (1 : Int).toNat 2)), (44, .int .i64 s2.2.2)] ⟨rfl, rfl, trivial⟩ (fun a w hR hs hf => ⟨wanted_yes hf rfl, ?_⟩)
      refine estep_f (ex_call cf_13 hf rfl) (heat_New.calls k ((s2.1.drop 0).take ((1 : Int).toNat - 0)) [] s2.2.2 (slv v3 0 (1 : Int).toNat 2) (.slice none 0 0) (hs.enter (.k (.k (.k .nil)))) (Sr.own hs (.k (.k (.k .nil))) (i := 1) rfl (fun _ h => rsl_slv _ (osl_rsl _ h) (view_1 (lo := 0) hc12) (view_2 (lo := 0) hc12)) (fun _ h => (slv_fs h).1) (Sr.free (nil_rsl _ _) nil_fs (Sr.nil _ _))) hs13) (fun v w hR => ?_)
      obtain ⟨hc', _⟩ | ⟨cc, hc', b24, v25, v26, v27, rfl, hs'⟩ := hR
      case inl => rw [hps13] at hc'; cases hc'
      obtain rfl : c14 = cc := by rw [hps13] at hc'; exact Option.some.inj hc'
      replace hs := hs.step (.k (.k (.k .nil))) hs'
      clear hs'
      refine ⟨[(6, .tuple #[.pointer (some ⟨b24, 0, none⟩), .int .i64 s13.2]), (7, .pointer (some ⟨b24, 0, none⟩)), (8, .int .i64 s13.2), (9, .pointer (some ⟨b24, 0, none⟩))], [(6, .tuple #[.pointer (some ⟨b24, 0, none⟩), .int .i64 s13.2]), (7, .pointer (some ⟨b24, 0, none⟩)), (8, .int .i64 s13.2), (9, .pointer (some ⟨b24, 0, none⟩)), (5, .tuple #[.pointer (some ⟨b24, 0, none⟩), .int .i64 s13.2]), (0, .pointer (some ⟨b5, 0, none⟩)), (1, v3), (2, (slv v3 0 (1 : Int).toNat 2)), (3, .pointer (some ⟨b5, 2, none⟩)), (4, .int .i64 s2.2.2)], [], (fun _ => True), (fun w => St M w0 w [bx b24 64 [v25, v26, .int .i64 c14.2.2.1, v27, .int .i64 c14.2.2.2.2], osl K_api_HeatDomain v25 c14.1, osl K_api_HeatLink v26 c14.2.1, osl K_int64 v27 c14.2.2.2.1, bx b5 27 [v3, v4, .int .i64 s2.2.2], osl K_api_HeatDomain v3 s2.1, osl K_api_HeatLink v4 s2.2.1]), rfl, rfl, ⟨hs.get (i := 4) rfl, hs.get (i := 5) rfl, trivial⟩, trivial, hs, (by kernel_rfl), .cons (⟨_, _, rfl, rfl, rfl, rfl, fun a w hR hf => .inl ⟨wanted_yes hf rfl, ex_move hf rfl⟩⟩) (.cons (⟨_, _, rfl, rfl, rfl, rfl, fun a w hR hf => .inl ⟨wanted_yes hf rfl, ex_extract hf rfl rfl⟩⟩) (.cons (⟨_, _, rfl, rfl, rfl, rfl, fun a w hR hf => .inl ⟨wanted_yes hf rfl, ex_extract hf rfl rfl⟩⟩) (.cons (⟨_, _, rfl, rfl, rfl, rfl, fun a w hR hf => .inl ⟨wanted_yes hf rfl, ex_assign hf rfl⟩⟩) (.nil)))), ?_⟩
      refine RW.zero (by kernel_rfl) (by kernel_rfl) [(3, .int .u8 a3), (9, .pointer (some ⟨b5, 0, none⟩)), (10, .pointer none), (11, .int .i64 s8.2), (12, .pointer (some ⟨b24, 0, none⟩)), (47, .int .i64 s13.2)] ⟨rfl, rfl, rfl, rfl, rfl, rfl, trivial⟩ (fun a w hR hs hf => ?_)
      refine stq hf rfl rfl rfl (ex_assign hf rfl) (fun a hf => ?_)
      refine hK28 _ _ ?_
      refine hN11 _ _ ?_
      refine seq_n (fun Q29 hN29 hR29 hX29 => ?_)
      refine bnd H (fun x30 H30 HO30 => ?_)
      clear H
      refine seq_cut (fun a w => Fr a 152 [(3, .int .u8 a3), (9, .pointer (some ⟨b5, 0, none⟩)), (10, .pointer none), (12, .pointer (some ⟨b24, 0, none⟩)), (61, .bool true)] ∧ St M w0 w [bx b5 27 [v3, v4, .int .i64 s2.2.2], osl K_api_HeatDomain v3 s2.1, osl K_api_HeatLink v4 s2.2.1, bx b24 64 [v25, v26, .int .i64 c14.2.2.1, v27, .int .i64 c14.2.2.2.2], osl K_api_HeatDomain v25 c14.1, osl K_api_HeatLink v26 c14.2.1, osl K_int64 v27 c14.2.2.2.1]) (fun Q30 hJ30 hR30 hX30 => ?_) (fun a w hJ => ?_)
      · replace H := H30
        refine itt H (fun hc31 H => ?_) (fun hc31 H => ?_)
        · -- s8.2 = 0
          refine itt H (fun hc32 H => ?_) (fun hc32 H => ?_)
          · -- s13.2 = 0
            refine region_k (fun K33 hK33 => ?_)
            refine stq hf rfl rfl rfl (ex_move hf rfl) (fun a hf => ?_)
            refine stq hf rfl rfl rfl (ex_neq hf rfl rfl) (fun a hf => ?_)
            refine stq hf rfl rfl rfl (ex_move hf rfl) (fun a hf => ?_)
            replace hf := hf.castB (t := 49) rfl (ndec_f hc31)
            replace hf := hf.castB (t := 50) rfl (ndec_f hc31)
            refine stq hf rfl rfl rfl (ex_move hf rfl) (fun a hf => ?_)
            refine stq hf rfl rfl rfl (ex_neq hf rfl rfl) (fun a hf => ?_)
            refine stq hf rfl rfl rfl (ex_pickF hf rfl rfl) (fun a hf => ?_)
            refine stq hf rfl rfl rfl (ex_move hf rfl) (fun a hf => ?_)
            replace hf := hf.castB (t := 52) rfl (ndec_f hc32)
            replace hf := hf.castB (t := 53) rfl (ndec_f hc32)
            replace hf := hf.castB (t := 54) rfl (ndec_f hc32)
            refine stq hf rfl rfl rfl (ex_move hf rfl) (fun a hf => ?_)
            refine stq hf rfl rfl rfl (ex_eqp Try.underlying29 hf rfl rfl) (fun a hf => ?_)
            refine stq hf rfl rfl rfl (ex_pickF hf rfl rfl) (fun a hf => ?_)
            refine stq hf rfl rfl rfl (ex_move hf rfl) (fun a hf => ?_)
            refine stepN hf rfl rfl rfl (fun a hf => ?_)
            refine stepN hf rfl rfl rfl (fun a hf => ?_)
            refine stq hf rfl rfl rfl (ex_pickT hf rfl rfl) (fun a hf => ?_)
            refine hK33 _ _ ?_
            replace hs := hs.pick (.k (.k (.k (.c (.k (.k (.k .nil)))))))
            replace hs := hs.pick (.k (.k (.k (.c (.k (.k (.k .nil)))))))
            replace hs := hs.pick (.k (.k (.k (.c (.k (.k (.k .nil)))))))
            replace hs := hs.pick (.k (.k (.k (.c (.k (.k (.k .nil)))))))
            replace hs := hs.pick (.k (.k (.k (.k (.k (.k (.c .nil)))))))
            replace hs := hs.pick (.k (.k (.k (.k (.k (.k (.c .nil)))))))
            replace hs := hs.pick (.k (.k (.k (.k (.k (.k (.c .nil)))))))
            have e30 := some_eq H; subst e30
            exact hJ30 _ _ ⟨hf.sub ⟨rfl, rfl, rfl, rfl, rfl, trivial⟩, hs⟩
          · -- not s13.2 = 0
            refine region_k (fun K34 hK34 => ?_)
            refine stq hf rfl rfl rfl (ex_move hf rfl) (fun a hf => ?_)
            refine stq hf rfl rfl rfl (ex_neq hf rfl rfl) (fun a hf => ?_)
            refine stq hf rfl rfl rfl (ex_move hf rfl) (fun a hf => ?_)
            replace hf := hf.castB (t := 49) rfl (ndec_f hc31)
            replace hf := hf.castB (t := 50) rfl (ndec_f hc31)
            refine stq hf rfl rfl rfl (ex_move hf rfl) (fun a hf => ?_)
            refine stq hf rfl rfl rfl (ex_neq hf rfl rfl) (fun a hf => ?_)
            refine stq hf rfl rfl rfl (ex_pickF hf rfl rfl) (fun a hf => ?_)
            refine stq hf rfl rfl rfl (ex_move hf rfl) (fun a hf => ?_)
            replace hf := hf.castB (t := 52) rfl (ndec_t hc32)
            replace hf := hf.castB (t := 53) rfl (ndec_t hc32)
            replace hf := hf.castB (t := 54) rfl (ndec_t hc32)
            refine stepN hf rfl rfl rfl (fun a hf => ?_)
            refine stepN hf rfl rfl rfl (fun a hf => ?_)
            refine stq hf rfl rfl rfl (ex_pickT hf rfl rfl) (fun a hf => ?_)
            refine stq hf rfl rfl rfl (ex_move hf rfl) (fun a hf => ?_)
            refine stepN hf rfl rfl rfl (fun a hf => ?_)
            refine stepN hf rfl rfl rfl (fun a hf => ?_)
            refine stq hf rfl rfl rfl (ex_pickT hf rfl rfl) (fun a hf => ?_)
            refine hK34 _ _ ?_
            replace hs := hs.pick (.k (.k (.k (.c (.k (.k (.k .nil)))))))
            replace hs := hs.pick (.k (.k (.k (.c (.k (.k (.k .nil)))))))
            replace hs := hs.pick (.k (.k (.k (.c (.k (.k (.k .nil)))))))
            replace hs := hs.pick (.k (.k (.k (.c (.k (.k (.k .nil)))))))
            replace hs := hs.pick (.k (.k (.k (.k (.k (.k (.c .nil)))))))
            replace hs := hs.pick (.k (.k (.k (.k (.k (.k (.c .nil)))))))
            replace hs := hs.pick (.k (.k (.k (.k (.k (.k (.c .nil)))))))
            have e30 := some_eq H; subst e30
            exact hJ30 _ _ ⟨hf.sub ⟨rfl, rfl, rfl, rfl, rfl, trivial⟩, hs⟩
        · -- not s8.2 = 0
          refine region_k (fun K35 hK35 => ?_)
          refine stq hf rfl rfl rfl (ex_move hf rfl) (fun a hf => ?_)
          refine stq hf rfl rfl rfl (ex_neq hf rfl rfl) (fun a hf => ?_)
          refine stq hf rfl rfl rfl (ex_move hf rfl) (fun a hf => ?_)
          replace hf := hf.castB (t := 49) rfl (ndec_t hc31)
          replace hf := hf.castB (t := 50) rfl (ndec_t hc31)
          refine stepN hf rfl rfl rfl (fun a hf => ?_)
          refine stepN hf rfl rfl rfl (fun a hf => ?_)
          refine stq hf rfl rfl rfl (ex_pickT hf rfl rfl) (fun a hf => ?_)
          refine stq hf rfl rfl rfl (ex_move hf rfl) (fun a hf => ?_)
          refine stepN hf rfl rfl rfl (fun a hf => ?_)
          refine stepN hf rfl rfl rfl (fun a hf => ?_)
          refine stq hf rfl rfl rfl (ex_pickT hf rfl rfl) (fun a hf => ?_)
          refine stq hf rfl rfl rfl (ex_move hf rfl) (fun a hf => ?_)
          refine stepN hf rfl rfl rfl (fun a hf => ?_)
          refine stepN hf rfl rfl rfl (fun a hf => ?_)
          refine stq hf rfl rfl rfl (ex_pickT hf rfl rfl) (fun a hf => ?_)
          refine hK35 _ _ ?_
          replace hs := hs.pick (.k (.k (.k (.c (.k (.k (.k .nil)))))))
          replace hs := hs.pick (.k (.k (.k (.c (.k (.k (.k .nil)))))))
          replace hs := hs.pick (.k (.k (.k (.c (.k (.k (.k .nil)))))))
          replace hs := hs.pick (.k (.k (.k (.c (.k (.k (.k .nil)))))))
          replace hs := hs.pick (.k (.k (.k (.k (.k (.k (.c .nil)))))))
          replace hs := hs.pick (.k (.k (.k (.k (.k (.k (.c .nil)))))))
          replace hs := hs.pick (.k (.k (.k (.k (.k (.k (.c .nil)))))))
          have e30 := some_eq H; subst e30
          exact hJ30 _ _ ⟨hf.sub ⟨rfl, rfl, rfl, rfl, rfl, trivial⟩, hs⟩
      · obtain ⟨hf, hs⟩ := hJ
        replace H := HO30
        clear HO30
        refine cond_T hf rfl ?_
        refine seq_reg (fun K36 hK36 => ?_)
        refine stq hf rfl rfl rfl (ex_assign hf rfl) (fun a hf => ?_)
        refine hK36 _ _ ?_
        refine wp_ret ?_
        refine hR29 _ _ ?_
        have eR := some_eq H; subst eR
        replace hs := hs.keep (.d (.d (.d (.d (.d (.d (.d .nil)))))))
        exact ret1 Try.results7 hf rfl ⟨_, rfl, ⟨rfl, hs⟩⟩
  | some c9 =>
    replace H := elim_s hps8 H
    refine region_k (fun K41 hK41 => ?_)
    refine stq hf rfl rfl rfl (ex_fieldAddrB fa_27_0 rfl hf rfl) (fun a hf => ?_)
    refine stq hf rfl rfl rfl (ex_load sc_22 hf rfl (bx_cell (hs.get (i := 0) rfl) _ rfl)) (fun a hf => ?_)
    refine stq hf rfl rfl rfl (ex_fieldAddrB fa_27_1 rfl hf rfl) (fun a hf => ?_)
    refine stq hf rfl rfl rfl (ex_load sc_23 hf rfl (bx_cell (hs.get (i := 0) rfl) _ rfl)) (fun a hf => ?_)
    refine stq hf rfl rfl rfl (ex_fieldAddrB fa_27_2 rfl hf rfl) (fun a hf => ?_)
    refine stq hf rfl rfl rfl (ex_load sc_2 hf rfl (bx_cell (hs.get (i := 0) rfl) _ rfl)) (fun a hf => ?_)
    refine stepF hf rfl rfl rfl (ex_call cf_13 hf rfl) (heat_New.calls k s2.1 s2.2.1 s2.2.2 v3 v4 (hs.enter (.k (.k (.k .nil)))) (Sr.own hs (.k (.k (.k .nil))) (i := 1) rfl osl_rsl (fun _ h => h.1) (Sr.own hs (.k (.k (.k .nil))) (i := 2) rfl osl_rsl (fun _ h => h.1) (Sr.nil _ _))) hs8) (fun v w hR a hf => ?_)
    obtain ⟨hc', _⟩ | ⟨cc, hc', b37, v38, v39, v40, rfl, hs'⟩ := hR
    case inl => rw [hps8] at hc'; cases hc'
    obtain rfl : c9 = cc := by rw [hps8] at hc'; exact Option.some.inj hc'
    replace hs := hs.step (.k (.k (.k .nil))) hs'
    clear hs'
    refine stq hf rfl rfl rfl (ex_move hf rfl) (fun a hf => ?_)
    refine stq hf rfl rfl rfl (ex_extract hf rfl rfl) (fun a hf => ?_)
    refine stq hf rfl rfl rfl (ex_extract hf rfl rfl) (fun a hf => ?_)
    refine stq hf rfl rfl rfl (ex_assign hf rfl) (fun a hf => ?_)
    refine stq hf rfl rfl rfl (ex_assign hf rfl) (fun a hf => ?_)
    refine hK41 _ _ ?_
    refine hN7 _ _ ?_
    refine seq_n (fun Q42 hN42 hR42 hX42 => ?_)
    refine ck_some H (fun hc43 H => ?_)
    refine bnd H (fun s44 hs44 H => ?_)
    cases hps44 : s44.1 with
    | none =>
      replace H := elim_n hps44 H
      refine region_d fol 10 [(3, .int .u8 a3), (9, .pointer (some ⟨b5, 0, none⟩)), (10, .pointer (some ⟨b37, 0, none⟩)), (11, .int .i64 s8.2)] [(0, .pointer (some ⟨b5, 0, none⟩)), (1, v3), (2, (slv v3 0 (1 : Int).toNat 2)), (3, .pointer (some ⟨b5, 2, none⟩)), (4, .int .i64 s2.2.2)] [5] (fun w => (bx b5 27 [v3, v4, .int .i64 s2.2.2]).ok w ∧ (osl K_api_HeatDomain v3 s2.1).ok w ∧ True) (fun w => St M w0 w [bx b37 64 [v38, v39, .int .i64 c9.2.2.1, v40, .int .i64 c9.2.2.2.2], osl K_api_HeatDomain v38 c9.1, osl K_api_HeatLink v39 c9.2.1, osl K_int64 v40 c9.2.2.2.1, bx b5 27 [v3, v4, .int .i64 s2.2.2], osl K_api_HeatDomain v3 s2.1, osl K_api_HeatLink v4 s2.2.1]) hf ⟨rfl, rfl, rfl, rfl, trivial⟩ (by kernel_rfl) (by kernel_rfl) rfl (by decide) ⟨hs.drew.get (i := 4) rfl, hs.drew.get (i := 5) rfl, trivial⟩ hs.drew (.cons (⟨_, _, rfl, rfl, rfl, rfl, fun a w hR hf => .inl ⟨wanted_yes hf rfl, ex_fieldAddrB fa_27_0 rfl hf rfl⟩⟩) (.cons (⟨_, _, rfl, rfl, rfl, rfl, fun a w hR hf => .inl ⟨wanted_yes hf rfl, ex_load sc_22 hf rfl (bx_cell (hR.1) _ rfl)⟩⟩) (.cons (⟨_, _, rfl, rfl, rfl, rfl, fun a w hR hf => .inl ⟨wanted_yes hf rfl, ex_slice_h sa_22 (rsl_isSl (osl_rsl _ hR.2.1)) hc43 hf rfl rfl⟩⟩) (.cons (⟨_, _, rfl, rfl, rfl, rfl, fun a w hR hf => .inl ⟨wanted_yes hf rfl, ex_fieldAddrB fa_27_2 rfl hf rfl⟩⟩) (.cons (⟨_, _, rfl, rfl, rfl, rfl, fun a w hR hf => .inl ⟨wanted_yes hf rfl, ex_load sc_2 hf rfl (bx_cell (hR.1) _ rfl)⟩⟩) (.nil)))))) (fun K46 hK46 => ?_)
      refine RW.one 5 (by kernel_rfl) (by kernel_rfl) rfl (fun d hd => by cases hd; rfl) [(42, (slv v3 0 (1 : Int).toNat 2)), (44, .int .i64 s2.2.2)] ⟨rfl, rfl, trivial⟩ (fun a w hR hs hf => ⟨wanted_yes hf rfl, ?_⟩)
      refine estep_f (ex_call cf_13 hf rfl) (heat_New.calls k ((s2.1.drop 0).take ((1 : Int).toNat - 0)) [] s2.2.2 (slv v3 0 (1 : Int).toNat 2) (.slice none 0 0) (hs.enter (.k (.k (.k (.k (.k (.k (.k .nil)))))))) (Sr.own hs (.k (.k (.k (.k (.k (.k (.k .nil))))))) (i := 5) rfl (fun _ h => rsl_slv _ (osl_rsl _ h) (view_1 (lo := 0) hc43) (view_2 (lo := 0) hc43)) (fun _ h => (slv_fs h).1) (Sr.free (nil_rsl _ _) nil_fs (Sr.nil _ _))) hs44) (fun v w hR => ?_)
      obtain ⟨_, rfl, hs'⟩ | ⟨_, hc', _⟩ := hR
      case inr => rw [hps44] at hc'; cases hc'
      replace hs := hs.step (.k (.k (.k (.k (.k (.k (.k .nil))))))) hs'
      clear hs'
      refine ⟨[(6, .tuple #[.pointer none, .int .i64 s44.2]), (7, .pointer none), (8, .int .i64 s44.2), (9, .pointer none)], [(6, .tuple #[.pointer none, .int .i64 s44.2]), (7, .pointer none), (8, .int .i64 s44.2), (9, .pointer none), (5, .tuple #[.pointer none, .int .i64 s44.2]), (0, .pointer (some ⟨b5, 0, none⟩)), (1, v3), (2, (slv v3 0 (1 : Int).toNat 2)), (3, .pointer (some ⟨b5, 2, none⟩)), (4, .int .i64 s2.2.2)], [], (fun _ => True), (fun w => St M w0 w [bx b37 64 [v38, v39, .int .i64 c9.2.2.1, v40, .int .i64 c9.2.2.2.2], osl K_api_HeatDomain v38 c9.1, osl K_api_HeatLink v39 c9.2.1, osl K_int64 v40 c9.2.2.2.1, bx b5 27 [v3, v4, .int .i64 s2.2.2], osl K_api_HeatDomain v3 s2.1, osl K_api_HeatLink v4 s2.2.1]), rfl, rfl, ⟨hs.get (i := 4) rfl, hs.get (i := 5) rfl, trivial⟩, trivial, hs, (by kernel_rfl), .cons (⟨_, _, rfl, rfl, rfl, rfl, fun a w hR hf => .inl ⟨wanted_yes hf rfl, ex_move hf rfl⟩⟩) (.cons (⟨_, _, rfl, rfl, rfl, rfl, fun a w hR hf => .inl ⟨wanted_yes hf rfl, ex_extract hf rfl rfl⟩⟩) (.cons (⟨_, _, rfl, rfl, rfl, rfl, fun a w hR hf => .inl ⟨wanted_yes hf rfl, ex_extract hf rfl rfl⟩⟩) (.cons (⟨_, _, rfl, rfl, rfl, rfl, fun a w hR hf => .inl ⟨wanted_yes hf rfl, ex_assign hf rfl⟩⟩) (.nil)))), ?_⟩
      refine RW.zero (by kernel_rfl) (by kernel_rfl) [(3, .int .u8 a3), (9, .pointer (some ⟨b5, 0, none⟩)), (10, .pointer (some ⟨b37, 0, none⟩)), (11, .int .i64 s8.2), (12, .pointer none), (47, .int .i64 s44.2)] ⟨rfl, rfl, rfl, rfl, rfl, rfl, trivial⟩ (fun a w hR hs hf => ?_)
      refine stq hf rfl rfl rfl (ex_assign hf rfl) (fun a hf => ?_)
      refine hK46 _ _ ?_
      refine hN42 _ _ ?_
      refine seq_n (fun Q47 hN47 hR47 hX47 => ?_)
      refine bnd H (fun x48 H48 HO48 => ?_)
      clear H
      refine seq_cut (fun a w => Fr a 152 [(3, .int .u8 a3), (9, .pointer (some ⟨b5, 0, none⟩)), (10, .pointer (some ⟨b37, 0, none⟩)), (12, .pointer none), (61, .bool true)] ∧ St M w0 w [bx b5 27 [v3, v4, .int .i64 s2.2.2], osl K_api_HeatDomain v3 s2.1, osl K_api_HeatLink v4 s2.2.1, bx b37 64 [v38, v39, .int .i64 c9.2.2.1, v40, .int .i64 c9.2.2.2.2], osl K_api_HeatDomain v38 c9.1, osl K_api_HeatLink v39 c9.2.1, osl K_int64 v40 c9.2.2.2.1]) (fun Q48 hJ48 hR48 hX48 => ?_) (fun a w hJ => ?_)
      · replace H := H48
        refine itt H (fun hc49 H => ?_) (fun hc49 H => ?_)
        · -- s8.2 = 0
          refine itt H (fun hc50 H => ?_) (fun hc50 H => ?_)
          · -- s44.2 = 0
            refine region_k (fun K51 hK51 => ?_)
            refine stq hf rfl rfl rfl (ex_move hf rfl) (fun a hf => ?_)
            refine stq hf rfl rfl rfl (ex_neq hf rfl rfl) (fun a hf => ?_)
            refine stq hf rfl rfl rfl (ex_move hf rfl) (fun a hf => ?_)
            replace hf := hf.castB (t := 49) rfl (ndec_f hc49)
            replace hf := hf.castB (t := 50) rfl (ndec_f hc49)
            refine stq hf rfl rfl rfl (ex_move hf rfl) (fun a hf => ?_)
            refine stq hf rfl rfl rfl (ex_neq hf rfl rfl) (fun a hf => ?_)
            refine stq hf rfl rfl rfl (ex_pickF hf rfl rfl) (fun a hf => ?_)
            refine stq hf rfl rfl rfl (ex_move hf rfl) (fun a hf => ?_)
            replace hf := hf.castB (t := 52) rfl (ndec_f hc50)
            replace hf := hf.castB (t := 53) rfl (ndec_f hc50)
            replace hf := hf.castB (t := 54) rfl (ndec_f hc50)
            refine stq hf rfl rfl rfl (ex_move hf rfl) (fun a hf => ?_)
            refine stq hf rfl rfl rfl (ex_eqp Try.underlying29 hf rfl rfl) (fun a hf => ?_)
            refine stq hf rfl rfl rfl (ex_pickF hf rfl rfl) (fun a hf => ?_)
            refine stq hf rfl rfl rfl (ex_move hf rfl) (fun a hf => ?_)
            refine stq hf rfl rfl rfl (ex_move hf rfl) (fun a hf => ?_)
            refine stq hf rfl rfl rfl (ex_eqp Try.underlying29 hf rfl rfl) (fun a hf => ?_)
            refine stq hf rfl rfl rfl (ex_pickF hf rfl rfl) (fun a hf => ?_)
            refine hK51 _ _ ?_
            replace hs := hs.pick (.k (.k (.k (.c (.k (.k (.k .nil)))))))
            replace hs := hs.pick (.k (.k (.k (.c (.k (.k (.k .nil)))))))
            replace hs := hs.pick (.k (.k (.k (.c (.k (.k (.k .nil)))))))
            replace hs := hs.pick (.k (.k (.k (.c (.k (.k (.k .nil)))))))
            replace hs := hs.pick (.k (.k (.k (.k (.k (.k (.c .nil)))))))
            replace hs := hs.pick (.k (.k (.k (.k (.k (.k (.c .nil)))))))
            replace hs := hs.pick (.k (.k (.k (.k (.k (.k (.c .nil)))))))
            have e48 := some_eq H; subst e48
            exact hJ48 _ _ ⟨hf.sub ⟨rfl, rfl, rfl, rfl, rfl, trivial⟩, hs⟩
          · -- not s44.2 = 0
            refine region_k (fun K52 hK52 => ?_)
            refine stq hf rfl rfl rfl (ex_move hf rfl) (fun a hf => ?_)
            refine stq hf rfl rfl rfl (ex_neq hf rfl rfl) (fun a hf => ?_)
            refine stq hf rfl rfl rfl (ex_move hf rfl) (fun a hf => ?_)
            replace hf := hf.castB (t := 49) rfl (ndec_f hc49)
            replace hf := hf.castB (t := 50) rfl (ndec_f hc49)
            refine stq hf rfl rfl rfl (ex_move hf rfl) (fun a hf => ?_)
            refine stq hf rfl rfl rfl (ex_neq hf rfl rfl) (fun a hf => ?_)
            refine stq hf rfl rfl rfl (ex_pickF hf rfl rfl) (fun a hf => ?_)
            refine stq hf rfl rfl rfl (ex_move hf rfl) (fun a hf => ?_)
            replace hf := hf.castB (t := 52) rfl (ndec_t hc50)
            replace hf := hf.castB (t := 53) rfl (ndec_t hc50)
            replace hf := hf.castB (t := 54) rfl (ndec_t hc50)
            refine stepN hf rfl rfl rfl (fun a hf => ?_)
            refine stepN hf rfl rfl rfl (fun a hf => ?_)
            refine stq hf rfl rfl rfl (ex_pickT hf rfl rfl) (fun a hf => ?_)
            refine stq hf rfl rfl rfl (ex_move hf rfl) (fun a hf => ?_)
            refine stepN hf rfl rfl rfl (fun a hf => ?_)
            refine stepN hf rfl rfl rfl (fun a hf => ?_)
            refine stq hf rfl rfl rfl (ex_pickT hf rfl rfl) (fun a hf => ?_)
            refine hK52 _ _ ?_
            replace hs := hs.pick (.k (.k (.k (.c (.k (.k (.k .nil)))))))
            replace hs := hs.pick (.k (.k (.k (.c (.k (.k (.k .nil)))))))
            replace hs := hs.pick (.k (.k (.k (.c (.k (.k (.k .nil)))))))
            replace hs := hs.pick (.k (.k (.k (.c (.k (.k (.k .nil)))))))
            replace hs := hs.pick (.k (.k (.k (.k (.k (.k (.c .nil)))))))
            replace hs := hs.pick (.k (.k (.k (.k (.k (.k (.c .nil)))))))
            replace hs := hs.pick (.k (.k (.k (.k (.k (.k (.c .nil)))))))
            have e48 := some_eq H; subst e48
            exact hJ48 _ _ ⟨hf.sub ⟨rfl, rfl, rfl, rfl, rfl, trivial⟩, hs⟩
        · -- not s8.2 = 0
          refine region_k (fun K53 hK53 => ?_)
          refine stq hf rfl rfl rfl (ex_move hf rfl) (fun a hf => ?_)
          refine stq hf rfl rfl rfl (ex_neq hf rfl rfl) (fun a hf => ?_)
          refine stq hf rfl rfl rfl (ex_move hf rfl) (fun a hf => ?_)
          replace hf := hf.castB (t := 49) rfl (ndec_t hc49)
          replace hf := hf.castB (t := 50) rfl (ndec_t hc49)
          refine stepN hf rfl rfl rfl (fun a hf => ?_)
          refine stepN hf rfl rfl rfl (fun a hf => ?_)
          refine stq hf rfl rfl rfl (ex_pickT hf rfl rfl) (fun a hf => ?_)
          refine stq hf rfl rfl rfl (ex_move hf rfl) (fun a hf => ?_)
          refine stepN hf rfl rfl rfl (fun a hf => ?_)
          refine stepN hf rfl rfl rfl (fun a hf => ?_)
          refine stq hf rfl rfl rfl (ex_pickT hf rfl rfl) (fun a hf => ?_)
          refine stq hf rfl rfl rfl (ex_move hf rfl) (fun a hf => ?_)
          refine stepN hf rfl rfl rfl (fun a hf => ?_)
          refine stepN hf rfl rfl rfl (fun a hf => ?_)
          refine stq hf rfl rfl rfl (ex_pickT hf rfl rfl) (fun a hf => ?_)
          refine hK53 _ _ ?_
          replace hs := hs.pick (.k (.k (.k (.c (.k (.k (.k .nil)))))))
          replace hs := hs.pick (.k (.k (.k (.c (.k (.k (.k .nil)))))))
          replace hs := hs.pick (.k (.k (.k (.c (.k (.k (.k .nil)))))))
          replace hs := hs.pick (.k (.k (.k (.c (.k (.k (.k .nil)))))))
          replace hs := hs.pick (.k (.k (.k (.k (.k (.k (.c .nil)))))))
          replace hs := hs.pick (.k (.k (.k (.k (.k (.k (.c .nil)))))))
          replace hs := hs.pick (.k (.k (.k (.k (.k (.k (.c .nil)))))))
          have e48 := some_eq H; subst e48
          exact hJ48 _ _ ⟨hf.sub ⟨rfl, rfl, rfl, rfl, rfl, trivial⟩, hs⟩
      · obtain ⟨hf, hs⟩ := hJ
        replace H := HO48
        clear HO48
        refine cond_T hf rfl ?_
        refine seq_reg (fun K54 hK54 => ?_)
        refine stq hf rfl rfl rfl (ex_assign hf rfl) (fun a hf => ?_)
        refine hK54 _ _ ?_
        refine wp_ret ?_
        refine hR47 _ _ ?_
        have eR := some_eq H; subst eR
        replace hs := hs.keep (.d (.d (.d (.d (.d (.d (.d .nil)))))))
        exact ret1 Try.results7 hf rfl ⟨_, rfl, ⟨rfl, hs⟩⟩
    | some c45 =>
      replace H := elim_s hps44 H
      refine region_d fol 10 [(3, .int .u8 a3), (9, .pointer (some ⟨b5, 0, none⟩)), (10, .pointer (some ⟨b37, 0, none⟩)), (11, .int .i64 s8.2)] [(0, .pointer (some ⟨b5, 0, none⟩)), (1, v3), (2, (slv v3 0 (1 : Int).toNat 2)), (3, .pointer (some ⟨b5, 2, none⟩)), (4, .int .i64 s2.2.2)] [5] (fun w => (bx b5 27 [v3, v4, .int .i64 s2.2.2]).ok w ∧ (osl K_api_HeatDomain v3 s2.1).ok w ∧ True) (fun w => St M w0 w [bx b37 64 [v38, v39, .int .i64 c9.2.2.1, v40, .int .i64 c9.2.2.2.2], osl K_api_HeatDomain v38 c9.1, osl K_api_HeatLink v39 c9.2.1, osl K_int64 v40 c9.2.2.2.1, bx b5 27 [v3, v4, .int .i64 s2.2.2], osl K_api_HeatDomain v3 s2.1, osl K_api_HeatLink v4 s2.2.1]) hf ⟨rfl, rfl, rfl, rfl, trivial⟩ (by kernel_rfl) (by kernel_rfl) rfl (by decide) ⟨hs.drew.get (i := 4) rfl, hs.drew.get (i := 5) rfl, trivial⟩ hs.drew (.cons (⟨_, _, rfl, rfl, rfl, rfl, fun a w hR hf => .inl ⟨wanted_yes hf rfl, ex_fieldAddrB fa_27_0 rfl hf rfl⟩⟩) (.cons (⟨_, _, rfl, rfl, rfl, rfl, fun a w hR hf => .inl ⟨wanted_yes hf rfl, ex_load sc_22 hf rfl (bx_cell (hR.1) _ rfl)⟩⟩) (.cons (⟨_, _, rfl, rfl, rfl, rfl, fun a w hR hf => .inl ⟨wanted_yes hf rfl, ex_slice_h sa_22 (rsl_isSl (osl_rsl _ hR.2.1)) hc43 hf rfl rfl⟩⟩) (.cons (⟨_, _, rfl, rfl, rfl, rfl, fun a w hR hf => .inl ⟨wanted_yes hf rfl, ex_fieldAddrB fa_27_2 rfl hf rfl⟩⟩) (.cons (⟨_, _, rfl, rfl, rfl, rfl, fun a w hR hf => .inl ⟨wanted_yes hf rfl, ex_load sc_2 hf rfl (bx_cell (hR.1) _ rfl)⟩⟩) (.nil)))))) (fun K59 hK59 => ?_)
      refine RW.one 5 (by kernel_rfl) (by kernel_rfl) rfl (fun d hd => by cases hd; rfl) [(42, (slv v3 0 (1 : Int).toNat 2)), (44, .int .i64 s2.2.2)] ⟨rfl, rfl, trivial⟩ (fun a w hR hs hf => ⟨wanted_yes hf rfl, ?_⟩)
      refine estep_f (ex_call cf_13 hf rfl) (heat_New.calls k ((s2.1.drop 0).take ((1 : Int).toNat - 0)) [] s2.2.2 (slv v3 0 (1 : Int).toNat 2) (.slice none 0 0) (hs.enter (.k (.k (.k (.k (.k (.k (.k .nil)))))))) (Sr.own hs (.k (.k (.k (.k (.k (.k (.k .nil))))))) (i := 5) rfl (fun _ h => rsl_slv _ (osl_rsl _ h) (view_1 (lo := 0) hc43) (view_2 (lo := 0) hc43)) (fun _ h => (slv_fs h).1) (Sr.free (nil_rsl _ _) nil_fs (Sr.nil _ _))) hs44) (fun v w hR => ?_)
      obtain ⟨hc', _⟩ | ⟨cc, hc', b55, v56, v57, v58, rfl, hs'⟩ := hR
      case inl => rw [hps44] at hc'; cases hc'
      obtain rfl : c45 = cc := by rw [hps44] at hc'; exact Option.some.inj hc'
      replace hs := hs.step (.k (.k (.k (.k (.k (.k (.k .nil))))))) hs'
      clear hs'
      refine ⟨[(6, .tuple #[.pointer (some ⟨b55, 0, none⟩), .int .i64 s44.2]), (7, .pointer (some ⟨b55, 0, none⟩)), (8, .int .i64 s44.2), (9, .pointer (some ⟨b55, 0, none⟩))], [(6, .tuple #[.pointer (some ⟨b55, 0, none⟩), .int .i64 s44.2]), (7, .pointer (some ⟨b55, 0, none⟩)), (8, .int .i64 s44.2), (9, .pointer (some ⟨b55, 0, none⟩)), (5, .tuple #[.pointer (some ⟨b55, 0, none⟩), .int .i64 s44.2]), (0, .pointer (some ⟨b5, 0, none⟩)), (1, v3), (2, (slv v3 0 (1 : Int).toNat 2)), (3, .pointer (some ⟨b5, 2, none⟩)), (4, .int .i64 s2.2.2)], [], (fun _ => True), (fun w => St M w0 w [bx b55 64 [v56, v57, .int .i64 c45.2.2.1, v58, .int .i64 c45.2.2.2.2], osl K_api_HeatDomain v56 c45.1, osl K_api_HeatLink v57 c45.2.1, osl K_int64 v58 c45.2.2.2.1, bx b37 64 [v38, v39, .int .i64 c9.2.2.1, v40, .int .i64 c9.2.2.2.2], osl K_api_HeatDomain v38 c9.1, osl K_api_HeatLink v39 c9.2.1, osl K_int64 v40 c9.2.2.2.1, bx b5 27 [v3, v4, .int .i64 s2.2.2], osl K_api_HeatDomain v3 s2.1, osl K_api_HeatLink v4 s2.2.1]), rfl, rfl, ⟨hs.get (i := 8) rfl, hs.get (i := 9) rfl, trivial⟩, trivial, hs, (by kernel_rfl), .cons (⟨_, _, rfl, rfl, rfl, rfl, fun a w hR hf => .inl ⟨wanted_yes hf rfl, ex_move hf rfl⟩⟩) (.cons (⟨_, _, rfl, rfl, rfl, rfl, fun a w hR hf => .inl ⟨wanted_yes hf rfl, ex_extract hf rfl rfl⟩⟩) (.cons (⟨_, _, rfl, rfl, rfl, rfl, fun a w hR hf => .inl ⟨wanted_yes hf rfl, ex_extract hf rfl rfl⟩⟩) (.cons (⟨_, _, rfl, rfl, rfl, rfl, fun a w hR hf => .inl ⟨wanted_yes hf rfl, ex_assign hf rfl⟩⟩) (.nil)))), ?_⟩
      refine RW.zero (by kernel_rfl) (by kernel_rfl) [(3, .int .u8 a3), (9, .pointer (some ⟨b5, 0, none⟩)), (10, .pointer (some ⟨b37, 0, none⟩)), (11, .int .i64 s8.2), (12, .pointer (some ⟨b55, 0, none⟩)), (47, .int .i64 s44.2)] ⟨rfl, rfl, rfl, rfl, rfl, rfl, trivial⟩ (fun a w hR hs hf => ?_)
      refine stq hf rfl rfl rfl (ex_assign hf rfl) (fun a hf => ?_)
      refine hK59 _ _ ?_
      refine hN42 _ _ ?_
      refine seq_n (fun Q60 hN60 hR60 hX60 => ?_)
      refine bnd H (fun x61 H61 HO61 => ?_)
      clear H
      refine seq_cut (fun a w => Fr a 152 [(3, .int .u8 a3), (9, .pointer (some ⟨b5, 0, none⟩)), (10, .pointer (some ⟨b37, 0, none⟩)), (12, .pointer (some ⟨b55, 0, none⟩)), (61, .bool x61)] ∧ St M w0 w [bx b5 27 [v3, v4, .int .i64 s2.2.2], osl K_api_HeatDomain v3 s2.1, osl K_api_HeatLink v4 s2.2.1, bx b37 64 [v38, v39, .int .i64 c9.2.2.1, v40, .int .i64 c9.2.2.2.2], osl K_api_HeatDomain v38 c9.1, osl K_api_HeatLink v39 c9.2.1, osl K_int64 v40 c9.2.2.2.1, bx b55 64 [v56, v57, .int .i64 c45.2.2.1, v58, .int .i64 c45.2.2.2.2], osl K_api_HeatDomain v56 c45.1, osl K_api_HeatLink v57 c45.2.1, osl K_int64 v58 c45.2.2.2.1]) (fun Q61 hJ61 hR61 hX61 => ?_) (fun a w hJ => ?_)
      · replace H := H61
        refine itt H (fun hc62 H => ?_) (fun hc62 H => ?_)
        · -- s8.2 = 0
          refine itt H (fun hc63 H => ?_) (fun hc63 H => ?_)
          · -- s44.2 = 0
            refine region_k (fun K64 hK64 => ?_)
            refine stq hf rfl rfl rfl (ex_move hf rfl) (fun a hf => ?_)
            refine stq hf rfl rfl rfl (ex_neq hf rfl rfl) (fun a hf => ?_)
            refine stq hf rfl rfl rfl (ex_move hf rfl) (fun a hf => ?_)
            replace hf := hf.castB (t := 49) rfl (ndec_f hc62)
            replace hf := hf.castB (t := 50) rfl (ndec_f hc62)
            refine stq hf rfl rfl rfl (ex_move hf rfl) (fun a hf => ?_)
            refine stq hf rfl rfl rfl (ex_neq hf rfl rfl) (fun a hf => ?_)
            refine stq hf rfl rfl rfl (ex_pickF hf rfl rfl) (fun a hf => ?_)
            refine stq hf rfl rfl rfl (ex_move hf rfl) (fun a hf => ?_)
            replace hf := hf.castB (t := 52) rfl (ndec_f hc63)
            replace hf := hf.castB (t := 53) rfl (ndec_f hc63)
            replace hf := hf.castB (t := 54) rfl (ndec_f hc63)
            refine stq hf rfl rfl rfl (ex_move hf rfl) (fun a hf => ?_)
            refine stq hf rfl rfl rfl (ex_eqp Try.underlying29 hf rfl rfl) (fun a hf => ?_)
            refine stq hf rfl rfl rfl (ex_pickF hf rfl rfl) (fun a hf => ?_)
            refine stq hf rfl rfl rfl (ex_move hf rfl) (fun a hf => ?_)
            refine stq hf rfl rfl rfl (ex_move hf rfl) (fun a hf => ?_)
            refine stq hf rfl rfl rfl (ex_eqp Try.underlying29 hf rfl rfl) (fun a hf => ?_)
            refine stq hf rfl rfl rfl (ex_pickF hf rfl rfl) (fun a hf => ?_)
            refine hK64 _ _ ?_
            replace hs := hs.pick (.k (.k (.k (.c (.k (.k (.k (.k (.k (.k (.k .nil)))))))))))
            replace hs := hs.pick (.k (.k (.k (.c (.k (.k (.k (.k (.k (.k (.k .nil)))))))))))
            replace hs := hs.pick (.k (.k (.k (.c (.k (.k (.k (.k (.k (.k (.k .nil)))))))))))
            replace hs := hs.pick (.k (.k (.k (.c (.k (.k (.k (.k (.k (.k (.k .nil)))))))))))
            replace hs := hs.pick (.k (.k (.k (.k (.k (.k (.k (.c (.k (.k (.k .nil)))))))))))
            replace hs := hs.pick (.k (.k (.k (.k (.k (.k (.k (.c (.k (.k (.k .nil)))))))))))
            replace hs := hs.pick (.k (.k (.k (.k (.k (.k (.k (.c (.k (.k (.k .nil)))))))))))
            replace hs := hs.pick (.k (.k (.k (.k (.k (.k (.k (.c (.k (.k (.k .nil)))))))))))
            replace hs := hs.pick (.k (.k (.k (.k (.k (.k (.k (.k (.k (.k (.c .nil)))))))))))
            replace hs := hs.pick (.k (.k (.k (.k (.k (.k (.k (.k (.k (.k (.c .nil)))))))))))
            replace hs := hs.pick (.k (.k (.k (.k (.k (.k (.k (.k (.k (.k (.c .nil)))))))))))
            have e61 := some_eq H; subst e61
            exact hJ61 _ _ ⟨hf.sub ⟨rfl, rfl, rfl, rfl, rfl, trivial⟩, hs⟩
          · -- not s44.2 = 0
            refine region_k (fun K65 hK65 => ?_)
            refine stq hf rfl rfl rfl (ex_move hf rfl) (fun a hf => ?_)
            refine stq hf rfl rfl rfl (ex_neq hf rfl rfl) (fun a hf => ?_)
            refine stq hf rfl rfl rfl (ex_move hf rfl) (fun a hf => ?_)
            replace hf := hf.castB (t := 49) rfl (ndec_f hc62)
            replace hf := hf.castB (t := 50) rfl (ndec_f hc62)
            refine stq hf rfl rfl rfl (ex_move hf rfl) (fun a hf => ?_)
            refine stq hf rfl rfl rfl (ex_neq hf rfl rfl) (fun a hf => ?_)
            refine stq hf rfl rfl rfl (ex_pickF hf rfl rfl) (fun a hf => ?_)
            refine stq hf rfl rfl rfl (ex_move hf rfl) (fun a hf => ?_)
            replace hf := hf.castB (t := 52) rfl (ndec_t hc63)
            replace hf := hf.castB (t := 53) rfl (ndec_t hc63)
            replace hf := hf.castB (t := 54) rfl (ndec_t hc63)
            refine stepN hf rfl rfl rfl (fun a hf => ?_)
            refine stepN hf rfl rfl rfl (fun a hf => ?_)
            refine stq hf rfl rfl rfl (ex_pickT hf rfl rfl) (fun a hf => ?_)
            refine stq hf rfl rfl rfl (ex_move hf rfl) (fun a hf => ?_)
            refine stepN hf rfl rfl rfl (fun a hf => ?_)
            refine stepN hf rfl rfl rfl (fun a hf => ?_)
            refine stq hf rfl rfl rfl (ex_pickT hf rfl rfl) (fun a hf => ?_)
            refine hK65 _ _ ?_
            replace hs := hs.pick (.k (.k (.k (.c (.k (.k (.k (.k (.k (.k (.k .nil)))))))))))
            replace hs := hs.pick (.k (.k (.k (.c (.k (.k (.k (.k (.k (.k (.k .nil)))))))))))
            replace hs := hs.pick (.k (.k (.k (.c (.k (.k (.k (.k (.k (.k (.k .nil)))))))))))
            replace hs := hs.pick (.k (.k (.k (.c (.k (.k (.k (.k (.k (.k (.k .nil)))))))))))
            replace hs := hs.pick (.k (.k (.k (.k (.k (.k (.k (.c (.k (.k (.k .nil)))))))))))
            replace hs := hs.pick (.k (.k (.k (.k (.k (.k (.k (.c (.k (.k (.k .nil)))))))))))
            replace hs := hs.pick (.k (.k (.k (.k (.k (.k (.k (.c (.k (.k (.k .nil)))))))))))
            replace hs := hs.pick (.k (.k (.k (.k (.k (.k (.k (.c (.k (.k (.k .nil)))))))))))
            replace hs := hs.pick (.k (.k (.k (.k (.k (.k (.k (.k (.k (.k (.c .nil)))))))))))
            replace hs := hs.pick (.k (.k (.k (.k (.k (.k (.k (.k (.k (.k (.c .nil)))))))))))
            replace hs := hs.pick (.k (.k (.k (.k (.k (.k (.k (.k (.k (.k (.c .nil)))))))))))
            have e61 := some_eq H; subst e61
            exact hJ61 _ _ ⟨hf.sub ⟨rfl, rfl, rfl, rfl, rfl, trivial⟩, hs⟩
        · -- not s8.2 = 0
          refine region_k (fun K66 hK66 => ?_)
          refine stq hf rfl rfl rfl (ex_move hf rfl) (fun a hf => ?_)
          refine stq hf rfl rfl rfl (ex_neq hf rfl rfl) (fun a hf => ?_)
          refine stq hf rfl rfl rfl (ex_move hf rfl) (fun a hf => ?_)
          replace hf := hf.castB (t := 49) rfl (ndec_t hc62)
          replace hf := hf.castB (t := 50) rfl (ndec_t hc62)
          refine stepN hf rfl rfl rfl (fun a hf => ?_)
          refine stepN hf rfl rfl rfl (fun a hf => ?_)
          refine stq hf rfl rfl rfl (ex_pickT hf rfl rfl) (fun a hf => ?_)
          refine stq hf rfl rfl rfl (ex_move hf rfl) (fun a hf => ?_)
          refine stepN hf rfl rfl rfl (fun a hf => ?_)
          refine stepN hf rfl rfl rfl (fun a hf => ?_)
          refine stq hf rfl rfl rfl (ex_pickT hf rfl rfl) (fun a hf => ?_)
          refine stq hf rfl rfl rfl (ex_move hf rfl) (fun a hf => ?_)
          refine stepN hf rfl rfl rfl (fun a hf => ?_)
          refine stepN hf rfl rfl rfl (fun a hf => ?_)
          refine stq hf rfl rfl rfl (ex_pickT hf rfl rfl) (fun a hf => ?_)
          refine hK66 _ _ ?_
          replace hs := hs.pick (.k (.k (.k (.c (.k (.k (.k (.k (.k (.k (.k .nil)))))))))))
          replace hs := hs.pick (.k (.k (.k (.c (.k (.k (.k (.k (.k (.k (.k .nil)))))))))))
          replace hs := hs.pick (.k (.k (.k (.c (.k (.k (.k (.k (.k (.k (.k .nil)))))))))))
          replace hs := hs.pick (.k (.k (.k (.c (.k (.k (.k (.k (.k (.k (.k .nil)))))))))))
          replace hs := hs.pick (.k (.k (.k (.k (.k (.k (.k (.c (.k (.k (.k .nil)))))))))))
          replace hs := hs.pick (.k (.k (.k (.k (.k (.k (.k (.c (.k (.k (.k .nil)))))))))))
          replace hs := hs.pick (.k (.k (.k (.k (.k (.k (.k (.c (.k (.k (.k .nil)))))))))))
          replace hs := hs.pick (.k (.k (.k (.k (.k (.k (.k (.c (.k (.k (.k .nil)))))))))))
          replace hs := hs.pick (.k (.k (.k (.k (.k (.k (.k (.k (.k (.k (.c .nil)))))))))))
          replace hs := hs.pick (.k (.k (.k (.k (.k (.k (.k (.k (.k (.k (.c .nil)))))))))))
          replace hs := hs.pick (.k (.k (.k (.k (.k (.k (.k (.k (.k (.k (.c .nil)))))))))))
          have e61 := some_eq H; subst e61
          exact hJ61 _ _ ⟨hf.sub ⟨rfl, rfl, rfl, rfl, rfl, trivial⟩, hs⟩
      · obtain ⟨hf, hs⟩ := hJ
        replace H := HO61
        clear HO61
        refine itt H (fun hc67 H => ?_) (fun hc67 H => ?_)
        · -- x61 = true
          replace hf := hf.castB (t := 61) rfl hc67
          refine cond_T hf rfl ?_
          refine seq_reg (fun K68 hK68 => ?_)
          refine stq hf rfl rfl rfl (ex_assign hf rfl) (fun a hf => ?_)
          refine hK68 _ _ ?_
          refine wp_ret ?_
          refine hR60 _ _ ?_
          have eR := some_eq H; subst eR
          replace hs := hs.keep (.d (.d (.d (.d (.d (.d (.d (.d (.d (.d (.d .nil)))))))))))
          exact ret1 Try.results7 hf rfl ⟨_, rfl, ⟨rfl, hs⟩⟩
        · -- not x61 = true
          replace hf := hf.castB (t := 61) rfl (bool_f hc67)
          refine cond_F hf rfl ?_
          refine wp_skip ?_
          refine hN60 _ _ ?_
          refine bnd H (fun x69 H69 HO69 => ?_)
          clear H
          refine seq_cut (fun a w => ∃ (x69s : (List Int) × Int) (v70 : Value), x69 = .go x69s ∧ Fr a 152 [(3, .int .u8 a3), (9, .pointer (some ⟨b5, 0, none⟩)), (10, .pointer (some ⟨b37, 0, none⟩)), (12, .pointer (some ⟨b55, 0, none⟩))] ∧ St M w0 w [bx b5 27 [v3, v4, .int .i64 s2.2.2], osl K_api_HeatDomain v3 s2.1, osl K_api_HeatLink v4 s2.2.1, bx b37 64 [v38, v39, .int .i64 c9.2.2.1, v70, .int .i64 x69s.2], osl K_api_HeatDomain v38 c9.1, osl K_api_HeatLink v39 c9.2.1, osl K_int64 v70 x69s.1, bx b55 64 [v56, v57, .int .i64 c45.2.2.1, v58, .int .i64 c45.2.2.2.2], osl K_api_HeatDomain v56 c45.1, osl K_api_HeatLink v57 c45.2.1, osl K_int64 v58 c45.2.2.2.1]) (fun Q69 hJ69 hR69 hX69 => ?_) (fun a w hJ => ?_)
          · replace H := H69
            refine seq_reg (fun K71 hK71 => ?_)
            refine stq hf rfl rfl rfl (ex_assign hf rfl) (fun a hf => ?_)
            refine hK71 _ _ ?_
            refine block_k (fun Q72 hN72 hR72 hX72 hY72 => ?_)
            refine loop_k (fun n a w => ∃ (y74 : (List Int)) (y75 : Int) (y76 : Int) (v73 : Value), Fr a 152 [(3, .int .u8 a3), (9, .pointer (some ⟨b5, 0, none⟩)), (10, .pointer (some ⟨b37, 0, none⟩)), (12, .pointer (some ⟨b55, 0, none⟩)), (14, .int .i64 y76)] ∧ St M w0 w [bx b5 27 [v3, v4, .int .i64 s2.2.2], osl K_api_HeatDomain v3 s2.1, osl K_api_HeatLink v4 s2.2.1, bx b37 64 [v38, v39, .int .i64 c9.2.2.1, v73, .int .i64 y75], osl K_api_HeatDomain v38 c9.1, osl K_api_HeatLink v39 c9.2.1, osl K_int64 v73 y74, bx b55 64 [v56, v57, .int .i64 c45.2.2.1, v58, .int .i64 c45.2.2.2.2], osl K_api_HeatDomain v56 c45.1, osl K_api_HeatLink v57 c45.2.1, osl K_int64 v58 c45.2.2.2.1] ∧ law38_HeatEquilibrium.l1 n s2 c9 y74 y75 y76 = some x69) k ?_ (fun n78 a w hI Q78 hL78 hR78 hX78 => ?_)
            · -- at the start
              exact ⟨c9.2.2.2.1, c9.2.2.2.2, 0, v40, hf.sub ⟨rfl, rfl, rfl, rfl, rfl, trivial⟩, hs, H⟩
            · obtain ⟨y74, y75, y76, v73, hf, hs, H⟩ := hI
              cases n78 with
              | zero => exact absurd H (by rw [law38_HeatEquilibrium.l1.eq_1]; intro h; cases h)
              | succ k78 =>
                replace H := (law38_HeatEquilibrium.l1.eq_2 ..).symm.trans H
                refine seq_n (fun Q79 hN79 hR79 hX79 => ?_)
                refine seq_reg (fun K80 hK80 => ?_)
                refine stq hf rfl rfl rfl (ex_move hf rfl) (fun a hf => ?_)
                refine stq hf rfl rfl rfl (ex_lss hf rfl rfl) (fun a hf => ?_)
                refine hK80 _ _ ?_
                refine itt H (fun hc81 H => ?_) (fun hc81 H => ?_)
                · -- y76 < 5
                  replace hf := hf.castB (t := 63) rfl (dec_t hc81)
                  refine cond_T hf rfl ?_
                  refine wp_skip ?_
                  refine hN79 _ _ ?_
                  refine bnd H (fun x82 H82 HO82 => ?_)
                  clear H
                  refine seq_cut (fun a w => ∃ (x82s : (List Int) × Int) (v83 : Value), x82 = .go x82s ∧ Fr a 152 [(3, .int .u8 a3), (9, .pointer (some ⟨b5, 0, none⟩)), (10, .pointer (some ⟨b37, 0, none⟩)), (12, .pointer (some ⟨b55, 0, none⟩)), (14, .int .i64 y76)] ∧ St M w0 w [bx b5 27 [v3, v4, .int .i64 s2.2.2], osl K_api_HeatDomain v3 s2.1, osl K_api_HeatLink v4 s2.2.1, bx b37 64 [v38, v39, .int .i64 c9.2.2.1, v83, .int .i64 x82s.2], osl K_api_HeatDomain v38 c9.1, osl K_api_HeatLink v39 c9.2.1, osl K_int64 v83 x82s.1, bx b55 64 [v56, v57, .int .i64 c45.2.2.1, v58, .int .i64 c45.2.2.2.2], osl K_api_HeatDomain v56 c45.1, osl K_api_HeatLink v57 c45.2.1, osl K_int64 v58 c45.2.2.2.1]) (fun Q82 hJ82 hR82 hX82 => ?_) (fun a w hJ => ?_)
                  · replace H := H82
                    refine block_k (fun Q84 hN84 hR84 hX84 hY84 => ?_)
                    refine ck_some H (fun hc85 H => ?_)
                    refine bnd H (fun s87 hs87 H => ?_)
                    refine seq_reg (fun K90 hK90 => ?_)
                    refine stq hf rfl rfl rfl (ex_move hf rfl) (fun a hf => ?_)
                    refine stq hf rfl rfl rfl (ex_fieldAddrB fa_27_0 rfl hf rfl) (fun a hf => ?_)
                    refine stq hf rfl rfl rfl (ex_load sc_22 hf rfl (bx_cell (hs.get (i := 0) rfl) _ rfl)) (fun a hf => ?_)
                    refine stq hf rfl rfl rfl (ex_lenS Try.underlying22 (rsl_isSl (osl_rsl _ (hs.get (i := 1) rfl))) hf rfl) (fun a hf => ?_)
                    refine stepV hf rfl rfl rfl (er_makeSlice (K := K_int64) hs Try.underlying35 ep_2 hc85.1 hc85.2 rfl hf rfl rfl) (fun v86 w hs a hf => ?_)
                    refine stepF hf rfl rfl rfl (ex_call cf_15 hf rfl) (heat_Model_Step.calls k78 c9.1 c9.2.1 c9.2.2.1 y74 y75 (List.replicate (s2.1.length : Int).toNat 0) b37 v38 v39 v73 v86 (hs.enter (.k (.k (.k (.k (.c (.k (.k (.c (.k (.k (.k (.k .nil))))))))))))) (Sr.own hs (.k (.k (.k (.k (.c (.k (.k (.c (.k (.k (.k (.k .nil)))))))))))) (i := 4) rfl osl_rsl (fun _ h => h.1) (Sr.own hs (.k (.k (.k (.k (.c (.k (.k (.c (.k (.k (.k (.k .nil)))))))))))) (i := 5) rfl osl_rsl (fun _ h => h.1) (Sr.own hs (.k (.k (.k (.k (.c (.k (.k (.c (.k (.k (.k (.k .nil)))))))))))) (i := 0) rfl osl_rsl (fun _ h => h.1) (Sr.nil _ _)))) hs87) (fun v w hR a hf => ?_)
                    obtain ⟨v88, v89, rfl, hs'⟩ := hR
                    replace hs := hs.step (.k (.k (.k (.k (.c (.k (.k (.c (.k (.k (.k (.k .nil)))))))))))) hs'
                    clear hs'
                    refine stq hf rfl rfl rfl (ex_move hf rfl) (fun a hf => ?_)
                    refine stq hf rfl rfl rfl (ex_extract hf rfl rfl) (fun a hf => ?_)
                    refine stq hf rfl rfl rfl (ex_extract hf rfl rfl) (fun a hf => ?_)
                    refine stq hf rfl rfl rfl (ex_assign hf rfl) (fun a hf => ?_)
                    refine stq hf rfl rfl rfl (ex_assign hf rfl) (fun a hf => ?_)
                    refine hK90 _ _ ?_
                    refine seq_n (fun Q91 hN91 hR91 hX91 => ?_)
                    refine bnd H (fun x92 H92 HO92 => ?_)
                    clear H
                    refine seq_cut (fun a w => Fr a 152 [(3, .int .u8 a3), (9, .pointer (some ⟨b5, 0, none⟩)), (10, .pointer (some ⟨b37, 0, none⟩)), (12, .pointer (some ⟨b55, 0, none⟩)), (14, .int .i64 y76), (15, v89), (84, .bool x92)] ∧ St M w0 w [bx b5 27 [v3, v4, .int .i64 s2.2.2], osl K_api_HeatDomain v3 s2.1, osl K_api_HeatLink v4 s2.2.1, bx b37 64 [v38, v39, .int .i64 c9.2.2.1, v88, .int .i64 s87.1], osl K_api_HeatDomain v38 c9.1, osl K_api_HeatLink v39 c9.2.1, osl K_int64 v88 s87.2.1, bx b55 64 [v56, v57, .int .i64 c45.2.2.1, v58, .int .i64 c45.2.2.2.2], osl K_api_HeatDomain v56 c45.1, osl K_api_HeatLink v57 c45.2.1, osl K_int64 v58 c45.2.2.2.1, osl K_int64 v89 s87.2.2.1]) (fun Q92 hJ92 hR92 hX92 => ?_) (fun a w hJ => ?_)
                    · replace H := H92
                      refine itt H (fun hc93 H => ?_) (fun hc93 H => ?_)
                      · -- s87.2.2.2 = 0
                        refine region_k (fun K94 hK94 => ?_)
                        refine stq hf rfl rfl rfl (ex_move hf rfl) (fun a hf => ?_)
                        refine stq hf rfl rfl rfl (ex_neq hf rfl rfl) (fun a hf => ?_)
                        refine stq hf rfl rfl rfl (ex_move hf rfl) (fun a hf => ?_)
                        replace hf := hf.castB (t := 76) rfl (ndec_f hc93)
                        replace hf := hf.castB (t := 77) rfl (ndec_f hc93)
                        refine stq hf rfl rfl rfl (ex_move hf rfl) (fun a hf => ?_)
                        refine stq hf rfl rfl rfl (ex_lenS Try.underlying35 (rsl_isSl (osl_rsl _ (hs.get (i := 2) rfl))) hf rfl) (fun a hf => ?_)
                        refine stq hf rfl rfl rfl (ex_fieldAddrB fa_27_0 rfl hf rfl) (fun a hf => ?_)
                        refine stq hf rfl rfl rfl (ex_load sc_22 hf rfl (bx_cell (hs.get (i := 4) rfl) _ rfl)) (fun a hf => ?_)
                        refine stq hf rfl rfl rfl (ex_lenS Try.underlying22 (rsl_isSl (osl_rsl _ (hs.get (i := 5) rfl))) hf rfl) (fun a hf => ?_)
                        refine stq hf rfl rfl rfl (ex_neq hf rfl rfl) (fun a hf => ?_)
                        refine stq hf rfl rfl rfl (ex_pickF hf rfl rfl) (fun a hf => ?_)
                        refine hK94 _ _ ?_
                        replace hs := hs.keep (.k (.k (.k (.d (.k (.k (.k (.k (.k (.k (.k (.k (.k .nil)))))))))))))
                        replace hs := hs.pick (.k (.k (.c (.k (.k (.k (.k (.k (.k (.k (.k (.k .nil))))))))))))
                        replace hs := hs.pick (.k (.k (.k (.k (.k (.k (.k (.k (.k (.k (.k (.c .nil))))))))))))
                        replace hs := hs.pick (.k (.k (.k (.k (.k (.k (.k (.k (.k (.k (.k (.c .nil))))))))))))
                        replace hs := hs.pick (.k (.k (.k (.k (.k (.k (.k (.k (.k (.k (.k (.c .nil))))))))))))
                        replace hs := hs.pick (.k (.k (.k (.k (.k (.k (.k (.k (.k (.k (.k (.c .nil))))))))))))
                        replace hs := hs.pick (.k (.k (.k (.k (.k (.k (.c (.k (.k (.k (.k (.k .nil))))))))))))
                        replace hs := hs.pick (.k (.k (.k (.k (.k (.k (.k (.k (.k (.k (.k (.c .nil))))))))))))
                        replace hs := hs.pick (.k (.k (.k (.k (.k (.k (.k (.k (.k (.k (.k (.c .nil))))))))))))
                        replace hs := hs.pick (.k (.k (.k (.k (.k (.k (.k (.k (.c (.k (.k (.k .nil))))))))))))
                        replace hs := hs.pick (.k (.k (.k (.k (.k (.k (.k (.k (.k (.k (.k (.c .nil))))))))))))
                        replace hs := hs.pick (.k (.k (.k (.k (.k (.k (.k (.k (.k (.k (.k (.c .nil))))))))))))
                        replace hs := hs.pick (.k (.k (.k (.k (.k (.k (.k (.k (.k (.k (.k (.c .nil))))))))))))
                        have e92 := some_eq H; subst e92
                        exact hJ92 _ _ ⟨hf.sub ⟨rfl, rfl, rfl, rfl, rfl, rfl, rfl, trivial⟩, hs⟩
                      · -- not s87.2.2.2 = 0
                        refine region_k (fun K95 hK95 => ?_)
                        refine stq hf rfl rfl rfl (ex_move hf rfl) (fun a hf => ?_)
                        refine stq hf rfl rfl rfl (ex_neq hf rfl rfl) (fun a hf => ?_)
                        refine stq hf rfl rfl rfl (ex_move hf rfl) (fun a hf => ?_)
                        replace hf := hf.castB (t := 76) rfl (ndec_t hc93)
                        replace hf := hf.castB (t := 77) rfl (ndec_t hc93)
                        refine stepN hf rfl rfl rfl (fun a hf => ?_)
                        refine stepN hf rfl rfl rfl (fun a hf => ?_)
                        refine stepN hf rfl rfl rfl (fun a hf => ?_)
                        refine stepN hf rfl rfl rfl (fun a hf => ?_)
                        refine stepN hf rfl rfl rfl (fun a hf => ?_)
                        refine stepN hf rfl rfl rfl (fun a hf => ?_)
                        refine stq hf rfl rfl rfl (ex_pickT hf rfl rfl) (fun a hf => ?_)
                        refine hK95 _ _ ?_
                        replace hs := hs.keep (.k (.k (.k (.d (.k (.k (.k (.k (.k (.k (.k (.k (.k .nil)))))))))))))
                        replace hs := hs.pick (.k (.k (.c (.k (.k (.k (.k (.k (.k (.k (.k (.k .nil))))))))))))
                        replace hs := hs.pick (.k (.k (.k (.k (.k (.k (.k (.k (.k (.k (.k (.c .nil))))))))))))
                        replace hs := hs.pick (.k (.k (.k (.k (.k (.k (.k (.k (.k (.k (.k (.c .nil))))))))))))
                        replace hs := hs.pick (.k (.k (.k (.k (.k (.k (.k (.k (.k (.k (.k (.c .nil))))))))))))
                        replace hs := hs.pick (.k (.k (.k (.k (.k (.k (.k (.k (.k (.k (.k (.c .nil))))))))))))
                        replace hs := hs.pick (.k (.k (.k (.k (.k (.k (.c (.k (.k (.k (.k (.k .nil))))))))))))
                        replace hs := hs.pick (.k (.k (.k (.k (.k (.k (.k (.k (.k (.k (.k (.c .nil))))))))))))
                        replace hs := hs.pick (.k (.k (.k (.k (.k (.k (.k (.k (.k (.k (.k (.c .nil))))))))))))
                        replace hs := hs.pick (.k (.k (.k (.k (.k (.k (.k (.k (.c (.k (.k (.k .nil))))))))))))
                        replace hs := hs.pick (.k (.k (.k (.k (.k (.k (.k (.k (.k (.k (.k (.c .nil))))))))))))
                        replace hs := hs.pick (.k (.k (.k (.k (.k (.k (.k (.k (.k (.k (.k (.c .nil))))))))))))
                        replace hs := hs.pick (.k (.k (.k (.k (.k (.k (.k (.k (.k (.k (.k (.c .nil))))))))))))
                        have e92 := some_eq H; subst e92
                        exact hJ92 _ _ ⟨hf.sub ⟨rfl, rfl, rfl, rfl, rfl, rfl, rfl, trivial⟩, hs⟩
                    · obtain ⟨hf, hs⟩ := hJ
                      replace H := HO92
                      clear HO92
                      refine itt H (fun hc96 H => ?_) (fun hc96 H => ?_)
                      · -- x92 = true
                        replace hf := hf.castB (t := 84) rfl hc96
                        refine cond_T hf rfl ?_
                        refine seq_reg (fun K97 hK97 => ?_)
                        refine stq hf rfl rfl rfl (ex_assign hf rfl) (fun a hf => ?_)
                        refine hK97 _ _ ?_
                        refine wp_ret ?_
                        refine hR91 _ _ ?_
                        refine hR84 _ _ ?_
                        have e82 := some_eq H; subst e82; replace H := el_rt HO82
                        refine hR82 _ _ ?_
                        refine hR78 _ _ ?_
                        refine hR72 _ _ ?_
                        have e69 := some_eq H; subst e69; replace H := el_rt HO69
                        refine hR69 _ _ ?_
                        have eR := some_eq H; subst eR
                        replace hs := hs.keep (.d (.d (.d (.d (.d (.d (.d (.d (.d (.d (.d (.d .nil))))))))))))
                        exact ret1 Try.results7 hf rfl ⟨_, rfl, ⟨rfl, hs⟩⟩
                      · -- not x92 = true
                        replace hf := hf.castB (t := 84) rfl (bool_f hc96)
                        refine cond_F hf rfl ?_
                        refine wp_skip ?_
                        refine hN91 _ _ ?_
                        refine seq_reg (fun K98 hK98 => ?_)
                        refine stq hf rfl rfl rfl (ex_assign hf rfl) (fun a hf => ?_)
                        refine hK98 _ _ ?_
                        refine block_k (fun Q99 hN99 hR99 hX99 hY99 => ?_)
                        refine loop_k (fun n a w => ∃ (y100 : Int), Fr a 152 [(3, .int .u8 a3), (9, .pointer (some ⟨b5, 0, none⟩)), (10, .pointer (some ⟨b37, 0, none⟩)), (12, .pointer (some ⟨b55, 0, none⟩)), (14, .int .i64 y76), (15, v89), (17, .int .i64 y100)] ∧ St M w0 w [bx b5 27 [v3, v4, .int .i64 s2.2.2], osl K_api_HeatDomain v3 s2.1, osl K_api_HeatLink v4 s2.2.1, bx b37 64 [v38, v39, .int .i64 c9.2.2.1, v88, .int .i64 s87.1], osl K_api_HeatDomain v38 c9.1, osl K_api_HeatLink v39 c9.2.1, osl K_int64 v88 s87.2.1, bx b55 64 [v56, v57, .int .i64 c45.2.2.1, v58, .int .i64 c45.2.2.2.2], osl K_api_HeatDomain v56 c45.1, osl K_api_HeatLink v57 c45.2.1, osl K_int64 v58 c45.2.2.2.1, osl K_int64 v89 s87.2.2.1] ∧ law38_HeatEquilibrium.l2 n s87 s2 y100 = some x82) k78 ?_ (fun n102 a w hI Q102 hL102 hR102 hX102 => ?_)
                        · -- at the start
                          exact ⟨0, hf.sub ⟨rfl, rfl, rfl, rfl, rfl, rfl, rfl, trivial⟩, hs, H⟩
                        · obtain ⟨y100, hf, hs, H⟩ := hI
                          cases n102 with
                          | zero => exact absurd H (by rw [law38_HeatEquilibrium.l2.eq_1]; intro h; cases h)
                          | succ k102 =>
                            replace H := (law38_HeatEquilibrium.l2.eq_2 ..).symm.trans H
                            refine seq_n (fun Q103 hN103 hR103 hX103 => ?_)
                            refine seq_reg (fun K104 hK104 => ?_)
                            refine stq hf rfl rfl rfl (ex_move hf rfl) (fun a hf => ?_)
                            refine stq hf rfl rfl rfl (ex_move hf rfl) (fun a hf => ?_)
                            refine stq hf rfl rfl rfl (ex_lenS Try.underlying35 (rsl_isSl (osl_rsl _ (hs.get (i := 11) rfl))) hf rfl) (fun a hf => ?_)
                            refine stq hf rfl rfl rfl (ex_lss hf rfl rfl) (fun a hf => ?_)
                            refine hK104 _ _ ?_
                            refine itt H (fun hc105 H => ?_) (fun hc105 H => ?_)
                            · -- y100 < (s87.2.2.1.length : Int)
                              replace hf := hf.castB (t := 88) rfl (dec_t hc105)
                              refine cond_T hf rfl ?_
                              refine wp_skip ?_
                              refine hN103 _ _ ?_
                              refine seq_n (fun Q106 hN106 hR106 hX106 => ?_)
                              refine block_k (fun Q107 hN107 hR107 hX107 hY107 => ?_)
                              refine seq_n (fun Q108 hN108 hR108 hX108 => ?_)
                              refine ck_some H (fun hc109 H => ?_)
                              refine region_d fol 7 [(3, .int .u8 a3), (9, .pointer (some ⟨b5, 0, none⟩)), (10, .pointer (some ⟨b37, 0, none⟩)), (12, .pointer (some ⟨b55, 0, none⟩)), (14, .int .i64 y76), (15, v89), (17, .int .i64 y100)] [(0, v89), (1, .int .i64 y100), (2, .pointer (some (sla v89 (y100.toNat * 1)))), (3, .int .i64 (gd 0 s87.2.2.1 y100)), (4, .pointer (some ⟨b5, 2, none⟩)), (5, .int .i64 s2.2.2), (6, .bool (!decide ((gd 0 s87.2.2.1 y100) = s2.2.2)))] [] (fun w => (osl K_int64 v89 s87.2.2.1).ok w ∧ (bx b5 27 [v3, v4, .int .i64 s2.2.2]).ok w ∧ True) (fun w => St M w0 w [bx b5 27 [v3, v4, .int .i64 s2.2.2], osl K_api_HeatDomain v3 s2.1, osl K_api_HeatLink v4 s2.2.1, bx b37 64 [v38, v39, .int .i64 c9.2.2.1, v88, .int .i64 s87.1], osl K_api_HeatDomain v38 c9.1, osl K_api_HeatLink v39 c9.2.1, osl K_int64 v88 s87.2.1, bx b55 64 [v56, v57, .int .i64 c45.2.2.1, v58, .int .i64 c45.2.2.2.2], osl K_api_HeatDomain v56 c45.1, osl K_api_HeatLink v57 c45.2.1, osl K_int64 v58 c45.2.2.2.1, osl K_int64 v89 s87.2.2.1]) hf ⟨rfl, rfl, rfl, rfl, rfl, rfl, rfl, trivial⟩ (by kernel_rfl) (by kernel_rfl) rfl (by decide) ⟨hs.drew.get (i := 11) rfl, hs.drew.get (i := 0) rfl, trivial⟩ hs.drew (.cons (⟨_, _, rfl, rfl, rfl, rfl, fun a w hR hf => .inl ⟨wanted_yes hf rfl, ex_move hf rfl⟩⟩) (.cons (⟨_, _, rfl, rfl, rfl, rfl, fun a w hR hf => .inl ⟨wanted_yes hf rfl, ex_move hf rfl⟩⟩) (.cons (⟨_, _, rfl, rfl, rfl, rfl, fun a w hR hf => .inl ⟨wanted_yes hf rfl, ex_indexAddr sa_35 (rsl_isSl (osl_rsl _ hR.1)) hc109.1 hc109.2 hf rfl rfl⟩⟩) (.cons (⟨_, _, rfl, rfl, rfl, rfl, fun a w hR hf => .inl ⟨wanted_yes hf rfl, ex_load sc_2 hf rfl (el_cell (K := K_int64) (f := 0) (rsl_rd (osl_rsl _ hR.1)) hc109.1 hc109.2 rfl)⟩⟩) (.cons (⟨_, _, rfl, rfl, rfl, rfl, fun a w hR hf => .inl ⟨wanted_yes hf rfl, ex_fieldAddrB fa_27_2 rfl hf rfl⟩⟩) (.cons (⟨_, _, rfl, rfl, rfl, rfl, fun a w hR hf => .inl ⟨wanted_yes hf rfl, ex_load sc_2 hf rfl (bx_cell (hR.2.1) _ rfl)⟩⟩) (.cons (⟨_, _, rfl, rfl, rfl, rfl, fun a w hR hf => .inl ⟨wanted_yes hf rfl, ex_neq hf rfl rfl⟩⟩) (.nil)))))))) (fun K110 hK110 => ?_)
                              refine RW.zero (by kernel_rfl) (by kernel_rfl) [(3, .int .u8 a3), (9, .pointer (some ⟨b5, 0, none⟩)), (10, .pointer (some ⟨b37, 0, none⟩)), (12, .pointer (some ⟨b55, 0, none⟩)), (14, .int .i64 y76), (15, v89), (17, .int .i64 y100), (97, .bool (!decide ((gd 0 s87.2.2.1 y100) = s2.2.2)))] ⟨rfl, rfl, rfl, rfl, rfl, rfl, rfl, rfl, trivial⟩ (fun a w hR hs hf => ?_)
                              refine hK110 _ _ ?_
                              refine hN108 _ _ ?_
                              refine itt H (fun hc111 H => ?_) (fun hc111 H => ?_)
                              · -- (gd 0 s87.2.2.1 y100) = s2.2.2
                                replace hf := hf.castB (t := 97) rfl (ndec_f hc111)
                                refine cond_F hf rfl ?_
                                refine wp_skip ?_
                                refine hN107 _ _ ?_
                                refine hN106 _ _ ?_
                                refine region_k (fun K112 hK112 => ?_)
                                refine stq hf rfl rfl rfl (ex_move hf rfl) (fun a hf => ?_)
                                refine stq hf rfl rfl rfl (ex_add hf rfl rfl) (fun a hf => ?_)
                                refine stq hf rfl rfl rfl (ex_assign hf rfl) (fun a hf => ?_)
                                refine hK112 _ _ ?_
                                exact hL102 k102 _ _ (Nat.lt_succ_self _) ⟨(IntKind.i64.wrap (y100 + 1)), hf.sub ⟨rfl, rfl, rfl, rfl, rfl, rfl, rfl, trivial⟩, hs, H⟩
                              · -- not (gd 0 s87.2.2.1 y100) = s2.2.2
                                replace hf := hf.castB (t := 97) rfl (ndec_t hc111)
                                refine cond_T hf rfl ?_
                                refine seq_reg (fun K113 hK113 => ?_)
                                refine stq hf rfl rfl rfl (ex_assign hf rfl) (fun a hf => ?_)
                                refine hK113 _ _ ?_
                                refine wp_ret ?_
                                refine hR107 _ _ ?_
                                refine hR106 _ _ ?_
                                refine hR102 _ _ ?_
                                refine hR99 _ _ ?_
                                refine hR84 _ _ ?_
                                have e82 := some_eq H; subst e82; replace H := el_rt HO82
                                refine hR82 _ _ ?_
                                refine hR78 _ _ ?_
                                refine hR72 _ _ ?_
                                have e69 := some_eq H; subst e69; replace H := el_rt HO69
                                refine hR69 _ _ ?_
                                have eR := some_eq H; subst eR
                                replace hs := hs.keep (.d (.d (.d (.d (.d (.d (.d (.d (.d (.d (.d (.d .nil))))))))))))
                                exact ret1 Try.results7 hf rfl ⟨_, rfl, ⟨rfl, hs⟩⟩
                            · -- not y100 < (s87.2.2.1.length : Int)
                              replace hf := hf.castB (t := 88) rfl (dec_f hc105)
                              refine cond_F hf rfl ?_
                              refine wp_exit ?_
                              refine hX103 2 _ _ ?_
                              refine hX102 2 _ _ ?_
                              refine hX99 _ _ ?_
                              refine hN84 _ _ ?_
                              replace hs := hs.keep (.k (.k (.k (.k (.k (.k (.k (.k (.k (.k (.k (.d .nil))))))))))))
                              have e82 := some_eq H; subst e82
                              exact hJ82 _ _ ⟨_, v88, rfl, hf.sub ⟨rfl, rfl, rfl, rfl, rfl, trivial⟩, hs⟩
                  · obtain ⟨x82s, v83, rfl, hf, hs⟩ := hJ
                    replace H := el_go HO82
                    clear HO82
                    refine region_k (fun K114 hK114 => ?_)
                    refine stq hf rfl rfl rfl (ex_move hf rfl) (fun a hf => ?_)
                    refine stq hf rfl rfl rfl (ex_add hf rfl rfl) (fun a hf => ?_)
                    refine stq hf rfl rfl rfl (ex_assign hf rfl) (fun a hf => ?_)
                    refine hK114 _ _ ?_
                    exact hL78 k78 _ _ (Nat.lt_succ_self _) ⟨x82s.1, x82s.2, (IntKind.i64.wrap (y76 + 1)), v83, hf.sub ⟨rfl, rfl, rfl, rfl, rfl, trivial⟩, hs, H⟩
                · -- not y76 < 5
                  replace hf := hf.castB (t := 63) rfl (dec_f hc81)
                  refine cond_F hf rfl ?_
                  refine wp_exit ?_
                  refine hX79 0 _ _ ?_
                  refine hX78 0 _ _ ?_
                  refine hX72 _ _ ?_
                  have e69 := some_eq H; subst e69
                  exact hJ69 _ _ ⟨_, v73, rfl, hf.sub ⟨rfl, rfl, rfl, rfl, trivial⟩, hs⟩
          · obtain ⟨x69s, v70, rfl, hf, hs⟩ := hJ
            replace H := el_go HO69
            clear HO69
            refine seq_reg (fun K115 hK115 => ?_)
            refine stq hf rfl rfl rfl (ex_move hf rfl) (fun a hf => ?_)
            refine stq hf rfl rfl rfl (ex_rem hf rfl rfl (by decide)) (fun a hf => ?_)
            refine stq hf rfl rfl rfl (ex_conv Try.underlying5 Try.underlying2 hf rfl) (fun a hf => ?_)
            refine stq hf rfl rfl rfl (ex_assign hf rfl) (fun a hf => ?_)
            refine hK115 _ _ ?_
            refine ck_some H (fun hc116 H => ?_)
            refine seq_reg (fun K118 hK118 => ?_)
            refine stq hf rfl rfl rfl (ex_move hf rfl) (fun a hf => ?_)
            refine stq hf rfl rfl rfl (ex_fieldAddrB fa_27_0 rfl hf rfl) (fun a hf => ?_)
            refine stq hf rfl rfl rfl (ex_load sc_22 hf rfl (bx_cell (hs.get (i := 0) rfl) _ rfl)) (fun a hf => ?_)
            refine stq hf rfl rfl rfl (ex_indexAddr sa_22 (rsl_isSl (osl_rsl _ (hs.get (i := 1) rfl))) hc116.1 hc116.2 hf rfl rfl) (fun a hf => ?_)
            refine stq hf rfl rfl rfl (ex_fieldAddrS fa_34_1 rfl hf rfl) (fun a hf => ?_)
            refine stq hf rfl rfl rfl (ex_load sc_2 hf rfl (el_cell (K := K_api_HeatDomain) (f := 1) (rsl_rd (osl_rsl _ (hs.get (i := 1) rfl))) hc116.1 hc116.2 rfl)) (fun a hf => ?_)
            refine stq hf rfl rfl rfl (ex_mul hf rfl rfl) (fun a hf => ?_)
            refine stepV hf rfl rfl rfl (er_buildSlice (K := K_int64) (xs := [(IntKind.i64.wrap ((IntKind.i64.wrap (Int.tmod a3 8)) * ((gd HeatDomain.zero s2.1 0).Ambient)))]) hs Try.underlying35 ep_2 rfl rfl hf rfl (.cons rfl .nil) rfl rfl) (fun v117 w hs a hf => ?_)
            refine stq hf rfl rfl rfl (ex_assign hf rfl) (fun a hf => ?_)
            refine hK118 _ _ ?_
            refine bnd H (fun x119 H119 HO119 => ?_)
            clear H
            refine seq_cut (fun a w => ∃ (x119s : (List Int) × Int) (v120 : Value), x119 = .go x119s ∧ Fr a 152 [(9, .pointer (some ⟨b5, 0, none⟩)), (10, .pointer (some ⟨b37, 0, none⟩)), (12, .pointer (some ⟨b55, 0, none⟩)), (18, .int .i64 (IntKind.i64.wrap (Int.tmod a3 8))), (19, v117)] ∧ St M w0 w [bx b5 27 [v3, v4, .int .i64 s2.2.2], osl K_api_HeatDomain v3 s2.1, osl K_api_HeatLink v4 s2.2.1, bx b37 64 [v38, v39, .int .i64 c9.2.2.1, v70, .int .i64 x69s.2], osl K_api_HeatDomain v38 c9.1, osl K_api_HeatLink v39 c9.2.1, osl K_int64 v70 x69s.1, bx b55 64 [v56, v57, .int .i64 c45.2.2.1, v120, .int .i64 x119s.2], osl K_api_HeatDomain v56 c45.1, osl K_api_HeatLink v57 c45.2.1, osl K_int64 v120 x119s.1, osl K_int64 v117 [(IntKind.i64.wrap ((IntKind.i64.wrap (Int.tmod a3 8)) * ((gd HeatDomain.zero s2.1 0).Ambient)))]]) (fun Q119 hJ119 hR119 hX119 => ?_) (fun a w hJ => ?_)
            · replace H := H119
              refine seq_reg (fun K121 hK121 => ?_)
              refine stq hf rfl rfl rfl (ex_move hf rfl) (fun a hf => ?_)
              refine hK121 _ _ ?_
              refine block_k (fun Q122 hN122 hR122 hX122 hY122 => ?_)
              refine loop_k (fun n a w => ∃ (y124 : (List Int)) (y125 : Int) (y126 : Int) (v123 : Value), Fr a 152 [(9, .pointer (some ⟨b5, 0, none⟩)), (10, .pointer (some ⟨b37, 0, none⟩)), (12, .pointer (some ⟨b55, 0, none⟩)), (18, .int .i64 (IntKind.i64.wrap (Int.tmod a3 8))), (19, v117), (109, .int .i64 y126)] ∧ St M w0 w [bx b5 27 [v3, v4, .int .i64 s2.2.2], osl K_api_HeatDomain v3 s2.1, osl K_api_HeatLink v4 s2.2.1, bx b37 64 [v38, v39, .int .i64 c9.2.2.1, v70, .int .i64 x69s.2], osl K_api_HeatDomain v38 c9.1, osl K_api_HeatLink v39 c9.2.1, osl K_int64 v70 x69s.1, bx b55 64 [v56, v57, .int .i64 c45.2.2.1, v123, .int .i64 y125], osl K_api_HeatDomain v56 c45.1, osl K_api_HeatLink v57 c45.2.1, osl K_int64 v123 y124, osl K_int64 v117 [(IntKind.i64.wrap ((IntKind.i64.wrap (Int.tmod a3 8)) * ((gd HeatDomain.zero s2.1 0).Ambient)))]] ∧ law38_HeatEquilibrium.l3 n c45 s2 a3 y124 y125 y126 = some x119) k ?_ (fun n128 a w hI Q128 hL128 hR128 hX128 => ?_)
              · -- at the start
                replace hs := hs.pick (.k (.k (.k (.k (.k (.k (.k (.k (.k (.k (.k (.c .nil))))))))))))
                replace hs := hs.pick (.k (.k (.k (.k (.k (.k (.k (.k (.k (.k (.k (.c .nil))))))))))))
                replace hs := hs.pick (.k (.k (.k (.k (.k (.k (.k (.k (.k (.k (.k (.c .nil))))))))))))
                replace hs := hs.pick (.k (.k (.k (.k (.k (.k (.k (.k (.k (.k (.k (.c .nil))))))))))))
                replace hs := hs.pick (.k (.k (.k (.k (.k (.k (.k (.k (.k (.k (.k (.c .nil))))))))))))
                replace hs := hs.pick (.k (.k (.k (.k (.k (.k (.k (.k (.k (.k (.k (.c .nil))))))))))))
                replace hs := hs.pick (.k (.k (.k (.k (.k (.k (.k (.k (.k (.k (.k (.c .nil))))))))))))
                replace hs := hs.pick (.k (.k (.k (.k (.k (.k (.k (.k (.k (.k (.k (.c .nil))))))))))))
                replace hs := hs.pick (.k (.k (.k (.k (.k (.k (.k (.k (.k (.k (.k (.c .nil))))))))))))
                replace hs := hs.pick (.k (.k (.k (.k (.k (.k (.k (.k (.k (.k (.k (.c .nil))))))))))))
                replace hs := hs.pick (.k (.k (.k (.k (.k (.k (.k (.k (.k (.k (.k (.c .nil))))))))))))
                exact ⟨c45.2.2.2.1, c45.2.2.2.2, 0, v58, hf.sub ⟨rfl, rfl, rfl, rfl, rfl, rfl, trivial⟩, hs, H⟩
              · obtain ⟨y124, y125, y126, v123, hf, hs, H⟩ := hI
                cases n128 with
                | zero => exact absurd H (by rw [law38_HeatEquilibrium.l3.eq_1]; intro h; cases h)
                | succ k128 =>
                  replace H := (law38_HeatEquilibrium.l3.eq_2 ..).symm.trans H
                  refine seq_reg (fun K129 hK129 => ?_)
                  refine stq hf rfl rfl rfl (ex_lss hf rfl rfl) (fun a hf => ?_)
                  refine hK129 _ _ ?_
                  refine seq_n (fun Q130 hN130 hR130 hX130 => ?_)
                  refine itt H (fun hc131 H => ?_) (fun hc131 H => ?_)
                  · -- y126 < 2000
                    replace hf := hf.castB (t := 110) rfl (dec_t hc131)
                    refine cond_T hf rfl ?_
                    refine wp_skip ?_
                    refine hN130 _ _ ?_
                    refine seq_n (fun Q132 hN132 hR132 hX132 => ?_)
                    refine block_k (fun Q133 hN133 hR133 hX133 hY133 => ?_)
                    refine seq_n (fun Q134 hN134 hR134 hX134 => ?_)
                    refine seq_n (fun Q135 hN135 hR135 hX135 => ?_)
                    refine bnd H (fun s136 hs136 H => ?_)
                    refine region_d fol 7 [(9, .pointer (some ⟨b5, 0, none⟩)), (10, .pointer (some ⟨b37, 0, none⟩)), (12, .pointer (some ⟨b55, 0, none⟩)), (18, .int .i64 (IntKind.i64.wrap (Int.tmod a3 8))), (19, v117), (109, .int .i64 y126)] [(0, .pointer (some ⟨b55, 0, none⟩)), (2, .pointer (some ⟨b5, 2, none⟩)), (3, .int .i64 s2.2.2), (4, .int .i64 (IntKind.i64.wrap (Int.tmod a3 8))), (5, .int .i64 (IntKind.i64.wrap (s2.2.2 + (IntKind.i64.wrap (Int.tmod a3 8)))))] [1] (fun w => (bx b5 27 [v3, v4, .int .i64 s2.2.2]).ok w ∧ True) (fun w => St M w0 w [bx b5 27 [v3, v4, .int .i64 s2.2.2], osl K_api_HeatDomain v3 s2.1, osl K_api_HeatLink v4 s2.2.1, bx b37 64 [v38, v39, .int .i64 c9.2.2.1, v70, .int .i64 x69s.2], osl K_api_HeatDomain v38 c9.1, osl K_api_HeatLink v39 c9.2.1, osl K_int64 v70 x69s.1, bx b55 64 [v56, v57, .int .i64 c45.2.2.1, v123, .int .i64 y125], osl K_api_HeatDomain v56 c45.1, osl K_api_HeatLink v57 c45.2.1, osl K_int64 v123 y124, osl K_int64 v117 [(IntKind.i64.wrap ((IntKind.i64.wrap (Int.tmod a3 8)) * ((gd HeatDomain.zero s2.1 0).Ambient)))]]) hf ⟨rfl, rfl, rfl, rfl, rfl, rfl, trivial⟩ (by kernel_rfl) (by kernel_rfl) rfl (by decide) ⟨hs.drew.get (i := 0) rfl, trivial⟩ hs.drew (.cons (⟨_, _, rfl, rfl, rfl, rfl, fun a w hR hf => .inl ⟨wanted_yes hf rfl, ex_move hf rfl⟩⟩) (.cons (⟨_, _, rfl, rfl, rfl, rfl, fun a w hR hf => .inl ⟨wanted_yes hf rfl, ex_fieldAddrB fa_27_2 rfl hf rfl⟩⟩) (.cons (⟨_, _, rfl, rfl, rfl, rfl, fun a w hR hf => .inl ⟨wanted_yes hf rfl, ex_load sc_2 hf rfl (bx_cell (hR.1) _ rfl)⟩⟩) (.cons (⟨_, _, rfl, rfl, rfl, rfl, fun a w hR hf => .inl ⟨wanted_yes hf rfl, ex_move hf rfl⟩⟩) (.cons (⟨_, _, rfl, rfl, rfl, rfl, fun a w hR hf => .inl ⟨wanted_yes hf rfl, ex_add hf rfl rfl⟩⟩) (.nil)))))) (fun K137 hK137 => ?_)
                    refine RW.one 1 (by kernel_rfl) (by kernel_rfl) rfl (fun d hd => by cases hd; rfl) [(111, .pointer (some ⟨b55, 0, none⟩))] ⟨rfl, trivial⟩ (fun a w hR hs hf => ⟨wanted_yes hf rfl, ?_⟩)
                    refine estep_f (ex_call cf_24 hf rfl) (heat_Model_Temperature.calls k128 c45.1 c45.2.1 c45.2.2.1 y124 y125 0 b55 v56 v57 v123 (hs.enter (.k (.k (.k (.k (.k (.k (.k (.k (.k (.k (.k (.k .nil))))))))))))) (Sr.own hs (.k (.k (.k (.k (.k (.k (.k (.k (.k (.k (.k (.k .nil)))))))))))) (i := 7) rfl (fun _ h => h) (fun _ h => h) (Sr.own hs (.k (.k (.k (.k (.k (.k (.k (.k (.k (.k (.k (.k .nil)))))))))))) (i := 8) rfl osl_rsl (fun _ h => h.1) (Sr.own hs (.k (.k (.k (.k (.k (.k (.k (.k (.k (.k (.k (.k .nil)))))))))))) (i := 9) rfl osl_rsl (fun _ h => h.1) (Sr.own hs (.k (.k (.k (.k (.k (.k (.k (.k (.k (.k (.k (.k .nil)))))))))))) (i := 10) rfl osl_rsl (fun _ h => h.1) (Sr.nil _ _))))) hs136) (fun v w hR => ?_)
                    obtain ⟨rfl, hs'⟩ := hR
                    replace hs := hs.step (.k (.k (.k (.k (.k (.k (.k (.k (.k (.k (.k (.k .nil)))))))))))) hs'
                    clear hs'
                    refine ⟨[(6, .bool (decide (s136 = (IntKind.i64.wrap (s2.2.2 + (IntKind.i64.wrap (Int.tmod a3 8)))))))], [(6, .bool (decide (s136 = (IntKind.i64.wrap (s2.2.2 + (IntKind.i64.wrap (Int.tmod a3 8))))))), (1, .int .i64 s136), (0, .pointer (some ⟨b55, 0, none⟩)), (2, .pointer (some ⟨b5, 2, none⟩)), (3, .int .i64 s2.2.2), (4, .int .i64 (IntKind.i64.wrap (Int.tmod a3 8))), (5, .int .i64 (IntKind.i64.wrap (s2.2.2 + (IntKind.i64.wrap (Int.tmod a3 8)))))], [], (fun _ => True), (fun w => St M w0 w [bx b5 27 [v3, v4, .int .i64 s2.2.2], osl K_api_HeatDomain v3 s2.1, osl K_api_HeatLink v4 s2.2.1, bx b37 64 [v38, v39, .int .i64 c9.2.2.1, v70, .int .i64 x69s.2], osl K_api_HeatDomain v38 c9.1, osl K_api_HeatLink v39 c9.2.1, osl K_int64 v70 x69s.1, bx b55 64 [v56, v57, .int .i64 c45.2.2.1, v123, .int .i64 y125], osl K_api_HeatDomain v56 c45.1, osl K_api_HeatLink v57 c45.2.1, osl K_int64 v123 y124, osl K_int64 v117 [(IntKind.i64.wrap ((IntKind.i64.wrap (Int.tmod a3 8)) * ((gd HeatDomain.zero s2.1 0).Ambient)))]]), rfl, rfl, ⟨hs.get (i := 0) rfl, trivial⟩, trivial, hs, (by kernel_rfl), .cons (⟨_, _, rfl, rfl, rfl, rfl, fun a w hR hf => .inl ⟨wanted_yes hf rfl, ex_eql hf rfl rfl⟩⟩) (.nil), ?_⟩
                    refine RW.zero (by kernel_rfl) (by kernel_rfl) [(9, .pointer (some ⟨b5, 0, none⟩)), (10, .pointer (some ⟨b37, 0, none⟩)), (12, .pointer (some ⟨b55, 0, none⟩)), (18, .int .i64 (IntKind.i64.wrap (Int.tmod a3 8))), (19, v117), (109, .int .i64 y126), (117, .bool (decide (s136 = (IntKind.i64.wrap (s2.2.2 + (IntKind.i64.wrap (Int.tmod a3 8)))))))] ⟨rfl, rfl, rfl, rfl, rfl, rfl, rfl, trivial⟩ (fun a w hR hs hf => ?_)
                    refine hK137 _ _ ?_
                    refine hN135 _ _ ?_
                    refine itt H (fun hc138 H => ?_) (fun hc138 H => ?_)
                    · -- s136 = (IntKind.i64.wrap (s2.2.2 + (IntKind.i64.wrap (Int.tm
                      replace hf := hf.castB (t := 117) rfl (dec_t hc138)
                      refine cond_T hf rfl ?_
                      refine wp_exit ?_
                      refine hX134 4 _ _ ?_
                      refine hY133 4 _ _ (by decide) ?_
                      refine hX132 4 _ _ ?_
                      refine hX128 4 _ _ ?_
                      refine hX122 _ _ ?_
                      have e119 := some_eq H; subst e119
                      exact hJ119 _ _ ⟨_, v123, rfl, hf.sub ⟨rfl, rfl, rfl, rfl, rfl, trivial⟩, hs⟩
                    · -- not s136 = (IntKind.i64.wrap (s2.2.2 + (IntKind.i64.wrap (Int.tm
                      replace hf := hf.castB (t := 117) rfl (dec_f hc138)
                      refine cond_F hf rfl ?_
                      refine wp_skip ?_
                      refine hN134 _ _ ?_
                      refine bnd H (fun s139 hs139 H => ?_)
                      refine seq_reg (fun K142 hK142 => ?_)
                      refine stq hf rfl rfl rfl (ex_move hf rfl) (fun a hf => ?_)
                      refine stq hf rfl rfl rfl (ex_move hf rfl) (fun a hf => ?_)
                      refine stepF hf rfl rfl rfl (ex_call cf_15 hf rfl) (heat_Model_Step.calls k128 c45.1 c45.2.1 c45.2.2.1 y124 y125 [(IntKind.i64.wrap ((IntKind.i64.wrap (Int.tmod a3 8)) * ((gd HeatDomain.zero s2.1 0).Ambient)))] b55 v56 v57 v123 v117 (hs.enter (.k (.k (.k (.k (.k (.k (.k (.c (.k (.k (.c (.k .nil))))))))))))) (Sr.own hs (.k (.k (.k (.k (.k (.k (.k (.c (.k (.k (.c (.k .nil)))))))))))) (i := 7) rfl osl_rsl (fun _ h => h.1) (Sr.own hs (.k (.k (.k (.k (.k (.k (.k (.c (.k (.k (.c (.k .nil)))))))))))) (i := 8) rfl osl_rsl (fun _ h => h.1) (Sr.own hs (.k (.k (.k (.k (.k (.k (.k (.c (.k (.k (.c (.k .nil)))))))))))) (i := 9) rfl osl_rsl (fun _ h => h.1) (Sr.nil _ _)))) hs139) (fun v w hR a hf => ?_)
                      obtain ⟨v140, v141, rfl, hs'⟩ := hR
                      replace hs := hs.step (.k (.k (.k (.k (.k (.k (.k (.c (.k (.k (.c (.k .nil)))))))))))) hs'
                      clear hs'
                      refine stq hf rfl rfl rfl (ex_move hf rfl) (fun a hf => ?_)
                      refine stq hf rfl rfl rfl (ex_extract hf rfl rfl) (fun a hf => ?_)
                      refine stq hf rfl rfl rfl (ex_extract hf rfl rfl) (fun a hf => ?_)
                      refine stq hf rfl rfl rfl (ex_assign hf rfl) (fun a hf => ?_)
                      refine stq hf rfl rfl rfl (ex_assign hf rfl) (fun a hf => ?_)
                      refine hK142 _ _ ?_
                      refine seq_reg (fun K143 hK143 => ?_)
                      refine stq hf rfl rfl rfl (ex_move hf rfl) (fun a hf => ?_)
                      refine stq hf rfl rfl rfl (ex_neq hf rfl rfl) (fun a hf => ?_)
                      refine hK143 _ _ ?_
                      refine itt H (fun hc144 H => ?_) (fun hc144 H => ?_)
                      · -- s139.2.2.2 = 0
                        replace hf := hf.castB (t := 125) rfl (ndec_f hc144)
                        refine cond_F hf rfl ?_
                        refine wp_skip ?_
                        refine hN133 _ _ ?_
                        refine hN132 _ _ ?_
                        refine region_k (fun K145 hK145 => ?_)
                        refine stq hf rfl rfl rfl (ex_add hf rfl rfl) (fun a hf => ?_)
                        refine stq hf rfl rfl rfl (ex_move hf rfl) (fun a hf => ?_)
                        refine hK145 _ _ ?_
                        replace hs := hs.keep (.k (.k (.d (.k (.k (.k (.k (.k (.k (.k (.k (.k (.k .nil)))))))))))))
                        replace hs := hs.pick (.k (.k (.k (.k (.k (.k (.k (.k (.k (.k (.k (.c .nil))))))))))))
                        replace hs := hs.pick (.k (.k (.c (.k (.k (.k (.k (.k (.k (.k (.k (.k .nil))))))))))))
                        replace hs := hs.pick (.k (.k (.k (.k (.k (.k (.k (.k (.k (.k (.k (.c .nil))))))))))))
                        replace hs := hs.pick (.k (.k (.k (.k (.k (.k (.k (.k (.k (.k (.k (.c .nil))))))))))))
                        replace hs := hs.pick (.k (.k (.k (.k (.c (.k (.k (.k (.k (.k (.k (.k .nil))))))))))))
                        replace hs := hs.pick (.k (.k (.k (.k (.k (.k (.k (.k (.k (.k (.k (.c .nil))))))))))))
                        replace hs := hs.pick (.k (.k (.k (.k (.k (.k (.k (.k (.k (.k (.k (.c .nil))))))))))))
                        replace hs := hs.pick (.k (.k (.k (.k (.k (.k (.k (.k (.k (.k (.k (.c .nil))))))))))))
                        replace hs := hs.pick (.k (.k (.k (.k (.k (.k (.k (.k (.k (.k (.k (.c .nil))))))))))))
                        replace hs := hs.pick (.k (.k (.k (.k (.k (.k (.k (.k (.k (.k (.k (.c .nil))))))))))))
                        replace hs := hs.pick (.k (.k (.k (.k (.k (.k (.k (.k (.k (.k (.k (.c .nil))))))))))))
                        replace hs := hs.pick (.k (.k (.k (.k (.k (.k (.k (.k (.k (.k (.k (.c .nil))))))))))))
                        exact hL128 k128 _ _ (Nat.lt_succ_self _) ⟨s139.2.1, s139.1, (IntKind.i64.wrap (y126 + 1)), v140, hf.sub ⟨rfl, rfl, rfl, rfl, rfl, rfl, trivial⟩, hs, H⟩
                      · -- not s139.2.2.2 = 0
                        replace hf := hf.castB (t := 125) rfl (ndec_t hc144)
                        refine cond_T hf rfl ?_
                        refine seq_reg (fun K146 hK146 => ?_)
                        refine stq hf rfl rfl rfl (ex_assign hf rfl) (fun a hf => ?_)
                        refine hK146 _ _ ?_
                        refine wp_ret ?_
                        refine hR133 _ _ ?_
                        refine hR132 _ _ ?_
                        refine hR128 _ _ ?_
                        refine hR122 _ _ ?_
                        have e119 := some_eq H; subst e119; replace H := el_rt HO119
                        refine hR119 _ _ ?_
                        have eR := some_eq H; subst eR
                        replace hs := hs.keep (.d (.d (.d (.d (.d (.d (.d (.d (.d (.d (.d (.d (.d .nil)))))))))))))
                        exact ret1 Try.results7 hf rfl ⟨_, rfl, ⟨rfl, hs⟩⟩
                  · -- not y126 < 2000
                    replace hf := hf.castB (t := 110) rfl (dec_f hc131)
                    refine cond_F hf rfl ?_
                    refine wp_exit ?_
                    refine hX130 4 _ _ ?_
                    refine hX128 4 _ _ ?_
                    refine hX122 _ _ ?_
                    have e119 := some_eq H; subst e119
                    exact hJ119 _ _ ⟨_, v123, rfl, hf.sub ⟨rfl, rfl, rfl, rfl, rfl, trivial⟩, hs⟩
            · obtain ⟨x119s, v120, rfl, hf, hs⟩ := hJ
              replace H := el_go HO119
              clear HO119
              refine bnd H (fun x147 H147 HO147 => ?_)
              clear H
              refine seq_cut (fun a w => ∃ (x147s : Unit), x147 = .go x147s ∧ Fr a 152 [(10, .pointer (some ⟨b37, 0, none⟩))] ∧ St M w0 w [bx b37 64 [v38, v39, .int .i64 c9.2.2.1, v70, .int .i64 x69s.2], osl K_api_HeatDomain v38 c9.1, osl K_api_HeatLink v39 c9.2.1, osl K_int64 v70 x69s.1]) (fun Q147 hJ147 hR147 hX147 => ?_) (fun a w hJ => ?_)
              · replace H := H147
                refine seq_reg (fun K148 hK148 => ?_)
                refine stq hf rfl rfl rfl (ex_assign hf rfl) (fun a hf => ?_)
                refine hK148 _ _ ?_
                refine block_k (fun Q149 hN149 hR149 hX149 hY149 => ?_)
                refine loop_k (fun n a w => ∃ (y151 : (List Int)) (y152 : Int) (y153 : Int) (v150 : Value), Fr a 152 [(9, .pointer (some ⟨b5, 0, none⟩)), (10, .pointer (some ⟨b37, 0, none⟩)), (12, .pointer (some ⟨b55, 0, none⟩)), (18, .int .i64 (IntKind.i64.wrap (Int.tmod a3 8))), (19, v117), (22, .int .i64 y153)] ∧ St M w0 w [bx b5 27 [v3, v4, .int .i64 s2.2.2], osl K_api_HeatDomain v3 s2.1, osl K_api_HeatLink v4 s2.2.1, bx b37 64 [v38, v39, .int .i64 c9.2.2.1, v70, .int .i64 x69s.2], osl K_api_HeatDomain v38 c9.1, osl K_api_HeatLink v39 c9.2.1, osl K_int64 v70 x69s.1, bx b55 64 [v56, v57, .int .i64 c45.2.2.1, v150, .int .i64 y152], osl K_api_HeatDomain v56 c45.1, osl K_api_HeatLink v57 c45.2.1, osl K_int64 v150 y151, osl K_int64 v117 [(IntKind.i64.wrap ((IntKind.i64.wrap (Int.tmod a3 8)) * ((gd HeatDomain.zero s2.1 0).Ambient)))]] ∧ law38_HeatEquilibrium.l4 n c45 s2 a3 y151 y152 y153 = some x147) k ?_ (fun n155 a w hI Q155 hL155 hR155 hX155 => ?_)
                · -- at the start
                  exact ⟨x119s.1, x119s.2, 0, v120, hf.sub ⟨rfl, rfl, rfl, rfl, rfl, rfl, trivial⟩, hs, H⟩
                · obtain ⟨y151, y152, y153, v150, hf, hs, H⟩ := hI
                  cases n155 with
                  | zero => exact absurd H (by rw [law38_HeatEquilibrium.l4.eq_1]; intro h; cases h)
                  | succ k155 =>
                    replace H := (law38_HeatEquilibrium.l4.eq_2 ..).symm.trans H
                    refine seq_n (fun Q156 hN156 hR156 hX156 => ?_)
                    refine seq_reg (fun K157 hK157 => ?_)
                    refine stq hf rfl rfl rfl (ex_move hf rfl) (fun a hf => ?_)
                    refine stq hf rfl rfl rfl (ex_lss hf rfl rfl) (fun a hf => ?_)
                    refine hK157 _ _ ?_
                    refine itt H (fun hc158 H => ?_) (fun hc158 H => ?_)
                    · -- y153 < 5
                      replace hf := hf.castB (t := 128) rfl (dec_t hc158)
                      refine cond_T hf rfl ?_
                      refine wp_skip ?_
                      refine hN156 _ _ ?_
                      refine seq_n (fun Q159 hN159 hR159 hX159 => ?_)
                      refine block_k (fun Q160 hN160 hR160 hX160 hY160 => ?_)
                      refine seq_n (fun Q161 hN161 hR161 hX161 => ?_)
                      refine seq_n (fun Q162 hN162 hR162 hX162 => ?_)
                      refine bnd H (fun s163 hs163 H => ?_)
                      refine region_d fol 7 [(9, .pointer (some ⟨b5, 0, none⟩)), (10, .pointer (some ⟨b37, 0, none⟩)), (12, .pointer (some ⟨b55, 0, none⟩)), (18, .int .i64 (IntKind.i64.wrap (Int.tmod a3 8))), (19, v117), (22, .int .i64 y153)] [(0, .pointer (some ⟨b55, 0, none⟩)), (2, .pointer (some ⟨b5, 2, none⟩)), (3, .int .i64 s2.2.2), (4, .int .i64 (IntKind.i64.wrap (Int.tmod a3 8))), (5, .int .i64 (IntKind.i64.wrap (s2.2.2 + (IntKind.i64.wrap (Int.tmod a3 8)))))] [1] (fun w => (bx b5 27 [v3, v4, .int .i64 s2.2.2]).ok w ∧ True) (fun w => St M w0 w [bx b5 27 [v3, v4, .int .i64 s2.2.2], osl K_api_HeatDomain v3 s2.1, osl K_api_HeatLink v4 s2.2.1, bx b37 64 [v38, v39, .int .i64 c9.2.2.1, v70, .int .i64 x69s.2], osl K_api_HeatDomain v38 c9.1, osl K_api_HeatLink v39 c9.2.1, osl K_int64 v70 x69s.1, bx b55 64 [v56, v57, .int .i64 c45.2.2.1, v150, .int .i64 y152], osl K_api_HeatDomain v56 c45.1, osl K_api_HeatLink v57 c45.2.1, osl K_int64 v150 y151, osl K_int64 v117 [(IntKind.i64.wrap ((IntKind.i64.wrap (Int.tmod a3 8)) * ((gd HeatDomain.zero s2.1 0).Ambient)))]]) hf ⟨rfl, rfl, rfl, rfl, rfl, rfl, trivial⟩ (by kernel_rfl) (by kernel_rfl) rfl (by decide) ⟨hs.drew.get (i := 0) rfl, trivial⟩ hs.drew (.cons (⟨_, _, rfl, rfl, rfl, rfl, fun a w hR hf => .inl ⟨wanted_yes hf rfl, ex_move hf rfl⟩⟩) (.cons (⟨_, _, rfl, rfl, rfl, rfl, fun a w hR hf => .inl ⟨wanted_yes hf rfl, ex_fieldAddrB fa_27_2 rfl hf rfl⟩⟩) (.cons (⟨_, _, rfl, rfl, rfl, rfl, fun a w hR hf => .inl ⟨wanted_yes hf rfl, ex_load sc_2 hf rfl (bx_cell (hR.1) _ rfl)⟩⟩) (.cons (⟨_, _, rfl, rfl, rfl, rfl, fun a w hR hf => .inl ⟨wanted_yes hf rfl, ex_move hf rfl⟩⟩) (.cons (⟨_, _, rfl, rfl, rfl, rfl, fun a w hR hf => .inl ⟨wanted_yes hf rfl, ex_add hf rfl rfl⟩⟩) (.nil)))))) (fun K164 hK164 => ?_)
                      refine RW.one 1 (by kernel_rfl) (by kernel_rfl) rfl (fun d hd => by cases hd; rfl) [(131, .pointer (some ⟨b55, 0, none⟩))] ⟨rfl, trivial⟩ (fun a w hR hs hf => ⟨wanted_yes hf rfl, ?_⟩)
                      refine estep_f (ex_call cf_24 hf rfl) (heat_Model_Temperature.calls k155 c45.1 c45.2.1 c45.2.2.1 y151 y152 0 b55 v56 v57 v150 (hs.enter (.k (.k (.k (.k (.k (.k (.k (.k (.k (.k (.k (.k .nil))))))))))))) (Sr.own hs (.k (.k (.k (.k (.k (.k (.k (.k (.k (.k (.k (.k .nil)))))))))))) (i := 7) rfl (fun _ h => h) (fun _ h => h) (Sr.own hs (.k (.k (.k (.k (.k (.k (.k (.k (.k (.k (.k (.k .nil)))))))))))) (i := 8) rfl osl_rsl (fun _ h => h.1) (Sr.own hs (.k (.k (.k (.k (.k (.k (.k (.k (.k (.k (.k (.k .nil)))))))))))) (i := 9) rfl osl_rsl (fun _ h => h.1) (Sr.own hs (.k (.k (.k (.k (.k (.k (.k (.k (.k (.k (.k (.k .nil)))))))))))) (i := 10) rfl osl_rsl (fun _ h => h.1) (Sr.nil _ _))))) hs163) (fun v w hR => ?_)
                      obtain ⟨rfl, hs'⟩ := hR
                      replace hs := hs.step (.k (.k (.k (.k (.k (.k (.k (.k (.k (.k (.k (.k .nil)))))))))))) hs'
                      clear hs'
                      refine ⟨[(6, .bool (!decide (s163 = (IntKind.i64.wrap (s2.2.2 + (IntKind.i64.wrap (Int.tmod a3 8)))))))], [(6, .bool (!decide (s163 = (IntKind.i64.wrap (s2.2.2 + (IntKind.i64.wrap (Int.tmod a3 8))))))), (1, .int .i64 s163), (0, .pointer (some ⟨b55, 0, none⟩)), (2, .pointer (some ⟨b5, 2, none⟩)), (3, .int .i64 s2.2.2), (4, .int .i64 (IntKind.i64.wrap (Int.tmod a3 8))), (5, .int .i64 (IntKind.i64.wrap (s2.2.2 + (IntKind.i64.wrap (Int.tmod a3 8)))))], [], (fun _ => True), (fun w => St M w0 w [bx b5 27 [v3, v4, .int .i64 s2.2.2], osl K_api_HeatDomain v3 s2.1, osl K_api_HeatLink v4 s2.2.1, bx b37 64 [v38, v39, .int .i64 c9.2.2.1, v70, .int .i64 x69s.2], osl K_api_HeatDomain v38 c9.1, osl K_api_HeatLink v39 c9.2.1, osl K_int64 v70 x69s.1, bx b55 64 [v56, v57, .int .i64 c45.2.2.1, v150, .int .i64 y152], osl K_api_HeatDomain v56 c45.1, osl K_api_HeatLink v57 c45.2.1, osl K_int64 v150 y151, osl K_int64 v117 [(IntKind.i64.wrap ((IntKind.i64.wrap (Int.tmod a3 8)) * ((gd HeatDomain.zero s2.1 0).Ambient)))]]), rfl, rfl, ⟨hs.get (i := 0) rfl, trivial⟩, trivial, hs, (by kernel_rfl), .cons (⟨_, _, rfl, rfl, rfl, rfl, fun a w hR hf => .inl ⟨wanted_yes hf rfl, ex_neq hf rfl rfl⟩⟩) (.nil), ?_⟩
                      refine RW.zero (by kernel_rfl) (by kernel_rfl) [(9, .pointer (some ⟨b5, 0, none⟩)), (10, .pointer (some ⟨b37, 0, none⟩)), (12, .pointer (some ⟨b55, 0, none⟩)), (18, .int .i64 (IntKind.i64.wrap (Int.tmod a3 8))), (19, v117), (22, .int .i64 y153), (137, .bool (!decide (s163 = (IntKind.i64.wrap (s2.2.2 + (IntKind.i64.wrap (Int.tmod a3 8)))))))] ⟨rfl, rfl, rfl, rfl, rfl, rfl, rfl, trivial⟩ (fun a w hR hs hf => ?_)
                      refine hK164 _ _ ?_
                      refine hN162 _ _ ?_
                      refine itt H (fun hc165 H => ?_) (fun hc165 H => ?_)
                      · -- s163 = (IntKind.i64.wrap (s2.2.2 + (IntKind.i64.wrap (Int.tm
                        replace hf := hf.castB (t := 137) rfl (ndec_f hc165)
                        refine cond_F hf rfl ?_
                        refine wp_skip ?_
                        refine hN161 _ _ ?_
                        refine bnd H (fun s166 hs166 H => ?_)
                        refine seq_reg (fun K169 hK169 => ?_)
                        refine stq hf rfl rfl rfl (ex_move hf rfl) (fun a hf => ?_)
                        refine stq hf rfl rfl rfl (ex_move hf rfl) (fun a hf => ?_)
                        refine stepF hf rfl rfl rfl (ex_call cf_15 hf rfl) (heat_Model_Step.calls k155 c45.1 c45.2.1 c45.2.2.1 y151 y152 [(IntKind.i64.wrap ((IntKind.i64.wrap (Int.tmod a3 8)) * ((gd HeatDomain.zero s2.1 0).Ambient)))] b55 v56 v57 v150 v117 (hs.enter (.k (.k (.k (.k (.k (.k (.k (.c (.k (.k (.c (.k .nil))))))))))))) (Sr.own hs (.k (.k (.k (.k (.k (.k (.k (.c (.k (.k (.c (.k .nil)))))))))))) (i := 7) rfl osl_rsl (fun _ h => h.1) (Sr.own hs (.k (.k (.k (.k (.k (.k (.k (.c (.k (.k (.c (.k .nil)))))))))))) (i := 8) rfl osl_rsl (fun _ h => h.1) (Sr.own hs (.k (.k (.k (.k (.k (.k (.k (.c (.k (.k (.c (.k .nil)))))))))))) (i := 9) rfl osl_rsl (fun _ h => h.1) (Sr.nil _ _)))) hs166) (fun v w hR a hf => ?_)
                        obtain ⟨v167, v168, rfl, hs'⟩ := hR
                        replace hs := hs.step (.k (.k (.k (.k (.k (.k (.k (.c (.k (.k (.c (.k .nil)))))))))))) hs'
                        clear hs'
                        refine stq hf rfl rfl rfl (ex_move hf rfl) (fun a hf => ?_)
                        refine stq hf rfl rfl rfl (ex_extract hf rfl rfl) (fun a hf => ?_)
                        refine stq hf rfl rfl rfl (ex_extract hf rfl rfl) (fun a hf => ?_)
                        refine stq hf rfl rfl rfl (ex_assign hf rfl) (fun a hf => ?_)
                        refine stq hf rfl rfl rfl (ex_assign hf rfl) (fun a hf => ?_)
                        refine hK169 _ _ ?_
                        refine seq_reg (fun K170 hK170 => ?_)
                        refine stq hf rfl rfl rfl (ex_move hf rfl) (fun a hf => ?_)
                        refine stq hf rfl rfl rfl (ex_neq hf rfl rfl) (fun a hf => ?_)
                        refine hK170 _ _ ?_
                        refine itt H (fun hc171 H => ?_) (fun hc171 H => ?_)
                        · -- s166.2.2.2 = 0
                          replace hf := hf.castB (t := 145) rfl (ndec_f hc171)
                          refine cond_F hf rfl ?_
                          refine wp_skip ?_
                          refine hN160 _ _ ?_
                          refine hN159 _ _ ?_
                          refine region_k (fun K172 hK172 => ?_)
                          refine stq hf rfl rfl rfl (ex_move hf rfl) (fun a hf => ?_)
                          refine stq hf rfl rfl rfl (ex_add hf rfl rfl) (fun a hf => ?_)
                          refine stq hf rfl rfl rfl (ex_assign hf rfl) (fun a hf => ?_)
                          refine hK172 _ _ ?_
                          replace hs := hs.keep (.k (.k (.d (.k (.k (.k (.k (.k (.k (.k (.k (.k (.k .nil)))))))))))))
                          replace hs := hs.pick (.k (.k (.k (.k (.k (.k (.k (.k (.k (.k (.k (.c .nil))))))))))))
                          replace hs := hs.pick (.k (.k (.c (.k (.k (.k (.k (.k (.k (.k (.k (.k .nil))))))))))))
                          replace hs := hs.pick (.k (.k (.k (.k (.k (.k (.k (.k (.k (.k (.k (.c .nil))))))))))))
                          replace hs := hs.pick (.k (.k (.k (.k (.k (.k (.k (.k (.k (.k (.k (.c .nil))))))))))))
                          replace hs := hs.pick (.k (.k (.k (.k (.c (.k (.k (.k (.k (.k (.k (.k .nil))))))))))))
                          replace hs := hs.pick (.k (.k (.k (.k (.k (.k (.k (.k (.k (.k (.k (.c .nil))))))))))))
                          replace hs := hs.pick (.k (.k (.k (.k (.k (.k (.k (.k (.k (.k (.k (.c .nil))))))))))))
                          replace hs := hs.pick (.k (.k (.k (.k (.k (.k (.k (.k (.k (.k (.k (.c .nil))))))))))))
                          replace hs := hs.pick (.k (.k (.k (.k (.k (.k (.k (.k (.k (.k (.k (.c .nil))))))))))))
                          replace hs := hs.pick (.k (.k (.k (.k (.k (.k (.k (.k (.k (.k (.k (.c .nil))))))))))))
                          replace hs := hs.pick (.k (.k (.k (.k (.k (.k (.k (.k (.k (.k (.k (.c .nil))))))))))))
                          replace hs := hs.pick (.k (.k (.k (.k (.k (.k (.k (.k (.k (.k (.k (.c .nil))))))))))))
                          exact hL155 k155 _ _ (Nat.lt_succ_self _) ⟨s166.2.1, s166.1, (IntKind.i64.wrap (y153 + 1)), v167, hf.sub ⟨rfl, rfl, rfl, rfl, rfl, rfl, trivial⟩, hs, H⟩
                        · -- not s166.2.2.2 = 0
                          replace hf := hf.castB (t := 145) rfl (ndec_t hc171)
                          refine cond_T hf rfl ?_
                          refine seq_reg (fun K173 hK173 => ?_)
                          refine stq hf rfl rfl rfl (ex_assign hf rfl) (fun a hf => ?_)
                          refine hK173 _ _ ?_
                          refine wp_ret ?_
                          refine hR160 _ _ ?_
                          refine hR159 _ _ ?_
                          refine hR155 _ _ ?_
                          refine hR149 _ _ ?_
                          have e147 := some_eq H; subst e147; replace H := el_rt HO147
                          refine hR147 _ _ ?_
                          have eR := some_eq H; subst eR
                          replace hs := hs.keep (.d (.d (.d (.d (.d (.d (.d (.d (.d (.d (.d (.d (.d .nil)))))))))))))
                          exact ret1 Try.results7 hf rfl ⟨_, rfl, ⟨rfl, hs⟩⟩
                      · -- not s163 = (IntKind.i64.wrap (s2.2.2 + (IntKind.i64.wrap (Int.tm
                        replace hf := hf.castB (t := 137) rfl (ndec_t hc165)
                        refine cond_T hf rfl ?_
                        refine seq_reg (fun K174 hK174 => ?_)
                        refine stq hf rfl rfl rfl (ex_assign hf rfl) (fun a hf => ?_)
                        refine hK174 _ _ ?_
                        refine wp_ret ?_
                        refine hR161 _ _ ?_
                        refine hR160 _ _ ?_
                        refine hR159 _ _ ?_
                        refine hR155 _ _ ?_
                        refine hR149 _ _ ?_
                        have e147 := some_eq H; subst e147; replace H := el_rt HO147
                        refine hR147 _ _ ?_
                        have eR := some_eq H; subst eR
                        replace hs := hs.keep (.d (.d (.d (.d (.d (.d (.d (.d (.d (.d (.d (.d .nil))))))))))))
                        exact ret1 Try.results7 hf rfl ⟨_, rfl, ⟨rfl, hs⟩⟩
                    · -- not y153 < 5
                      replace hf := hf.castB (t := 128) rfl (dec_f hc158)
                      refine cond_F hf rfl ?_
                      refine wp_exit ?_
                      refine hX156 6 _ _ ?_
                      refine hX155 6 _ _ ?_
                      refine hX149 _ _ ?_
                      replace hs := hs.keep (.d (.d (.d (.k (.k (.k (.k (.d (.d (.d (.d (.d .nil))))))))))))
                      have e147 := some_eq H; subst e147
                      exact hJ147 _ _ ⟨_, rfl, hf.sub ⟨rfl, trivial⟩, hs⟩
              · obtain ⟨x147s, rfl, hf, hs⟩ := hJ
                replace H := el_go HO147
                clear HO147
                refine bnd H (fun s175 hs175 H => ?_)
                refine itt H (fun hc176 H => ?_) (fun hc176 H => ?_)
                · -- s175 = 0
                  refine bnd H (fun s177 hs177 H => ?_)
                  refine seq_reg (fun K178 hK178 => ?_)
                  refine stq hf rfl rfl rfl (ex_move hf rfl) (fun a hf => ?_)
                  refine stepF hf rfl rfl rfl (ex_call cf_16 hf rfl) (heat_Model_Released.calls k c9.1 c9.2.1 c9.2.2.1 x69s.1 x69s.2 b37 v38 v39 v70 (hs.enter (.k (.k (.k (.k .nil))))) (Sr.own hs (.k (.k (.k (.k .nil)))) (i := 0) rfl (fun _ h => h) (fun _ h => h) (Sr.own hs (.k (.k (.k (.k .nil)))) (i := 1) rfl osl_rsl (fun _ h => h.1) (Sr.own hs (.k (.k (.k (.k .nil)))) (i := 2) rfl osl_rsl (fun _ h => h.1) (Sr.own hs (.k (.k (.k (.k .nil)))) (i := 3) rfl osl_rsl (fun _ h => h.1) (Sr.nil _ _))))) hs175) (fun v w hR a hf => ?_)
                  obtain ⟨rfl, hs'⟩ := hR
                  replace hs := hs.step (.k (.k (.k (.k .nil)))) hs'
                  clear hs'
                  refine stq hf rfl rfl rfl (ex_eql hf rfl rfl) (fun a hf => ?_)
                  refine stq hf rfl rfl rfl (ex_move hf rfl) (fun a hf => ?_)
                  replace hf := hf.castB (t := 148) rfl (dec_t hc176)
                  replace hf := hf.castB (t := 149) rfl (dec_t hc176)
                  refine stepF hf rfl rfl rfl (ex_call cf_11 hf rfl) (law38_awake.calls k (hs.enter (.k (.k (.k (.k .nil))))) (Sr.nil _ _) hs177) (fun v w hR a hf => ?_)
                  obtain ⟨rfl, hs'⟩ := hR
                  replace hs := hs.step (.k (.k (.k (.k .nil)))) hs'
                  clear hs'
                  refine stq hf rfl rfl rfl (ex_pickT hf rfl rfl) (fun a hf => ?_)
                  refine stq hf rfl rfl rfl (ex_assign hf rfl) (fun a hf => ?_)
                  refine hK178 _ _ ?_
                  refine wp_ret ?_
                  have eR := some_eq H; subst eR
                  replace hs := hs.keep (.d (.d (.d (.d .nil))))
                  exact ret1 Try.results7 hf rfl ⟨_, rfl, ⟨rfl, hs⟩⟩
                · -- not s175 = 0
                  refine seq_reg (fun K179 hK179 => ?_)
                  refine stq hf rfl rfl rfl (ex_move hf rfl) (fun a hf => ?_)
                  refine stepF hf rfl rfl rfl (ex_call cf_16 hf rfl) (heat_Model_Released.calls k c9.1 c9.2.1 c9.2.2.1 x69s.1 x69s.2 b37 v38 v39 v70 (hs.enter (.k (.k (.k (.k .nil))))) (Sr.own hs (.k (.k (.k (.k .nil)))) (i := 0) rfl (fun _ h => h) (fun _ h => h) (Sr.own hs (.k (.k (.k (.k .nil)))) (i := 1) rfl osl_rsl (fun _ h => h.1) (Sr.own hs (.k (.k (.k (.k .nil)))) (i := 2) rfl osl_rsl (fun _ h => h.1) (Sr.own hs (.k (.k (.k (.k .nil)))) (i := 3) rfl osl_rsl (fun _ h => h.1) (Sr.nil _ _))))) hs175) (fun v w hR a hf => ?_)
                  obtain ⟨rfl, hs'⟩ := hR
                  replace hs := hs.step (.k (.k (.k (.k .nil)))) hs'
                  clear hs'
                  refine stq hf rfl rfl rfl (ex_eql hf rfl rfl) (fun a hf => ?_)
                  refine stq hf rfl rfl rfl (ex_move hf rfl) (fun a hf => ?_)
                  replace hf := hf.castB (t := 148) rfl (dec_f hc176)
                  replace hf := hf.castB (t := 149) rfl (dec_f hc176)
                  refine stepN hf rfl rfl rfl (fun a hf => ?_)
                  refine stq hf rfl rfl rfl (ex_pickF hf rfl rfl) (fun a hf => ?_)
                  refine stq hf rfl rfl rfl (ex_assign hf rfl) (fun a hf => ?_)
                  refine hK179 _ _ ?_
                  refine wp_ret ?_
                  have eR := some_eq H; subst eR
                  replace hs := hs.keep (.d (.d (.d (.d .nil))))
                  exact ret1 Try.results7 hf rfl ⟨_, rfl, ⟨rfl, hs⟩⟩

end Go.Proofs.Ytakaooegofiloaa.X
