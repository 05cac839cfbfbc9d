/- Each function of the machine comes to what its pure function says. -/
import Derived.Test.YtakaooegofiloaaFc1
import Derived.Test.YtakaooegofiloaaFc4
import Derived.Test.YtakaooegofiloaaFb
namespace Go.Proofs.Ytakaooegofiloaa.X
open Go Go.RowKit Go.Sx
set_option linter.unusedVariables false

set_option maxRecDepth 100000 in
theorem ref38_New.calls {M : Nat → Prop} {w0 : World} (k : Nat) (a0 : (List HeatDomain)) (a1 : (List HeatLink)) (a2 : Int) (v0 : Value) (v1 : Value) {r : (Option (Int × (List Int) × Int)) × Int} (hs : St M w0 w0 []) (hr : Sr M w0 [rsl K_api_HeatDomain v0 a0, rsl K_api_HeatLink v1 a1])
    (h : ref38_New.f k a0 a1 a2 = some r) : Calls Try.prog 20 #[v0, v1, .int .i64 a2] w0 fun e w => ∃ v, e = .returned v ∧ ((r.1 = none ∧ .tuple #[.pointer none, .int .i64 r.2] = v ∧ St M w0 w []) ∨ (∃ c, r.1 = some c ∧ ∃ (g0 : Nat) (g1 : Value), .tuple #[.pointer (some ⟨g0, 0, none⟩), .int .i64 r.2] = v ∧ St M w0 w [bx g0 69 [v0, v1, .int .i64 c.1, g1, .int .i64 c.2.2], osl K_int64 g1 c.2.1])) := by
  have H := (ref38_New.f.eq_1 ..).symm.trans h
  clear h
  refine enter Try.func20 rfl Try.ntmps20 rfl (fun a hf => ?_)
  refine seq_reg (fun K1 hK1 => ?_)
  refine stq hf rfl rfl rfl (ex_assign hf rfl) (fun a hf => ?_)
  refine stq hf rfl rfl rfl (ex_assign hf rfl) (fun a hf => ?_)
  refine hK1 _ _ ?_
  refine seq_n (fun Q2 hN2 hR2 hX2 => ?_)
  refine bnd H (fun s3 hs3 H => ?_)
  refine seq_reg (fun K4 hK4 => ?_)
  refine stq hf rfl rfl rfl (ex_move hf rfl) (fun a hf => ?_)
  refine stq hf rfl rfl rfl (ex_move hf rfl) (fun a hf => ?_)
  refine stq hf rfl rfl rfl (ex_move hf rfl) (fun a hf => ?_)
  refine stepF hf rfl rfl rfl (ex_call cf_35 hf rfl) (ref38_valid.calls k a0 a1 a2 v0 v1 (hs.enter .nil) (Sr.old hr hs .nil (i := 0) rfl (fun _ h => h) (fun _ h => h) (Sr.old hr hs .nil (i := 1) rfl (fun _ h => h) (fun _ h => h) (Sr.nil _ _))) hs3) (fun v w hR a hf => ?_)
  obtain ⟨rfl, hs'⟩ := hR
  replace hs := hs.step .nil hs'
  clear hs'
  refine stq hf rfl rfl rfl (ex_not hf rfl) (fun a hf => ?_)
  refine hK4 _ _ ?_
  refine itt H (fun hc5 H => ?_) (fun hc5 H => ?_)
  · -- s3 = true
    replace hf := hf.castB (t := 13) rfl hc5
    replace hf := hf.castB (t := 14) rfl (nbool_f hc5)
    refine cond_F hf rfl ?_
    refine wp_skip ?_
    refine hN2 _ _ ?_
    refine seq_reg (fun K7 hK7 => ?_)
    refine stq hf rfl rfl rfl (ex_move hf rfl) (fun a hf => ?_)
    refine stq hf rfl rfl rfl (ex_move hf rfl) (fun a hf => ?_)
    refine stq hf rfl rfl rfl (ex_move hf rfl) (fun a hf => ?_)
    refine stq hf rfl rfl rfl (ex_build (cs := [v0, v1, .int .i64 a2, (.slice none 0 0), .int .i64 0]) bt_69 hf rfl (.cons (CL.one (IsSl.one (rsl_isSl (hr.now hs (i := 0) rfl)))) (.cons (CL.one (IsSl.one (rsl_isSl (hr.now hs (i := 1) rfl)))) (.cons rfl .nil))) rfl) (fun a hf => ?_)
    refine stepV hf rfl rfl rfl (er_box (cs := [v0, v1, .int .i64 a2, (.slice none 0 0), .int .i64 0]) hs hf rfl rfl) (fun v w hR a hf => ?_)
    obtain ⟨b6, rfl, hs⟩ := hR
    refine stq hf rfl rfl rfl (ex_assign hf rfl) (fun a hf => ?_)
    refine hK7 _ _ ?_
    refine bnd H (fun x8 H8 HO8 => ?_)
    clear H
    refine seq_cut (fun a w => ∃ (v9 : Value), Fr a 43 [(8, .pointer (some ⟨b6, 0, none⟩))] ∧ St M w0 w [bx b6 69 [v0, v1, .int .i64 a2, v9, .int .i64 0], osl K_int64 v9 x8]) (fun Q8 hJ8 hR8 hX8 => ?_) (fun a w hJ => ?_)
    · replace H := H8
      refine seq_reg (fun K10 hK10 => ?_)
      refine stq hf rfl rfl rfl (ex_assign hf rfl) (fun a hf => ?_)
      refine hK10 _ _ ?_
      refine block_k (fun Q11 hN11 hR11 hX11 hY11 => ?_)
      refine loop_k (fun n a w => ∃ (y13 : (List Int)) (y14 : Int) (v12 : Value), Fr a 43 [(0, v0), (2, .int .i64 a2), (8, .pointer (some ⟨b6, 0, none⟩)), (9, .int .i64 y14)] ∧ St M w0 w [bx b6 69 [v0, v1, .int .i64 a2, v12, .int .i64 0], osl K_int64 v12 y13] ∧ ref38_New.l1 n a0 a2 y13 y14 = some x8) k ?_ (fun n16 a w hI Q16 hL16 hR16 hX16 => ?_)
      · -- at the start
        replace hs := hs.nilS K_int64
        replace hs := hs.pick (.k (.c .nil))
        exact ⟨[], 0, (.slice none 0 0), hf.sub ⟨rfl, rfl, rfl, rfl, trivial⟩, hs, H⟩
      · obtain ⟨y13, y14, v12, hf, hs, H⟩ := hI
        cases n16 with
        | zero => exact absurd H (by rw [ref38_New.l1.eq_1]; intro h; cases h)
        | succ k16 =>
          replace H := (ref38_New.l1.eq_2 ..).symm.trans H
          refine seq_n (fun Q17 hN17 hR17 hX17 => ?_)
          refine seq_reg (fun K18 hK18 => ?_)
          refine stq hf rfl rfl rfl (ex_move hf rfl) (fun a hf => ?_)
          refine stq hf rfl rfl rfl (ex_move hf rfl) (fun a hf => ?_)
          refine stq hf rfl rfl rfl (ex_lenS Try.underlying22 (rsl_isSl (hr.now hs (i := 0) rfl)) hf rfl) (fun a hf => ?_)
          refine stq hf rfl rfl rfl (ex_lss hf rfl rfl) (fun a hf => ?_)
          refine hK18 _ _ ?_
          refine itt H (fun hc19 H => ?_) (fun hc19 H => ?_)
          · -- y14 < (a0.length : Int)
            replace hf := hf.castB (t := 23) rfl (dec_t hc19)
            refine cond_T hf rfl ?_
            refine wp_skip ?_
            refine hN17 _ _ ?_
            refine seq_n (fun Q20 hN20 hR20 hX20 => ?_)
            refine block_k (fun Q21 hN21 hR21 hX21 hY21 => ?_)
            refine ck_some H (fun hc22 H => ?_)
            refine ck_some H (fun hc24 H => ?_)
            refine region_d fol 14 [(0, v0), (2, .int .i64 a2), (8, .pointer (some ⟨b6, 0, none⟩)), (9, .int .i64 y14)] [(0, .pointer (some ⟨b6, 0, none⟩)), (1, .pointer (some ⟨b6, 0, none⟩)), (2, .pointer (some ⟨b6, 0, none⟩)), (3, .pointer (some ⟨b6, 3, none⟩)), (4, v12), (5, v0), (6, .int .i64 y14), (7, .pointer (some (sla v0 (y14.toNat * 2)))), (8, .pointer (some (sla v0 (y14.toNat * 2 + 0)))), (9, .int .i64 ((gd HeatDomain.zero a0 y14).Capacity)), (10, .int .i64 a2), (11, .int .i64 (IntKind.i64.wrap (((gd HeatDomain.zero a0 y14).Capacity) * a2)))] [12, 13] (fun w => (bx b6 69 [v0, v1, .int .i64 a2, v12, .int .i64 0]).ok w ∧ (rsl K_api_HeatDomain v0 a0).ok w ∧ True) (fun w => St M w0 w [bx b6 69 [v0, v1, .int .i64 a2, v12, .int .i64 0], osl K_int64 v12 y13]) hf ⟨rfl, rfl, rfl, rfl, trivial⟩ (by kernel_rfl) (by kernel_rfl) rfl (by decide) ⟨hs.drew.get (i := 0) rfl, hr.now hs.drew (i := 0) rfl, trivial⟩ hs.drew (.cons (⟨_, _, rfl, rfl, rfl, rfl, fun a w hR hf => .inl ⟨wanted_yes hf rfl, ex_move hf rfl⟩⟩) (.cons (⟨_, _, rfl, rfl, rfl, rfl, fun a w hR hf => .inl ⟨wanted_yes hf rfl, ex_move hf rfl⟩⟩) (.cons (⟨_, _, rfl, rfl, rfl, rfl, fun a w hR hf => .inl ⟨wanted_yes hf rfl, ex_nilCheck hf rfl⟩⟩) (.cons (⟨_, _, rfl, rfl, rfl, rfl, fun a w hR hf => .inl ⟨wanted_yes hf rfl, ex_fieldAddrB fa_69_3 rfl hf rfl⟩⟩) (.cons (⟨_, _, rfl, rfl, rfl, rfl, fun a w hR hf => .inl ⟨wanted_yes hf rfl, ex_load sc_35 hf rfl (bx_cell (hR.1) _ rfl)⟩⟩) (.cons (⟨_, _, rfl, rfl, rfl, rfl, fun a w hR hf => .inl ⟨wanted_yes hf rfl, ex_move hf rfl⟩⟩) (.cons (⟨_, _, rfl, rfl, rfl, rfl, fun a w hR hf => .inl ⟨wanted_yes hf rfl, ex_move hf rfl⟩⟩) (.cons (⟨_, _, rfl, rfl, rfl, rfl, fun a w hR hf => .inl ⟨wanted_yes hf rfl, ex_indexAddr sa_22 (rsl_isSl hR.2.1) hc22.1 hc22.2 hf rfl rfl⟩⟩) (.cons (⟨_, _, rfl, rfl, rfl, rfl, fun a w hR hf => .inl ⟨wanted_yes hf rfl, ex_fieldAddrS fa_34_0 rfl hf rfl⟩⟩) (.cons (⟨_, _, rfl, rfl, rfl, rfl, fun a w hR hf => .inl ⟨wanted_yes hf rfl, ex_load sc_2 hf rfl (el_cell (K := K_api_HeatDomain) (f := 0) (rsl_rd hR.2.1) hc22.1 hc22.2 rfl)⟩⟩) (.cons (⟨_, _, rfl, rfl, rfl, rfl, fun a w hR hf => .inl ⟨wanted_yes hf rfl, ex_move hf rfl⟩⟩) (.cons (⟨_, _, rfl, rfl, rfl, rfl, fun a w hR hf => .inl ⟨wanted_yes hf rfl, ex_mul hf rfl rfl⟩⟩) (.nil))))))))))))) (fun K26 hK26 => ?_)
            refine RW.one 12 (by kernel_rfl) (by kernel_rfl) rfl (fun d hd => by cases hd; rfl) [(37, .int .i64 (IntKind.i64.wrap (((gd HeatDomain.zero a0 y14).Capacity) * a2)))] ⟨rfl, trivial⟩ (fun a w hR hs hf => ⟨wanted_yes hf rfl, ?_⟩)
            refine estep_v (er_buildSlice (K := K_int64) (xs := [(IntKind.i64.wrap (((gd HeatDomain.zero a0 y14).Capacity) * a2))]) hs Try.underlying35 ep_2 rfl rfl hf rfl (.cons rfl .nil) rfl rfl) (fun v23 w hs => ?_)
            refine ⟨[], [(12, v23), (0, .pointer (some ⟨b6, 0, none⟩)), (1, .pointer (some ⟨b6, 0, none⟩)), (2, .pointer (some ⟨b6, 0, none⟩)), (3, .pointer (some ⟨b6, 3, none⟩)), (4, v12), (5, v0), (6, .int .i64 y14), (7, .pointer (some (sla v0 (y14.toNat * 2)))), (8, .pointer (some (sla v0 (y14.toNat * 2 + 0)))), (9, .int .i64 ((gd HeatDomain.zero a0 y14).Capacity)), (10, .int .i64 a2), (11, .int .i64 (IntKind.i64.wrap (((gd HeatDomain.zero a0 y14).Capacity) * a2)))], [13], (fun _ => True), (fun w => St M w0 w [osl K_int64 v23 [(IntKind.i64.wrap (((gd HeatDomain.zero a0 y14).Capacity) * a2))], bx b6 69 [v0, v1, .int .i64 a2, v12, .int .i64 0], osl K_int64 v12 y13]), rfl, rfl, ⟨hs.get (i := 1) rfl, hr.now hs (i := 0) rfl, trivial⟩, trivial, hs, (by kernel_rfl), .nil, ?_⟩
            refine RW.one 13 (by kernel_rfl) (by kernel_rfl) rfl (fun d hd => by cases hd; rfl) [(30, v12), (38, v23)] ⟨rfl, rfl, trivial⟩ (fun a w hR hs hf => ⟨wanted_yes hf rfl, ?_⟩)
            refine estep_v (er_append (K := K_int64) hs (.k (.k (.c .nil))) (osl_rsl _ (hs.get (i := 0) rfl)) rfl Try.underlying35 ep_2 hc24 rfl hf rfl rfl) (fun v25 w hs => ?_)
            refine ⟨[], [(13, v25), (12, v23), (0, .pointer (some ⟨b6, 0, none⟩)), (1, .pointer (some ⟨b6, 0, none⟩)), (2, .pointer (some ⟨b6, 0, none⟩)), (3, .pointer (some ⟨b6, 3, none⟩)), (4, v12), (5, v0), (6, .int .i64 y14), (7, .pointer (some (sla v0 (y14.toNat * 2)))), (8, .pointer (some (sla v0 (y14.toNat * 2 + 0)))), (9, .int .i64 ((gd HeatDomain.zero a0 y14).Capacity)), (10, .int .i64 a2), (11, .int .i64 (IntKind.i64.wrap (((gd HeatDomain.zero a0 y14).Capacity) * a2)))], [], (fun _ => True), (fun w => St M w0 w [osl K_int64 v25 (y13 ++ [(IntKind.i64.wrap (((gd HeatDomain.zero a0 y14).Capacity) * a2))]), osl K_int64 v23 [(IntKind.i64.wrap (((gd HeatDomain.zero a0 y14).Capacity) * a2))], bx b6 69 [v0, v1, .int .i64 a2, v12, .int .i64 0]]), rfl, rfl, ⟨⟨hs.get (i := 2) rfl, hr.now hs (i := 0) rfl, trivial⟩, trivial⟩, trivial, hs, (by kernel_rfl), .nil, ?_⟩
            refine RW.zero (by kernel_rfl) (by kernel_rfl) [(0, v0), (2, .int .i64 a2), (8, .pointer (some ⟨b6, 0, none⟩)), (9, .int .i64 y14), (26, .pointer (some ⟨b6, 0, none⟩)), (39, v25)] ⟨rfl, rfl, rfl, rfl, rfl, rfl, trivial⟩ (fun a w hR hs hf => ?_)
            refine stq hf rfl rfl rfl (ex_nilCheck hf rfl) (fun a hf => ?_)
            refine stq hf rfl rfl rfl (ex_fieldAddrB fa_69_3 rfl hf rfl) (fun a hf => ?_)
            refine stepS hf rfl rfl (er_storeB hs (.k (.k (.c .nil))) hf rfl rfl (IsSl.one (rsl_isSl (osl_rsl _ (hs.get (i := 0) rfl)))) sz_35 rfl) (fun w hs => ?_)
            refine hK26 _ _ ?_
            refine hN21 _ _ ?_
            refine hN20 _ _ ?_
            refine region_k (fun K27 hK27 => ?_)
            refine stq hf rfl rfl rfl (ex_move hf rfl) (fun a hf => ?_)
            refine stq hf rfl rfl rfl (ex_add hf rfl rfl) (fun a hf => ?_)
            refine stq hf rfl rfl rfl (ex_assign hf rfl) (fun a hf => ?_)
            refine hK27 _ _ ?_
            replace hs := hs.keep (.k (.k (.d .nil)))
            exact hL16 k16 _ _ (Nat.lt_succ_self _) ⟨(y13 ++ [(IntKind.i64.wrap (((gd HeatDomain.zero a0 y14).Capacity) * a2))]), (IntKind.i64.wrap (y14 + 1)), v25, hf.sub ⟨rfl, rfl, rfl, rfl, trivial⟩, hs, H⟩
          · -- not y14 < (a0.length : Int)
            replace hf := hf.castB (t := 23) rfl (dec_f hc19)
            refine cond_F hf rfl ?_
            refine wp_exit ?_
            refine hX17 0 _ _ ?_
            refine hX16 0 _ _ ?_
            refine hX11 _ _ ?_
            have e8 := some_eq H; subst e8
            exact hJ8 _ _ ⟨v12, hf.sub ⟨rfl, trivial⟩, hs⟩
    · obtain ⟨v9, hf, hs⟩ := hJ
      replace H := HO8
      clear HO8
      refine seq_reg (fun K28 hK28 => ?_)
      refine stq hf rfl rfl rfl (ex_move hf rfl) (fun a hf => ?_)
      refine stq hf rfl rfl rfl (ex_assign hf rfl) (fun a hf => ?_)
      refine stq hf rfl rfl rfl (ex_assign hf rfl) (fun a hf => ?_)
      refine hK28 _ _ ?_
      refine wp_ret ?_
      have eR := some_eq H; subst eR
      exact ret2 Try.results20 hf rfl rfl ⟨_, rfl, .inr ⟨_, rfl, b6, v9, rfl, hs⟩⟩
  · -- not s3 = true
    replace hf := hf.castB (t := 13) rfl (bool_f hc5)
    replace hf := hf.castB (t := 14) rfl (nbool_t hc5)
    refine cond_T hf rfl ?_
    refine seq_reg (fun K29 hK29 => ?_)
    refine stq hf rfl rfl rfl (ex_assign hf rfl) (fun a hf => ?_)
    refine stq hf rfl rfl rfl (ex_assign hf rfl) (fun a hf => ?_)
    refine hK29 _ _ ?_
    refine wp_ret ?_
    refine hR2 _ _ ?_
    have eR := some_eq H; subst eR
    exact ret2 Try.results20 hf rfl rfl ⟨_, rfl, .inl ⟨rfl, rfl, hs⟩⟩

set_option maxRecDepth 100000 in
theorem ref38_powers.calls {M : Nat → Prop} {w0 : World} (k : Nat) (a0 : Int) (a1 : (List Int)) (v1 : Value) {r : Bool} (hs : St M w0 w0 []) (hr : Sr M w0 [rsl K_int64 v1 a1])
    (h : ref38_powers.f k a0 a1 = some r) : Calls Try.prog 36 #[.int .i64 a0, v1] w0 fun e w => ∃ v, e = .returned v ∧ (.bool r = v ∧ St M w0 w []) := by
  have H := (ref38_powers.f.eq_1 ..).symm.trans h
  clear h
  refine enter Try.func36 rfl Try.ntmps36 rfl (fun a hf => ?_)
  refine seq_reg (fun K1 hK1 => ?_)
  refine stq hf rfl rfl rfl (ex_assign hf rfl) (fun a hf => ?_)
  refine hK1 _ _ ?_
  refine seq_n (fun Q2 hN2 hR2 hX2 => ?_)
  refine seq_reg (fun K3 hK3 => ?_)
  refine stq hf rfl rfl rfl (ex_move hf rfl) (fun a hf => ?_)
  refine stq hf rfl rfl rfl (ex_lenS Try.underlying35 (rsl_isSl (hr.now hs (i := 0) rfl)) hf rfl) (fun a hf => ?_)
  refine stq hf rfl rfl rfl (ex_move hf rfl) (fun a hf => ?_)
  refine stq hf rfl rfl rfl (ex_neq hf rfl rfl) (fun a hf => ?_)
  refine hK3 _ _ ?_
  refine itt H (fun hc4 H => ?_) (fun hc4 H => ?_)
  · -- (a1.length : Int) = a0
    replace hf := hf.castB (t := 9) rfl (ndec_f hc4)
    refine cond_F hf rfl ?_
    refine wp_skip ?_
    refine hN2 _ _ ?_
    refine bnd H (fun x5 H5 HO5 => ?_)
    clear H
    refine seq_cut (fun a w => ∃ (x5s : Unit), x5 = .go x5s ∧ Fr a 27 [] ∧ St M w0 w []) (fun Q5 hJ5 hR5 hX5 => ?_) (fun a w hJ => ?_)
    · replace H := H5
      refine seq_reg (fun K6 hK6 => ?_)
      refine stq hf rfl rfl rfl (ex_assign hf rfl) (fun a hf => ?_)
      refine hK6 _ _ ?_
      refine block_k (fun Q7 hN7 hR7 hX7 hY7 => ?_)
      refine loop_k (fun n a w => ∃ (y8 : Int), Fr a 27 [(0, .int .i64 a0), (1, v1), (5, .int .i64 y8)] ∧ St M w0 w [] ∧ ref38_powers.l1 n a0 a1 y8 = some x5) k ?_ (fun n10 a w hI Q10 hL10 hR10 hX10 => ?_)
      · -- at the start
        exact ⟨0, hf.sub ⟨rfl, rfl, rfl, trivial⟩, hs, H⟩
      · obtain ⟨y8, hf, hs, H⟩ := hI
        cases n10 with
        | zero => exact absurd H (by rw [ref38_powers.l1.eq_1]; intro h; cases h)
        | succ k10 =>
          replace H := (ref38_powers.l1.eq_2 ..).symm.trans H
          refine seq_n (fun Q11 hN11 hR11 hX11 => ?_)
          refine seq_reg (fun K12 hK12 => ?_)
          refine stq hf rfl rfl rfl (ex_move hf rfl) (fun a hf => ?_)
          refine stq hf rfl rfl rfl (ex_move hf rfl) (fun a hf => ?_)
          refine stq hf rfl rfl rfl (ex_lss hf rfl rfl) (fun a hf => ?_)
          refine hK12 _ _ ?_
          refine itt H (fun hc13 H => ?_) (fun hc13 H => ?_)
          · -- y8 < a0
            replace hf := hf.castB (t := 12) rfl (dec_t hc13)
            refine cond_T hf rfl ?_
            refine wp_skip ?_
            refine hN11 _ _ ?_
            refine seq_n (fun Q14 hN14 hR14 hX14 => ?_)
            refine block_k (fun Q15 hN15 hR15 hX15 hY15 => ?_)
            refine bnd H (fun x16 H16 HO16 => ?_)
            clear H
            refine seq_cut (fun a w => Fr a 27 [(0, .int .i64 a0), (1, v1), (5, .int .i64 y8), (26, .bool x16)] ∧ St M w0 w []) (fun Q16 hJ16 hR16 hX16 => ?_) (fun a w hJ => ?_)
            · replace H := H16
              refine ck_some H (fun hc17 H => ?_)
              refine itt H (fun hc18 H => ?_) (fun hc18 H => ?_)
              · -- (gd 0 a1 y8) < 0
                refine region_k (fun K19 hK19 => ?_)
                refine stq hf rfl rfl rfl (ex_move hf rfl) (fun a hf => ?_)
                refine stq hf rfl rfl rfl (ex_move hf rfl) (fun a hf => ?_)
                refine stq hf rfl rfl rfl (ex_indexAddr sa_35 (rsl_isSl (hr.now hs (i := 0) rfl)) hc17.1 hc17.2 hf rfl rfl) (fun a hf => ?_)
                refine stq hf rfl rfl rfl (ex_load sc_2 hf rfl (el_cell (K := K_int64) (f := 0) (rsl_rd (hr.now hs (i := 0) rfl)) hc17.1 hc17.2 rfl)) (fun a hf => ?_)
                refine stq hf rfl rfl rfl (ex_lss hf rfl rfl) (fun a hf => ?_)
                refine stq hf rfl rfl rfl (ex_move hf rfl) (fun a hf => ?_)
                replace hf := hf.castB (t := 19) rfl (dec_t hc18)
                replace hf := hf.castB (t := 20) rfl (dec_t hc18)
                refine stepN hf rfl rfl rfl (fun a hf => ?_)
                refine stepN hf rfl rfl rfl (fun a hf => ?_)
                refine stepN hf rfl rfl rfl (fun a hf => ?_)
                refine stepN hf rfl rfl rfl (fun a hf => ?_)
                refine stepN hf rfl rfl rfl (fun a hf => ?_)
                refine stq hf rfl rfl rfl (ex_pickT hf rfl rfl) (fun a hf => ?_)
                refine hK19 _ _ ?_
                have e16 := some_eq H; subst e16
                exact hJ16 _ _ ⟨hf.sub ⟨rfl, rfl, rfl, rfl, trivial⟩, hs⟩
              · -- not (gd 0 a1 y8) < 0
                refine region_k (fun K20 hK20 => ?_)
                refine stq hf rfl rfl rfl (ex_move hf rfl) (fun a hf => ?_)
                refine stq hf rfl rfl rfl (ex_move hf rfl) (fun a hf => ?_)
                refine stq hf rfl rfl rfl (ex_indexAddr sa_35 (rsl_isSl (hr.now hs (i := 0) rfl)) hc17.1 hc17.2 hf rfl rfl) (fun a hf => ?_)
                refine stq hf rfl rfl rfl (ex_load sc_2 hf rfl (el_cell (K := K_int64) (f := 0) (rsl_rd (hr.now hs (i := 0) rfl)) hc17.1 hc17.2 rfl)) (fun a hf => ?_)
                refine stq hf rfl rfl rfl (ex_lss hf rfl rfl) (fun a hf => ?_)
                refine stq hf rfl rfl rfl (ex_move hf rfl) (fun a hf => ?_)
                replace hf := hf.castB (t := 19) rfl (dec_f hc18)
                replace hf := hf.castB (t := 20) rfl (dec_f hc18)
                refine stq hf rfl rfl rfl (ex_move hf rfl) (fun a hf => ?_)
                refine stq hf rfl rfl rfl (ex_move hf rfl) (fun a hf => ?_)
                refine stq hf rfl rfl rfl (ex_indexAddr sa_35 (rsl_isSl (hr.now hs (i := 0) rfl)) hc17.1 hc17.2 hf rfl rfl) (fun a hf => ?_)
                refine stq hf rfl rfl rfl (ex_load sc_2 hf rfl (el_cell (K := K_int64) (f := 0) (rsl_rd (hr.now hs (i := 0) rfl)) hc17.1 hc17.2 rfl)) (fun a hf => ?_)
                refine stq hf rfl rfl rfl (ex_gtr hf rfl rfl) (fun a hf => ?_)
                refine stq hf rfl rfl rfl (ex_pickF hf rfl rfl) (fun a hf => ?_)
                refine hK20 _ _ ?_
                have e16 := some_eq H; subst e16
                exact hJ16 _ _ ⟨hf.sub ⟨rfl, rfl, rfl, rfl, trivial⟩, hs⟩
            · obtain ⟨hf, hs⟩ := hJ
              replace H := HO16
              clear HO16
              refine itt H (fun hc21 H => ?_) (fun hc21 H => ?_)
              · -- x16 = true
                replace hf := hf.castB (t := 26) rfl hc21
                refine cond_T hf rfl ?_
                refine seq_reg (fun K22 hK22 => ?_)
                refine stq hf rfl rfl rfl (ex_assign hf rfl) (fun a hf => ?_)
                refine hK22 _ _ ?_
                refine wp_ret ?_
                refine hR15 _ _ ?_
                refine hR14 _ _ ?_
                refine hR10 _ _ ?_
                refine hR7 _ _ ?_
                have e5 := some_eq H; subst e5; replace H := el_rt HO5
                refine hR5 _ _ ?_
                have eR := some_eq H; subst eR
                exact ret1 Try.results36 hf rfl ⟨_, rfl, ⟨rfl, hs⟩⟩
              · -- not x16 = true
                replace hf := hf.castB (t := 26) rfl (bool_f hc21)
                refine cond_F hf rfl ?_
                refine wp_skip ?_
                refine hN15 _ _ ?_
                refine hN14 _ _ ?_
                refine region_k (fun K23 hK23 => ?_)
                refine stq hf rfl rfl rfl (ex_move hf rfl) (fun a hf => ?_)
                refine stq hf rfl rfl rfl (ex_add hf rfl rfl) (fun a hf => ?_)
                refine stq hf rfl rfl rfl (ex_assign hf rfl) (fun a hf => ?_)
                refine hK23 _ _ ?_
                exact hL10 k10 _ _ (Nat.lt_succ_self _) ⟨(IntKind.i64.wrap (y8 + 1)), hf.sub ⟨rfl, rfl, rfl, trivial⟩, hs, H⟩
          · -- not y8 < a0
            replace hf := hf.castB (t := 12) rfl (dec_f hc13)
            refine cond_F hf rfl ?_
            refine wp_exit ?_
            refine hX11 0 _ _ ?_
            refine hX10 0 _ _ ?_
            refine hX7 _ _ ?_
            have e5 := some_eq H; subst e5
            exact hJ5 _ _ ⟨_, rfl, hf.sub trivial, hs⟩
    · obtain ⟨x5s, rfl, hf, hs⟩ := hJ
      replace H := el_go HO5
      clear HO5
      refine seq_reg (fun K24 hK24 => ?_)
      refine stq hf rfl rfl rfl (ex_assign hf rfl) (fun a hf => ?_)
      refine hK24 _ _ ?_
      refine wp_ret ?_
      have eR := some_eq H; subst eR
      exact ret1 Try.results36 hf rfl ⟨_, rfl, ⟨rfl, hs⟩⟩
  · -- not (a1.length : Int) = a0
    replace hf := hf.castB (t := 9) rfl (ndec_t hc4)
    refine cond_T hf rfl ?_
    refine seq_reg (fun K25 hK25 => ?_)
    refine stq hf rfl rfl rfl (ex_assign hf rfl) (fun a hf => ?_)
    refine hK25 _ _ ?_
    refine wp_ret ?_
    refine hR2 _ _ ?_
    have eR := some_eq H; subst eR
    exact ret1 Try.results36 hf rfl ⟨_, rfl, ⟨rfl, hs⟩⟩

set_option maxRecDepth 100000 in
theorem ref38_floor.calls {M : Nat → Prop} {w0 : World} (k : Nat) (a0 : Int) (a1 : Int) {r : Int} (hs : St M w0 w0 []) (hr : Sr M w0 [])
    (h : ref38_floor.f k a0 a1 = some r) : Calls Try.prog 38 #[.int .i64 a0, .int .i64 a1] w0 fun e w => ∃ v, e = .returned v ∧ (.int .i64 r = v ∧ St M w0 w []) := by
  have H := (ref38_floor.f.eq_1 ..).symm.trans h
  clear h
  refine enter Try.func38 rfl Try.ntmps38 rfl (fun a hf => ?_)
  refine seq_reg (fun K1 hK1 => ?_)
  refine stq hf rfl rfl rfl (ex_assign hf rfl) (fun a hf => ?_)
  refine hK1 _ _ ?_
  refine ck_some H (fun hc2 H => ?_)
  refine seq_reg (fun K3 hK3 => ?_)
  refine stq hf rfl rfl rfl (ex_move hf rfl) (fun a hf => ?_)
  refine stq hf rfl rfl rfl (ex_move hf rfl) (fun a hf => ?_)
  refine stq hf rfl rfl rfl (ex_quo hf rfl rfl hc2) (fun a hf => ?_)
  refine stq hf rfl rfl rfl (ex_assign hf rfl) (fun a hf => ?_)
  refine hK3 _ _ ?_
  refine bnd H (fun x4 H4 HO4 => ?_)
  clear H
  refine seq_cut (fun a w => Fr a 16 [(5, .int .i64 x4)] ∧ St M w0 w []) (fun Q4 hJ4 hR4 hX4 => ?_) (fun a w hJ => ?_)
  · replace H := H4
    refine seq_reg (fun K5 hK5 => ?_)
    refine stq hf rfl rfl rfl (ex_move hf rfl) (fun a hf => ?_)
    refine stq hf rfl rfl rfl (ex_move hf rfl) (fun a hf => ?_)
    refine stq hf rfl rfl rfl (ex_rem hf rfl rfl hc2) (fun a hf => ?_)
    refine stq hf rfl rfl rfl (ex_lss hf rfl rfl) (fun a hf => ?_)
    refine hK5 _ _ ?_
    refine itt H (fun hc6 H => ?_) (fun hc6 H => ?_)
    · -- (Int.tmod a0 a1) < 0
      replace hf := hf.castB (t := 12) rfl (dec_t hc6)
      refine cond_T hf rfl ?_
      refine region_k (fun K7 hK7 => ?_)
      refine stq hf rfl rfl rfl (ex_move hf rfl) (fun a hf => ?_)
      refine stq hf rfl rfl rfl (ex_sub hf rfl rfl) (fun a hf => ?_)
      refine stq hf rfl rfl rfl (ex_assign hf rfl) (fun a hf => ?_)
      refine hK7 _ _ ?_
      have e4 := some_eq H; subst e4
      exact hJ4 _ _ ⟨hf.sub ⟨rfl, trivial⟩, hs⟩
    · -- not (Int.tmod a0 a1) < 0
      replace hf := hf.castB (t := 12) rfl (dec_f hc6)
      refine cond_F hf rfl ?_
      refine wp_skip ?_
      have e4 := some_eq H; subst e4
      exact hJ4 _ _ ⟨hf.sub ⟨rfl, trivial⟩, hs⟩
  · obtain ⟨hf, hs⟩ := hJ
    replace H := HO4
    clear HO4
    refine seq_reg (fun K8 hK8 => ?_)
    refine stq hf rfl rfl rfl (ex_move hf rfl) (fun a hf => ?_)
    refine stq hf rfl rfl rfl (ex_assign hf rfl) (fun a hf => ?_)
    refine hK8 _ _ ?_
    refine wp_ret ?_
    have eR := some_eq H; subst eR
    exact ret1 Try.results38 hf rfl ⟨_, rfl, ⟨rfl, hs⟩⟩

set_option maxRecDepth 100000 in
theorem ref38_Model_Temperature.calls {M : Nat → Prop} {w0 : World} (k : Nat) (a0_D : (List HeatDomain)) (a0_L : (List HeatLink)) (a0_Base : Int) (a0_E : (List Int)) (a0_Out : Int) (a1 : Int) (b0 : Nat) (v0_D : Value) (v0_L : Value) (v0_E : Value) {r : Int} (hs : St M w0 w0 []) (hr : Sr M w0 [bx b0 69 [v0_D, v0_L, .int .i64 a0_Base, v0_E, .int .i64 a0_Out], rsl K_api_HeatDomain v0_D a0_D, rsl K_api_HeatLink v0_L a0_L, rsl K_int64 v0_E a0_E])
    (h : ref38_Model_Temperature.f k a0_D a0_L a0_Base a0_E a0_Out a1 = some r) : Calls Try.prog 25 #[.pointer (some ⟨b0, 0, none⟩), .int .i64 a1] w0 fun e w => ∃ v, e = .returned v ∧ (.int .i64 r = v ∧ St M w0 w []) := by
  have H := (ref38_Model_Temperature.f.eq_1 ..).symm.trans h
  clear h
  refine enter Try.func25 rfl Try.ntmps25 rfl (fun a hf => ?_)
  refine seq_reg (fun K1 hK1 => ?_)
  refine stq hf rfl rfl rfl (ex_assign hf rfl) (fun a hf => ?_)
  refine hK1 _ _ ?_
  refine seq_n (fun Q2 hN2 hR2 hX2 => ?_)
  refine bnd H (fun x3 H3 HO3 => ?_)
  clear H
  refine seq_cut (fun a w => Fr a 32 [(0, .pointer (some ⟨b0, 0, none⟩)), (1, .int .i64 a1), (15, .bool x3)] ∧ St M w0 w []) (fun Q3 hJ3 hR3 hX3 => ?_) (fun a w hJ => ?_)
  · replace H := H3
    refine itt H (fun hc4 H => ?_) (fun hc4 H => ?_)
    · -- a1 < 0
      refine region_k (fun K5 hK5 => ?_)
      refine stq hf rfl rfl rfl (ex_move hf rfl) (fun a hf => ?_)
      refine stq hf rfl rfl rfl (ex_lss hf rfl rfl) (fun a hf => ?_)
      refine stq hf rfl rfl rfl (ex_move hf rfl) (fun a hf => ?_)
      replace hf := hf.castB (t := 6) rfl (dec_t hc4)
      replace hf := hf.castB (t := 7) rfl (dec_t hc4)
      refine stepN hf rfl rfl rfl (fun a hf => ?_)
      refine stepN hf rfl rfl rfl (fun a hf => ?_)
      refine stepN hf rfl rfl rfl (fun a hf => ?_)
      refine stepN hf rfl rfl rfl (fun a hf => ?_)
      refine stepN hf rfl rfl rfl (fun a hf => ?_)
      refine stepN hf rfl rfl rfl (fun a hf => ?_)
      refine stepN hf rfl rfl rfl (fun a hf => ?_)
      refine stq hf rfl rfl rfl (ex_pickT hf rfl rfl) (fun a hf => ?_)
      refine hK5 _ _ ?_
      have e3 := some_eq H; subst e3
      exact hJ3 _ _ ⟨hf.sub ⟨rfl, rfl, rfl, trivial⟩, hs⟩
    · -- not a1 < 0
      refine region_k (fun K6 hK6 => ?_)
      refine stq hf rfl rfl rfl (ex_move hf rfl) (fun a hf => ?_)
      refine stq hf rfl rfl rfl (ex_lss hf rfl rfl) (fun a hf => ?_)
      refine stq hf rfl rfl rfl (ex_move hf rfl) (fun a hf => ?_)
      replace hf := hf.castB (t := 6) rfl (dec_f hc4)
      replace hf := hf.castB (t := 7) rfl (dec_f hc4)
      refine stq hf rfl rfl rfl (ex_move hf rfl) (fun a hf => ?_)
      refine stq hf rfl rfl rfl (ex_move hf rfl) (fun a hf => ?_)
      refine stq hf rfl rfl rfl (ex_nilCheck hf rfl) (fun a hf => ?_)
      refine stq hf rfl rfl rfl (ex_fieldAddrB fa_69_0 rfl hf rfl) (fun a hf => ?_)
      refine stq hf rfl rfl rfl (ex_load sc_22 hf rfl (bx_cell (hr.now hs (i := 0) rfl) _ rfl)) (fun a hf => ?_)
      refine stq hf rfl rfl rfl (ex_lenS Try.underlying22 (rsl_isSl (hr.now hs (i := 1) rfl)) hf rfl) (fun a hf => ?_)
      refine stq hf rfl rfl rfl (ex_geq hf rfl rfl) (fun a hf => ?_)
      refine stq hf rfl rfl rfl (ex_pickF hf rfl rfl) (fun a hf => ?_)
      refine hK6 _ _ ?_
      have e3 := some_eq H; subst e3
      exact hJ3 _ _ ⟨hf.sub ⟨rfl, rfl, rfl, trivial⟩, hs⟩
  · obtain ⟨hf, hs⟩ := hJ
    replace H := HO3
    clear HO3
    refine itt H (fun hc7 H => ?_) (fun hc7 H => ?_)
    · -- x3 = true
      replace hf := hf.castB (t := 15) rfl hc7
      refine cond_T hf rfl ?_
      refine seq_reg (fun K8 hK8 => ?_)
      refine stq hf rfl rfl rfl (ex_assign hf rfl) (fun a hf => ?_)
      refine hK8 _ _ ?_
      refine wp_ret ?_
      refine hR2 _ _ ?_
      have eR := some_eq H; subst eR
      exact ret1 Try.results25 hf rfl ⟨_, rfl, ⟨rfl, hs⟩⟩
    · -- not x3 = true
      replace hf := hf.castB (t := 15) rfl (bool_f hc7)
      refine cond_F hf rfl ?_
      refine wp_skip ?_
      refine hN2 _ _ ?_
      refine seq_n (fun Q9 hN9 hR9 hX9 => ?_)
      refine ck_some H (fun hc10 H => ?_)
      refine ck_some H (fun hc11 H => ?_)
      refine bnd H (fun s12 hs12 H => ?_)
      refine region_d fol 16 [(0, .pointer (some ⟨b0, 0, none⟩)), (1, .int .i64 a1)] [(0, .pointer (some ⟨b0, 0, none⟩)), (1, .pointer (some ⟨b0, 0, none⟩)), (2, .pointer (some ⟨b0, 3, none⟩)), (3, v0_E), (4, .int .i64 a1), (5, .pointer (some (sla v0_E (a1.toNat * 1)))), (6, .int .i64 (gd 0 a0_E a1)), (7, .pointer (some ⟨b0, 0, none⟩)), (8, .pointer (some ⟨b0, 0, none⟩)), (9, .pointer (some ⟨b0, 0, none⟩)), (10, v0_D), (11, .int .i64 a1), (12, .pointer (some (sla v0_D (a1.toNat * 2)))), (13, .pointer (some (sla v0_D (a1.toNat * 2 + 0)))), (14, .int .i64 ((gd HeatDomain.zero a0_D a1).Capacity))] [15] (fun w => (bx b0 69 [v0_D, v0_L, .int .i64 a0_Base, v0_E, .int .i64 a0_Out]).ok w ∧ (rsl K_int64 v0_E a0_E).ok w ∧ (rsl K_api_HeatDomain v0_D a0_D).ok w ∧ True) (fun w => St M w0 w []) hf ⟨rfl, rfl, trivial⟩ (by kernel_rfl) (by kernel_rfl) rfl (by decide) ⟨hr.now hs.drew (i := 0) rfl, hr.now hs.drew (i := 3) rfl, hr.now hs.drew (i := 1) rfl, trivial⟩ hs.drew (.cons (⟨_, _, rfl, rfl, rfl, rfl, fun a w hR hf => .inl ⟨wanted_yes hf rfl, ex_move hf rfl⟩⟩) (.cons (⟨_, _, rfl, rfl, rfl, rfl, fun a w hR hf => .inl ⟨wanted_yes hf rfl, ex_nilCheck hf rfl⟩⟩) (.cons (⟨_, _, rfl, rfl, rfl, rfl, fun a w hR hf => .inl ⟨wanted_yes hf rfl, ex_fieldAddrB fa_69_3 rfl hf rfl⟩⟩) (.cons (⟨_, _, rfl, rfl, rfl, rfl, fun a w hR hf => .inl ⟨wanted_yes hf rfl, ex_load sc_35 hf rfl (bx_cell (hR.1) _ rfl)⟩⟩) (.cons (⟨_, _, rfl, rfl, rfl, rfl, fun a w hR hf => .inl ⟨wanted_yes hf rfl, ex_move hf rfl⟩⟩) (.cons (⟨_, _, rfl, rfl, rfl, rfl, fun a w hR hf => .inl ⟨wanted_yes hf rfl, ex_indexAddr sa_35 (rsl_isSl hR.2.1) hc10.1 hc10.2 hf rfl rfl⟩⟩) (.cons (⟨_, _, rfl, rfl, rfl, rfl, fun a w hR hf => .inl ⟨wanted_yes hf rfl, ex_load sc_2 hf rfl (el_cell (K := K_int64) (f := 0) (rsl_rd hR.2.1) hc10.1 hc10.2 rfl)⟩⟩) (.cons (⟨_, _, rfl, rfl, rfl, rfl, fun a w hR hf => .inl ⟨wanted_yes hf rfl, ex_move hf rfl⟩⟩) (.cons (⟨_, _, rfl, rfl, rfl, rfl, fun a w hR hf => .inl ⟨wanted_yes hf rfl, ex_nilCheck hf rfl⟩⟩) (.cons (⟨_, _, rfl, rfl, rfl, rfl, fun a w hR hf => .inl ⟨wanted_yes hf rfl, ex_fieldAddrB fa_69_0 rfl hf rfl⟩⟩) (.cons (⟨_, _, rfl, rfl, rfl, rfl, fun a w hR hf => .inl ⟨wanted_yes hf rfl, ex_load sc_22 hf rfl (bx_cell (hR.1) _ rfl)⟩⟩) (.cons (⟨_, _, rfl, rfl, rfl, rfl, fun a w hR hf => .inl ⟨wanted_yes hf rfl, ex_move hf rfl⟩⟩) (.cons (⟨_, _, rfl, rfl, rfl, rfl, fun a w hR hf => .inl ⟨wanted_yes hf rfl, ex_indexAddr sa_22 (rsl_isSl hR.2.2.1) hc11.1 hc11.2 hf rfl rfl⟩⟩) (.cons (⟨_, _, rfl, rfl, rfl, rfl, fun a w hR hf => .inl ⟨wanted_yes hf rfl, ex_fieldAddrS fa_34_0 rfl hf rfl⟩⟩) (.cons (⟨_, _, rfl, rfl, rfl, rfl, fun a w hR hf => .inl ⟨wanted_yes hf rfl, ex_load sc_2 hf rfl (el_cell (K := K_api_HeatDomain) (f := 0) (rsl_rd hR.2.2.1) hc11.1 hc11.2 rfl)⟩⟩) (.nil)))))))))))))))) (fun K13 hK13 => ?_)
      refine RW.one 15 (by kernel_rfl) (by kernel_rfl) rfl (fun d hd => by cases hd; rfl) [(22, .int .i64 (gd 0 a0_E a1)), (30, .int .i64 ((gd HeatDomain.zero a0_D a1).Capacity))] ⟨rfl, rfl, trivial⟩ (fun a w hR hs hf => ⟨wanted_yes hf rfl, ?_⟩)
      refine estep_f (ex_call cf_38 hf rfl) (ref38_floor.calls k (gd 0 a0_E a1) ((gd HeatDomain.zero a0_D a1).Capacity) (hs.enter .nil) (Sr.nil _ _) hs12) (fun v w hR => ?_)
      obtain ⟨rfl, hs'⟩ := hR
      replace hs := hs.step .nil hs'
      clear hs'
      refine ⟨[], [(15, .int .i64 s12), (0, .pointer (some ⟨b0, 0, none⟩)), (1, .pointer (some ⟨b0, 0, none⟩)), (2, .pointer (some ⟨b0, 3, none⟩)), (3, v0_E), (4, .int .i64 a1), (5, .pointer (some (sla v0_E (a1.toNat * 1)))), (6, .int .i64 (gd 0 a0_E a1)), (7, .pointer (some ⟨b0, 0, none⟩)), (8, .pointer (some ⟨b0, 0, none⟩)), (9, .pointer (some ⟨b0, 0, none⟩)), (10, v0_D), (11, .int .i64 a1), (12, .pointer (some (sla v0_D (a1.toNat * 2)))), (13, .pointer (some (sla v0_D (a1.toNat * 2 + 0)))), (14, .int .i64 ((gd HeatDomain.zero a0_D a1).Capacity))], [], (fun _ => True), (fun w => St M w0 w []), rfl, rfl, ⟨hr.now hs (i := 0) rfl, hr.now hs (i := 3) rfl, hr.now hs (i := 1) rfl, trivial⟩, trivial, hs, (by kernel_rfl), .nil, ?_⟩
      refine RW.zero (by kernel_rfl) (by kernel_rfl) [(31, .int .i64 s12)] ⟨rfl, trivial⟩ (fun a w hR hs hf => ?_)
      refine stq hf rfl rfl rfl (ex_assign hf rfl) (fun a hf => ?_)
      refine hK13 _ _ ?_
      refine hN9 _ _ ?_
      refine wp_ret ?_
      have eR := some_eq H; subst eR
      exact ret1 Try.results25 hf rfl ⟨_, rfl, ⟨rfl, hs⟩⟩

set_option maxRecDepth 100000 in
theorem ref38_Model_temperatures.calls {M : Nat → Prop} {w0 : World} (k : Nat) (a0_D : (List HeatDomain)) (a0_L : (List HeatLink)) (a0_Base : Int) (a0_E : (List Int)) (a0_Out : Int) (b0 : Nat) (v0_D : Value) (v0_L : Value) (v0_E : Value) {r : (List Int)} (hs : St M w0 w0 []) (hr : Sr M w0 [bx b0 69 [v0_D, v0_L, .int .i64 a0_Base, v0_E, .int .i64 a0_Out], rsl K_api_HeatDomain v0_D a0_D, rsl K_api_HeatLink v0_L a0_L, rsl K_int64 v0_E a0_E])
    (h : ref38_Model_temperatures.f k a0_D a0_L a0_Base a0_E a0_Out = some r) : Calls Try.prog 37 #[.pointer (some ⟨b0, 0, none⟩)] w0 fun e w => ∃ v, e = .returned v ∧ (∃ (g0 : Value), g0 = v ∧ St M w0 w [osl K_int64 g0 r]) := by
  have H := (ref38_Model_temperatures.f.eq_1 ..).symm.trans h
  clear h
  refine enter Try.func37 rfl Try.ntmps37 rfl (fun a hf => ?_)
  refine seq_reg (fun K1 hK1 => ?_)
  refine stq hf rfl rfl rfl (ex_assign hf rfl) (fun a hf => ?_)
  refine hK1 _ _ ?_
  refine seq_reg (fun K2 hK2 => ?_)
  refine stq hf rfl rfl rfl (ex_assign hf rfl) (fun a hf => ?_)
  refine hK2 _ _ ?_
  refine bnd H (fun x3 H3 HO3 => ?_)
  clear H
  refine seq_cut (fun a w => ∃ (v4 : Value), Fr a 21 [(3, v4)] ∧ St M w0 w [osl K_int64 v4 x3]) (fun Q3 hJ3 hR3 hX3 => ?_) (fun a w hJ => ?_)
  · replace H := H3
    refine seq_reg (fun K5 hK5 => ?_)
    refine stq hf rfl rfl rfl (ex_assign hf rfl) (fun a hf => ?_)
    refine hK5 _ _ ?_
    refine block_k (fun Q6 hN6 hR6 hX6 hY6 => ?_)
    refine loop_k (fun n a w => ∃ (y8 : (List Int)) (y9 : Int) (v7 : Value), Fr a 21 [(0, .pointer (some ⟨b0, 0, none⟩)), (3, v7), (4, .int .i64 y9)] ∧ St M w0 w [osl K_int64 v7 y8] ∧ ref38_Model_temperatures.l1 n a0_D a0_L a0_Base a0_E a0_Out y8 y9 = some x3) k ?_ (fun n11 a w hI Q11 hL11 hR11 hX11 => ?_)
    · -- at the start
      replace hs := hs.nilS K_int64
      exact ⟨[], 0, (.slice none 0 0), hf.sub ⟨rfl, rfl, rfl, trivial⟩, hs, H⟩
    · obtain ⟨y8, y9, v7, hf, hs, H⟩ := hI
      cases n11 with
      | zero => exact absurd H (by rw [ref38_Model_temperatures.l1.eq_1]; intro h; cases h)
      | succ k11 =>
        replace H := (ref38_Model_temperatures.l1.eq_2 ..).symm.trans H
        refine seq_n (fun Q12 hN12 hR12 hX12 => ?_)
        refine seq_reg (fun K13 hK13 => ?_)
        refine stq hf rfl rfl rfl (ex_move hf rfl) (fun a hf => ?_)
        refine stq hf rfl rfl rfl (ex_move hf rfl) (fun a hf => ?_)
        refine stq hf rfl rfl rfl (ex_nilCheck hf rfl) (fun a hf => ?_)
        refine stq hf rfl rfl rfl (ex_fieldAddrB fa_69_0 rfl hf rfl) (fun a hf => ?_)
        refine stq hf rfl rfl rfl (ex_load sc_22 hf rfl (bx_cell (hr.now hs (i := 0) rfl) _ rfl)) (fun a hf => ?_)
        refine stq hf rfl rfl rfl (ex_lenS Try.underlying22 (rsl_isSl (hr.now hs (i := 1) rfl)) hf rfl) (fun a hf => ?_)
        refine stq hf rfl rfl rfl (ex_lss hf rfl rfl) (fun a hf => ?_)
        refine hK13 _ _ ?_
        refine itt H (fun hc14 H => ?_) (fun hc14 H => ?_)
        · -- y9 < (a0_D.length : Int)
          replace hf := hf.castB (t := 11) rfl (dec_t hc14)
          refine cond_T hf rfl ?_
          refine wp_skip ?_
          refine hN12 _ _ ?_
          refine seq_n (fun Q15 hN15 hR15 hX15 => ?_)
          refine block_k (fun Q16 hN16 hR16 hX16 hY16 => ?_)
          refine bnd H (fun s17 hs17 H => ?_)
          refine ck_some H (fun hc19 H => ?_)
          refine region_k (fun K21 hK21 => ?_)
          refine stq hf rfl rfl rfl (ex_move hf rfl) (fun a hf => ?_)
          refine stq hf rfl rfl rfl (ex_move hf rfl) (fun a hf => ?_)
          refine stq hf rfl rfl rfl (ex_move hf rfl) (fun a hf => ?_)
          refine stepF hf rfl rfl rfl (ex_call cf_25 hf rfl) (ref38_Model_Temperature.calls k11 a0_D a0_L a0_Base a0_E a0_Out y9 b0 v0_D v0_L v0_E (hs.enter (.k .nil)) (Sr.old hr hs (.k .nil) (i := 0) rfl (fun _ h => h) (fun _ h => h) (Sr.old hr hs (.k .nil) (i := 1) rfl (fun _ h => h) (fun _ h => h) (Sr.old hr hs (.k .nil) (i := 2) rfl (fun _ h => h) (fun _ h => h) (Sr.old hr hs (.k .nil) (i := 3) rfl (fun _ h => h) (fun _ h => h) (Sr.nil _ _))))) hs17) (fun v w hR a hf => ?_)
          obtain ⟨rfl, hs'⟩ := hR
          replace hs := hs.step (.k .nil) hs'
          clear hs'
          refine stepV hf rfl rfl rfl (er_buildSlice (K := K_int64) (xs := [s17]) hs Try.underlying35 ep_2 rfl rfl hf rfl (.cons rfl .nil) rfl rfl) (fun v18 w hs a hf => ?_)
          refine stepV hf rfl rfl rfl (er_append (K := K_int64) hs (.k (.c .nil)) (osl_rsl _ (hs.get (i := 0) rfl)) rfl Try.underlying35 ep_2 hc19 rfl hf rfl rfl) (fun v20 w hs a hf => ?_)
          refine stq hf rfl rfl rfl (ex_assign hf rfl) (fun a hf => ?_)
          refine hK21 _ _ ?_
          refine hN16 _ _ ?_
          refine hN15 _ _ ?_
          refine region_k (fun K22 hK22 => ?_)
          refine stq hf rfl rfl rfl (ex_move hf rfl) (fun a hf => ?_)
          refine stq hf rfl rfl rfl (ex_add hf rfl rfl) (fun a hf => ?_)
          refine stq hf rfl rfl rfl (ex_assign hf rfl) (fun a hf => ?_)
          refine hK22 _ _ ?_
          replace hs := hs.keep (.k (.d .nil))
          exact hL11 k11 _ _ (Nat.lt_succ_self _) ⟨(y8 ++ [s17]), (IntKind.i64.wrap (y9 + 1)), v20, hf.sub ⟨rfl, rfl, rfl, trivial⟩, hs, H⟩
        · -- not y9 < (a0_D.length : Int)
          replace hf := hf.castB (t := 11) rfl (dec_f hc14)
          refine cond_F hf rfl ?_
          refine wp_exit ?_
          refine hX12 0 _ _ ?_
          refine hX11 0 _ _ ?_
          refine hX6 _ _ ?_
          have e3 := some_eq H; subst e3
          exact hJ3 _ _ ⟨v7, hf.sub ⟨rfl, trivial⟩, hs⟩
  · obtain ⟨v4, hf, hs⟩ := hJ
    replace H := HO3
    clear HO3
    refine seq_reg (fun K23 hK23 => ?_)
    refine stq hf rfl rfl rfl (ex_move hf rfl) (fun a hf => ?_)
    refine stq hf rfl rfl rfl (ex_assign hf rfl) (fun a hf => ?_)
    refine hK23 _ _ ?_
    refine wp_ret ?_
    have eR := some_eq H; subst eR
    exact ret1 Try.results37 hf rfl ⟨_, rfl, ⟨v4, rfl, hs⟩⟩

set_option maxRecDepth 100000 in
theorem ref38_Model_Step.calls {M : Nat → Prop} {w0 : World} (k : Nat) (a0_D : (List HeatDomain)) (a0_L : (List HeatLink)) (a0_Base : Int) (a0_E : (List Int)) (a0_Out : Int) (a1 : (List Int)) (b0 : Nat) (v0_D : Value) (v0_L : Value) (v0_E : Value) (v1 : Value) {r : Int × (List Int) × (List Int) × Int} (hs : St M w0 w0 [bx b0 69 [v0_D, v0_L, .int .i64 a0_Base, v0_E, .int .i64 a0_Out], osl K_int64 v0_E a0_E]) (hr : Sr M w0 [rsl K_api_HeatDomain v0_D a0_D, rsl K_api_HeatLink v0_L a0_L, rsl K_int64 v1 a1])
    (h : ref38_Model_Step.f k a0_D a0_L a0_Base a0_E a0_Out a1 = some r) : Calls Try.prog 21 #[.pointer (some ⟨b0, 0, none⟩), v1] w0 fun e w => ∃ v, e = .returned v ∧ (∃ (g0 : Value) (g1 : Value), .tuple #[g1, .int .i64 r.2.2.2] = v ∧ St M w0 w [bx b0 69 [v0_D, v0_L, .int .i64 a0_Base, g0, .int .i64 r.1], osl K_int64 g0 r.2.1, osl K_int64 g1 r.2.2.1]) := by
  have H := (ref38_Model_Step.f.eq_1 ..).symm.trans h
  clear h
  refine enter Try.func21 rfl Try.ntmps21 rfl (fun a hf => ?_)
  refine seq_reg (fun K1 hK1 => ?_)
  refine stq hf rfl rfl rfl (ex_assign hf rfl) (fun a hf => ?_)
  refine stq hf rfl rfl rfl (ex_assign hf rfl) (fun a hf => ?_)
  refine hK1 _ _ ?_
  refine seq_n (fun Q2 hN2 hR2 hX2 => ?_)
  refine bnd H (fun s3 hs3 H => ?_)
  refine seq_reg (fun K4 hK4 => ?_)
  refine stq hf rfl rfl rfl (ex_move hf rfl) (fun a hf => ?_)
  refine stq hf rfl rfl rfl (ex_nilCheck hf rfl) (fun a hf => ?_)
  refine stq hf rfl rfl rfl (ex_fieldAddrB fa_69_0 rfl hf rfl) (fun a hf => ?_)
  refine stq hf rfl rfl rfl (ex_load sc_22 hf rfl (bx_cell (hs.get (i := 0) rfl) _ rfl)) (fun a hf => ?_)
  refine stq hf rfl rfl rfl (ex_lenS Try.underlying22 (rsl_isSl (hr.now hs (i := 0) rfl)) hf rfl) (fun a hf => ?_)
  refine stq hf rfl rfl rfl (ex_move hf rfl) (fun a hf => ?_)
  refine stepF hf rfl rfl rfl (ex_call cf_36 hf rfl) (ref38_powers.calls k (a0_D.length : Int) a1 v1 (hs.enter (.k (.k .nil))) (Sr.old hr hs (.k (.k .nil)) (i := 2) rfl (fun _ h => h) (fun _ h => h) (Sr.nil _ _)) hs3) (fun v w hR a hf => ?_)
  obtain ⟨rfl, hs'⟩ := hR
  replace hs := hs.step (.k (.k .nil)) hs'
  clear hs'
  refine stq hf rfl rfl rfl (ex_not hf rfl) (fun a hf => ?_)
  refine hK4 _ _ ?_
  refine itt H (fun hc5 H => ?_) (fun hc5 H => ?_)
  · -- s3 = true
    replace hf := hf.castB (t := 18) rfl hc5
    replace hf := hf.castB (t := 19) rfl (nbool_f hc5)
    refine cond_F hf rfl ?_
    refine wp_skip ?_
    refine hN2 _ _ ?_
    refine bnd H (fun s6 hs6 H => ?_)
    refine seq_reg (fun K8 hK8 => ?_)
    refine stq hf rfl rfl rfl (ex_move hf rfl) (fun a hf => ?_)
    refine stepF hf rfl rfl rfl (ex_call cf_37 hf rfl) (ref38_Model_temperatures.calls k a0_D a0_L a0_Base a0_E a0_Out b0 v0_D v0_L v0_E (hs.enter (.k (.k .nil))) (Sr.own hs (.k (.k .nil)) (i := 0) rfl (fun _ h => h) (fun _ h => h) (Sr.old hr hs (.k (.k .nil)) (i := 0) rfl (fun _ h => h) (fun _ h => h) (Sr.old hr hs (.k (.k .nil)) (i := 1) rfl (fun _ h => h) (fun _ h => h) (Sr.own hs (.k (.k .nil)) (i := 1) rfl osl_rsl (fun _ h => h.1) (Sr.nil _ _))))) hs6) (fun v w hR a hf => ?_)
    obtain ⟨v7, rfl, hs'⟩ := hR
    replace hs := hs.step (.k (.k .nil)) hs'
    clear hs'
    refine stq hf rfl rfl rfl (ex_assign hf rfl) (fun a hf => ?_)
    refine hK8 _ _ ?_
    refine bnd H (fun x9 H9 HO9 => ?_)
    clear H
    refine seq_cut (fun a w => Fr a 144 [(0, .pointer (some ⟨b0, 0, none⟩)), (6, v7)] ∧ St M w0 w [bx b0 69 [v0_D, v0_L, .int .i64 a0_Base, v0_E, .int .i64 x9.2], osl K_int64 v0_E x9.1, osl K_int64 v7 s6]) (fun Q9 hJ9 hR9 hX9 => ?_) (fun a w hJ => ?_)
    · replace H := H9
      refine seq_reg (fun K10 hK10 => ?_)
      refine stq hf rfl rfl rfl (ex_assign hf rfl) (fun a hf => ?_)
      refine hK10 _ _ ?_
      refine block_k (fun Q11 hN11 hR11 hX11 hY11 => ?_)
      refine loop_k (fun n a w => ∃ (y12 : (List Int)) (y13 : Int) (y14 : Int), Fr a 144 [(0, .pointer (some ⟨b0, 0, none⟩)), (1, v1), (6, v7), (7, .int .i64 y14)] ∧ St M w0 w [bx b0 69 [v0_D, v0_L, .int .i64 a0_Base, v0_E, .int .i64 y13], osl K_int64 v0_E y12, osl K_int64 v7 s6] ∧ ref38_Model_Step.l1 n a0_D s6 a1 a0_Base y12 y13 y14 = some x9) k ?_ (fun n16 a w hI Q16 hL16 hR16 hX16 => ?_)
      · -- at the start
        replace hs := hs.pick (.k (.k (.c .nil)))
        replace hs := hs.pick (.k (.k (.c .nil)))
        exact ⟨a0_E, a0_Out, 0, hf.sub ⟨rfl, rfl, rfl, rfl, trivial⟩, hs, H⟩
      · obtain ⟨y12, y13, y14, hf, hs, H⟩ := hI
        cases n16 with
        | zero => exact absurd H (by rw [ref38_Model_Step.l1.eq_1]; intro h; cases h)
        | succ k16 =>
          replace H := (ref38_Model_Step.l1.eq_2 ..).symm.trans H
          refine seq_n (fun Q17 hN17 hR17 hX17 => ?_)
          refine seq_reg (fun K18 hK18 => ?_)
          refine stq hf rfl rfl rfl (ex_move hf rfl) (fun a hf => ?_)
          refine stq hf rfl rfl rfl (ex_move hf rfl) (fun a hf => ?_)
          refine stq hf rfl rfl rfl (ex_nilCheck hf rfl) (fun a hf => ?_)
          refine stq hf rfl rfl rfl (ex_fieldAddrB fa_69_0 rfl hf rfl) (fun a hf => ?_)
          refine stq hf rfl rfl rfl (ex_load sc_22 hf rfl (bx_cell (hs.get (i := 0) rfl) _ rfl)) (fun a hf => ?_)
          refine stq hf rfl rfl rfl (ex_lenS Try.underlying22 (rsl_isSl (hr.now hs (i := 0) rfl)) hf rfl) (fun a hf => ?_)
          refine stq hf rfl rfl rfl (ex_lss hf rfl rfl) (fun a hf => ?_)
          refine hK18 _ _ ?_
          refine itt H (fun hc19 H => ?_) (fun hc19 H => ?_)
          · -- y14 < (a0_D.length : Int)
            replace hf := hf.castB (t := 28) rfl (dec_t hc19)
            refine cond_T hf rfl ?_
            refine wp_skip ?_
            refine hN17 _ _ ?_
            refine seq_n (fun Q20 hN20 hR20 hX20 => ?_)
            refine block_k (fun Q21 hN21 hR21 hX21 hY21 => ?_)
            refine seq_n (fun Q22 hN22 hR22 hX22 => ?_)
            refine ck_some H (fun hc23 H => ?_)
            refine ck_some H (fun hc24 H => ?_)
            refine region_d fol 18 [(0, .pointer (some ⟨b0, 0, none⟩)), (1, v1), (6, v7), (7, .int .i64 y14)] [(0, .pointer (some ⟨b0, 0, none⟩)), (1, .pointer (some ⟨b0, 0, none⟩)), (2, .pointer (some ⟨b0, 0, none⟩)), (3, v0_D), (4, .int .i64 y14), (5, .pointer (some (sla v0_D (y14.toNat * 2)))), (6, .pointer (some (sla v0_D (y14.toNat * 2 + 1)))), (7, .int .i64 ((gd HeatDomain.zero a0_D y14).Ambient)), (8, v7), (9, .int .i64 y14), (10, .pointer (some (sla v7 (y14.toNat * 1)))), (11, .int .i64 (gd 0 s6 y14)), (12, .pointer (some ⟨b0, 0, none⟩)), (13, .pointer (some ⟨b0, 0, none⟩)), (14, .pointer (some ⟨b0, 2, none⟩)), (15, .int .i64 a0_Base), (16, .int .i64 (IntKind.i64.wrap ((gd 0 s6 y14) - a0_Base))), (17, .int .i64 (IntKind.i64.wrap (((gd HeatDomain.zero a0_D y14).Ambient) * (IntKind.i64.wrap ((gd 0 s6 y14) - a0_Base)))))] [] (fun w => (bx b0 69 [v0_D, v0_L, .int .i64 a0_Base, v0_E, .int .i64 y13]).ok w ∧ (rsl K_api_HeatDomain v0_D a0_D).ok w ∧ (osl K_int64 v7 s6).ok w ∧ True) (fun w => St M w0 w [bx b0 69 [v0_D, v0_L, .int .i64 a0_Base, v0_E, .int .i64 y13], osl K_int64 v0_E y12, osl K_int64 v7 s6]) hf ⟨rfl, rfl, rfl, rfl, trivial⟩ (by kernel_rfl) (by kernel_rfl) rfl (by decide) ⟨hs.drew.get (i := 0) rfl, hr.now hs.drew (i := 0) rfl, hs.drew.get (i := 2) rfl, trivial⟩ hs.drew (.cons (⟨_, _, rfl, rfl, rfl, rfl, fun a w hR hf => .inl ⟨wanted_yes hf rfl, ex_move hf rfl⟩⟩) (.cons (⟨_, _, rfl, rfl, rfl, rfl, fun a w hR hf => .inl ⟨wanted_yes hf rfl, ex_nilCheck hf rfl⟩⟩) (.cons (⟨_, _, rfl, rfl, rfl, rfl, fun a w hR hf => .inl ⟨wanted_yes hf rfl, ex_fieldAddrB fa_69_0 rfl hf rfl⟩⟩) (.cons (⟨_, _, rfl, rfl, rfl, rfl, fun a w hR hf => .inl ⟨wanted_yes hf rfl, ex_load sc_22 hf rfl (bx_cell (hR.1) _ rfl)⟩⟩) (.cons (⟨_, _, rfl, rfl, rfl, rfl, fun a w hR hf => .inl ⟨wanted_yes hf rfl, ex_move hf rfl⟩⟩) (.cons (⟨_, _, rfl, rfl, rfl, rfl, fun a w hR hf => .inl ⟨wanted_yes hf rfl, ex_indexAddr sa_22 (rsl_isSl hR.2.1) hc23.1 hc23.2 hf rfl rfl⟩⟩) (.cons (⟨_, _, rfl, rfl, rfl, rfl, fun a w hR hf => .inl ⟨wanted_yes hf rfl, ex_fieldAddrS fa_34_1 rfl hf rfl⟩⟩) (.cons (⟨_, _, rfl, rfl, rfl, rfl, fun a w hR hf => .inl ⟨wanted_yes hf rfl, ex_load sc_2 hf rfl (el_cell (K := K_api_HeatDomain) (f := 1) (rsl_rd hR.2.1) hc23.1 hc23.2 rfl)⟩⟩) (.cons (⟨_, _, rfl, rfl, rfl, rfl, fun a w hR hf => .inl ⟨wanted_yes hf rfl, ex_move hf rfl⟩⟩) (.cons (⟨_, _, rfl, rfl, rfl, rfl, fun a w hR hf => .inl ⟨wanted_yes hf rfl, ex_move hf rfl⟩⟩) (.cons (⟨_, _, rfl, rfl, rfl, rfl, fun a w hR hf => .inl ⟨wanted_yes hf rfl, ex_indexAddr sa_35 (rsl_isSl (osl_rsl _ hR.2.2.1)) hc24.1 hc24.2 hf rfl rfl⟩⟩) (.cons (⟨_, _, rfl, rfl, rfl, rfl, fun a w hR hf => .inl ⟨wanted_yes hf rfl, ex_load sc_2 hf rfl (el_cell (K := K_int64) (f := 0) (rsl_rd (osl_rsl _ hR.2.2.1)) hc24.1 hc24.2 rfl)⟩⟩) (.cons (⟨_, _, rfl, rfl, rfl, rfl, fun a w hR hf => .inl ⟨wanted_yes hf rfl, ex_move hf rfl⟩⟩) (.cons (⟨_, _, rfl, rfl, rfl, rfl, fun a w hR hf => .inl ⟨wanted_yes hf rfl, ex_nilCheck hf rfl⟩⟩) (.cons (⟨_, _, rfl, rfl, rfl, rfl, fun a w hR hf => .inl ⟨wanted_yes hf rfl, ex_fieldAddrB fa_69_2 rfl hf rfl⟩⟩) (.cons (⟨_, _, rfl, rfl, rfl, rfl, fun a w hR hf => .inl ⟨wanted_yes hf rfl, ex_load sc_2 hf rfl (bx_cell (hR.1) _ rfl)⟩⟩) (.cons (⟨_, _, rfl, rfl, rfl, rfl, fun a w hR hf => .inl ⟨wanted_yes hf rfl, ex_sub hf rfl rfl⟩⟩) (.cons (⟨_, _, rfl, rfl, rfl, rfl, fun a w hR hf => .inl ⟨wanted_yes hf rfl, ex_mul hf rfl rfl⟩⟩) (.nil))))))))))))))))))) (fun K25 hK25 => ?_)
            refine RW.zero (by kernel_rfl) (by kernel_rfl) [(0, .pointer (some ⟨b0, 0, none⟩)), (1, v1), (6, v7), (7, .int .i64 y14), (48, .int .i64 (IntKind.i64.wrap (((gd HeatDomain.zero a0_D y14).Ambient) * (IntKind.i64.wrap ((gd 0 s6 y14) - a0_Base)))))] ⟨rfl, rfl, rfl, rfl, rfl, trivial⟩ (fun a w hR hs hf => ?_)
            refine stq hf rfl rfl rfl (ex_assign hf rfl) (fun a hf => ?_)
            refine hK25 _ _ ?_
            refine hN22 _ _ ?_
            refine seq_n (fun Q26 hN26 hR26 hX26 => ?_)
            refine ck_some H (fun hc27 H => ?_)
            refine ck_some H (fun hc28 H => ?_)
            refine region_d fol 19 [(0, .pointer (some ⟨b0, 0, none⟩)), (1, v1), (6, v7), (7, .int .i64 y14), (8, .int .i64 (IntKind.i64.wrap (((gd HeatDomain.zero a0_D y14).Ambient) * (IntKind.i64.wrap ((gd 0 s6 y14) - a0_Base)))))] [(0, .pointer (some ⟨b0, 0, none⟩)), (1, .pointer (some ⟨b0, 0, none⟩)), (2, .pointer (some ⟨b0, 3, none⟩)), (3, v0_E), (4, .int .i64 y14), (5, .pointer (some ⟨b0, 0, none⟩)), (6, .pointer (some ⟨b0, 0, none⟩)), (7, .pointer (some ⟨b0, 3, none⟩)), (8, v0_E), (9, .int .i64 y14), (10, .pointer (some (sla v0_E (y14.toNat * 1)))), (11, .int .i64 (gd 0 y12 y14)), (12, v1), (13, .int .i64 y14), (14, .pointer (some (sla v1 (y14.toNat * 1)))), (15, .int .i64 (gd 0 a1 y14)), (16, .int .i64 (IntKind.i64.wrap ((gd 0 y12 y14) + (gd 0 a1 y14)))), (17, .int .i64 (IntKind.i64.wrap (((gd HeatDomain.zero a0_D y14).Ambient) * (IntKind.i64.wrap ((gd 0 s6 y14) - a0_Base))))), (18, .int .i64 (IntKind.i64.wrap ((IntKind.i64.wrap ((gd 0 y12 y14) + (gd 0 a1 y14))) - (IntKind.i64.wrap (((gd HeatDomain.zero a0_D y14).Ambient) * (IntKind.i64.wrap ((gd 0 s6 y14) - a0_Base)))))))] [] (fun w => (bx b0 69 [v0_D, v0_L, .int .i64 a0_Base, v0_E, .int .i64 y13]).ok w ∧ (osl K_int64 v0_E y12).ok w ∧ (rsl K_int64 v1 a1).ok w ∧ True) (fun w => St M w0 w [bx b0 69 [v0_D, v0_L, .int .i64 a0_Base, v0_E, .int .i64 y13], osl K_int64 v0_E y12, osl K_int64 v7 s6]) hf ⟨rfl, rfl, rfl, rfl, rfl, trivial⟩ (by kernel_rfl) (by kernel_rfl) rfl (by decide) ⟨hs.drew.get (i := 0) rfl, hs.drew.get (i := 1) rfl, hr.now hs.drew (i := 2) rfl, trivial⟩ hs.drew (.cons (⟨_, _, rfl, rfl, rfl, rfl, fun a w hR hf => .inl ⟨wanted_yes hf rfl, ex_move hf rfl⟩⟩) (.cons (⟨_, _, rfl, rfl, rfl, rfl, fun a w hR hf => .inl ⟨wanted_yes hf rfl, ex_nilCheck hf rfl⟩⟩) (.cons (⟨_, _, rfl, rfl, rfl, rfl, fun a w hR hf => .inl ⟨wanted_yes hf rfl, ex_fieldAddrB fa_69_3 rfl hf rfl⟩⟩) (.cons (⟨_, _, rfl, rfl, rfl, rfl, fun a w hR hf => .inl ⟨wanted_yes hf rfl, ex_load sc_35 hf rfl (bx_cell (hR.1) _ rfl)⟩⟩) (.cons (⟨_, _, rfl, rfl, rfl, rfl, fun a w hR hf => .inl ⟨wanted_yes hf rfl, ex_move hf rfl⟩⟩) (.cons (⟨_, _, rfl, rfl, rfl, rfl, fun a w hR hf => .inl ⟨wanted_yes hf rfl, ex_move hf rfl⟩⟩) (.cons (⟨_, _, rfl, rfl, rfl, rfl, fun a w hR hf => .inl ⟨wanted_yes hf rfl, ex_nilCheck hf rfl⟩⟩) (.cons (⟨_, _, rfl, rfl, rfl, rfl, fun a w hR hf => .inl ⟨wanted_yes hf rfl, ex_fieldAddrB fa_69_3 rfl hf rfl⟩⟩) (.cons (⟨_, _, rfl, rfl, rfl, rfl, fun a w hR hf => .inl ⟨wanted_yes hf rfl, ex_load sc_35 hf rfl (bx_cell (hR.1) _ rfl)⟩⟩) (.cons (⟨_, _, rfl, rfl, rfl, rfl, fun a w hR hf => .inl ⟨wanted_yes hf rfl, ex_move hf rfl⟩⟩) (.cons (⟨_, _, rfl, rfl, rfl, rfl, fun a w hR hf => .inl ⟨wanted_yes hf rfl, ex_indexAddr sa_35 (rsl_isSl (osl_rsl _ hR.2.1)) hc27.1 hc27.2 hf rfl rfl⟩⟩) (.cons (⟨_, _, rfl, rfl, rfl, rfl, fun a w hR hf => .inl ⟨wanted_yes hf rfl, ex_load sc_2 hf rfl (el_cell (K := K_int64) (f := 0) (rsl_rd (osl_rsl _ hR.2.1)) hc27.1 hc27.2 rfl)⟩⟩) (.cons (⟨_, _, rfl, rfl, rfl, rfl, fun a w hR hf => .inl ⟨wanted_yes hf rfl, ex_move hf rfl⟩⟩) (.cons (⟨_, _, rfl, rfl, rfl, rfl, fun a w hR hf => .inl ⟨wanted_yes hf rfl, ex_move hf rfl⟩⟩) (.cons (⟨_, _, rfl, rfl, rfl, rfl, fun a w hR hf => .inl ⟨wanted_yes hf rfl, ex_indexAddr sa_35 (rsl_isSl hR.2.2.1) hc28.1 hc28.2 hf rfl rfl⟩⟩) (.cons (⟨_, _, rfl, rfl, rfl, rfl, fun a w hR hf => .inl ⟨wanted_yes hf rfl, ex_load sc_2 hf rfl (el_cell (K := K_int64) (f := 0) (rsl_rd hR.2.2.1) hc28.1 hc28.2 rfl)⟩⟩) (.cons (⟨_, _, rfl, rfl, rfl, rfl, fun a w hR hf => .inl ⟨wanted_yes hf rfl, ex_add hf rfl rfl⟩⟩) (.cons (⟨_, _, rfl, rfl, rfl, rfl, fun a w hR hf => .inl ⟨wanted_yes hf rfl, ex_move hf rfl⟩⟩) (.cons (⟨_, _, rfl, rfl, rfl, rfl, fun a w hR hf => .inl ⟨wanted_yes hf rfl, ex_sub hf rfl rfl⟩⟩) (.nil)))))))))))))))))))) (fun K29 hK29 => ?_)
            refine RW.zero (by kernel_rfl) (by kernel_rfl) [(0, .pointer (some ⟨b0, 0, none⟩)), (1, v1), (6, v7), (7, .int .i64 y14), (8, .int .i64 (IntKind.i64.wrap (((gd HeatDomain.zero a0_D y14).Ambient) * (IntKind.i64.wrap ((gd 0 s6 y14) - a0_Base))))), (52, v0_E), (53, .int .i64 y14), (67, .int .i64 (IntKind.i64.wrap ((IntKind.i64.wrap ((gd 0 y12 y14) + (gd 0 a1 y14))) - (IntKind.i64.wrap (((gd HeatDomain.zero a0_D y14).Ambient) * (IntKind.i64.wrap ((gd 0 s6 y14) - a0_Base)))))))] ⟨rfl, rfl, rfl, rfl, rfl, rfl, rfl, rfl, trivial⟩ (fun a w hR hs hf => ?_)
            refine stq hf rfl rfl rfl (ex_indexAddr sa_35 (rsl_isSl (osl_rsl _ (hs.get (i := 1) rfl))) hc27.1 hc27.2 hf rfl rfl) (fun a hf => ?_)
            refine stepS hf rfl rfl (er_storeE (K := K_int64) (f := 0) (x' := (IntKind.i64.wrap ((IntKind.i64.wrap ((gd 0 y12 y14) + (gd 0 a1 y14))) - (IntKind.i64.wrap (((gd HeatDomain.zero a0_D y14).Ambient) * (IntKind.i64.wrap ((gd 0 s6 y14) - a0_Base))))))) hs (.k (.c (.k .nil))) hc27.1 hc27.2 hf rfl rfl rfl sz_2 rfl rfl) (fun w hs => ?_)
            refine hK29 _ _ ?_
            refine hN26 _ _ ?_
            refine region_k (fun K30 hK30 => ?_)
            refine stq hf rfl rfl rfl (ex_move hf rfl) (fun a hf => ?_)
            refine stq hf rfl rfl rfl (ex_move hf rfl) (fun a hf => ?_)
            refine stq hf rfl rfl rfl (ex_nilCheck hf rfl) (fun a hf => ?_)
            refine stq hf rfl rfl rfl (ex_fieldAddrB fa_69_4 rfl hf rfl) (fun a hf => ?_)
            refine stq hf rfl rfl rfl (ex_load sc_2 hf rfl (bx_cell (hs.get (i := 1) rfl) _ rfl)) (fun a hf => ?_)
            refine stq hf rfl rfl rfl (ex_move hf rfl) (fun a hf => ?_)
            refine stq hf rfl rfl rfl (ex_add hf rfl rfl) (fun a hf => ?_)
            refine stq hf rfl rfl rfl (ex_nilCheck hf rfl) (fun a hf => ?_)
            refine stq hf rfl rfl rfl (ex_fieldAddrB fa_69_4 rfl hf rfl) (fun a hf => ?_)
            refine stepS hf rfl rfl (er_storeB hs (.k (.c (.k .nil))) hf rfl rfl rfl sz_2 rfl) (fun w hs => ?_)
            refine hK30 _ _ ?_
            refine hN21 _ _ ?_
            refine hN20 _ _ ?_
            refine region_k (fun K31 hK31 => ?_)
            refine stq hf rfl rfl rfl (ex_move hf rfl) (fun a hf => ?_)
            refine stq hf rfl rfl rfl (ex_add hf rfl rfl) (fun a hf => ?_)
            refine stq hf rfl rfl rfl (ex_assign hf rfl) (fun a hf => ?_)
            refine hK31 _ _ ?_
            exact hL16 k16 _ _ (Nat.lt_succ_self _) ⟨(y12.set y14.toNat (IntKind.i64.wrap ((IntKind.i64.wrap ((gd 0 y12 y14) + (gd 0 a1 y14))) - (IntKind.i64.wrap (((gd HeatDomain.zero a0_D y14).Ambient) * (IntKind.i64.wrap ((gd 0 s6 y14) - a0_Base))))))), (IntKind.i64.wrap (y13 + (IntKind.i64.wrap (((gd HeatDomain.zero a0_D y14).Ambient) * (IntKind.i64.wrap ((gd 0 s6 y14) - a0_Base)))))), (IntKind.i64.wrap (y14 + 1)), hf.sub ⟨rfl, rfl, rfl, rfl, trivial⟩, hs, H⟩
          · -- not y14 < (a0_D.length : Int)
            replace hf := hf.castB (t := 28) rfl (dec_f hc19)
            refine cond_F hf rfl ?_
            refine wp_exit ?_
            refine hX17 0 _ _ ?_
            refine hX16 0 _ _ ?_
            refine hX11 _ _ ?_
            have e9 := some_eq H; subst e9
            exact hJ9 _ _ ⟨hf.sub ⟨rfl, rfl, trivial⟩, hs⟩
    · obtain ⟨hf, hs⟩ := hJ
      replace H := HO9
      clear HO9
      refine bnd H (fun x32 H32 HO32 => ?_)
      clear H
      refine seq_cut (fun a w => Fr a 144 [(0, .pointer (some ⟨b0, 0, none⟩))] ∧ St M w0 w [bx b0 69 [v0_D, v0_L, .int .i64 a0_Base, v0_E, .int .i64 x9.2], osl K_int64 v0_E x32]) (fun Q32 hJ32 hR32 hX32 => ?_) (fun a w hJ => ?_)
      · replace H := H32
        refine seq_reg (fun K33 hK33 => ?_)
        refine stq hf rfl rfl rfl (ex_assign hf rfl) (fun a hf => ?_)
        refine hK33 _ _ ?_
        refine block_k (fun Q34 hN34 hR34 hX34 hY34 => ?_)
        refine loop_k (fun n a w => ∃ (y35 : (List Int)) (y36 : Int), Fr a 144 [(0, .pointer (some ⟨b0, 0, none⟩)), (6, v7), (9, .int .i64 y36)] ∧ St M w0 w [bx b0 69 [v0_D, v0_L, .int .i64 a0_Base, v0_E, .int .i64 x9.2], osl K_int64 v0_E y35, osl K_int64 v7 s6] ∧ ref38_Model_Step.l2 n a0_L s6 y35 y36 = some x32) k ?_ (fun n38 a w hI Q38 hL38 hR38 hX38 => ?_)
        · -- at the start
          exact ⟨x9.1, 0, hf.sub ⟨rfl, rfl, rfl, trivial⟩, hs, H⟩
        · obtain ⟨y35, y36, hf, hs, H⟩ := hI
          cases n38 with
          | zero => exact absurd H (by rw [ref38_Model_Step.l2.eq_1]; intro h; cases h)
          | succ k38 =>
            replace H := (ref38_Model_Step.l2.eq_2 ..).symm.trans H
            refine seq_n (fun Q39 hN39 hR39 hX39 => ?_)
            refine seq_reg (fun K40 hK40 => ?_)
            refine stq hf rfl rfl rfl (ex_move hf rfl) (fun a hf => ?_)
            refine stq hf rfl rfl rfl (ex_move hf rfl) (fun a hf => ?_)
            refine stq hf rfl rfl rfl (ex_nilCheck hf rfl) (fun a hf => ?_)
            refine stq hf rfl rfl rfl (ex_fieldAddrB fa_69_1 rfl hf rfl) (fun a hf => ?_)
            refine stq hf rfl rfl rfl (ex_load sc_23 hf rfl (bx_cell (hs.get (i := 0) rfl) _ rfl)) (fun a hf => ?_)
            refine stq hf rfl rfl rfl (ex_lenS Try.underlying23 (rsl_isSl (hr.now hs (i := 1) rfl)) hf rfl) (fun a hf => ?_)
            refine stq hf rfl rfl rfl (ex_lss hf rfl rfl) (fun a hf => ?_)
            refine hK40 _ _ ?_
            refine itt H (fun hc41 H => ?_) (fun hc41 H => ?_)
            · -- y36 < (a0_L.length : Int)
              replace hf := hf.castB (t := 84) rfl (dec_t hc41)
              refine cond_T hf rfl ?_
              refine wp_skip ?_
              refine hN39 _ _ ?_
              refine seq_n (fun Q42 hN42 hR42 hX42 => ?_)
              refine block_k (fun Q43 hN43 hR43 hX43 hY43 => ?_)
              refine ck_some H (fun hc44 H => ?_)
              refine seq_reg (fun K46 hK46 => ?_)
              refine stq hf rfl rfl rfl (ex_move hf rfl) (fun a hf => ?_)
              refine stq hf rfl rfl rfl (ex_nilCheck hf rfl) (fun a hf => ?_)
              refine stq hf rfl rfl rfl (ex_fieldAddrB fa_69_1 rfl hf rfl) (fun a hf => ?_)
              refine stq hf rfl rfl rfl (ex_load sc_23 hf rfl (bx_cell (hs.get (i := 0) rfl) _ rfl)) (fun a hf => ?_)
              refine stq hf rfl rfl rfl (ex_move hf rfl) (fun a hf => ?_)
              refine stq hf rfl rfl rfl (ex_indexAddr sa_23 (rsl_isSl (hr.now hs (i := 1) rfl)) hc44.1 hc44.2 hf rfl rfl) (fun a hf => ?_)
              refine stq hf rfl rfl rfl (ex_loadA (cs := [.int .i64 ((gd HeatLink.zero a0_L y36).A), .int .i64 ((gd HeatLink.zero a0_L y36).B), .int .i64 ((gd HeatLink.zero a0_L y36).Conductance)]) ag_43 hf rfl (el_cells (K := K_api_HeatLink) (rsl_rd (hr.now hs (i := 1) rfl)) hc44.1 hc44.2 rfl)) (fun a hf => ?_)
              refine stepV hf rfl rfl rfl (er_alloc hs ti_43 (cs := [.int .i64 0, .int .i64 0, .int .i64 0]) rfl) (fun v w hR a hf => ?_)
              obtain ⟨b45, rfl, hs⟩ := hR
              refine stepS hf rfl rfl (er_storeAB (vs := [.int .i64 ((gd HeatLink.zero a0_L y36).A), .int .i64 ((gd HeatLink.zero a0_L y36).B), .int .i64 ((gd HeatLink.zero a0_L y36).Conductance)]) (cs' := [.int .i64 ((gd HeatLink.zero a0_L y36).A), .int .i64 ((gd HeatLink.zero a0_L y36).B), .int .i64 ((gd HeatLink.zero a0_L y36).Conductance)]) hs (.c (.k (.k (.k .nil)))) sz_43 hf rfl rfl (all1 rfl (all1 rfl (all1 rfl (all1_nil)))) rfl rfl) (fun w hs => ?_)
              refine hK46 _ _ ?_
              refine seq_n (fun Q47 hN47 hR47 hX47 => ?_)
              refine ck_some H (fun hc48 H => ?_)
              refine ck_some H (fun hc49 H => ?_)
              refine region_d fol 14 [(0, .pointer (some ⟨b0, 0, none⟩)), (6, v7), (9, .int .i64 y36), (10, .pointer (some ⟨b45, 0, none⟩))] [(0, .pointer (some ⟨b45, 2, none⟩)), (1, .int .i64 ((gd HeatLink.zero a0_L y36).Conductance)), (2, v7), (3, .pointer (some ⟨b45, 0, none⟩)), (4, .int .i64 ((gd HeatLink.zero a0_L y36).A)), (5, .pointer (some (sla v7 (((gd HeatLink.zero a0_L y36).A).toNat * 1)))), (6, .int .i64 (gd 0 s6 ((gd HeatLink.zero a0_L y36).A))), (7, v7), (8, .pointer (some ⟨b45, 1, none⟩)), (9, .int .i64 ((gd HeatLink.zero a0_L y36).B)), (10, .pointer (some (sla v7 (((gd HeatLink.zero a0_L y36).B).toNat * 1)))), (11, .int .i64 (gd 0 s6 ((gd HeatLink.zero a0_L y36).B))), (12, .int .i64 (IntKind.i64.wrap ((gd 0 s6 ((gd HeatLink.zero a0_L y36).A)) - (gd 0 s6 ((gd HeatLink.zero a0_L y36).B))))), (13, .int .i64 (IntKind.i64.wrap (((gd HeatLink.zero a0_L y36).Conductance) * (IntKind.i64.wrap ((gd 0 s6 ((gd HeatLink.zero a0_L y36).A)) - (gd 0 s6 ((gd HeatLink.zero a0_L y36).B)))))))] [] (fun w => (bx b45 43 [.int .i64 ((gd HeatLink.zero a0_L y36).A), .int .i64 ((gd HeatLink.zero a0_L y36).B), .int .i64 ((gd HeatLink.zero a0_L y36).Conductance)]).ok w ∧ (osl K_int64 v7 s6).ok w ∧ True) (fun w => St M w0 w [bx b45 43 [.int .i64 ((gd HeatLink.zero a0_L y36).A), .int .i64 ((gd HeatLink.zero a0_L y36).B), .int .i64 ((gd HeatLink.zero a0_L y36).Conductance)], bx b0 69 [v0_D, v0_L, .int .i64 a0_Base, v0_E, .int .i64 x9.2], osl K_int64 v0_E y35, osl K_int64 v7 s6]) hf ⟨rfl, rfl, rfl, rfl, trivial⟩ (by kernel_rfl) (by kernel_rfl) rfl (by decide) ⟨hs.drew.get (i := 0) rfl, hs.drew.get (i := 3) rfl, trivial⟩ hs.drew (.cons (⟨_, _, rfl, rfl, rfl, rfl, fun a w hR hf => .inl ⟨wanted_yes hf rfl, ex_fieldAddrB fa_43_2 rfl hf rfl⟩⟩) (.cons (⟨_, _, rfl, rfl, rfl, rfl, fun a w hR hf => .inl ⟨wanted_yes hf rfl, ex_load sc_2 hf rfl (bx_cell (hR.1) _ rfl)⟩⟩) (.cons (⟨_, _, rfl, rfl, rfl, rfl, fun a w hR hf => .inl ⟨wanted_yes hf rfl, ex_move hf rfl⟩⟩) (.cons (⟨_, _, rfl, rfl, rfl, rfl, fun a w hR hf => .inl ⟨wanted_yes hf rfl, ex_fieldAddrB fa_43_0 rfl hf rfl⟩⟩) (.cons (⟨_, _, rfl, rfl, rfl, rfl, fun a w hR hf => .inl ⟨wanted_yes hf rfl, ex_load sc_3 hf rfl (bx_cell (hR.1) _ rfl)⟩⟩) (.cons (⟨_, _, rfl, rfl, rfl, rfl, fun a w hR hf => .inl ⟨wanted_yes hf rfl, ex_indexAddr sa_35 (rsl_isSl (osl_rsl _ hR.2.1)) hc48.1 hc48.2 hf rfl rfl⟩⟩) (.cons (⟨_, _, rfl, rfl, rfl, rfl, fun a w hR hf => .inl ⟨wanted_yes hf rfl, ex_load sc_2 hf rfl (el_cell (K := K_int64) (f := 0) (rsl_rd (osl_rsl _ hR.2.1)) hc48.1 hc48.2 rfl)⟩⟩) (.cons (⟨_, _, rfl, rfl, rfl, rfl, fun a w hR hf => .inl ⟨wanted_yes hf rfl, ex_move hf rfl⟩⟩) (.cons (⟨_, _, rfl, rfl, rfl, rfl, fun a w hR hf => .inl ⟨wanted_yes hf rfl, ex_fieldAddrB fa_43_1 rfl hf rfl⟩⟩) (.cons (⟨_, _, rfl, rfl, rfl, rfl, fun a w hR hf => .inl ⟨wanted_yes hf rfl, ex_load sc_3 hf rfl (bx_cell (hR.1) _ rfl)⟩⟩) (.cons (⟨_, _, rfl, rfl, rfl, rfl, fun a w hR hf => .inl ⟨wanted_yes hf rfl, ex_indexAddr sa_35 (rsl_isSl (osl_rsl _ hR.2.1)) hc49.1 hc49.2 hf rfl rfl⟩⟩) (.cons (⟨_, _, rfl, rfl, rfl, rfl, fun a w hR hf => .inl ⟨wanted_yes hf rfl, ex_load sc_2 hf rfl (el_cell (K := K_int64) (f := 0) (rsl_rd (osl_rsl _ hR.2.1)) hc49.1 hc49.2 rfl)⟩⟩) (.cons (⟨_, _, rfl, rfl, rfl, rfl, fun a w hR hf => .inl ⟨wanted_yes hf rfl, ex_sub hf rfl rfl⟩⟩) (.cons (⟨_, _, rfl, rfl, rfl, rfl, fun a w hR hf => .inl ⟨wanted_yes hf rfl, ex_mul hf rfl rfl⟩⟩) (.nil))))))))))))))) (fun K50 hK50 => ?_)
              refine RW.zero (by kernel_rfl) (by kernel_rfl) [(0, .pointer (some ⟨b0, 0, none⟩)), (6, v7), (9, .int .i64 y36), (10, .pointer (some ⟨b45, 0, none⟩)), (107, .int .i64 (IntKind.i64.wrap (((gd HeatLink.zero a0_L y36).Conductance) * (IntKind.i64.wrap ((gd 0 s6 ((gd HeatLink.zero a0_L y36).A)) - (gd 0 s6 ((gd HeatLink.zero a0_L y36).B)))))))] ⟨rfl, rfl, rfl, rfl, rfl, trivial⟩ (fun a w hR hs hf => ?_)
              refine stq hf rfl rfl rfl (ex_assign hf rfl) (fun a hf => ?_)
              refine hK50 _ _ ?_
              refine hN47 _ _ ?_
              refine seq_n (fun Q51 hN51 hR51 hX51 => ?_)
              refine ck_some H (fun hc52 H => ?_)
              refine region_d fol 16 [(0, .pointer (some ⟨b0, 0, none⟩)), (6, v7), (9, .int .i64 y36), (10, .pointer (some ⟨b45, 0, none⟩)), (11, .int .i64 (IntKind.i64.wrap (((gd HeatLink.zero a0_L y36).Conductance) * (IntKind.i64.wrap ((gd 0 s6 ((gd HeatLink.zero a0_L y36).A)) - (gd 0 s6 ((gd HeatLink.zero a0_L y36).B)))))))] [(0, .pointer (some ⟨b0, 0, none⟩)), (1, .pointer (some ⟨b0, 0, none⟩)), (2, .pointer (some ⟨b0, 3, none⟩)), (3, v0_E), (4, .pointer (some ⟨b45, 0, none⟩)), (5, .int .i64 ((gd HeatLink.zero a0_L y36).A)), (6, .pointer (some ⟨b0, 0, none⟩)), (7, .pointer (some ⟨b0, 0, none⟩)), (8, .pointer (some ⟨b0, 3, none⟩)), (9, v0_E), (10, .pointer (some ⟨b45, 0, none⟩)), (11, .int .i64 ((gd HeatLink.zero a0_L y36).A)), (12, .pointer (some (sla v0_E (((gd HeatLink.zero a0_L y36).A).toNat * 1)))), (13, .int .i64 (gd 0 y35 ((gd HeatLink.zero a0_L y36).A))), (14, .int .i64 (IntKind.i64.wrap (((gd HeatLink.zero a0_L y36).Conductance) * (IntKind.i64.wrap ((gd 0 s6 ((gd HeatLink.zero a0_L y36).A)) - (gd 0 s6 ((gd HeatLink.zero a0_L y36).B))))))), (15, .int .i64 (IntKind.i64.wrap ((gd 0 y35 ((gd HeatLink.zero a0_L y36).A)) - (IntKind.i64.wrap (((gd HeatLink.zero a0_L y36).Conductance) * (IntKind.i64.wrap ((gd 0 s6 ((gd HeatLink.zero a0_L y36).A)) - (gd 0 s6 ((gd HeatLink.zero a0_L y36).B)))))))))] [] (fun w => (bx b0 69 [v0_D, v0_L, .int .i64 a0_Base, v0_E, .int .i64 x9.2]).ok w ∧ (bx b45 43 [.int .i64 ((gd HeatLink.zero a0_L y36).A), .int .i64 ((gd HeatLink.zero a0_L y36).B), .int .i64 ((gd HeatLink.zero a0_L y36).Conductance)]).ok w ∧ (osl K_int64 v0_E y35).ok w ∧ True) (fun w => St M w0 w [bx b45 43 [.int .i64 ((gd HeatLink.zero a0_L y36).A), .int .i64 ((gd HeatLink.zero a0_L y36).B), .int .i64 ((gd HeatLink.zero a0_L y36).Conductance)], bx b0 69 [v0_D, v0_L, .int .i64 a0_Base, v0_E, .int .i64 x9.2], osl K_int64 v0_E y35, osl K_int64 v7 s6]) hf ⟨rfl, rfl, rfl, rfl, rfl, trivial⟩ (by kernel_rfl) (by kernel_rfl) rfl (by decide) ⟨hs.drew.get (i := 1) rfl, hs.drew.get (i := 0) rfl, hs.drew.get (i := 2) rfl, trivial⟩ hs.drew (.cons (⟨_, _, rfl, rfl, rfl, rfl, fun a w hR hf => .inl ⟨wanted_yes hf rfl, ex_move hf rfl⟩⟩) (.cons (⟨_, _, rfl, rfl, rfl, rfl, fun a w hR hf => .inl ⟨wanted_yes hf rfl, ex_nilCheck hf rfl⟩⟩) (.cons (⟨_, _, rfl, rfl, rfl, rfl, fun a w hR hf => .inl ⟨wanted_yes hf rfl, ex_fieldAddrB fa_69_3 rfl hf rfl⟩⟩) (.cons (⟨_, _, rfl, rfl, rfl, rfl, fun a w hR hf => .inl ⟨wanted_yes hf rfl, ex_load sc_35 hf rfl (bx_cell (hR.1) _ rfl)⟩⟩) (.cons (⟨_, _, rfl, rfl, rfl, rfl, fun a w hR hf => .inl ⟨wanted_yes hf rfl, ex_fieldAddrB fa_43_0 rfl hf rfl⟩⟩) (.cons (⟨_, _, rfl, rfl, rfl, rfl, fun a w hR hf => .inl ⟨wanted_yes hf rfl, ex_load sc_3 hf rfl (bx_cell (hR.2.1) _ rfl)⟩⟩) (.cons (⟨_, _, rfl, rfl, rfl, rfl, fun a w hR hf => .inl ⟨wanted_yes hf rfl, ex_move hf rfl⟩⟩) (.cons (⟨_, _, rfl, rfl, rfl, rfl, fun a w hR hf => .inl ⟨wanted_yes hf rfl, ex_nilCheck hf rfl⟩⟩) (.cons (⟨_, _, rfl, rfl, rfl, rfl, fun a w hR hf => .inl ⟨wanted_yes hf rfl, ex_fieldAddrB fa_69_3 rfl hf rfl⟩⟩) (.cons (⟨_, _, rfl, rfl, rfl, rfl, fun a w hR hf => .inl ⟨wanted_yes hf rfl, ex_load sc_35 hf rfl (bx_cell (hR.1) _ rfl)⟩⟩) (.cons (⟨_, _, rfl, rfl, rfl, rfl, fun a w hR hf => .inl ⟨wanted_yes hf rfl, ex_fieldAddrB fa_43_0 rfl hf rfl⟩⟩) (.cons (⟨_, _, rfl, rfl, rfl, rfl, fun a w hR hf => .inl ⟨wanted_yes hf rfl, ex_load sc_3 hf rfl (bx_cell (hR.2.1) _ rfl)⟩⟩) (.cons (⟨_, _, rfl, rfl, rfl, rfl, fun a w hR hf => .inl ⟨wanted_yes hf rfl, ex_indexAddr sa_35 (rsl_isSl (osl_rsl _ hR.2.2.1)) hc52.1 hc52.2 hf rfl rfl⟩⟩) (.cons (⟨_, _, rfl, rfl, rfl, rfl, fun a w hR hf => .inl ⟨wanted_yes hf rfl, ex_load sc_2 hf rfl (el_cell (K := K_int64) (f := 0) (rsl_rd (osl_rsl _ hR.2.2.1)) hc52.1 hc52.2 rfl)⟩⟩) (.cons (⟨_, _, rfl, rfl, rfl, rfl, fun a w hR hf => .inl ⟨wanted_yes hf rfl, ex_move hf rfl⟩⟩) (.cons (⟨_, _, rfl, rfl, rfl, rfl, fun a w hR hf => .inl ⟨wanted_yes hf rfl, ex_sub hf rfl rfl⟩⟩) (.nil))))))))))))))))) (fun K53 hK53 => ?_)
              refine RW.zero (by kernel_rfl) (by kernel_rfl) [(0, .pointer (some ⟨b0, 0, none⟩)), (6, v7), (9, .int .i64 y36), (10, .pointer (some ⟨b45, 0, none⟩)), (11, .int .i64 (IntKind.i64.wrap (((gd HeatLink.zero a0_L y36).Conductance) * (IntKind.i64.wrap ((gd 0 s6 ((gd HeatLink.zero a0_L y36).A)) - (gd 0 s6 ((gd HeatLink.zero a0_L y36).B))))))), (111, v0_E), (113, .int .i64 ((gd HeatLink.zero a0_L y36).A)), (123, .int .i64 (IntKind.i64.wrap ((gd 0 y35 ((gd HeatLink.zero a0_L y36).A)) - (IntKind.i64.wrap (((gd HeatLink.zero a0_L y36).Conductance) * (IntKind.i64.wrap ((gd 0 s6 ((gd HeatLink.zero a0_L y36).A)) - (gd 0 s6 ((gd HeatLink.zero a0_L y36).B)))))))))] ⟨rfl, rfl, rfl, rfl, rfl, rfl, rfl, rfl, trivial⟩ (fun a w hR hs hf => ?_)
              refine stq hf rfl rfl rfl (ex_indexAddr sa_35 (rsl_isSl (osl_rsl _ (hs.get (i := 2) rfl))) hc52.1 hc52.2 hf rfl rfl) (fun a hf => ?_)
              refine stepS hf rfl rfl (er_storeE (K := K_int64) (f := 0) (x' := (IntKind.i64.wrap ((gd 0 y35 ((gd HeatLink.zero a0_L y36).A)) - (IntKind.i64.wrap (((gd HeatLink.zero a0_L y36).Conductance) * (IntKind.i64.wrap ((gd 0 s6 ((gd HeatLink.zero a0_L y36).A)) - (gd 0 s6 ((gd HeatLink.zero a0_L y36).B))))))))) hs (.k (.k (.c (.k .nil)))) hc52.1 hc52.2 hf rfl rfl rfl sz_2 rfl rfl) (fun w hs => ?_)
              refine hK53 _ _ ?_
              refine hN51 _ _ ?_
              refine ck_some H (fun hc54 H => ?_)
              refine region_d fol 16 [(0, .pointer (some ⟨b0, 0, none⟩)), (6, v7), (9, .int .i64 y36), (10, .pointer (some ⟨b45, 0, none⟩)), (11, .int .i64 (IntKind.i64.wrap (((gd HeatLink.zero a0_L y36).Conductance) * (IntKind.i64.wrap ((gd 0 s6 ((gd HeatLink.zero a0_L y36).A)) - (gd 0 s6 ((gd HeatLink.zero a0_L y36).B)))))))] [(0, .pointer (some ⟨b0, 0, none⟩)), (1, .pointer (some ⟨b0, 0, none⟩)), (2, .pointer (some ⟨b0, 3, none⟩)), (3, v0_E), (4, .pointer (some ⟨b45, 1, none⟩)), (5, .int .i64 ((gd HeatLink.zero a0_L y36).B)), (6, .pointer (some ⟨b0, 0, none⟩)), (7, .pointer (some ⟨b0, 0, none⟩)), (8, .pointer (some ⟨b0, 3, none⟩)), (9, v0_E), (10, .pointer (some ⟨b45, 1, none⟩)), (11, .int .i64 ((gd HeatLink.zero a0_L y36).B)), (12, .pointer (some (sla v0_E (((gd HeatLink.zero a0_L y36).B).toNat * 1)))), (13, .int .i64 (gd 0 (y35.set ((gd HeatLink.zero a0_L y36).A).toNat (IntKind.i64.wrap ((gd 0 y35 ((gd HeatLink.zero a0_L y36).A)) - (IntKind.i64.wrap (((gd HeatLink.zero a0_L y36).Conductance) * (IntKind.i64.wrap ((gd 0 s6 ((gd HeatLink.zero a0_L y36).A)) - (gd 0 s6 ((gd HeatLink.zero a0_L y36).B))))))))) ((gd HeatLink.zero a0_L y36).B))), (14, .int .i64 (IntKind.i64.wrap (((gd HeatLink.zero a0_L y36).Conductance) * (IntKind.i64.wrap ((gd 0 s6 ((gd HeatLink.zero a0_L y36).A)) - (gd 0 s6 ((gd HeatLink.zero a0_L y36).B))))))), (15, .int .i64 (IntKind.i64.wrap ((gd 0 (y35.set ((gd HeatLink.zero a0_L y36).A).toNat (IntKind.i64.wrap ((gd 0 y35 ((gd HeatLink.zero a0_L y36).A)) - (IntKind.i64.wrap (((gd HeatLink.zero a0_L y36).Conductance) * (IntKind.i64.wrap ((gd 0 s6 ((gd HeatLink.zero a0_L y36).A)) - (gd 0 s6 ((gd HeatLink.zero a0_L y36).B))))))))) ((gd HeatLink.zero a0_L y36).B)) + (IntKind.i64.wrap (((gd HeatLink.zero a0_L y36).Conductance) * (IntKind.i64.wrap ((gd 0 s6 ((gd HeatLink.zero a0_L y36).A)) - (gd 0 s6 ((gd HeatLink.zero a0_L y36).B)))))))))] [] (fun w => (bx b0 69 [v0_D, v0_L, .int .i64 a0_Base, v0_E, .int .i64 x9.2]).ok w ∧ (bx b45 43 [.int .i64 ((gd HeatLink.zero a0_L y36).A), .int .i64 ((gd HeatLink.zero a0_L y36).B), .int .i64 ((gd HeatLink.zero a0_L y36).Conductance)]).ok w ∧ (osl K_int64 v0_E (y35.set ((gd HeatLink.zero a0_L y36).A).toNat (IntKind.i64.wrap ((gd 0 y35 ((gd HeatLink.zero a0_L y36).A)) - (IntKind.i64.wrap (((gd HeatLink.zero a0_L y36).Conductance) * (IntKind.i64.wrap ((gd 0 s6 ((gd HeatLink.zero a0_L y36).A)) - (gd 0 s6 ((gd HeatLink.zero a0_L y36).B)))))))))).ok w ∧ True) (fun w => St M w0 w [osl K_int64 v0_E (y35.set ((gd HeatLink.zero a0_L y36).A).toNat (IntKind.i64.wrap ((gd 0 y35 ((gd HeatLink.zero a0_L y36).A)) - (IntKind.i64.wrap (((gd HeatLink.zero a0_L y36).Conductance) * (IntKind.i64.wrap ((gd 0 s6 ((gd HeatLink.zero a0_L y36).A)) - (gd 0 s6 ((gd HeatLink.zero a0_L y36).B))))))))), bx b45 43 [.int .i64 ((gd HeatLink.zero a0_L y36).A), .int .i64 ((gd HeatLink.zero a0_L y36).B), .int .i64 ((gd HeatLink.zero a0_L y36).Conductance)], bx b0 69 [v0_D, v0_L, .int .i64 a0_Base, v0_E, .int .i64 x9.2], osl K_int64 v7 s6]) hf ⟨rfl, rfl, rfl, rfl, rfl, trivial⟩ (by kernel_rfl) (by kernel_rfl) rfl (by decide) ⟨hs.drew.get (i := 2) rfl, hs.drew.get (i := 1) rfl, hs.drew.get (i := 0) rfl, trivial⟩ hs.drew (.cons (⟨_, _, rfl, rfl, rfl, rfl, fun a w hR hf => .inl ⟨wanted_yes hf rfl, ex_move hf rfl⟩⟩) (.cons (⟨_, _, rfl, rfl, rfl, rfl, fun a w hR hf => .inl ⟨wanted_yes hf rfl, ex_nilCheck hf rfl⟩⟩) (.cons (⟨_, _, rfl, rfl, rfl, rfl, fun a w hR hf => .inl ⟨wanted_yes hf rfl, ex_fieldAddrB fa_69_3 rfl hf rfl⟩⟩) (.cons (⟨_, _, rfl, rfl, rfl, rfl, fun a w hR hf => .inl ⟨wanted_yes hf rfl, ex_load sc_35 hf rfl (bx_cell (hR.1) _ rfl)⟩⟩) (.cons (⟨_, _, rfl, rfl, rfl, rfl, fun a w hR hf => .inl ⟨wanted_yes hf rfl, ex_fieldAddrB fa_43_1 rfl hf rfl⟩⟩) (.cons (⟨_, _, rfl, rfl, rfl, rfl, fun a w hR hf => .inl ⟨wanted_yes hf rfl, ex_load sc_3 hf rfl (bx_cell (hR.2.1) _ rfl)⟩⟩) (.cons (⟨_, _, rfl, rfl, rfl, rfl, fun a w hR hf => .inl ⟨wanted_yes hf rfl, ex_move hf rfl⟩⟩) (.cons (⟨_, _, rfl, rfl, rfl, rfl, fun a w hR hf => .inl ⟨wanted_yes hf rfl, ex_nilCheck hf rfl⟩⟩) (.cons (⟨_, _, rfl, rfl, rfl, rfl, fun a w hR hf => .inl ⟨wanted_yes hf rfl, ex_fieldAddrB fa_69_3 rfl hf rfl⟩⟩) (.cons (⟨_, _, rfl, rfl, rfl, rfl, fun a w hR hf => .inl ⟨wanted_yes hf rfl, ex_load sc_35 hf rfl (bx_cell (hR.1) _ rfl)⟩⟩) (.cons (⟨_, _, rfl, rfl, rfl, rfl, fun a w hR hf => .inl ⟨wanted_yes hf rfl, ex_fieldAddrB fa_43_1 rfl hf rfl⟩⟩) (.cons (⟨_, _, rfl, rfl, rfl, rfl, fun a w hR hf => .inl ⟨wanted_yes hf rfl, ex_load sc_3 hf rfl (bx_cell (hR.2.1) _ rfl)⟩⟩) (.cons (⟨_, _, rfl, rfl, rfl, rfl, fun a w hR hf => .inl ⟨wanted_yes hf rfl, ex_indexAddr sa_35 (rsl_isSl (osl_rsl _ hR.2.2.1)) hc54.1 hc54.2 hf rfl rfl⟩⟩) (.cons (⟨_, _, rfl, rfl, rfl, rfl, fun a w hR hf => .inl ⟨wanted_yes hf rfl, ex_load sc_2 hf rfl (el_cell (K := K_int64) (f := 0) (rsl_rd (osl_rsl _ hR.2.2.1)) hc54.1 hc54.2 rfl)⟩⟩) (.cons (⟨_, _, rfl, rfl, rfl, rfl, fun a w hR hf => .inl ⟨wanted_yes hf rfl, ex_move hf rfl⟩⟩) (.cons (⟨_, _, rfl, rfl, rfl, rfl, fun a w hR hf => .inl ⟨wanted_yes hf rfl, ex_add hf rfl rfl⟩⟩) (.nil))))))))))))))))) (fun K55 hK55 => ?_)
              refine RW.zero (by kernel_rfl) (by kernel_rfl) [(0, .pointer (some ⟨b0, 0, none⟩)), (6, v7), (9, .int .i64 y36), (128, v0_E), (130, .int .i64 ((gd HeatLink.zero a0_L y36).B)), (140, .int .i64 (IntKind.i64.wrap ((gd 0 (y35.set ((gd HeatLink.zero a0_L y36).A).toNat (IntKind.i64.wrap ((gd 0 y35 ((gd HeatLink.zero a0_L y36).A)) - (IntKind.i64.wrap (((gd HeatLink.zero a0_L y36).Conductance) * (IntKind.i64.wrap ((gd 0 s6 ((gd HeatLink.zero a0_L y36).A)) - (gd 0 s6 ((gd HeatLink.zero a0_L y36).B))))))))) ((gd HeatLink.zero a0_L y36).B)) + (IntKind.i64.wrap (((gd HeatLink.zero a0_L y36).Conductance) * (IntKind.i64.wrap ((gd 0 s6 ((gd HeatLink.zero a0_L y36).A)) - (gd 0 s6 ((gd HeatLink.zero a0_L y36).B)))))))))] ⟨rfl, rfl, rfl, rfl, rfl, rfl, trivial⟩ (fun a w hR hs hf => ?_)
              refine stq hf rfl rfl rfl (ex_indexAddr sa_35 (rsl_isSl (osl_rsl _ (hs.get (i := 0) rfl))) hc54.1 hc54.2 hf rfl rfl) (fun a hf => ?_)
              refine stepS hf rfl rfl (er_storeE (K := K_int64) (f := 0) (x' := (IntKind.i64.wrap ((gd 0 (y35.set ((gd HeatLink.zero a0_L y36).A).toNat (IntKind.i64.wrap ((gd 0 y35 ((gd HeatLink.zero a0_L y36).A)) - (IntKind.i64.wrap (((gd HeatLink.zero a0_L y36).Conductance) * (IntKind.i64.wrap ((gd 0 s6 ((gd HeatLink.zero a0_L y36).A)) - (gd 0 s6 ((gd HeatLink.zero a0_L y36).B))))))))) ((gd HeatLink.zero a0_L y36).B)) + (IntKind.i64.wrap (((gd HeatLink.zero a0_L y36).Conductance) * (IntKind.i64.wrap ((gd 0 s6 ((gd HeatLink.zero a0_L y36).A)) - (gd 0 s6 ((gd HeatLink.zero a0_L y36).B))))))))) hs (.c (.k (.k (.k .nil)))) hc54.1 hc54.2 hf rfl rfl rfl sz_2 rfl rfl) (fun w hs => ?_)
              refine hK55 _ _ ?_
              refine hN43 _ _ ?_
              refine hN42 _ _ ?_
              refine region_k (fun K56 hK56 => ?_)
              refine stq hf rfl rfl rfl (ex_move hf rfl) (fun a hf => ?_)
              refine stq hf rfl rfl rfl (ex_add hf rfl rfl) (fun a hf => ?_)
              refine stq hf rfl rfl rfl (ex_assign hf rfl) (fun a hf => ?_)
              refine hK56 _ _ ?_
              replace hs := hs.keep (.k (.d (.k (.k .nil))))
              replace hs := hs.pick (.k (.k (.c .nil)))
              replace hs := hs.pick (.k (.c (.k .nil)))
              replace hs := hs.pick (.k (.k (.c .nil)))
              exact hL38 k38 _ _ (Nat.lt_succ_self _) ⟨((y35.set ((gd HeatLink.zero a0_L y36).A).toNat (IntKind.i64.wrap ((gd 0 y35 ((gd HeatLink.zero a0_L y36).A)) - (IntKind.i64.wrap (((gd HeatLink.zero a0_L y36).Conductance) * (IntKind.i64.wrap ((gd 0 s6 ((gd HeatLink.zero a0_L y36).A)) - (gd 0 s6 ((gd HeatLink.zero a0_L y36).B))))))))).set ((gd HeatLink.zero a0_L y36).B).toNat (IntKind.i64.wrap ((gd 0 (y35.set ((gd HeatLink.zero a0_L y36).A).toNat (IntKind.i64.wrap ((gd 0 y35 ((gd HeatLink.zero a0_L y36).A)) - (IntKind.i64.wrap (((gd HeatLink.zero a0_L y36).Conductance) * (IntKind.i64.wrap ((gd 0 s6 ((gd HeatLink.zero a0_L y36).A)) - (gd 0 s6 ((gd HeatLink.zero a0_L y36).B))))))))) ((gd HeatLink.zero a0_L y36).B)) + (IntKind.i64.wrap (((gd HeatLink.zero a0_L y36).Conductance) * (IntKind.i64.wrap ((gd 0 s6 ((gd HeatLink.zero a0_L y36).A)) - (gd 0 s6 ((gd HeatLink.zero a0_L y36).B))))))))), (IntKind.i64.wrap (y36 + 1)), hf.sub ⟨rfl, rfl, rfl, trivial⟩, hs, H⟩
            · -- not y36 < (a0_L.length : Int)
              replace hf := hf.castB (t := 84) rfl (dec_f hc41)
              refine cond_F hf rfl ?_
              refine wp_exit ?_
              refine hX39 2 _ _ ?_
              refine hX38 2 _ _ ?_
              refine hX34 _ _ ?_
              replace hs := hs.keep (.k (.k (.d .nil)))
              have e32 := some_eq H; subst e32
              exact hJ32 _ _ ⟨hf.sub ⟨rfl, trivial⟩, hs⟩
      · obtain ⟨hf, hs⟩ := hJ
        replace H := HO32
        clear HO32
        refine bnd H (fun s57 hs57 H => ?_)
        refine seq_reg (fun K59 hK59 => ?_)
        refine stq hf rfl rfl rfl (ex_move hf rfl) (fun a hf => ?_)
        refine stepF hf rfl rfl rfl (ex_call cf_37 hf rfl) (ref38_Model_temperatures.calls k a0_D a0_L a0_Base x32 x9.2 b0 v0_D v0_L v0_E (hs.enter (.k (.k .nil))) (Sr.own hs (.k (.k .nil)) (i := 0) rfl (fun _ h => h) (fun _ h => h) (Sr.old hr hs (.k (.k .nil)) (i := 0) rfl (fun _ h => h) (fun _ h => h) (Sr.old hr hs (.k (.k .nil)) (i := 1) rfl (fun _ h => h) (fun _ h => h) (Sr.own hs (.k (.k .nil)) (i := 1) rfl osl_rsl (fun _ h => h.1) (Sr.nil _ _))))) hs57) (fun v w hR a hf => ?_)
        obtain ⟨v58, rfl, hs'⟩ := hR
        replace hs := hs.step (.k (.k .nil)) hs'
        clear hs'
        refine stq hf rfl rfl rfl (ex_assign hf rfl) (fun a hf => ?_)
        refine stq hf rfl rfl rfl (ex_assign hf rfl) (fun a hf => ?_)
        refine hK59 _ _ ?_
        refine wp_ret ?_
        have eR := some_eq H; subst eR
        replace hs := hs.pick (.k (.k (.c .nil)))
        replace hs := hs.pick (.k (.k (.c .nil)))
        exact ret2 Try.results21 hf rfl rfl ⟨_, rfl, ⟨v0_E, v58, rfl, hs⟩⟩
  · -- not s3 = true
    replace hf := hf.castB (t := 18) rfl (bool_f hc5)
    replace hf := hf.castB (t := 19) rfl (nbool_t hc5)
    refine cond_T hf rfl ?_
    refine seq_reg (fun K60 hK60 => ?_)
    refine stq hf rfl rfl rfl (ex_assign hf rfl) (fun a hf => ?_)
    refine stq hf rfl rfl rfl (ex_assign hf rfl) (fun a hf => ?_)
    refine hK60 _ _ ?_
    refine wp_ret ?_
    refine hR2 _ _ ?_
    have eR := some_eq H; subst eR
    replace hs := hs.nilS K_int64
    replace hs := hs.pick (.k (.k (.c .nil)))
    replace hs := hs.pick (.k (.k (.c .nil)))
    exact ret2 Try.results21 hf rfl rfl ⟨_, rfl, ⟨v0_E, (.slice none 0 0), rfl, hs⟩⟩

set_option maxRecDepth 100000 in
theorem ref38_Model_Released.calls {M : Nat → Prop} {w0 : World} (k : Nat) (a0_D : (List HeatDomain)) (a0_L : (List HeatLink)) (a0_Base : Int) (a0_E : (List Int)) (a0_Out : Int) (b0 : Nat) (v0_D : Value) (v0_L : Value) (v0_E : Value) {r : Int} (hs : St M w0 w0 []) (hr : Sr M w0 [bx b0 69 [v0_D, v0_L, .int .i64 a0_Base, v0_E, .int .i64 a0_Out], rsl K_api_HeatDomain v0_D a0_D, rsl K_api_HeatLink v0_L a0_L, rsl K_int64 v0_E a0_E])
    (h : ref38_Model_Released.f k a0_D a0_L a0_Base a0_E a0_Out = some r) : Calls Try.prog 22 #[.pointer (some ⟨b0, 0, none⟩)] w0 fun e w => ∃ v, e = .returned v ∧ (.int .i64 r = v ∧ St M w0 w []) := by
  have H := (ref38_Model_Released.f.eq_1 ..).symm.trans h
  clear h
  refine enter Try.func22 rfl Try.ntmps22 rfl (fun a hf => ?_)
  refine seq_reg (fun K1 hK1 => ?_)
  refine stq hf rfl rfl rfl (ex_assign hf rfl) (fun a hf => ?_)
  refine hK1 _ _ ?_
  refine seq_reg (fun K2 hK2 => ?_)
  refine stq hf rfl rfl rfl (ex_move hf rfl) (fun a hf => ?_)
  refine stq hf rfl rfl rfl (ex_nilCheck hf rfl) (fun a hf => ?_)
  refine stq hf rfl rfl rfl (ex_fieldAddrB fa_69_4 rfl hf rfl) (fun a hf => ?_)
  refine stq hf rfl rfl rfl (ex_load sc_2 hf rfl (bx_cell (hr.now hs (i := 0) rfl) _ rfl)) (fun a hf => ?_)
  refine stq hf rfl rfl rfl (ex_assign hf rfl) (fun a hf => ?_)
  refine hK2 _ _ ?_
  refine wp_ret ?_
  have eR := some_eq H; subst eR
  exact ret1 Try.results22 hf rfl ⟨_, rfl, ⟨rfl, hs⟩⟩

set_option maxRecDepth 100000 in
theorem ref38_Model_Energy.calls {M : Nat → Prop} {w0 : World} (k : Nat) (a0_D : (List HeatDomain)) (a0_L : (List HeatLink)) (a0_Base : Int) (a0_E : (List Int)) (a0_Out : Int) (a1 : Int) (b0 : Nat) (v0_D : Value) (v0_L : Value) (v0_E : Value) {r : Int} (hs : St M w0 w0 []) (hr : Sr M w0 [bx b0 69 [v0_D, v0_L, .int .i64 a0_Base, v0_E, .int .i64 a0_Out], rsl K_api_HeatDomain v0_D a0_D, rsl K_api_HeatLink v0_L a0_L, rsl K_int64 v0_E a0_E])
    (h : ref38_Model_Energy.f k a0_D a0_L a0_Base a0_E a0_Out a1 = some r) : Calls Try.prog 23 #[.pointer (some ⟨b0, 0, none⟩), .int .i64 a1] w0 fun e w => ∃ v, e = .returned v ∧ (.int .i64 r = v ∧ St M w0 w []) := by
  have H := (ref38_Model_Energy.f.eq_1 ..).symm.trans h
  clear h
  refine enter Try.func23 rfl Try.ntmps23 rfl (fun a hf => ?_)
  refine seq_reg (fun K1 hK1 => ?_)
  refine stq hf rfl rfl rfl (ex_assign hf rfl) (fun a hf => ?_)
  refine hK1 _ _ ?_
  refine seq_n (fun Q2 hN2 hR2 hX2 => ?_)
  refine bnd H (fun x3 H3 HO3 => ?_)
  clear H
  refine seq_cut (fun a w => Fr a 23 [(0, .pointer (some ⟨b0, 0, none⟩)), (1, .int .i64 a1), (15, .bool x3)] ∧ St M w0 w []) (fun Q3 hJ3 hR3 hX3 => ?_) (fun a w hJ => ?_)
  · replace H := H3
    refine itt H (fun hc4 H => ?_) (fun hc4 H => ?_)
    · -- a1 < 0
      refine region_k (fun K5 hK5 => ?_)
      refine stq hf rfl rfl rfl (ex_move hf rfl) (fun a hf => ?_)
      refine stq hf rfl rfl rfl (ex_lss hf rfl rfl) (fun a hf => ?_)
      refine stq hf rfl rfl rfl (ex_move hf rfl) (fun a hf => ?_)
      replace hf := hf.castB (t := 6) rfl (dec_t hc4)
      replace hf := hf.castB (t := 7) rfl (dec_t hc4)
      refine stepN hf rfl rfl rfl (fun a hf => ?_)
      refine stepN hf rfl rfl rfl (fun a hf => ?_)
      refine stepN hf rfl rfl rfl (fun a hf => ?_)
      refine stepN hf rfl rfl rfl (fun a hf => ?_)
      refine stepN hf rfl rfl rfl (fun a hf => ?_)
      refine stepN hf rfl rfl rfl (fun a hf => ?_)
      refine stepN hf rfl rfl rfl (fun a hf => ?_)
      refine stq hf rfl rfl rfl (ex_pickT hf rfl rfl) (fun a hf => ?_)
      refine hK5 _ _ ?_
      have e3 := some_eq H; subst e3
      exact hJ3 _ _ ⟨hf.sub ⟨rfl, rfl, rfl, trivial⟩, hs⟩
    · -- not a1 < 0
      refine region_k (fun K6 hK6 => ?_)
      refine stq hf rfl rfl rfl (ex_move hf rfl) (fun a hf => ?_)
      refine stq hf rfl rfl rfl (ex_lss hf rfl rfl) (fun a hf => ?_)
      refine stq hf rfl rfl rfl (ex_move hf rfl) (fun a hf => ?_)
      replace hf := hf.castB (t := 6) rfl (dec_f hc4)
      replace hf := hf.castB (t := 7) rfl (dec_f hc4)
      refine stq hf rfl rfl rfl (ex_move hf rfl) (fun a hf => ?_)
      refine stq hf rfl rfl rfl (ex_move hf rfl) (fun a hf => ?_)
      refine stq hf rfl rfl rfl (ex_nilCheck hf rfl) (fun a hf => ?_)
      refine stq hf rfl rfl rfl (ex_fieldAddrB fa_69_0 rfl hf rfl) (fun a hf => ?_)
      refine stq hf rfl rfl rfl (ex_load sc_22 hf rfl (bx_cell (hr.now hs (i := 0) rfl) _ rfl)) (fun a hf => ?_)
      refine stq hf rfl rfl rfl (ex_lenS Try.underlying22 (rsl_isSl (hr.now hs (i := 1) rfl)) hf rfl) (fun a hf => ?_)
      refine stq hf rfl rfl rfl (ex_geq hf rfl rfl) (fun a hf => ?_)
      refine stq hf rfl rfl rfl (ex_pickF hf rfl rfl) (fun a hf => ?_)
      refine hK6 _ _ ?_
      have e3 := some_eq H; subst e3
      exact hJ3 _ _ ⟨hf.sub ⟨rfl, rfl, rfl, trivial⟩, hs⟩
  · obtain ⟨hf, hs⟩ := hJ
    replace H := HO3
    clear HO3
    refine itt H (fun hc7 H => ?_) (fun hc7 H => ?_)
    · -- x3 = true
      replace hf := hf.castB (t := 15) rfl hc7
      refine cond_T hf rfl ?_
      refine seq_reg (fun K8 hK8 => ?_)
      refine stq hf rfl rfl rfl (ex_assign hf rfl) (fun a hf => ?_)
      refine hK8 _ _ ?_
      refine wp_ret ?_
      refine hR2 _ _ ?_
      have eR := some_eq H; subst eR
      exact ret1 Try.results23 hf rfl ⟨_, rfl, ⟨rfl, hs⟩⟩
    · -- not x3 = true
      replace hf := hf.castB (t := 15) rfl (bool_f hc7)
      refine cond_F hf rfl ?_
      refine wp_skip ?_
      refine hN2 _ _ ?_
      refine ck_some H (fun hc9 H => ?_)
      refine seq_reg (fun K10 hK10 => ?_)
      refine stq hf rfl rfl rfl (ex_move hf rfl) (fun a hf => ?_)
      refine stq hf rfl rfl rfl (ex_nilCheck hf rfl) (fun a hf => ?_)
      refine stq hf rfl rfl rfl (ex_fieldAddrB fa_69_3 rfl hf rfl) (fun a hf => ?_)
      refine stq hf rfl rfl rfl (ex_load sc_35 hf rfl (bx_cell (hr.now hs (i := 0) rfl) _ rfl)) (fun a hf => ?_)
      refine stq hf rfl rfl rfl (ex_move hf rfl) (fun a hf => ?_)
      refine stq hf rfl rfl rfl (ex_indexAddr sa_35 (rsl_isSl (hr.now hs (i := 3) rfl)) hc9.1 hc9.2 hf rfl rfl) (fun a hf => ?_)
      refine stq hf rfl rfl rfl (ex_load sc_2 hf rfl (el_cell (K := K_int64) (f := 0) (rsl_rd (hr.now hs (i := 3) rfl)) hc9.1 hc9.2 rfl)) (fun a hf => ?_)
      refine stq hf rfl rfl rfl (ex_assign hf rfl) (fun a hf => ?_)
      refine hK10 _ _ ?_
      refine wp_ret ?_
      have eR := some_eq H; subst eR
      exact ret1 Try.results23 hf rfl ⟨_, rfl, ⟨rfl, hs⟩⟩

set_option maxRecDepth 100000 in
theorem heat_Model_Temperature.calls {M : Nat → Prop} {w0 : World} (k : Nat) (a0_domains : (List HeatDomain)) (a0_links : (List HeatLink)) (a0_ambient : Int) (a0_energy : (List Int)) (a0_released : Int) (a1 : Int) (b0 : Nat) (v0_domains : Value) (v0_links : Value) (v0_energy : Value) {r : Int} (hs : St M w0 w0 []) (hr : Sr M w0 [bx b0 64 [v0_domains, v0_links, .int .i64 a0_ambient, v0_energy, .int .i64 a0_released], rsl K_api_HeatDomain v0_domains a0_domains, rsl K_api_HeatLink v0_links a0_links, rsl K_int64 v0_energy a0_energy])
    (h : heat_Model_Temperature.f k a0_domains a0_links a0_ambient a0_energy a0_released a1 = some r) : Calls Try.prog 24 #[.pointer (some ⟨b0, 0, none⟩), .int .i64 a1] w0 fun e w => ∃ v, e = .returned v ∧ (.int .i64 r = v ∧ St M w0 w []) := by
  have H := (heat_Model_Temperature.f.eq_1 ..).symm.trans h
  clear h
  refine enter Try.func24 rfl Try.ntmps24 rfl (fun a hf => ?_)
  refine seq_reg (fun K1 hK1 => ?_)
  refine stq hf rfl rfl rfl (ex_assign hf rfl) (fun a hf => ?_)
  refine hK1 _ _ ?_
  refine seq_n (fun Q2 hN2 hR2 hX2 => ?_)
  refine bnd H (fun x3 H3 HO3 => ?_)
  clear H
  refine seq_cut (fun a w => Fr a 21 [(0, .pointer (some ⟨b0, 0, none⟩)), (1, .int .i64 a1), (15, .bool x3)] ∧ St M w0 w []) (fun Q3 hJ3 hR3 hX3 => ?_) (fun a w hJ => ?_)
  · replace H := H3
    refine itt H (fun hc4 H => ?_) (fun hc4 H => ?_)
    · -- a1 < 0
      refine region_k (fun K5 hK5 => ?_)
      refine stq hf rfl rfl rfl (ex_move hf rfl) (fun a hf => ?_)
      refine stq hf rfl rfl rfl (ex_lss hf rfl rfl) (fun a hf => ?_)
      refine stq hf rfl rfl rfl (ex_move hf rfl) (fun a hf => ?_)
      replace hf := hf.castB (t := 6) rfl (dec_t hc4)
      replace hf := hf.castB (t := 7) rfl (dec_t hc4)
      refine stepN hf rfl rfl rfl (fun a hf => ?_)
      refine stepN hf rfl rfl rfl (fun a hf => ?_)
      refine stepN hf rfl rfl rfl (fun a hf => ?_)
      refine stepN hf rfl rfl rfl (fun a hf => ?_)
      refine stepN hf rfl rfl rfl (fun a hf => ?_)
      refine stepN hf rfl rfl rfl (fun a hf => ?_)
      refine stepN hf rfl rfl rfl (fun a hf => ?_)
      refine stq hf rfl rfl rfl (ex_pickT hf rfl rfl) (fun a hf => ?_)
      refine hK5 _ _ ?_
      have e3 := some_eq H; subst e3
      exact hJ3 _ _ ⟨hf.sub ⟨rfl, rfl, rfl, trivial⟩, hs⟩
    · -- not a1 < 0
      refine region_k (fun K6 hK6 => ?_)
      refine stq hf rfl rfl rfl (ex_move hf rfl) (fun a hf => ?_)
      refine stq hf rfl rfl rfl (ex_lss hf rfl rfl) (fun a hf => ?_)
      refine stq hf rfl rfl rfl (ex_move hf rfl) (fun a hf => ?_)
      replace hf := hf.castB (t := 6) rfl (dec_f hc4)
      replace hf := hf.castB (t := 7) rfl (dec_f hc4)
      refine stq hf rfl rfl rfl (ex_move hf rfl) (fun a hf => ?_)
      refine stq hf rfl rfl rfl (ex_move hf rfl) (fun a hf => ?_)
      refine stq hf rfl rfl rfl (ex_nilCheck hf rfl) (fun a hf => ?_)
      refine stq hf rfl rfl rfl (ex_fieldAddrB fa_64_0 rfl hf rfl) (fun a hf => ?_)
      refine stq hf rfl rfl rfl (ex_load sc_22 hf rfl (bx_cell (hr.now hs (i := 0) rfl) _ rfl)) (fun a hf => ?_)
      refine stq hf rfl rfl rfl (ex_lenS Try.underlying22 (rsl_isSl (hr.now hs (i := 1) rfl)) hf rfl) (fun a hf => ?_)
      refine stq hf rfl rfl rfl (ex_geq hf rfl rfl) (fun a hf => ?_)
      refine stq hf rfl rfl rfl (ex_pickF hf rfl rfl) (fun a hf => ?_)
      refine hK6 _ _ ?_
      have e3 := some_eq H; subst e3
      exact hJ3 _ _ ⟨hf.sub ⟨rfl, rfl, rfl, trivial⟩, hs⟩
  · obtain ⟨hf, hs⟩ := hJ
    replace H := HO3
    clear HO3
    refine itt H (fun hc7 H => ?_) (fun hc7 H => ?_)
    · -- x3 = true
      replace hf := hf.castB (t := 15) rfl hc7
      refine cond_T hf rfl ?_
      refine seq_reg (fun K8 hK8 => ?_)
      refine stq hf rfl rfl rfl (ex_assign hf rfl) (fun a hf => ?_)
      refine hK8 _ _ ?_
      refine wp_ret ?_
      refine hR2 _ _ ?_
      have eR := some_eq H; subst eR
      exact ret1 Try.results24 hf rfl ⟨_, rfl, ⟨rfl, hs⟩⟩
    · -- not x3 = true
      replace hf := hf.castB (t := 15) rfl (bool_f hc7)
      refine cond_F hf rfl ?_
      refine wp_skip ?_
      refine hN2 _ _ ?_
      refine bnd H (fun s9 hs9 H => ?_)
      refine ck_some H (fun hc11 H => ?_)
      refine seq_reg (fun K12 hK12 => ?_)
      refine stq hf rfl rfl rfl (ex_move hf rfl) (fun a hf => ?_)
      refine stepF hf rfl rfl rfl (ex_call cf_33 hf rfl) (heat_Model_temperatures.calls k a0_domains a0_links a0_ambient a0_energy a0_released b0 v0_domains v0_links v0_energy (hs.enter .nil) (Sr.old hr hs .nil (i := 0) rfl (fun _ h => h) (fun _ h => h) (Sr.old hr hs .nil (i := 1) rfl (fun _ h => h) (fun _ h => h) (Sr.old hr hs .nil (i := 2) rfl (fun _ h => h) (fun _ h => h) (Sr.old hr hs .nil (i := 3) rfl (fun _ h => h) (fun _ h => h) (Sr.nil _ _))))) hs9) (fun v w hR a hf => ?_)
      obtain ⟨v10, rfl, hs'⟩ := hR
      replace hs := hs.step .nil hs'
      clear hs'
      refine stq hf rfl rfl rfl (ex_move hf rfl) (fun a hf => ?_)
      refine stq hf rfl rfl rfl (ex_indexAddr sa_35 (rsl_isSl (osl_rsl _ (hs.get (i := 0) rfl))) hc11.1 hc11.2 hf rfl rfl) (fun a hf => ?_)
      refine stq hf rfl rfl rfl (ex_load sc_2 hf rfl (el_cell (K := K_int64) (f := 0) (rsl_rd (osl_rsl _ (hs.get (i := 0) rfl))) hc11.1 hc11.2 rfl)) (fun a hf => ?_)
      refine stq hf rfl rfl rfl (ex_assign hf rfl) (fun a hf => ?_)
      refine hK12 _ _ ?_
      refine wp_ret ?_
      have eR := some_eq H; subst eR
      replace hs := hs.keep (.d .nil)
      exact ret1 Try.results24 hf rfl ⟨_, rfl, ⟨rfl, hs⟩⟩

set_option maxRecDepth 100000 in
theorem heat_Bound.calls {M : Nat → Prop} {w0 : World} (k : Nat) (a0 : (List HeatDomain)) (a1 : (List HeatLink)) (a2 : Int) (a3 : (List Int)) (v0 : Value) (v1 : Value) (v3 : Value) {r : Int × Int} (hs : St M w0 w0 []) (hr : Sr M w0 [rsl K_api_HeatDomain v0 a0, rsl K_api_HeatLink v1 a1, rsl K_int64 v3 a3])
    (h : heat_Bound.f k a0 a1 a2 a3 = some r) : Calls Try.prog 27 #[v0, v1, .int .i64 a2, v3] w0 fun e w => ∃ v, e = .returned v ∧ (.tuple #[.int .i64 r.1, .int .i64 r.2] = v ∧ St M w0 w []) := by
  have H := (heat_Bound.f.eq_1 ..).symm.trans h
  clear h
  refine enter Try.func27 rfl Try.ntmps27 rfl (fun a hf => ?_)
  refine seq_reg (fun K1 hK1 => ?_)
  refine stq hf rfl rfl rfl (ex_assign hf rfl) (fun a hf => ?_)
  refine stq hf rfl rfl rfl (ex_assign hf rfl) (fun a hf => ?_)
  refine hK1 _ _ ?_
  refine seq_n (fun Q2 hN2 hR2 hX2 => ?_)
  refine bnd H (fun x3 H3 HO3 => ?_)
  clear H
  refine seq_cut (fun a w => Fr a 49 [(0, v0), (2, .int .i64 a2), (3, v3), (24, .bool x3)] ∧ St M w0 w []) (fun Q3 hJ3 hR3 hX3 => ?_) (fun a w hJ => ?_)
  · replace H := H3
    refine bnd H (fun s4 hs4 H => ?_)
    refine itt H (fun hc5 H => ?_) (fun hc5 H => ?_)
    · -- s4 = true
      refine bnd H (fun s6 hs6 H => ?_)
      refine region_k (fun K7 hK7 => ?_)
      refine stq hf rfl rfl rfl (ex_move hf rfl) (fun a hf => ?_)
      refine stq hf rfl rfl rfl (ex_move hf rfl) (fun a hf => ?_)
      refine stq hf rfl rfl rfl (ex_move hf rfl) (fun a hf => ?_)
      refine stepF hf rfl rfl rfl (ex_call cf_29 hf rfl) (heat_valid.calls k a0 a1 a2 v0 v1 (hs.enter .nil) (Sr.old hr hs .nil (i := 0) rfl (fun _ h => h) (fun _ h => h) (Sr.old hr hs .nil (i := 1) rfl (fun _ h => h) (fun _ h => h) (Sr.nil _ _))) hs4) (fun v w hR a hf => ?_)
      obtain ⟨rfl, hs'⟩ := hR
      replace hs := hs.step .nil hs'
      clear hs'
      refine stq hf rfl rfl rfl (ex_not hf rfl) (fun a hf => ?_)
      refine stq hf rfl rfl rfl (ex_move hf rfl) (fun a hf => ?_)
      replace hf := hf.castB (t := 16) rfl hc5
      replace hf := hf.castB (t := 17) rfl (nbool_f hc5)
      replace hf := hf.castB (t := 18) rfl (nbool_f hc5)
      refine stq hf rfl rfl rfl (ex_move hf rfl) (fun a hf => ?_)
      refine stq hf rfl rfl rfl (ex_lenS Try.underlying22 (rsl_isSl (hr.now hs (i := 0) rfl)) hf rfl) (fun a hf => ?_)
      refine stq hf rfl rfl rfl (ex_move hf rfl) (fun a hf => ?_)
      refine stepF hf rfl rfl rfl (ex_call cf_32 hf rfl) (heat_validPower.calls k (a0.length : Int) a3 v3 (hs.enter .nil) (Sr.old hr hs .nil (i := 2) rfl (fun _ h => h) (fun _ h => h) (Sr.nil _ _)) hs6) (fun v w hR a hf => ?_)
      obtain ⟨rfl, hs'⟩ := hR
      replace hs := hs.step .nil hs'
      clear hs'
      refine stq hf rfl rfl rfl (ex_not hf rfl) (fun a hf => ?_)
      refine stq hf rfl rfl rfl (ex_pickF hf rfl rfl) (fun a hf => ?_)
      refine hK7 _ _ ?_
      have e3 := some_eq H; subst e3
      exact hJ3 _ _ ⟨hf.sub ⟨rfl, rfl, rfl, rfl, trivial⟩, hs⟩
    · -- not s4 = true
      refine region_k (fun K8 hK8 => ?_)
      refine stq hf rfl rfl rfl (ex_move hf rfl) (fun a hf => ?_)
      refine stq hf rfl rfl rfl (ex_move hf rfl) (fun a hf => ?_)
      refine stq hf rfl rfl rfl (ex_move hf rfl) (fun a hf => ?_)
      refine stepF hf rfl rfl rfl (ex_call cf_29 hf rfl) (heat_valid.calls k a0 a1 a2 v0 v1 (hs.enter .nil) (Sr.old hr hs .nil (i := 0) rfl (fun _ h => h) (fun _ h => h) (Sr.old hr hs .nil (i := 1) rfl (fun _ h => h) (fun _ h => h) (Sr.nil _ _))) hs4) (fun v w hR a hf => ?_)
      obtain ⟨rfl, hs'⟩ := hR
      replace hs := hs.step .nil hs'
      clear hs'
      refine stq hf rfl rfl rfl (ex_not hf rfl) (fun a hf => ?_)
      refine stq hf rfl rfl rfl (ex_move hf rfl) (fun a hf => ?_)
      replace hf := hf.castB (t := 16) rfl (bool_f hc5)
      replace hf := hf.castB (t := 17) rfl (nbool_t hc5)
      replace hf := hf.castB (t := 18) rfl (nbool_t hc5)
      refine stepN hf rfl rfl rfl (fun a hf => ?_)
      refine stepN hf rfl rfl rfl (fun a hf => ?_)
      refine stepN hf rfl rfl rfl (fun a hf => ?_)
      refine stepN hf rfl rfl rfl (fun a hf => ?_)
      refine stepN hf rfl rfl rfl (fun a hf => ?_)
      refine stq hf rfl rfl rfl (ex_pickT hf rfl rfl) (fun a hf => ?_)
      refine hK8 _ _ ?_
      have e3 := some_eq H; subst e3
      exact hJ3 _ _ ⟨hf.sub ⟨rfl, rfl, rfl, rfl, trivial⟩, hs⟩
  · obtain ⟨hf, hs⟩ := hJ
    replace H := HO3
    clear HO3
    refine itt H (fun hc9 H => ?_) (fun hc9 H => ?_)
    · -- x3 = true
      replace hf := hf.castB (t := 24) rfl hc9
      refine cond_T hf rfl ?_
      refine seq_reg (fun K10 hK10 => ?_)
      refine stq hf rfl rfl rfl (ex_assign hf rfl) (fun a hf => ?_)
      refine stq hf rfl rfl rfl (ex_assign hf rfl) (fun a hf => ?_)
      refine hK10 _ _ ?_
      refine wp_ret ?_
      refine hR2 _ _ ?_
      have eR := some_eq H; subst eR
      exact ret2 Try.results27 hf rfl rfl ⟨_, rfl, ⟨rfl, hs⟩⟩
    · -- not x3 = true
      replace hf := hf.castB (t := 24) rfl (bool_f hc9)
      refine cond_F hf rfl ?_
      refine wp_skip ?_
      refine hN2 _ _ ?_
      refine seq_reg (fun K11 hK11 => ?_)
      refine stq hf rfl rfl rfl (ex_assign hf rfl) (fun a hf => ?_)
      refine hK11 _ _ ?_
      refine bnd H (fun x12 H12 HO12 => ?_)
      clear H
      refine seq_cut (fun a w => Fr a 49 [(2, .int .i64 a2), (10, .int .i64 x12)] ∧ St M w0 w []) (fun Q12 hJ12 hR12 hX12 => ?_) (fun a w hJ => ?_)
      · replace H := H12
        refine seq_reg (fun K13 hK13 => ?_)
        refine stq hf rfl rfl rfl (ex_move hf rfl) (fun a hf => ?_)
        refine stq hf rfl rfl rfl (ex_lenS Try.underlying22 (rsl_isSl (hr.now hs (i := 0) rfl)) hf rfl) (fun a hf => ?_)
        refine stq hf rfl rfl rfl (ex_move hf rfl) (fun a hf => ?_)
        refine hK13 _ _ ?_
        refine block_k (fun Q14 hN14 hR14 hX14 hY14 => ?_)
        refine loop_k (fun n a w => ∃ (y15 : Int) (y16 : Int), Fr a 49 [(2, .int .i64 a2), (3, v3), (10, .int .i64 y15), (25, v0), (26, .int .i64 (a0.length : Int)), (27, .int .i64 y16)] ∧ St M w0 w [] ∧ heat_Bound.l1 n a0 a3 y15 y16 = some x12) k ?_ (fun n18 a w hI Q18 hL18 hR18 hX18 => ?_)
        · -- at the start
          exact ⟨0, 0, hf.sub ⟨rfl, rfl, rfl, rfl, rfl, rfl, trivial⟩, hs, H⟩
        · obtain ⟨y15, y16, hf, hs, H⟩ := hI
          cases n18 with
          | zero => exact absurd H (by rw [heat_Bound.l1.eq_1]; intro h; cases h)
          | succ k18 =>
            replace H := (heat_Bound.l1.eq_2 ..).symm.trans H
            refine seq_reg (fun K19 hK19 => ?_)
            refine stq hf rfl rfl rfl (ex_lss hf rfl rfl) (fun a hf => ?_)
            refine hK19 _ _ ?_
            refine seq_n (fun Q20 hN20 hR20 hX20 => ?_)
            refine itt H (fun hc21 H => ?_) (fun hc21 H => ?_)
            · -- y16 < (a0.length : Int)
              replace hf := hf.castB (t := 28) rfl (dec_t hc21)
              refine cond_T hf rfl ?_
              refine wp_skip ?_
              refine hN20 _ _ ?_
              refine seq_n (fun Q22 hN22 hR22 hX22 => ?_)
              refine block_k (fun Q23 hN23 hR23 hX23 hY23 => ?_)
              refine ck_some H (fun hc24 H => ?_)
              refine seq_reg (fun K26 hK26 => ?_)
              refine stq hf rfl rfl rfl (ex_move hf rfl) (fun a hf => ?_)
              refine stq hf rfl rfl rfl (ex_indexAddr sa_22 (rsl_isSl (hr.now hs (i := 0) rfl)) hc24.1 hc24.2 hf rfl rfl) (fun a hf => ?_)
              refine stq hf rfl rfl rfl (ex_loadA (cs := [.int .i64 ((gd HeatDomain.zero a0 y16).Capacity), .int .i64 ((gd HeatDomain.zero a0 y16).Ambient)]) ag_34 hf rfl (el_cells (K := K_api_HeatDomain) (rsl_rd (hr.now hs (i := 0) rfl)) hc24.1 hc24.2 rfl)) (fun a hf => ?_)
              refine stepV hf rfl rfl rfl (er_alloc hs ti_34 (cs := [.int .i64 0, .int .i64 0]) rfl) (fun v w hR a hf => ?_)
              obtain ⟨b25, rfl, hs⟩ := hR
              refine stq hf rfl rfl rfl (ex_assign hf rfl) (fun a hf => ?_)
              refine stepS hf rfl rfl (er_storeAB (vs := [.int .i64 ((gd HeatDomain.zero a0 y16).Capacity), .int .i64 ((gd HeatDomain.zero a0 y16).Ambient)]) (cs' := [.int .i64 ((gd HeatDomain.zero a0 y16).Capacity), .int .i64 ((gd HeatDomain.zero a0 y16).Ambient)]) hs (.c .nil) sz_34 hf rfl rfl (all1 rfl (all1 rfl (all1_nil))) rfl rfl) (fun w hs => ?_)
              refine hK26 _ _ ?_
              refine ck_some H (fun hc27 H => ?_)
              refine ck_some H (fun hc28 H => ?_)
              refine region_d fol 13 [(2, .int .i64 a2), (3, v3), (10, .int .i64 y15), (11, .int .i64 y16), (12, .pointer (some ⟨b25, 0, none⟩)), (25, v0), (26, .int .i64 (a0.length : Int)), (27, .int .i64 y16)] [(0, .int .i64 y15), (1, v3), (2, .int .i64 y16), (3, .pointer (some (sla v3 (y16.toNat * 1)))), (4, .int .i64 (gd 0 a3 y16)), (5, .pointer (some ⟨b25, 1, none⟩)), (6, .int .i64 ((gd HeatDomain.zero a0 y16).Ambient)), (7, .int .i64 (IntKind.i64.wrap ((gd 0 a3 y16) + ((gd HeatDomain.zero a0 y16).Ambient)))), (8, .int .i64 (IntKind.i64.wrap ((IntKind.i64.wrap ((gd 0 a3 y16) + ((gd HeatDomain.zero a0 y16).Ambient))) - 1))), (9, .pointer (some ⟨b25, 1, none⟩)), (10, .int .i64 ((gd HeatDomain.zero a0 y16).Ambient)), (11, .int .i64 (IntKind.i64.wrap (Int.tdiv (IntKind.i64.wrap ((IntKind.i64.wrap ((gd 0 a3 y16) + ((gd HeatDomain.zero a0 y16).Ambient))) - 1)) ((gd HeatDomain.zero a0 y16).Ambient)))), (12, .int .i64 (mx y15 (IntKind.i64.wrap (Int.tdiv (IntKind.i64.wrap ((IntKind.i64.wrap ((gd 0 a3 y16) + ((gd HeatDomain.zero a0 y16).Ambient))) - 1)) ((gd HeatDomain.zero a0 y16).Ambient)))))] [] (fun w => (rsl K_int64 v3 a3).ok w ∧ (bx b25 34 [.int .i64 ((gd HeatDomain.zero a0 y16).Capacity), .int .i64 ((gd HeatDomain.zero a0 y16).Ambient)]).ok w ∧ True) (fun w => St M w0 w [bx b25 34 [.int .i64 ((gd HeatDomain.zero a0 y16).Capacity), .int .i64 ((gd HeatDomain.zero a0 y16).Ambient)]]) hf ⟨rfl, rfl, rfl, rfl, rfl, rfl, rfl, rfl, trivial⟩ (by kernel_rfl) (by kernel_rfl) rfl (by decide) ⟨hr.now hs.drew (i := 2) rfl, hs.drew.get (i := 0) rfl, trivial⟩ hs.drew (.cons (⟨_, _, rfl, rfl, rfl, rfl, fun a w hR hf => .inl ⟨wanted_yes hf rfl, ex_move hf rfl⟩⟩) (.cons (⟨_, _, rfl, rfl, rfl, rfl, fun a w hR hf => .inl ⟨wanted_yes hf rfl, ex_move hf rfl⟩⟩) (.cons (⟨_, _, rfl, rfl, rfl, rfl, fun a w hR hf => .inl ⟨wanted_yes hf rfl, ex_move hf rfl⟩⟩) (.cons (⟨_, _, rfl, rfl, rfl, rfl, fun a w hR hf => .inl ⟨wanted_yes hf rfl, ex_indexAddr sa_35 (rsl_isSl hR.1) hc27.1 hc27.2 hf rfl rfl⟩⟩) (.cons (⟨_, _, rfl, rfl, rfl, rfl, fun a w hR hf => .inl ⟨wanted_yes hf rfl, ex_load sc_2 hf rfl (el_cell (K := K_int64) (f := 0) (rsl_rd hR.1) hc27.1 hc27.2 rfl)⟩⟩) (.cons (⟨_, _, rfl, rfl, rfl, rfl, fun a w hR hf => .inl ⟨wanted_yes hf rfl, ex_fieldAddrB fa_34_1 rfl hf rfl⟩⟩) (.cons (⟨_, _, rfl, rfl, rfl, rfl, fun a w hR hf => .inl ⟨wanted_yes hf rfl, ex_load sc_2 hf rfl (bx_cell (hR.2.1) _ rfl)⟩⟩) (.cons (⟨_, _, rfl, rfl, rfl, rfl, fun a w hR hf => .inl ⟨wanted_yes hf rfl, ex_add hf rfl rfl⟩⟩) (.cons (⟨_, _, rfl, rfl, rfl, rfl, fun a w hR hf => .inl ⟨wanted_yes hf rfl, ex_sub hf rfl rfl⟩⟩) (.cons (⟨_, _, rfl, rfl, rfl, rfl, fun a w hR hf => .inl ⟨wanted_yes hf rfl, ex_fieldAddrB fa_34_1 rfl hf rfl⟩⟩) (.cons (⟨_, _, rfl, rfl, rfl, rfl, fun a w hR hf => .inl ⟨wanted_yes hf rfl, ex_load sc_2 hf rfl (bx_cell (hR.2.1) _ rfl)⟩⟩) (.cons (⟨_, _, rfl, rfl, rfl, rfl, fun a w hR hf => .inl ⟨wanted_yes hf rfl, ex_quo hf rfl rfl hc28⟩⟩) (.cons (⟨_, _, rfl, rfl, rfl, rfl, fun a w hR hf => .inl ⟨wanted_yes hf rfl, ex_max hf rfl rfl⟩⟩) (.nil)))))))))))))) (fun K29 hK29 => ?_)
              refine RW.zero (by kernel_rfl) (by kernel_rfl) [(2, .int .i64 a2), (3, v3), (10, .int .i64 y15), (25, v0), (26, .int .i64 (a0.length : Int)), (27, .int .i64 y16), (44, .int .i64 (mx y15 (IntKind.i64.wrap (Int.tdiv (IntKind.i64.wrap ((IntKind.i64.wrap ((gd 0 a3 y16) + ((gd HeatDomain.zero a0 y16).Ambient))) - 1)) ((gd HeatDomain.zero a0 y16).Ambient)))))] ⟨rfl, rfl, rfl, rfl, rfl, rfl, rfl, trivial⟩ (fun a w hR hs hf => ?_)
              refine stq hf rfl rfl rfl (ex_assign hf rfl) (fun a hf => ?_)
              refine hK29 _ _ ?_
              refine hN23 _ _ ?_
              refine hN22 _ _ ?_
              refine region_k (fun K30 hK30 => ?_)
              refine stq hf rfl rfl rfl (ex_add hf rfl rfl) (fun a hf => ?_)
              refine stq hf rfl rfl rfl (ex_move hf rfl) (fun a hf => ?_)
              refine hK30 _ _ ?_
              replace hs := hs.keep (.d .nil)
              exact hL18 k18 _ _ (Nat.lt_succ_self _) ⟨(mx y15 (IntKind.i64.wrap (Int.tdiv (IntKind.i64.wrap ((IntKind.i64.wrap ((gd 0 a3 y16) + ((gd HeatDomain.zero a0 y16).Ambient))) - 1)) ((gd HeatDomain.zero a0 y16).Ambient)))), (IntKind.i64.wrap (y16 + 1)), hf.sub ⟨rfl, rfl, rfl, rfl, rfl, rfl, trivial⟩, hs, H⟩
            · -- not y16 < (a0.length : Int)
              replace hf := hf.castB (t := 28) rfl (dec_f hc21)
              refine cond_F hf rfl ?_
              refine wp_exit ?_
              refine hX20 0 _ _ ?_
              refine hX18 0 _ _ ?_
              refine hX14 _ _ ?_
              have e12 := some_eq H; subst e12
              exact hJ12 _ _ ⟨hf.sub ⟨rfl, rfl, trivial⟩, hs⟩
      · obtain ⟨hf, hs⟩ := hJ
        replace H := HO12
        clear HO12
        refine seq_reg (fun K31 hK31 => ?_)
        refine stq hf rfl rfl rfl (ex_move hf rfl) (fun a hf => ?_)
        refine stq hf rfl rfl rfl (ex_move hf rfl) (fun a hf => ?_)
        refine stq hf rfl rfl rfl (ex_add hf rfl rfl) (fun a hf => ?_)
        refine stq hf rfl rfl rfl (ex_assign hf rfl) (fun a hf => ?_)
        refine stq hf rfl rfl rfl (ex_assign hf rfl) (fun a hf => ?_)
        refine hK31 _ _ ?_
        refine wp_ret ?_
        have eR := some_eq H; subst eR
        exact ret2 Try.results27 hf rfl rfl ⟨_, rfl, ⟨rfl, hs⟩⟩

set_option maxRecDepth 100000 in
theorem ref38_Bound.calls {M : Nat → Prop} {w0 : World} (k : Nat) (a0 : (List HeatDomain)) (a1 : (List HeatLink)) (a2 : Int) (a3 : (List Int)) (v0 : Value) (v1 : Value) (v3 : Value) {r : Int × Int} (hs : St M w0 w0 []) (hr : Sr M w0 [rsl K_api_HeatDomain v0 a0, rsl K_api_HeatLink v1 a1, rsl K_int64 v3 a3])
    (h : ref38_Bound.f k a0 a1 a2 a3 = some r) : Calls Try.prog 28 #[v0, v1, .int .i64 a2, v3] w0 fun e w => ∃ v, e = .returned v ∧ (.tuple #[.int .i64 r.1, .int .i64 r.2] = v ∧ St M w0 w []) := by
  have H := (ref38_Bound.f.eq_1 ..).symm.trans h
  clear h
  refine enter Try.func28 rfl Try.ntmps28 rfl (fun a hf => ?_)
  refine seq_reg (fun K1 hK1 => ?_)
  refine stq hf rfl rfl rfl (ex_assign hf rfl) (fun a hf => ?_)
  refine stq hf rfl rfl rfl (ex_assign hf rfl) (fun a hf => ?_)
  refine hK1 _ _ ?_
  refine seq_n (fun Q2 hN2 hR2 hX2 => ?_)
  refine bnd H (fun x3 H3 HO3 => ?_)
  clear H
  refine seq_cut (fun a w => Fr a 52 [(0, v0), (2, .int .i64 a2), (3, v3), (23, .bool x3)] ∧ St M w0 w []) (fun Q3 hJ3 hR3 hX3 => ?_) (fun a w hJ => ?_)
  · replace H := H3
    refine bnd H (fun s4 hs4 H => ?_)
    refine itt H (fun hc5 H => ?_) (fun hc5 H => ?_)
    · -- s4 = true
      refine bnd H (fun s6 hs6 H => ?_)
      refine region_k (fun K7 hK7 => ?_)
      refine stq hf rfl rfl rfl (ex_move hf rfl) (fun a hf => ?_)
      refine stq hf rfl rfl rfl (ex_move hf rfl) (fun a hf => ?_)
      refine stq hf rfl rfl rfl (ex_move hf rfl) (fun a hf => ?_)
      refine stepF hf rfl rfl rfl (ex_call cf_35 hf rfl) (ref38_valid.calls k a0 a1 a2 v0 v1 (hs.enter .nil) (Sr.old hr hs .nil (i := 0) rfl (fun _ h => h) (fun _ h => h) (Sr.old hr hs .nil (i := 1) rfl (fun _ h => h) (fun _ h => h) (Sr.nil _ _))) hs4) (fun v w hR a hf => ?_)
      obtain ⟨rfl, hs'⟩ := hR
      replace hs := hs.step .nil hs'
      clear hs'
      refine stq hf rfl rfl rfl (ex_not hf rfl) (fun a hf => ?_)
      refine stq hf rfl rfl rfl (ex_move hf rfl) (fun a hf => ?_)
      replace hf := hf.castB (t := 15) rfl hc5
      replace hf := hf.castB (t := 16) rfl (nbool_f hc5)
      replace hf := hf.castB (t := 17) rfl (nbool_f hc5)
      refine stq hf rfl rfl rfl (ex_move hf rfl) (fun a hf => ?_)
      refine stq hf rfl rfl rfl (ex_lenS Try.underlying22 (rsl_isSl (hr.now hs (i := 0) rfl)) hf rfl) (fun a hf => ?_)
      refine stq hf rfl rfl rfl (ex_move hf rfl) (fun a hf => ?_)
      refine stepF hf rfl rfl rfl (ex_call cf_36 hf rfl) (ref38_powers.calls k (a0.length : Int) a3 v3 (hs.enter .nil) (Sr.old hr hs .nil (i := 2) rfl (fun _ h => h) (fun _ h => h) (Sr.nil _ _)) hs6) (fun v w hR a hf => ?_)
      obtain ⟨rfl, hs'⟩ := hR
      replace hs := hs.step .nil hs'
      clear hs'
      refine stq hf rfl rfl rfl (ex_not hf rfl) (fun a hf => ?_)
      refine stq hf rfl rfl rfl (ex_pickF hf rfl rfl) (fun a hf => ?_)
      refine hK7 _ _ ?_
      have e3 := some_eq H; subst e3
      exact hJ3 _ _ ⟨hf.sub ⟨rfl, rfl, rfl, rfl, trivial⟩, hs⟩
    · -- not s4 = true
      refine region_k (fun K8 hK8 => ?_)
      refine stq hf rfl rfl rfl (ex_move hf rfl) (fun a hf => ?_)
      refine stq hf rfl rfl rfl (ex_move hf rfl) (fun a hf => ?_)
      refine stq hf rfl rfl rfl (ex_move hf rfl) (fun a hf => ?_)
      refine stepF hf rfl rfl rfl (ex_call cf_35 hf rfl) (ref38_valid.calls k a0 a1 a2 v0 v1 (hs.enter .nil) (Sr.old hr hs .nil (i := 0) rfl (fun _ h => h) (fun _ h => h) (Sr.old hr hs .nil (i := 1) rfl (fun _ h => h) (fun _ h => h) (Sr.nil _ _))) hs4) (fun v w hR a hf => ?_)
      obtain ⟨rfl, hs'⟩ := hR
      replace hs := hs.step .nil hs'
      clear hs'
      refine stq hf rfl rfl rfl (ex_not hf rfl) (fun a hf => ?_)
      refine stq hf rfl rfl rfl (ex_move hf rfl) (fun a hf => ?_)
      replace hf := hf.castB (t := 15) rfl (bool_f hc5)
      replace hf := hf.castB (t := 16) rfl (nbool_t hc5)
      replace hf := hf.castB (t := 17) rfl (nbool_t hc5)
      refine stepN hf rfl rfl rfl (fun a hf => ?_)
      refine stepN hf rfl rfl rfl (fun a hf => ?_)
      refine stepN hf rfl rfl rfl (fun a hf => ?_)
      refine stepN hf rfl rfl rfl (fun a hf => ?_)
      refine stepN hf rfl rfl rfl (fun a hf => ?_)
      refine stq hf rfl rfl rfl (ex_pickT hf rfl rfl) (fun a hf => ?_)
      refine hK8 _ _ ?_
      have e3 := some_eq H; subst e3
      exact hJ3 _ _ ⟨hf.sub ⟨rfl, rfl, rfl, rfl, trivial⟩, hs⟩
  · obtain ⟨hf, hs⟩ := hJ
    replace H := HO3
    clear HO3
    refine itt H (fun hc9 H => ?_) (fun hc9 H => ?_)
    · -- x3 = true
      replace hf := hf.castB (t := 23) rfl hc9
      refine cond_T hf rfl ?_
      refine seq_reg (fun K10 hK10 => ?_)
      refine stq hf rfl rfl rfl (ex_assign hf rfl) (fun a hf => ?_)
      refine stq hf rfl rfl rfl (ex_assign hf rfl) (fun a hf => ?_)
      refine hK10 _ _ ?_
      refine wp_ret ?_
      refine hR2 _ _ ?_
      have eR := some_eq H; subst eR
      exact ret2 Try.results28 hf rfl rfl ⟨_, rfl, ⟨rfl, hs⟩⟩
    · -- not x3 = true
      replace hf := hf.castB (t := 23) rfl (bool_f hc9)
      refine cond_F hf rfl ?_
      refine wp_skip ?_
      refine hN2 _ _ ?_
      refine seq_reg (fun K11 hK11 => ?_)
      refine stq hf rfl rfl rfl (ex_assign hf rfl) (fun a hf => ?_)
      refine hK11 _ _ ?_
      refine bnd H (fun x12 H12 HO12 => ?_)
      clear H
      refine seq_cut (fun a w => Fr a 52 [(2, .int .i64 a2), (10, .int .i64 x12)] ∧ St M w0 w []) (fun Q12 hJ12 hR12 hX12 => ?_) (fun a w hJ => ?_)
      · replace H := H12
        refine seq_reg (fun K13 hK13 => ?_)
        refine stq hf rfl rfl rfl (ex_assign hf rfl) (fun a hf => ?_)
        refine hK13 _ _ ?_
        refine block_k (fun Q14 hN14 hR14 hX14 hY14 => ?_)
        refine loop_k (fun n a w => ∃ (y15 : Int) (y16 : Int), Fr a 52 [(0, v0), (2, .int .i64 a2), (3, v3), (10, .int .i64 y15), (11, .int .i64 y16)] ∧ St M w0 w [] ∧ ref38_Bound.l1 n a0 a3 y15 y16 = some x12) k ?_ (fun n18 a w hI Q18 hL18 hR18 hX18 => ?_)
        · -- at the start
          exact ⟨0, 0, hf.sub ⟨rfl, rfl, rfl, rfl, rfl, trivial⟩, hs, H⟩
        · obtain ⟨y15, y16, hf, hs, H⟩ := hI
          cases n18 with
          | zero => exact absurd H (by rw [ref38_Bound.l1.eq_1]; intro h; cases h)
          | succ k18 =>
            replace H := (ref38_Bound.l1.eq_2 ..).symm.trans H
            refine seq_n (fun Q19 hN19 hR19 hX19 => ?_)
            refine seq_reg (fun K20 hK20 => ?_)
            refine stq hf rfl rfl rfl (ex_move hf rfl) (fun a hf => ?_)
            refine stq hf rfl rfl rfl (ex_move hf rfl) (fun a hf => ?_)
            refine stq hf rfl rfl rfl (ex_lenS Try.underlying22 (rsl_isSl (hr.now hs (i := 0) rfl)) hf rfl) (fun a hf => ?_)
            refine stq hf rfl rfl rfl (ex_lss hf rfl rfl) (fun a hf => ?_)
            refine hK20 _ _ ?_
            refine itt H (fun hc21 H => ?_) (fun hc21 H => ?_)
            · -- y16 < (a0.length : Int)
              replace hf := hf.castB (t := 27) rfl (dec_t hc21)
              refine cond_T hf rfl ?_
              refine wp_skip ?_
              refine hN19 _ _ ?_
              refine seq_n (fun Q22 hN22 hR22 hX22 => ?_)
              refine block_k (fun Q23 hN23 hR23 hX23 hY23 => ?_)
              refine ck_some H (fun hc24 H => ?_)
              refine ck_some H (fun hc25 H => ?_)
              refine ck_some H (fun hc26 H => ?_)
              refine region_d fol 19 [(0, v0), (2, .int .i64 a2), (3, v3), (10, .int .i64 y15), (11, .int .i64 y16)] [(0, .int .i64 y15), (1, v3), (2, .int .i64 y16), (3, .pointer (some (sla v3 (y16.toNat * 1)))), (4, .int .i64 (gd 0 a3 y16)), (5, v0), (6, .int .i64 y16), (7, .pointer (some (sla v0 (y16.toNat * 2)))), (8, .pointer (some (sla v0 (y16.toNat * 2 + 1)))), (9, .int .i64 ((gd HeatDomain.zero a0 y16).Ambient)), (10, .int .i64 (IntKind.i64.wrap ((gd 0 a3 y16) + ((gd HeatDomain.zero a0 y16).Ambient)))), (11, .int .i64 (IntKind.i64.wrap ((IntKind.i64.wrap ((gd 0 a3 y16) + ((gd HeatDomain.zero a0 y16).Ambient))) - 1))), (12, v0), (13, .int .i64 y16), (14, .pointer (some (sla v0 (y16.toNat * 2)))), (15, .pointer (some (sla v0 (y16.toNat * 2 + 1)))), (16, .int .i64 ((gd HeatDomain.zero a0 y16).Ambient)), (17, .int .i64 (IntKind.i64.wrap (Int.tdiv (IntKind.i64.wrap ((IntKind.i64.wrap ((gd 0 a3 y16) + ((gd HeatDomain.zero a0 y16).Ambient))) - 1)) ((gd HeatDomain.zero a0 y16).Ambient)))), (18, .int .i64 (mx y15 (IntKind.i64.wrap (Int.tdiv (IntKind.i64.wrap ((IntKind.i64.wrap ((gd 0 a3 y16) + ((gd HeatDomain.zero a0 y16).Ambient))) - 1)) ((gd HeatDomain.zero a0 y16).Ambient)))))] [] (fun w => (rsl K_int64 v3 a3).ok w ∧ (rsl K_api_HeatDomain v0 a0).ok w ∧ True) (fun w => St M w0 w []) hf ⟨rfl, rfl, rfl, rfl, rfl, trivial⟩ (by kernel_rfl) (by kernel_rfl) rfl (by decide) ⟨hr.now hs.drew (i := 2) rfl, hr.now hs.drew (i := 0) rfl, trivial⟩ hs.drew (.cons (⟨_, _, rfl, rfl, rfl, rfl, fun a w hR hf => .inl ⟨wanted_yes hf rfl, ex_move hf rfl⟩⟩) (.cons (⟨_, _, rfl, rfl, rfl, rfl, fun a w hR hf => .inl ⟨wanted_yes hf rfl, ex_move hf rfl⟩⟩) (.cons (⟨_, _, rfl, rfl, rfl, rfl, fun a w hR hf => .inl ⟨wanted_yes hf rfl, ex_move hf rfl⟩⟩) (.cons (⟨_, _, rfl, rfl, rfl, rfl, fun a w hR hf => .inl ⟨wanted_yes hf rfl, ex_indexAddr sa_35 (rsl_isSl hR.1) hc24.1 hc24.2 hf rfl rfl⟩⟩) (.cons (⟨_, _, rfl, rfl, rfl, rfl, fun a w hR hf => .inl ⟨wanted_yes hf rfl, ex_load sc_2 hf rfl (el_cell (K := K_int64) (f := 0) (rsl_rd hR.1) hc24.1 hc24.2 rfl)⟩⟩) (.cons (⟨_, _, rfl, rfl, rfl, rfl, fun a w hR hf => .inl ⟨wanted_yes hf rfl, ex_move hf rfl⟩⟩) (.cons (⟨_, _, rfl, rfl, rfl, rfl, fun a w hR hf => .inl ⟨wanted_yes hf rfl, ex_move hf rfl⟩⟩) (.cons (⟨_, _, rfl, rfl, rfl, rfl, fun a w hR hf => .inl ⟨wanted_yes hf rfl, ex_indexAddr sa_22 (rsl_isSl hR.2.1) hc25.1 hc25.2 hf rfl rfl⟩⟩) (.cons (⟨_, _, rfl, rfl, rfl, rfl, fun a w hR hf => .inl ⟨wanted_yes hf rfl, ex_fieldAddrS fa_34_1 rfl hf rfl⟩⟩) (.cons (⟨_, _, rfl, rfl, rfl, rfl, fun a w hR hf => .inl ⟨wanted_yes hf rfl, ex_load sc_2 hf rfl (el_cell (K := K_api_HeatDomain) (f := 1) (rsl_rd hR.2.1) hc25.1 hc25.2 rfl)⟩⟩) (.cons (⟨_, _, rfl, rfl, rfl, rfl, fun a w hR hf => .inl ⟨wanted_yes hf rfl, ex_add hf rfl rfl⟩⟩) (.cons (⟨_, _, rfl, rfl, rfl, rfl, fun a w hR hf => .inl ⟨wanted_yes hf rfl, ex_sub hf rfl rfl⟩⟩) (.cons (⟨_, _, rfl, rfl, rfl, rfl, fun a w hR hf => .inl ⟨wanted_yes hf rfl, ex_move hf rfl⟩⟩) (.cons (⟨_, _, rfl, rfl, rfl, rfl, fun a w hR hf => .inl ⟨wanted_yes hf rfl, ex_move hf rfl⟩⟩) (.cons (⟨_, _, rfl, rfl, rfl, rfl, fun a w hR hf => .inl ⟨wanted_yes hf rfl, ex_indexAddr sa_22 (rsl_isSl hR.2.1) hc25.1 hc25.2 hf rfl rfl⟩⟩) (.cons (⟨_, _, rfl, rfl, rfl, rfl, fun a w hR hf => .inl ⟨wanted_yes hf rfl, ex_fieldAddrS fa_34_1 rfl hf rfl⟩⟩) (.cons (⟨_, _, rfl, rfl, rfl, rfl, fun a w hR hf => .inl ⟨wanted_yes hf rfl, ex_load sc_2 hf rfl (el_cell (K := K_api_HeatDomain) (f := 1) (rsl_rd hR.2.1) hc25.1 hc25.2 rfl)⟩⟩) (.cons (⟨_, _, rfl, rfl, rfl, rfl, fun a w hR hf => .inl ⟨wanted_yes hf rfl, ex_quo hf rfl rfl hc26⟩⟩) (.cons (⟨_, _, rfl, rfl, rfl, rfl, fun a w hR hf => .inl ⟨wanted_yes hf rfl, ex_max hf rfl rfl⟩⟩) (.nil)))))))))))))))))))) (fun K27 hK27 => ?_)
              refine RW.zero (by kernel_rfl) (by kernel_rfl) [(0, v0), (2, .int .i64 a2), (3, v3), (10, .int .i64 y15), (11, .int .i64 y16), (48, .int .i64 (mx y15 (IntKind.i64.wrap (Int.tdiv (IntKind.i64.wrap ((IntKind.i64.wrap ((gd 0 a3 y16) + ((gd HeatDomain.zero a0 y16).Ambient))) - 1)) ((gd HeatDomain.zero a0 y16).Ambient)))))] ⟨rfl, rfl, rfl, rfl, rfl, rfl, trivial⟩ (fun a w hR hs hf => ?_)
              refine stq hf rfl rfl rfl (ex_assign hf rfl) (fun a hf => ?_)
              refine hK27 _ _ ?_
              refine hN23 _ _ ?_
              refine hN22 _ _ ?_
              refine region_k (fun K28 hK28 => ?_)
              refine stq hf rfl rfl rfl (ex_move hf rfl) (fun a hf => ?_)
              refine stq hf rfl rfl rfl (ex_add hf rfl rfl) (fun a hf => ?_)
              refine stq hf rfl rfl rfl (ex_assign hf rfl) (fun a hf => ?_)
              refine hK28 _ _ ?_
              exact hL18 k18 _ _ (Nat.lt_succ_self _) ⟨(mx y15 (IntKind.i64.wrap (Int.tdiv (IntKind.i64.wrap ((IntKind.i64.wrap ((gd 0 a3 y16) + ((gd HeatDomain.zero a0 y16).Ambient))) - 1)) ((gd HeatDomain.zero a0 y16).Ambient)))), (IntKind.i64.wrap (y16 + 1)), hf.sub ⟨rfl, rfl, rfl, rfl, rfl, trivial⟩, hs, H⟩
            · -- not y16 < (a0.length : Int)
              replace hf := hf.castB (t := 27) rfl (dec_f hc21)
              refine cond_F hf rfl ?_
              refine wp_exit ?_
              refine hX19 0 _ _ ?_
              refine hX18 0 _ _ ?_
              refine hX14 _ _ ?_
              have e12 := some_eq H; subst e12
              exact hJ12 _ _ ⟨hf.sub ⟨rfl, rfl, trivial⟩, hs⟩
      · obtain ⟨hf, hs⟩ := hJ
        replace H := HO12
        clear HO12
        refine seq_reg (fun K29 hK29 => ?_)
        refine stq hf rfl rfl rfl (ex_move hf rfl) (fun a hf => ?_)
        refine stq hf rfl rfl rfl (ex_move hf rfl) (fun a hf => ?_)
        refine stq hf rfl rfl rfl (ex_add hf rfl rfl) (fun a hf => ?_)
        refine stq hf rfl rfl rfl (ex_assign hf rfl) (fun a hf => ?_)
        refine stq hf rfl rfl rfl (ex_assign hf rfl) (fun a hf => ?_)
        refine hK29 _ _ ?_
        refine wp_ret ?_
        have eR := some_eq H; subst eR
        exact ret2 Try.results28 hf rfl rfl ⟨_, rfl, ⟨rfl, hs⟩⟩

end Go.Proofs.Ytakaooegofiloaa.X
