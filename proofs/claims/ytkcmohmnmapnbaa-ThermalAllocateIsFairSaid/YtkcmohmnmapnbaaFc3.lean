/- Each function of the machine comes to what its pure function says. -/
import Derived.Test.YtkcmohmnmapnbaaFc1
import Derived.Test.YtkcmohmnmapnbaaFc2
import Derived.Test.YtkcmohmnmapnbaaFb
namespace Go.Proofs.Ytkcmohmnmapnbaa.X
open Go Go.RowKit Go.Sx
set_option linter.unusedVariables false

set_option maxRecDepth 100000 in
theorem ref39_Allocate.calls {M : Nat → Prop} {w0 : World} (k : Nat) (a0 : Int) (a1 : (List Actor)) (v1 : Value) {r : (List Int) × Int} (hs : St M w0 w0 []) (hr : Sr M w0 [rsl K_api_Actor v1 a1])
    (h : ref39_Allocate.f k a0 a1 = some r) : Calls Try.prog 19 #[.int .u64 a0, v1] w0 fun e w => ∃ v, e = .returned v ∧ (∃ (g0 : Value), .tuple #[g0, .int .i64 r.2] = v ∧ St M w0 w [osl K_uint64 g0 r.1]) := by
  have H := (ref39_Allocate.f.eq_1 ..).symm.trans h
  clear h
  refine enter Try.func19 rfl Try.ntmps19 rfl (fun a hf => ?_)
  refine seq_reg (fun K1 hK1 => ?_)
  refine stq hf rfl rfl rfl (ex_assign hf rfl) (fun a hf => ?_)
  refine stq hf rfl rfl rfl (ex_assign hf rfl) (fun a hf => ?_)
  refine hK1 _ _ ?_
  refine seq_n (fun Q2 hN2 hR2 hX2 => ?_)
  refine bnd H (fun s3 hs3 H => ?_)
  refine seq_reg (fun K4 hK4 => ?_)
  refine stq hf rfl rfl rfl (ex_move hf rfl) (fun a hf => ?_)
  refine stepF hf rfl rfl rfl (ex_call cf_37 hf rfl) (ref39_valid.calls k a1 v1 (hs.enter .nil) (Sr.old hr hs .nil (i := 0) rfl (fun _ h => h) (fun _ h => h) (Sr.nil _ _)) hs3) (fun v w hR a hf => ?_)
  obtain ⟨rfl, hs'⟩ := hR
  replace hs := hs.step .nil hs'
  clear hs'
  refine stq hf rfl rfl rfl (ex_not hf rfl) (fun a hf => ?_)
  refine hK4 _ _ ?_
  refine itt H (fun hc5 H => ?_) (fun hc5 H => ?_)
  · -- s3 = true
    replace hf := hf.castB (t := 19) rfl hc5
    replace hf := hf.castB (t := 20) rfl (nbool_f hc5)
    refine cond_F hf rfl ?_
    refine wp_skip ?_
    refine hN2 _ _ ?_
    refine seq_n (fun Q6 hN6 hR6 hX6 => ?_)
    refine bnd H (fun s7 hs7 H => ?_)
    refine seq_reg (fun K9 hK9 => ?_)
    refine stq hf rfl rfl rfl (ex_move hf rfl) (fun a hf => ?_)
    refine stepF hf rfl rfl rfl (ex_call cf_38 hf rfl) (ref39_at.calls k a1 0 v1 (hs.enter .nil) (Sr.old hr hs .nil (i := 0) rfl (fun _ h => h) (fun _ h => h) (Sr.nil _ _)) hs7) (fun v w hR a hf => ?_)
    obtain ⟨v8, rfl, hs'⟩ := hR
    replace hs := hs.step .nil hs'
    clear hs'
    refine stq hf rfl rfl rfl (ex_move hf rfl) (fun a hf => ?_)
    refine stq hf rfl rfl rfl (ex_extract hf rfl rfl) (fun a hf => ?_)
    refine stq hf rfl rfl rfl (ex_extract hf rfl rfl) (fun a hf => ?_)
    refine stq hf rfl rfl rfl (ex_assign hf rfl) (fun a hf => ?_)
    refine stq hf rfl rfl rfl (ex_assign hf rfl) (fun a hf => ?_)
    refine hK9 _ _ ?_
    refine seq_reg (fun K10 hK10 => ?_)
    refine stq hf rfl rfl rfl (ex_move hf rfl) (fun a hf => ?_)
    refine stq hf rfl rfl rfl (ex_move hf rfl) (fun a hf => ?_)
    refine stq hf rfl rfl rfl (ex_gtr hf rfl rfl) (fun a hf => ?_)
    refine hK10 _ _ ?_
    refine itt H (fun hc11 H => ?_) (fun hc11 H => ?_)
    · -- a0 < s7.2
      replace hf := hf.castB (t := 28) rfl (dec_t hc11)
      refine cond_T hf rfl ?_
      refine seq_reg (fun K12 hK12 => ?_)
      refine stq hf rfl rfl rfl (ex_assign hf rfl) (fun a hf => ?_)
      refine stq hf rfl rfl rfl (ex_assign hf rfl) (fun a hf => ?_)
      refine hK12 _ _ ?_
      refine wp_ret ?_
      refine hR6 _ _ ?_
      have eR := some_eq H; subst eR
      replace hs := hs.nilS K_uint64
      replace hs := hs.keep (.k (.d .nil))
      exact ret2 Try.results19 hf rfl rfl ⟨_, rfl, ⟨(.slice none 0 0), rfl, hs⟩⟩
    · -- not a0 < s7.2
      replace hf := hf.castB (t := 28) rfl (dec_f hc11)
      refine cond_F hf rfl ?_
      refine wp_skip ?_
      refine hN6 _ _ ?_
      refine bnd H (fun s13 hs13 H => ?_)
      refine seq_reg (fun K15 hK15 => ?_)
      refine stq hf rfl rfl rfl (ex_move hf rfl) (fun a hf => ?_)
      refine stepF hf rfl rfl rfl (ex_call cf_38 hf rfl) (ref39_at.calls k a1 4294967296 v1 (hs.enter (.k .nil)) (Sr.old hr hs (.k .nil) (i := 0) rfl (fun _ h => h) (fun _ h => h) (Sr.nil _ _)) hs13) (fun v w hR a hf => ?_)
      obtain ⟨v14, rfl, hs'⟩ := hR
      replace hs := hs.step (.k .nil) hs'
      clear hs'
      refine stq hf rfl rfl rfl (ex_move hf rfl) (fun a hf => ?_)
      refine stq hf rfl rfl rfl (ex_extract hf rfl rfl) (fun a hf => ?_)
      refine stq hf rfl rfl rfl (ex_extract hf rfl rfl) (fun a hf => ?_)
      refine stq hf rfl rfl rfl (ex_assign hf rfl) (fun a hf => ?_)
      refine stq hf rfl rfl rfl (ex_assign hf rfl) (fun a hf => ?_)
      refine hK15 _ _ ?_
      refine seq_n (fun Q16 hN16 hR16 hX16 => ?_)
      refine seq_reg (fun K17 hK17 => ?_)
      refine stq hf rfl rfl rfl (ex_move hf rfl) (fun a hf => ?_)
      refine stq hf rfl rfl rfl (ex_move hf rfl) (fun a hf => ?_)
      refine stq hf rfl rfl rfl (ex_leq hf rfl rfl) (fun a hf => ?_)
      refine hK17 _ _ ?_
      refine itt H (fun hc18 H => ?_) (fun hc18 H => ?_)
      · -- s13.2 ≤ a0
        replace hf := hf.castB (t := 36) rfl (dec_t hc18)
        refine cond_T hf rfl ?_
        refine seq_reg (fun K19 hK19 => ?_)
        refine stq hf rfl rfl rfl (ex_move hf rfl) (fun a hf => ?_)
        refine stq hf rfl rfl rfl (ex_assign hf rfl) (fun a hf => ?_)
        refine stq hf rfl rfl rfl (ex_assign hf rfl) (fun a hf => ?_)
        refine hK19 _ _ ?_
        refine wp_ret ?_
        refine hR16 _ _ ?_
        have eR := some_eq H; subst eR
        replace hs := hs.keep (.k (.d .nil))
        exact ret2 Try.results19 hf rfl rfl ⟨_, rfl, ⟨v14, rfl, hs⟩⟩
      · -- not s13.2 ≤ a0
        replace hf := hf.castB (t := 36) rfl (dec_f hc18)
        refine cond_F hf rfl ?_
        refine wp_skip ?_
        refine hN16 _ _ ?_
        refine seq_reg (fun K20 hK20 => ?_)
        refine stq hf rfl rfl rfl (ex_assign hf rfl) (fun a hf => ?_)
        refine stq hf rfl rfl rfl (ex_assign hf rfl) (fun a hf => ?_)
        refine hK20 _ _ ?_
        refine bnd H (fun x21 H21 HO21 => ?_)
        clear H
        refine seq_cut (fun a w => Fr a 99 [(0, .int .u64 a0), (1, v1), (10, .int .u64 x21)] ∧ St M w0 w []) (fun Q21 hJ21 hR21 hX21 => ?_) (fun a w hJ => ?_)
        · replace H := H21
          refine block_k (fun Q22 hN22 hR22 hX22 hY22 => ?_)
          refine loop_k (fun n a w => ∃ (y23 : Int) (y24 : Int), Fr a 99 [(0, .int .u64 a0), (1, v1), (10, .int .u64 y23), (11, .int .u64 y24)] ∧ St M w0 w [] ∧ ref39_Allocate.l1 n a1 a0 y23 y24 = some x21) k ?_ (fun n26 a w hI Q26 hL26 hR26 hX26 => ?_)
          · -- at the start
            replace hs := hs.keep (.d (.d .nil))
            exact ⟨0, 4294967296, hf.sub ⟨rfl, rfl, rfl, rfl, trivial⟩, hs, H⟩
          · obtain ⟨y23, y24, hf, hs, H⟩ := hI
            cases n26 with
            | zero => exact absurd H (by rw [ref39_Allocate.l1.eq_1]; intro h; cases h)
            | succ k26 =>
              replace H := (ref39_Allocate.l1.eq_2 ..).symm.trans H
              refine seq_n (fun Q27 hN27 hR27 hX27 => ?_)
              refine seq_reg (fun K28 hK28 => ?_)
              refine stq hf rfl rfl rfl (ex_move hf rfl) (fun a hf => ?_)
              refine stq hf rfl rfl rfl (ex_move hf rfl) (fun a hf => ?_)
              refine stq hf rfl rfl rfl (ex_sub hf rfl rfl) (fun a hf => ?_)
              refine stq hf rfl rfl rfl (ex_gtr hf rfl rfl) (fun a hf => ?_)
              refine hK28 _ _ ?_
              refine itt H (fun hc29 H => ?_) (fun hc29 H => ?_)
              · -- 1 < (IntKind.u64.wrap (y24 - y23))
                replace hf := hf.castB (t := 41) rfl (dec_t hc29)
                refine cond_T hf rfl ?_
                refine wp_skip ?_
                refine hN27 _ _ ?_
                refine block_k (fun Q30 hN30 hR30 hX30 hY30 => ?_)
                refine seq_reg (fun K31 hK31 => ?_)
                refine stq hf rfl rfl rfl (ex_move hf rfl) (fun a hf => ?_)
                refine stq hf rfl rfl rfl (ex_move hf rfl) (fun a hf => ?_)
                refine stq hf rfl rfl rfl (ex_add hf rfl rfl) (fun a hf => ?_)
                refine stq hf rfl rfl rfl (ex_quo hf rfl rfl (by decide)) (fun a hf => ?_)
                refine stq hf rfl rfl rfl (ex_assign hf rfl) (fun a hf => ?_)
                refine hK31 _ _ ?_
                refine bnd H (fun s32 hs32 H => ?_)
                refine seq_reg (fun K34 hK34 => ?_)
                refine stq hf rfl rfl rfl (ex_move hf rfl) (fun a hf => ?_)
                refine stq hf rfl rfl rfl (ex_move hf rfl) (fun a hf => ?_)
                refine stepF hf rfl rfl rfl (ex_call cf_38 hf rfl) (ref39_at.calls k26 a1 (IntKind.u64.wrap (Int.tdiv (IntKind.u64.wrap (y23 + y24)) 2)) v1 (hs.enter .nil) (Sr.old hr hs .nil (i := 0) rfl (fun _ h => h) (fun _ h => h) (Sr.nil _ _)) hs32) (fun v w hR a hf => ?_)
                obtain ⟨v33, rfl, hs'⟩ := hR
                replace hs := hs.step .nil hs'
                clear hs'
                refine stq hf rfl rfl rfl (ex_move hf rfl) (fun a hf => ?_)
                refine stq hf rfl rfl rfl (ex_extract hf rfl rfl) (fun a hf => ?_)
                refine stq hf rfl rfl rfl (ex_extract hf rfl rfl) (fun a hf => ?_)
                refine stq hf rfl rfl rfl (ex_assign hf rfl) (fun a hf => ?_)
                refine stq hf rfl rfl rfl (ex_assign hf rfl) (fun a hf => ?_)
                refine hK34 _ _ ?_
                refine seq_reg (fun K35 hK35 => ?_)
                refine stq hf rfl rfl rfl (ex_move hf rfl) (fun a hf => ?_)
                refine stq hf rfl rfl rfl (ex_move hf rfl) (fun a hf => ?_)
                refine stq hf rfl rfl rfl (ex_leq hf rfl rfl) (fun a hf => ?_)
                refine hK35 _ _ ?_
                refine itt H (fun hc36 H => ?_) (fun hc36 H => ?_)
                · -- s32.2 ≤ a0
                  replace hf := hf.castB (t := 54) rfl (dec_t hc36)
                  refine cond_T hf rfl ?_
                  refine region_k (fun K37 hK37 => ?_)
                  refine stq hf rfl rfl rfl (ex_move hf rfl) (fun a hf => ?_)
                  refine stq hf rfl rfl rfl (ex_assign hf rfl) (fun a hf => ?_)
                  refine hK37 _ _ ?_
                  refine hN30 _ _ ?_
                  replace hs := hs.keep (.d .nil)
                  exact hL26 k26 _ _ (Nat.lt_succ_self _) ⟨(IntKind.u64.wrap (Int.tdiv (IntKind.u64.wrap (y23 + y24)) 2)), y24, hf.sub ⟨rfl, rfl, rfl, rfl, trivial⟩, hs, H⟩
                · -- not s32.2 ≤ a0
                  replace hf := hf.castB (t := 54) rfl (dec_f hc36)
                  refine cond_F hf rfl ?_
                  refine region_k (fun K38 hK38 => ?_)
                  refine stq hf rfl rfl rfl (ex_move hf rfl) (fun a hf => ?_)
                  refine stq hf rfl rfl rfl (ex_assign hf rfl) (fun a hf => ?_)
                  refine hK38 _ _ ?_
                  refine hN30 _ _ ?_
                  replace hs := hs.keep (.d .nil)
                  exact hL26 k26 _ _ (Nat.lt_succ_self _) ⟨y23, (IntKind.u64.wrap (Int.tdiv (IntKind.u64.wrap (y23 + y24)) 2)), hf.sub ⟨rfl, rfl, rfl, rfl, trivial⟩, hs, H⟩
              · -- not 1 < (IntKind.u64.wrap (y24 - y23))
                replace hf := hf.castB (t := 41) rfl (dec_f hc29)
                refine cond_F hf rfl ?_
                refine wp_exit ?_
                refine hX27 0 _ _ ?_
                refine hX26 0 _ _ ?_
                refine hX22 _ _ ?_
                have e21 := some_eq H; subst e21
                exact hJ21 _ _ ⟨hf.sub ⟨rfl, rfl, rfl, trivial⟩, hs⟩
        · obtain ⟨hf, hs⟩ := hJ
          replace H := HO21
          clear HO21
          refine bnd H (fun s39 hs39 H => ?_)
          refine seq_reg (fun K41 hK41 => ?_)
          refine stq hf rfl rfl rfl (ex_move hf rfl) (fun a hf => ?_)
          refine stq hf rfl rfl rfl (ex_move hf rfl) (fun a hf => ?_)
          refine stepF hf rfl rfl rfl (ex_call cf_38 hf rfl) (ref39_at.calls k a1 x21 v1 (hs.enter .nil) (Sr.old hr hs .nil (i := 0) rfl (fun _ h => h) (fun _ h => h) (Sr.nil _ _)) hs39) (fun v w hR a hf => ?_)
          obtain ⟨v40, rfl, hs'⟩ := hR
          replace hs := hs.step .nil hs'
          clear hs'
          refine stq hf rfl rfl rfl (ex_move hf rfl) (fun a hf => ?_)
          refine stq hf rfl rfl rfl (ex_extract hf rfl rfl) (fun a hf => ?_)
          refine stq hf rfl rfl rfl (ex_extract hf rfl rfl) (fun a hf => ?_)
          refine stq hf rfl rfl rfl (ex_assign hf rfl) (fun a hf => ?_)
          refine stq hf rfl rfl rfl (ex_assign hf rfl) (fun a hf => ?_)
          refine hK41 _ _ ?_
          refine bnd H (fun x42 H42 HO42 => ?_)
          clear H
          refine seq_cut (fun a w => Fr a 99 [(15, v40)] ∧ St M w0 w [osl K_uint64 v40 x42]) (fun Q42 hJ42 hR42 hX42 => ?_) (fun a w hJ => ?_)
          · replace H := H42
            refine seq_reg (fun K43 hK43 => ?_)
            refine stq hf rfl rfl rfl (ex_assign hf rfl) (fun a hf => ?_)
            refine hK43 _ _ ?_
            refine block_k (fun Q44 hN44 hR44 hX44 hY44 => ?_)
            refine loop_k (fun n a w => ∃ (y45 : (List Int)) (y46 : Int) (y47 : Int), Fr a 99 [(0, .int .u64 a0), (1, v1), (10, .int .u64 x21), (15, v40), (16, .int .u64 y46), (17, .int .i64 y47)] ∧ St M w0 w [osl K_uint64 v40 y45] ∧ ref39_Allocate.l2 n a1 a0 x21 y45 y46 y47 = some x42) k ?_ (fun n49 a w hI Q49 hL49 hR49 hX49 => ?_)
            · -- at the start
              exact ⟨s39.1, s39.2, 0, hf.sub ⟨rfl, rfl, rfl, rfl, rfl, rfl, trivial⟩, hs, H⟩
            · obtain ⟨y45, y46, y47, hf, hs, H⟩ := hI
              cases n49 with
              | zero => exact absurd H (by rw [ref39_Allocate.l2.eq_1]; intro h; cases h)
              | succ k49 =>
                replace H := (ref39_Allocate.l2.eq_2 ..).symm.trans H
                refine seq_n (fun Q50 hN50 hR50 hX50 => ?_)
                refine bnd H (fun x51 H51 HO51 => ?_)
                clear H
                refine seq_cut (fun a w => Fr a 99 [(0, .int .u64 a0), (1, v1), (10, .int .u64 x21), (15, v40), (16, .int .u64 y46), (17, .int .i64 y47), (71, .bool x51)] ∧ St M w0 w [osl K_uint64 v40 y45]) (fun Q51 hJ51 hR51 hX51 => ?_) (fun a w hJ => ?_)
                · replace H := H51
                  refine itt H (fun hc52 H => ?_) (fun hc52 H => ?_)
                  · -- y47 < (a1.length : Int)
                    refine region_k (fun K53 hK53 => ?_)
                    refine stq hf rfl rfl rfl (ex_move hf rfl) (fun a hf => ?_)
                    refine stq hf rfl rfl rfl (ex_move hf rfl) (fun a hf => ?_)
                    refine stq hf rfl rfl rfl (ex_lenS Try.underlying38 (rsl_isSl (hr.now hs (i := 0) rfl)) hf rfl) (fun a hf => ?_)
                    refine stq hf rfl rfl rfl (ex_lss hf rfl rfl) (fun a hf => ?_)
                    refine stq hf rfl rfl rfl (ex_move hf rfl) (fun a hf => ?_)
                    replace hf := hf.castB (t := 66) rfl (dec_t hc52)
                    replace hf := hf.castB (t := 67) rfl (dec_t hc52)
                    refine stq hf rfl rfl rfl (ex_move hf rfl) (fun a hf => ?_)
                    refine stq hf rfl rfl rfl (ex_move hf rfl) (fun a hf => ?_)
                    refine stq hf rfl rfl rfl (ex_lss hf rfl rfl) (fun a hf => ?_)
                    refine stq hf rfl rfl rfl (ex_pickT hf rfl rfl) (fun a hf => ?_)
                    refine hK53 _ _ ?_
                    have e51 := some_eq H; subst e51
                    exact hJ51 _ _ ⟨hf.sub ⟨rfl, rfl, rfl, rfl, rfl, rfl, rfl, trivial⟩, hs⟩
                  · -- not y47 < (a1.length : Int)
                    refine region_k (fun K54 hK54 => ?_)
                    refine stq hf rfl rfl rfl (ex_move hf rfl) (fun a hf => ?_)
                    refine stq hf rfl rfl rfl (ex_move hf rfl) (fun a hf => ?_)
                    refine stq hf rfl rfl rfl (ex_lenS Try.underlying38 (rsl_isSl (hr.now hs (i := 0) rfl)) hf rfl) (fun a hf => ?_)
                    refine stq hf rfl rfl rfl (ex_lss hf rfl rfl) (fun a hf => ?_)
                    refine stq hf rfl rfl rfl (ex_move hf rfl) (fun a hf => ?_)
                    replace hf := hf.castB (t := 66) rfl (dec_f hc52)
                    replace hf := hf.castB (t := 67) rfl (dec_f hc52)
                    refine stepN hf rfl rfl rfl (fun a hf => ?_)
                    refine stepN hf rfl rfl rfl (fun a hf => ?_)
                    refine stepN hf rfl rfl rfl (fun a hf => ?_)
                    refine stq hf rfl rfl rfl (ex_pickF hf rfl rfl) (fun a hf => ?_)
                    refine hK54 _ _ ?_
                    have e51 := some_eq H; subst e51
                    exact hJ51 _ _ ⟨hf.sub ⟨rfl, rfl, rfl, rfl, rfl, rfl, rfl, trivial⟩, hs⟩
                · obtain ⟨hf, hs⟩ := hJ
                  replace H := HO51
                  clear HO51
                  refine itt H (fun hc55 H => ?_) (fun hc55 H => ?_)
                  · -- x51 = true
                    replace hf := hf.castB (t := 71) rfl hc55
                    refine cond_T hf rfl ?_
                    refine wp_skip ?_
                    refine hN50 _ _ ?_
                    refine bnd H (fun x56 H56 HO56 => ?_)
                    clear H
                    refine seq_cut (fun a w => Fr a 99 [(0, .int .u64 a0), (1, v1), (10, .int .u64 x21), (15, v40), (16, .int .u64 x56.2), (17, .int .i64 y47)] ∧ St M w0 w [osl K_uint64 v40 x56.1]) (fun Q56 hJ56 hR56 hX56 => ?_) (fun a w hJ => ?_)
                    · replace H := H56
                      refine block_k (fun Q57 hN57 hR57 hX57 hY57 => ?_)
                      refine bnd H (fun x58 H58 HO58 => ?_)
                      clear H
                      refine seq_cut (fun a w => Fr a 99 [(0, .int .u64 a0), (1, v1), (10, .int .u64 x21), (15, v40), (16, .int .u64 y46), (17, .int .i64 y47), (89, .bool x58)] ∧ St M w0 w [osl K_uint64 v40 y45]) (fun Q58 hJ58 hR58 hX58 => ?_) (fun a w hJ => ?_)
                      · replace H := H58
                        refine ck_some H (fun hc59 H => ?_)
                        refine itt H (fun hc60 H => ?_) (fun hc60 H => ?_)
                        · -- ((gd Actor.zero a1 y47).Min) ≤ x21
                          refine bnd H (fun s61 hs61 H => ?_)
                          refine region_k (fun K62 hK62 => ?_)
                          refine stq hf rfl rfl rfl (ex_move hf rfl) (fun a hf => ?_)
                          refine stq hf rfl rfl rfl (ex_move hf rfl) (fun a hf => ?_)
                          refine stq hf rfl rfl rfl (ex_indexAddr sa_38 (rsl_isSl (hr.now hs (i := 0) rfl)) hc59.1 hc59.2 hf rfl rfl) (fun a hf => ?_)
                          refine stq hf rfl rfl rfl (ex_fieldAddrS fa_56_1 rfl hf rfl) (fun a hf => ?_)
                          refine stq hf rfl rfl rfl (ex_load sc_37 hf rfl (el_cell (K := K_api_Actor) (f := 1) (rsl_rd (hr.now hs (i := 0) rfl)) hc59.1 hc59.2 rfl)) (fun a hf => ?_)
                          refine stq hf rfl rfl rfl (ex_move hf rfl) (fun a hf => ?_)
                          refine stq hf rfl rfl rfl (ex_leq hf rfl rfl) (fun a hf => ?_)
                          refine stq hf rfl rfl rfl (ex_move hf rfl) (fun a hf => ?_)
                          replace hf := hf.castB (t := 80) rfl (dec_t hc60)
                          replace hf := hf.castB (t := 81) rfl (dec_t hc60)
                          refine stq hf rfl rfl rfl (ex_move hf rfl) (fun a hf => ?_)
                          refine stq hf rfl rfl rfl (ex_move hf rfl) (fun a hf => ?_)
                          refine stq hf rfl rfl rfl (ex_move hf rfl) (fun a hf => ?_)
                          refine stq hf rfl rfl rfl (ex_indexAddr sa_38 (rsl_isSl (hr.now hs (i := 0) rfl)) hc59.1 hc59.2 hf rfl rfl) (fun a hf => ?_)
                          refine stq hf rfl rfl rfl (ex_loadA (cs := [.int .u64 ((gd Actor.zero a1 y47).Request), .int .u64 ((gd Actor.zero a1 y47).Min), .int .u64 ((gd Actor.zero a1 y47).Max)]) ag_56 hf rfl (el_cells (K := K_api_Actor) (rsl_rd (hr.now hs (i := 0) rfl)) hc59.1 hc59.2 rfl)) (fun a hf => ?_)
                          refine stepF hf rfl rfl rfl (ex_call cf_39 hf rfl) (ref39_want.calls k49 (⟨((gd Actor.zero a1 y47).Request), ((gd Actor.zero a1 y47).Min), ((gd Actor.zero a1 y47).Max)⟩ : Actor) (hs.enter (.k .nil)) (Sr.nil _ _) hs61) (fun v w hR a hf => ?_)
                          obtain ⟨rfl, hs'⟩ := hR
                          replace hs := hs.step (.k .nil) hs'
                          clear hs'
                          refine stq hf rfl rfl rfl (ex_lss hf rfl rfl) (fun a hf => ?_)
                          refine stq hf rfl rfl rfl (ex_pickT hf rfl rfl) (fun a hf => ?_)
                          refine hK62 _ _ ?_
                          have e58 := some_eq H; subst e58
                          exact hJ58 _ _ ⟨hf.sub ⟨rfl, rfl, rfl, rfl, rfl, rfl, rfl, trivial⟩, hs⟩
                        · -- not ((gd Actor.zero a1 y47).Min) ≤ x21
                          refine region_k (fun K63 hK63 => ?_)
                          refine stq hf rfl rfl rfl (ex_move hf rfl) (fun a hf => ?_)
                          refine stq hf rfl rfl rfl (ex_move hf rfl) (fun a hf => ?_)
                          refine stq hf rfl rfl rfl (ex_indexAddr sa_38 (rsl_isSl (hr.now hs (i := 0) rfl)) hc59.1 hc59.2 hf rfl rfl) (fun a hf => ?_)
                          refine stq hf rfl rfl rfl (ex_fieldAddrS fa_56_1 rfl hf rfl) (fun a hf => ?_)
                          refine stq hf rfl rfl rfl (ex_load sc_37 hf rfl (el_cell (K := K_api_Actor) (f := 1) (rsl_rd (hr.now hs (i := 0) rfl)) hc59.1 hc59.2 rfl)) (fun a hf => ?_)
                          refine stq hf rfl rfl rfl (ex_move hf rfl) (fun a hf => ?_)
                          refine stq hf rfl rfl rfl (ex_leq hf rfl rfl) (fun a hf => ?_)
                          refine stq hf rfl rfl rfl (ex_move hf rfl) (fun a hf => ?_)
                          replace hf := hf.castB (t := 80) rfl (dec_f hc60)
                          replace hf := hf.castB (t := 81) rfl (dec_f hc60)
                          refine stepN hf rfl rfl rfl (fun a hf => ?_)
                          refine stepN hf rfl rfl rfl (fun a hf => ?_)
                          refine stepN hf rfl rfl rfl (fun a hf => ?_)
                          refine stepN hf rfl rfl rfl (fun a hf => ?_)
                          refine stepN hf rfl rfl rfl (fun a hf => ?_)
                          refine stepN hf rfl rfl rfl (fun a hf => ?_)
                          refine stepN hf rfl rfl rfl (fun a hf => ?_)
                          refine stq hf rfl rfl rfl (ex_pickF hf rfl rfl) (fun a hf => ?_)
                          refine hK63 _ _ ?_
                          have e58 := some_eq H; subst e58
                          exact hJ58 _ _ ⟨hf.sub ⟨rfl, rfl, rfl, rfl, rfl, rfl, rfl, trivial⟩, hs⟩
                      · obtain ⟨hf, hs⟩ := hJ
                        replace H := HO58
                        clear HO58
                        refine itt H (fun hc64 H => ?_) (fun hc64 H => ?_)
                        · -- x58 = true
                          replace hf := hf.castB (t := 89) rfl hc64
                          refine cond_T hf rfl ?_
                          refine ck_some H (fun hc65 H => ?_)
                          refine seq_reg (fun K66 hK66 => ?_)
                          refine stq hf rfl rfl rfl (ex_move hf rfl) (fun a hf => ?_)
                          refine stq hf rfl rfl rfl (ex_move hf rfl) (fun a hf => ?_)
                          refine stq hf rfl rfl rfl (ex_indexAddr sa_40 (rsl_isSl (osl_rsl _ (hs.get (i := 0) rfl))) hc65.1 hc65.2 hf rfl rfl) (fun a hf => ?_)
                          refine stq hf rfl rfl rfl (ex_load sc_37 hf rfl (el_cell (K := K_uint64) (f := 0) (rsl_rd (osl_rsl _ (hs.get (i := 0) rfl))) hc65.1 hc65.2 rfl)) (fun a hf => ?_)
                          refine stq hf rfl rfl rfl (ex_add hf rfl rfl) (fun a hf => ?_)
                          refine stq hf rfl rfl rfl (ex_indexAddr sa_40 (rsl_isSl (osl_rsl _ (hs.get (i := 0) rfl))) hc65.1 hc65.2 hf rfl rfl) (fun a hf => ?_)
                          refine stepS hf rfl rfl (er_storeE (K := K_uint64) (f := 0) (x' := (IntKind.u64.wrap ((gd 0 y45 y47) + 1))) hs (.c .nil) hc65.1 hc65.2 hf rfl rfl rfl sz_37 rfl rfl) (fun w hs => ?_)
                          refine hK66 _ _ ?_
                          refine region_k (fun K67 hK67 => ?_)
                          refine stq hf rfl rfl rfl (ex_move hf rfl) (fun a hf => ?_)
                          refine stq hf rfl rfl rfl (ex_add hf rfl rfl) (fun a hf => ?_)
                          refine stq hf rfl rfl rfl (ex_assign hf rfl) (fun a hf => ?_)
                          refine hK67 _ _ ?_
                          refine hN57 _ _ ?_
                          have e56 := some_eq H; subst e56
                          exact hJ56 _ _ ⟨hf.sub ⟨rfl, rfl, rfl, rfl, rfl, rfl, trivial⟩, hs⟩
                        · -- not x58 = true
                          replace hf := hf.castB (t := 89) rfl (bool_f hc64)
                          refine cond_F hf rfl ?_
                          refine wp_skip ?_
                          refine hN57 _ _ ?_
                          have e56 := some_eq H; subst e56
                          exact hJ56 _ _ ⟨hf.sub ⟨rfl, rfl, rfl, rfl, rfl, rfl, trivial⟩, hs⟩
                    · obtain ⟨hf, hs⟩ := hJ
                      replace H := HO56
                      clear HO56
                      refine region_k (fun K68 hK68 => ?_)
                      refine stq hf rfl rfl rfl (ex_move hf rfl) (fun a hf => ?_)
                      refine stq hf rfl rfl rfl (ex_add hf rfl rfl) (fun a hf => ?_)
                      refine stq hf rfl rfl rfl (ex_assign hf rfl) (fun a hf => ?_)
                      refine hK68 _ _ ?_
                      exact hL49 k49 _ _ (Nat.lt_succ_self _) ⟨x56.1, x56.2, (IntKind.i64.wrap (y47 + 1)), hf.sub ⟨rfl, rfl, rfl, rfl, rfl, rfl, trivial⟩, hs, H⟩
                  · -- not x51 = true
                    replace hf := hf.castB (t := 71) rfl (bool_f hc55)
                    refine cond_F hf rfl ?_
                    refine wp_exit ?_
                    refine hX50 2 _ _ ?_
                    refine hX49 2 _ _ ?_
                    refine hX44 _ _ ?_
                    have e42 := some_eq H; subst e42
                    exact hJ42 _ _ ⟨hf.sub ⟨rfl, trivial⟩, hs⟩
          · obtain ⟨hf, hs⟩ := hJ
            replace H := HO42
            clear HO42
            refine seq_reg (fun K69 hK69 => ?_)
            refine stq hf rfl rfl rfl (ex_move hf rfl) (fun a hf => ?_)
            refine stq hf rfl rfl rfl (ex_assign hf rfl) (fun a hf => ?_)
            refine stq hf rfl rfl rfl (ex_assign hf rfl) (fun a hf => ?_)
            refine hK69 _ _ ?_
            refine wp_ret ?_
            have eR := some_eq H; subst eR
            exact ret2 Try.results19 hf rfl rfl ⟨_, rfl, ⟨v40, rfl, hs⟩⟩
  · -- not s3 = true
    replace hf := hf.castB (t := 19) rfl (bool_f hc5)
    replace hf := hf.castB (t := 20) rfl (nbool_t hc5)
    refine cond_T hf rfl ?_
    refine seq_reg (fun K70 hK70 => ?_)
    refine stq hf rfl rfl rfl (ex_assign hf rfl) (fun a hf => ?_)
    refine stq hf rfl rfl rfl (ex_assign hf rfl) (fun a hf => ?_)
    refine hK70 _ _ ?_
    refine wp_ret ?_
    refine hR2 _ _ ?_
    have eR := some_eq H; subst eR
    replace hs := hs.nilS K_uint64
    exact ret2 Try.results19 hf rfl rfl ⟨_, rfl, ⟨(.slice none 0 0), rfl, hs⟩⟩

set_option maxRecDepth 100000 in
theorem law39_degree.calls {M : Nat → Prop} {w0 : World} (k : Nat) (a0 : Int) (a1 : Int) {r : Int} (hs : St M w0 w0 []) (hr : Sr M w0 [])
    (h : law39_degree.f k a0 a1 = some r) : Calls Try.prog 21 #[.int .i64 a0, .int .i64 a1] w0 fun e w => ∃ v, e = .returned v ∧ (.int .i64 r = v ∧ St M w0 w []) := by
  have H := (law39_degree.f.eq_1 ..).symm.trans h
  clear h
  refine enter Try.func21 rfl Try.ntmps21 rfl (fun a hf => ?_)
  refine seq_reg (fun K1 hK1 => ?_)
  refine stq hf rfl rfl rfl (ex_assign hf rfl) (fun a hf => ?_)
  refine hK1 _ _ ?_
  refine seq_n (fun Q2 hN2 hR2 hX2 => ?_)
  refine seq_reg (fun K3 hK3 => ?_)
  refine stq hf rfl rfl rfl (ex_move hf rfl) (fun a hf => ?_)
  refine stq hf rfl rfl rfl (ex_rem hf rfl rfl (by decide)) (fun a hf => ?_)
  refine stq hf rfl rfl rfl (ex_eql hf rfl rfl) (fun a hf => ?_)
  refine hK3 _ _ ?_
  refine itt H (fun hc4 H => ?_) (fun hc4 H => ?_)
  · -- (Int.tmod a1 8) = 7
    replace hf := hf.castB (t := 7) rfl (dec_t hc4)
    refine cond_T hf rfl ?_
    refine seq_reg (fun K5 hK5 => ?_)
    refine stq hf rfl rfl rfl (ex_move hf rfl) (fun a hf => ?_)
    refine stq hf rfl rfl rfl (ex_assign hf rfl) (fun a hf => ?_)
    refine hK5 _ _ ?_
    refine wp_ret ?_
    refine hR2 _ _ ?_
    have eR := some_eq H; subst eR
    exact ret1 Try.results21 hf rfl ⟨_, rfl, ⟨rfl, hs⟩⟩
  · -- not (Int.tmod a1 8) = 7
    replace hf := hf.castB (t := 7) rfl (dec_f hc4)
    refine cond_F hf rfl ?_
    refine wp_skip ?_
    refine hN2 _ _ ?_
    refine seq_reg (fun K6 hK6 => ?_)
    refine stq hf rfl rfl rfl (ex_move hf rfl) (fun a hf => ?_)
    refine stq hf rfl rfl rfl (ex_conv Try.underlying2 Try.underlying37 hf rfl) (fun a hf => ?_)
    refine stq hf rfl rfl rfl (ex_rem hf rfl rfl (by decide)) (fun a hf => ?_)
    refine stq hf rfl rfl rfl (ex_conv Try.underlying37 Try.underlying2 hf rfl) (fun a hf => ?_)
    refine stq hf rfl rfl rfl (ex_sub hf rfl rfl) (fun a hf => ?_)
    refine stq hf rfl rfl rfl (ex_assign hf rfl) (fun a hf => ?_)
    refine hK6 _ _ ?_
    refine wp_ret ?_
    have eR := some_eq H; subst eR
    exact ret1 Try.results21 hf rfl ⟨_, rfl, ⟨rfl, hs⟩⟩

set_option maxRecDepth 100000 in
theorem ref39_Zone_Update.calls {M : Nat → Prop} {w0 : World} (k : Nat) (a0_T : (List Trip)) (a0_On : (List Bool)) (a0_N : Int) (a0_At : Int) (a1 : Int) (b0 : Nat) (v0_T : Value) (v0_On : Value) {r : Int × (List Bool) × Int × Bool × Int} (hs : St M w0 w0 [bx b0 64 [v0_T, v0_On, .int .i64 a0_N, .int .i64 a0_At], osl K_bool v0_On a0_On]) (hr : Sr M w0 [rsl K_api_Trip v0_T a0_T])
    (h : ref39_Zone_Update.f k a0_T a0_On a0_N a0_At a1 = some r) : Calls Try.prog 23 #[.pointer (some ⟨b0, 0, none⟩), .int .i64 a1] w0 fun e w => ∃ v, e = .returned v ∧ (∃ (g0 : Value), .tuple #[.int .i64 r.2.2.1, .bool r.2.2.2.1, .int .i64 r.2.2.2.2] = v ∧ St M w0 w [bx b0 64 [v0_T, g0, .int .i64 a0_N, .int .i64 r.1], osl K_bool g0 r.2.1]) := by
  have H := (ref39_Zone_Update.f.eq_1 ..).symm.trans h
  clear h
  refine enter Try.func23 rfl Try.ntmps23 rfl (fun a hf => ?_)
  refine seq_reg (fun K1 hK1 => ?_)
  refine stq hf rfl rfl rfl (ex_assign hf rfl) (fun a hf => ?_)
  refine stq hf rfl rfl rfl (ex_assign hf rfl) (fun a hf => ?_)
  refine stq hf rfl rfl rfl (ex_assign hf rfl) (fun a hf => ?_)
  refine hK1 _ _ ?_
  refine seq_n (fun Q2 hN2 hR2 hX2 => ?_)
  refine bnd H (fun x3 H3 HO3 => ?_)
  clear H
  refine seq_cut (fun a w => Fr a 136 [(0, .pointer (some ⟨b0, 0, none⟩)), (1, .int .i64 a1), (15, .bool x3)] ∧ St M w0 w [bx b0 64 [v0_T, v0_On, .int .i64 a0_N, .int .i64 a0_At], osl K_bool v0_On a0_On]) (fun Q3 hJ3 hR3 hX3 => ?_) (fun a w hJ => ?_)
  · replace H := H3
    refine itt H (fun hc4 H => ?_) (fun hc4 H => ?_)
    · -- a1 < (-134217728)
      refine region_k (fun K5 hK5 => ?_)
      refine stq hf rfl rfl rfl (ex_move hf rfl) (fun a hf => ?_)
      refine stq hf rfl rfl rfl (ex_lss hf rfl rfl) (fun a hf => ?_)
      refine stq hf rfl rfl rfl (ex_move hf rfl) (fun a hf => ?_)
      replace hf := hf.castB (t := 11) rfl (dec_t hc4)
      replace hf := hf.castB (t := 12) rfl (dec_t hc4)
      refine stepN hf rfl rfl rfl (fun a hf => ?_)
      refine stepN hf rfl rfl rfl (fun a hf => ?_)
      refine stq hf rfl rfl rfl (ex_pickT hf rfl rfl) (fun a hf => ?_)
      refine hK5 _ _ ?_
      have e3 := some_eq H; subst e3
      exact hJ3 _ _ ⟨hf.sub ⟨rfl, rfl, rfl, trivial⟩, hs⟩
    · -- not a1 < (-134217728)
      refine region_k (fun K6 hK6 => ?_)
      refine stq hf rfl rfl rfl (ex_move hf rfl) (fun a hf => ?_)
      refine stq hf rfl rfl rfl (ex_lss hf rfl rfl) (fun a hf => ?_)
      refine stq hf rfl rfl rfl (ex_move hf rfl) (fun a hf => ?_)
      replace hf := hf.castB (t := 11) rfl (dec_f hc4)
      replace hf := hf.castB (t := 12) rfl (dec_f hc4)
      refine stq hf rfl rfl rfl (ex_move hf rfl) (fun a hf => ?_)
      refine stq hf rfl rfl rfl (ex_gtr hf rfl rfl) (fun a hf => ?_)
      refine stq hf rfl rfl rfl (ex_pickF hf rfl rfl) (fun a hf => ?_)
      refine hK6 _ _ ?_
      have e3 := some_eq H; subst e3
      exact hJ3 _ _ ⟨hf.sub ⟨rfl, rfl, rfl, trivial⟩, hs⟩
  · obtain ⟨hf, hs⟩ := hJ
    replace H := HO3
    clear HO3
    refine itt H (fun hc7 H => ?_) (fun hc7 H => ?_)
    · -- x3 = true
      replace hf := hf.castB (t := 15) rfl hc7
      refine cond_T hf rfl ?_
      refine seq_reg (fun K8 hK8 => ?_)
      refine stq hf rfl rfl rfl (ex_assign hf rfl) (fun a hf => ?_)
      refine stq hf rfl rfl rfl (ex_assign hf rfl) (fun a hf => ?_)
      refine stq hf rfl rfl rfl (ex_assign hf rfl) (fun a hf => ?_)
      refine hK8 _ _ ?_
      refine wp_ret ?_
      refine hR2 _ _ ?_
      have eR := some_eq H; subst eR
      exact ret3 Try.results23 hf rfl rfl rfl ⟨_, rfl, ⟨v0_On, rfl, hs⟩⟩
    · -- not x3 = true
      replace hf := hf.castB (t := 15) rfl (bool_f hc7)
      refine cond_F hf rfl ?_
      refine wp_skip ?_
      refine hN2 _ _ ?_
      refine seq_reg (fun K9 hK9 => ?_)
      refine stq hf rfl rfl rfl (ex_assign hf rfl) (fun a hf => ?_)
      refine stq hf rfl rfl rfl (ex_assign hf rfl) (fun a hf => ?_)
      refine hK9 _ _ ?_
      refine bnd H (fun x10 H10 HO10 => ?_)
      clear H
      refine seq_cut (fun a w => Fr a 136 [(0, .pointer (some ⟨b0, 0, none⟩)), (7, .bool x10.2.1), (8, .bool x10.2.2)] ∧ St M w0 w [bx b0 64 [v0_T, v0_On, .int .i64 a0_N, .int .i64 a0_At], osl K_bool v0_On x10.1]) (fun Q10 hJ10 hR10 hX10 => ?_) (fun a w hJ => ?_)
      · replace H := H10
        refine seq_reg (fun K11 hK11 => ?_)
        refine stq hf rfl rfl rfl (ex_assign hf rfl) (fun a hf => ?_)
        refine hK11 _ _ ?_
        refine block_k (fun Q12 hN12 hR12 hX12 hY12 => ?_)
        refine loop_k (fun n a w => ∃ (y13 : (List Bool)) (y14 : Bool) (y15 : Bool) (y16 : Int), Fr a 136 [(0, .pointer (some ⟨b0, 0, none⟩)), (1, .int .i64 a1), (7, .bool y14), (8, .bool y15), (9, .int .i64 y16)] ∧ St M w0 w [bx b0 64 [v0_T, v0_On, .int .i64 a0_N, .int .i64 a0_At], osl K_bool v0_On y13] ∧ ref39_Zone_Update.l1 n a0_T a1 y13 y14 y15 y16 = some x10) k ?_ (fun n18 a w hI Q18 hL18 hR18 hX18 => ?_)
        · -- at the start
          exact ⟨a0_On, false, false, 0, hf.sub ⟨rfl, rfl, rfl, rfl, rfl, trivial⟩, hs, H⟩
        · obtain ⟨y13, y14, y15, y16, hf, hs, H⟩ := hI
          cases n18 with
          | zero => exact absurd H (by rw [ref39_Zone_Update.l1.eq_1]; intro h; cases h)
          | succ k18 =>
            replace H := (ref39_Zone_Update.l1.eq_2 ..).symm.trans H
            refine seq_n (fun Q19 hN19 hR19 hX19 => ?_)
            refine seq_reg (fun K20 hK20 => ?_)
            refine stq hf rfl rfl rfl (ex_move hf rfl) (fun a hf => ?_)
            refine stq hf rfl rfl rfl (ex_move hf rfl) (fun a hf => ?_)
            refine stq hf rfl rfl rfl (ex_nilCheck hf rfl) (fun a hf => ?_)
            refine stq hf rfl rfl rfl (ex_fieldAddrB fa_64_0 rfl hf rfl) (fun a hf => ?_)
            refine stq hf rfl rfl rfl (ex_load sc_22 hf rfl (bx_cell (hs.get (i := 0) rfl) _ rfl)) (fun a hf => ?_)
            refine stq hf rfl rfl rfl (ex_lenS Try.underlying22 (rsl_isSl (hr.now hs (i := 0) rfl)) hf rfl) (fun a hf => ?_)
            refine stq hf rfl rfl rfl (ex_lss hf rfl rfl) (fun a hf => ?_)
            refine hK20 _ _ ?_
            refine itt H (fun hc21 H => ?_) (fun hc21 H => ?_)
            · -- y16 < (a0_T.length : Int)
              replace hf := hf.castB (t := 22) rfl (dec_t hc21)
              refine cond_T hf rfl ?_
              refine wp_skip ?_
              refine hN19 _ _ ?_
              refine bnd H (fun x22 H22 HO22 => ?_)
              clear H
              refine seq_cut (fun a w => Fr a 136 [(0, .pointer (some ⟨b0, 0, none⟩)), (1, .int .i64 a1), (7, .bool x22.2.1), (8, .bool x22.2.2), (9, .int .i64 y16)] ∧ St M w0 w [bx b0 64 [v0_T, v0_On, .int .i64 a0_N, .int .i64 a0_At], osl K_bool v0_On x22.1]) (fun Q22 hJ22 hR22 hX22 => ?_) (fun a w hJ => ?_)
              · replace H := H22
                refine block_k (fun Q23 hN23 hR23 hX23 hY23 => ?_)
                refine bnd H (fun x24 H24 HO24 => ?_)
                clear H
                refine seq_cut (fun a w => Fr a 136 [(0, .pointer (some ⟨b0, 0, none⟩)), (1, .int .i64 a1), (7, .bool y14), (8, .bool y15), (9, .int .i64 y16)] ∧ St M w0 w [bx b0 64 [v0_T, v0_On, .int .i64 a0_N, .int .i64 a0_At], osl K_bool v0_On x24]) (fun Q24 hJ24 hR24 hX24 => ?_) (fun a w hJ => ?_)
                · replace H := H24
                  refine ck_some H (fun hc25 H => ?_)
                  refine seq_reg (fun K26 hK26 => ?_)
                  refine stq hf rfl rfl rfl (ex_move hf rfl) (fun a hf => ?_)
                  refine stq hf rfl rfl rfl (ex_move hf rfl) (fun a hf => ?_)
                  refine stq hf rfl rfl rfl (ex_nilCheck hf rfl) (fun a hf => ?_)
                  refine stq hf rfl rfl rfl (ex_fieldAddrB fa_64_0 rfl hf rfl) (fun a hf => ?_)
                  refine stq hf rfl rfl rfl (ex_load sc_22 hf rfl (bx_cell (hs.get (i := 0) rfl) _ rfl)) (fun a hf => ?_)
                  refine stq hf rfl rfl rfl (ex_move hf rfl) (fun a hf => ?_)
                  refine stq hf rfl rfl rfl (ex_indexAddr sa_22 (rsl_isSl (hr.now hs (i := 0) rfl)) hc25.1 hc25.2 hf rfl rfl) (fun a hf => ?_)
                  refine stq hf rfl rfl rfl (ex_fieldAddrS fa_24_1 rfl hf rfl) (fun a hf => ?_)
                  refine stq hf rfl rfl rfl (ex_load sc_2 hf rfl (el_cell (K := K_api_Trip) (f := 1) (rsl_rd (hr.now hs (i := 0) rfl)) hc25.1 hc25.2 rfl)) (fun a hf => ?_)
                  refine stq hf rfl rfl rfl (ex_geq hf rfl rfl) (fun a hf => ?_)
                  refine hK26 _ _ ?_
                  refine itt H (fun hc27 H => ?_) (fun hc27 H => ?_)
                  · -- ((gd Trip.zero a0_T y16).Temperature) ≤ a1
                    replace hf := hf.castB (t := 34) rfl (dec_t hc27)
                    refine cond_T hf rfl ?_
                    refine ck_some H (fun hc28 H => ?_)
                    refine region_k (fun K29 hK29 => ?_)
                    refine stq hf rfl rfl rfl (ex_move hf rfl) (fun a hf => ?_)
                    refine stq hf rfl rfl rfl (ex_nilCheck hf rfl) (fun a hf => ?_)
                    refine stq hf rfl rfl rfl (ex_fieldAddrB fa_64_1 rfl hf rfl) (fun a hf => ?_)
                    refine stq hf rfl rfl rfl (ex_load sc_52 hf rfl (bx_cell (hs.get (i := 0) rfl) _ rfl)) (fun a hf => ?_)
                    refine stq hf rfl rfl rfl (ex_move hf rfl) (fun a hf => ?_)
                    refine stq hf rfl rfl rfl (ex_indexAddr sa_52 (rsl_isSl (osl_rsl _ (hs.get (i := 1) rfl))) hc28.1 hc28.2 hf rfl rfl) (fun a hf => ?_)
                    refine stepS hf rfl rfl (er_storeE (K := K_bool) (f := 0) (x' := true) hs (.k (.c .nil)) hc28.1 hc28.2 hf rfl rfl rfl sz_4 rfl rfl) (fun w hs => ?_)
                    refine hK29 _ _ ?_
                    replace hs := hs.pick (.k (.c .nil))
                    have e24 := some_eq H; subst e24
                    exact hJ24 _ _ ⟨hf.sub ⟨rfl, rfl, rfl, rfl, rfl, trivial⟩, hs⟩
                  · -- not ((gd Trip.zero a0_T y16).Temperature) ≤ a1
                    replace hf := hf.castB (t := 34) rfl (dec_f hc27)
                    refine cond_F hf rfl ?_
                    refine seq_n (fun Q30 hN30 hR30 hX30 => ?_)
                    refine region_d fol 19 [(0, .pointer (some ⟨b0, 0, none⟩)), (1, .int .i64 a1), (7, .bool y14), (8, .bool y15), (9, .int .i64 y16)] [(0, .int .i64 a1), (1, .pointer (some ⟨b0, 0, none⟩)), (2, .pointer (some ⟨b0, 0, none⟩)), (3, .pointer (some ⟨b0, 0, none⟩)), (4, v0_T), (5, .int .i64 y16), (6, .pointer (some (sla v0_T (y16.toNat * 3)))), (7, .pointer (some (sla v0_T (y16.toNat * 3 + 1)))), (8, .int .i64 ((gd Trip.zero a0_T y16).Temperature)), (9, .pointer (some ⟨b0, 0, none⟩)), (10, .pointer (some ⟨b0, 0, none⟩)), (11, .pointer (some ⟨b0, 0, none⟩)), (12, v0_T), (13, .int .i64 y16), (14, .pointer (some (sla v0_T (y16.toNat * 3)))), (15, .pointer (some (sla v0_T (y16.toNat * 3 + 2)))), (16, .int .i64 ((gd Trip.zero a0_T y16).Hysteresis)), (17, .int .i64 (IntKind.i64.wrap (((gd Trip.zero a0_T y16).Temperature) - ((gd Trip.zero a0_T y16).Hysteresis)))), (18, .bool (decide (a1 < (IntKind.i64.wrap (((gd Trip.zero a0_T y16).Temperature) - ((gd Trip.zero a0_T y16).Hysteresis))))))] [] (fun w => (bx b0 64 [v0_T, v0_On, .int .i64 a0_N, .int .i64 a0_At]).ok w ∧ (rsl K_api_Trip v0_T a0_T).ok w ∧ True) (fun w => St M w0 w [bx b0 64 [v0_T, v0_On, .int .i64 a0_N, .int .i64 a0_At], osl K_bool v0_On y13]) hf ⟨rfl, rfl, rfl, rfl, rfl, trivial⟩ (by kernel_rfl) (by kernel_rfl) rfl (by decide) ⟨hs.drew.get (i := 0) rfl, hr.now hs.drew (i := 0) rfl, trivial⟩ hs.drew (.cons (⟨_, _, rfl, rfl, rfl, rfl, fun a w hR hf => .inl ⟨wanted_yes hf rfl, ex_move hf rfl⟩⟩) (.cons (⟨_, _, rfl, rfl, rfl, rfl, fun a w hR hf => .inl ⟨wanted_yes hf rfl, ex_move hf rfl⟩⟩) (.cons (⟨_, _, rfl, rfl, rfl, rfl, fun a w hR hf => .inl ⟨wanted_yes hf rfl, ex_nilCheck hf rfl⟩⟩) (.cons (⟨_, _, rfl, rfl, rfl, rfl, fun a w hR hf => .inl ⟨wanted_yes hf rfl, ex_fieldAddrB fa_64_0 rfl hf rfl⟩⟩) (.cons (⟨_, _, rfl, rfl, rfl, rfl, fun a w hR hf => .inl ⟨wanted_yes hf rfl, ex_load sc_22 hf rfl (bx_cell (hR.1) _ rfl)⟩⟩) (.cons (⟨_, _, rfl, rfl, rfl, rfl, fun a w hR hf => .inl ⟨wanted_yes hf rfl, ex_move hf rfl⟩⟩) (.cons (⟨_, _, rfl, rfl, rfl, rfl, fun a w hR hf => .inl ⟨wanted_yes hf rfl, ex_indexAddr sa_22 (rsl_isSl hR.2.1) hc25.1 hc25.2 hf rfl rfl⟩⟩) (.cons (⟨_, _, rfl, rfl, rfl, rfl, fun a w hR hf => .inl ⟨wanted_yes hf rfl, ex_fieldAddrS fa_24_1 rfl hf rfl⟩⟩) (.cons (⟨_, _, rfl, rfl, rfl, rfl, fun a w hR hf => .inl ⟨wanted_yes hf rfl, ex_load sc_2 hf rfl (el_cell (K := K_api_Trip) (f := 1) (rsl_rd hR.2.1) hc25.1 hc25.2 rfl)⟩⟩) (.cons (⟨_, _, rfl, rfl, rfl, rfl, fun a w hR hf => .inl ⟨wanted_yes hf rfl, ex_move hf rfl⟩⟩) (.cons (⟨_, _, rfl, rfl, rfl, rfl, fun a w hR hf => .inl ⟨wanted_yes hf rfl, ex_nilCheck hf rfl⟩⟩) (.cons (⟨_, _, rfl, rfl, rfl, rfl, fun a w hR hf => .inl ⟨wanted_yes hf rfl, ex_fieldAddrB fa_64_0 rfl hf rfl⟩⟩) (.cons (⟨_, _, rfl, rfl, rfl, rfl, fun a w hR hf => .inl ⟨wanted_yes hf rfl, ex_load sc_22 hf rfl (bx_cell (hR.1) _ rfl)⟩⟩) (.cons (⟨_, _, rfl, rfl, rfl, rfl, fun a w hR hf => .inl ⟨wanted_yes hf rfl, ex_move hf rfl⟩⟩) (.cons (⟨_, _, rfl, rfl, rfl, rfl, fun a w hR hf => .inl ⟨wanted_yes hf rfl, ex_indexAddr sa_22 (rsl_isSl hR.2.1) hc25.1 hc25.2 hf rfl rfl⟩⟩) (.cons (⟨_, _, rfl, rfl, rfl, rfl, fun a w hR hf => .inl ⟨wanted_yes hf rfl, ex_fieldAddrS fa_24_2 rfl hf rfl⟩⟩) (.cons (⟨_, _, rfl, rfl, rfl, rfl, fun a w hR hf => .inl ⟨wanted_yes hf rfl, ex_load sc_2 hf rfl (el_cell (K := K_api_Trip) (f := 2) (rsl_rd hR.2.1) hc25.1 hc25.2 rfl)⟩⟩) (.cons (⟨_, _, rfl, rfl, rfl, rfl, fun a w hR hf => .inl ⟨wanted_yes hf rfl, ex_sub hf rfl rfl⟩⟩) (.cons (⟨_, _, rfl, rfl, rfl, rfl, fun a w hR hf => .inl ⟨wanted_yes hf rfl, ex_lss hf rfl rfl⟩⟩) (.nil)))))))))))))))))))) (fun K31 hK31 => ?_)
                    refine RW.zero (by kernel_rfl) (by kernel_rfl) [(0, .pointer (some ⟨b0, 0, none⟩)), (1, .int .i64 a1), (7, .bool y14), (8, .bool y15), (9, .int .i64 y16), (59, .bool (decide (a1 < (IntKind.i64.wrap (((gd Trip.zero a0_T y16).Temperature) - ((gd Trip.zero a0_T y16).Hysteresis))))))] ⟨rfl, rfl, rfl, rfl, rfl, rfl, trivial⟩ (fun a w hR hs hf => ?_)
                    refine hK31 _ _ ?_
                    refine hN30 _ _ ?_
                    refine itt H (fun hc32 H => ?_) (fun hc32 H => ?_)
                    · -- a1 < (IntKind.i64.wrap (((gd Trip.zero a0_T y16).Temperature
                      replace hf := hf.castB (t := 59) rfl (dec_t hc32)
                      refine cond_T hf rfl ?_
                      refine ck_some H (fun hc33 H => ?_)
                      refine region_k (fun K34 hK34 => ?_)
                      refine stq hf rfl rfl rfl (ex_move hf rfl) (fun a hf => ?_)
                      refine stq hf rfl rfl rfl (ex_nilCheck hf rfl) (fun a hf => ?_)
                      refine stq hf rfl rfl rfl (ex_fieldAddrB fa_64_1 rfl hf rfl) (fun a hf => ?_)
                      refine stq hf rfl rfl rfl (ex_load sc_52 hf rfl (bx_cell (hs.get (i := 0) rfl) _ rfl)) (fun a hf => ?_)
                      refine stq hf rfl rfl rfl (ex_move hf rfl) (fun a hf => ?_)
                      refine stq hf rfl rfl rfl (ex_indexAddr sa_52 (rsl_isSl (osl_rsl _ (hs.get (i := 1) rfl))) hc33.1 hc33.2 hf rfl rfl) (fun a hf => ?_)
                      refine stepS hf rfl rfl (er_storeE (K := K_bool) (f := 0) (x' := false) hs (.k (.c .nil)) hc33.1 hc33.2 hf rfl rfl rfl sz_4 rfl rfl) (fun w hs => ?_)
                      refine hK34 _ _ ?_
                      replace hs := hs.pick (.k (.c .nil))
                      have e24 := some_eq H; subst e24
                      exact hJ24 _ _ ⟨hf.sub ⟨rfl, rfl, rfl, rfl, rfl, trivial⟩, hs⟩
                    · -- not a1 < (IntKind.i64.wrap (((gd Trip.zero a0_T y16).Temperature
                      replace hf := hf.castB (t := 59) rfl (dec_f hc32)
                      refine cond_F hf rfl ?_
                      refine wp_skip ?_
                      have e24 := some_eq H; subst e24
                      exact hJ24 _ _ ⟨hf.sub ⟨rfl, rfl, rfl, rfl, rfl, trivial⟩, hs⟩
                · obtain ⟨hf, hs⟩ := hJ
                  replace H := HO24
                  clear HO24
                  refine bnd H (fun x35 H35 HO35 => ?_)
                  clear H
                  refine seq_cut (fun a w => Fr a 136 [(0, .pointer (some ⟨b0, 0, none⟩)), (1, .int .i64 a1), (7, .bool x35), (8, .bool y15), (9, .int .i64 y16)] ∧ St M w0 w [bx b0 64 [v0_T, v0_On, .int .i64 a0_N, .int .i64 a0_At], osl K_bool v0_On x24]) (fun Q35 hJ35 hR35 hX35 => ?_) (fun a w hJ => ?_)
                  · replace H := H35
                    refine itt H (fun hc36 H => ?_) (fun hc36 H => ?_)
                    · -- y14 = true
                      refine region_k (fun K37 hK37 => ?_)
                      refine stq hf rfl rfl rfl (ex_move hf rfl) (fun a hf => ?_)
                      refine stq hf rfl rfl rfl (ex_move hf rfl) (fun a hf => ?_)
                      replace hf := hf.castB (t := 7) rfl hc36
                      replace hf := hf.castB (t := 66) rfl hc36
                      replace hf := hf.castB (t := 67) rfl hc36
                      refine stepN hf rfl rfl rfl (fun a hf => ?_)
                      refine stepN hf rfl rfl rfl (fun a hf => ?_)
                      refine stepN hf rfl rfl rfl (fun a hf => ?_)
                      refine stepN hf rfl rfl rfl (fun a hf => ?_)
                      refine stepN hf rfl rfl rfl (fun a hf => ?_)
                      refine stepN hf rfl rfl rfl (fun a hf => ?_)
                      refine stepN hf rfl rfl rfl (fun a hf => ?_)
                      refine stepN hf rfl rfl rfl (fun a hf => ?_)
                      refine stepN hf rfl rfl rfl (fun a hf => ?_)
                      refine stepN hf rfl rfl rfl (fun a hf => ?_)
                      refine stepN hf rfl rfl rfl (fun a hf => ?_)
                      refine stepN hf rfl rfl rfl (fun a hf => ?_)
                      refine stepN hf rfl rfl rfl (fun a hf => ?_)
                      refine stepN hf rfl rfl rfl (fun a hf => ?_)
                      refine stepN hf rfl rfl rfl (fun a hf => ?_)
                      refine stepN hf rfl rfl rfl (fun a hf => ?_)
                      refine stepN hf rfl rfl rfl (fun a hf => ?_)
                      refine stepN hf rfl rfl rfl (fun a hf => ?_)
                      refine stq hf rfl rfl rfl (ex_pickT hf rfl rfl) (fun a hf => ?_)
                      refine stq hf rfl rfl rfl (ex_assign hf rfl) (fun a hf => ?_)
                      refine hK37 _ _ ?_
                      have e35 := some_eq H; subst e35
                      exact hJ35 _ _ ⟨hf.sub ⟨rfl, rfl, rfl, rfl, rfl, trivial⟩, hs⟩
                    · -- not y14 = true
                      refine ck_some H (fun hc38 H => ?_)
                      refine itt H (fun hc39 H => ?_) (fun hc39 H => ?_)
                      · -- (gd false x24 y16) = true
                        refine ck_some H (fun hc40 H => ?_)
                        refine region_k (fun K41 hK41 => ?_)
                        refine stq hf rfl rfl rfl (ex_move hf rfl) (fun a hf => ?_)
                        refine stq hf rfl rfl rfl (ex_move hf rfl) (fun a hf => ?_)
                        replace hf := hf.castB (t := 7) rfl (bool_f hc36)
                        replace hf := hf.castB (t := 66) rfl (bool_f hc36)
                        replace hf := hf.castB (t := 67) rfl (bool_f hc36)
                        refine stq hf rfl rfl rfl (ex_move hf rfl) (fun a hf => ?_)
                        refine stq hf rfl rfl rfl (ex_nilCheck hf rfl) (fun a hf => ?_)
                        refine stq hf rfl rfl rfl (ex_fieldAddrB fa_64_1 rfl hf rfl) (fun a hf => ?_)
                        refine stq hf rfl rfl rfl (ex_load sc_52 hf rfl (bx_cell (hs.get (i := 0) rfl) _ rfl)) (fun a hf => ?_)
                        refine stq hf rfl rfl rfl (ex_move hf rfl) (fun a hf => ?_)
                        refine stq hf rfl rfl rfl (ex_indexAddr sa_52 (rsl_isSl (osl_rsl _ (hs.get (i := 1) rfl))) hc38.1 hc38.2 hf rfl rfl) (fun a hf => ?_)
                        refine stq hf rfl rfl rfl (ex_load sc_4 hf rfl (el_cell (K := K_bool) (f := 0) (rsl_rd (osl_rsl _ (hs.get (i := 1) rfl))) hc38.1 hc38.2 rfl)) (fun a hf => ?_)
                        refine stq hf rfl rfl rfl (ex_move hf rfl) (fun a hf => ?_)
                        replace hf := hf.castB (t := 74) rfl hc39
                        replace hf := hf.castB (t := 75) rfl hc39
                        refine stq hf rfl rfl rfl (ex_move hf rfl) (fun a hf => ?_)
                        refine stq hf rfl rfl rfl (ex_nilCheck hf rfl) (fun a hf => ?_)
                        refine stq hf rfl rfl rfl (ex_fieldAddrB fa_64_0 rfl hf rfl) (fun a hf => ?_)
                        refine stq hf rfl rfl rfl (ex_load sc_22 hf rfl (bx_cell (hs.get (i := 0) rfl) _ rfl)) (fun a hf => ?_)
                        refine stq hf rfl rfl rfl (ex_move hf rfl) (fun a hf => ?_)
                        refine stq hf rfl rfl rfl (ex_indexAddr sa_22 (rsl_isSl (hr.now hs (i := 0) rfl)) hc40.1 hc40.2 hf rfl rfl) (fun a hf => ?_)
                        refine stq hf rfl rfl rfl (ex_fieldAddrS fa_24_0 rfl hf rfl) (fun a hf => ?_)
                        refine stq hf rfl rfl rfl (ex_load sc_3 hf rfl (el_cell (K := K_api_Trip) (f := 0) (rsl_rd (hr.now hs (i := 0) rfl)) hc40.1 hc40.2 rfl)) (fun a hf => ?_)
                        refine stq hf rfl rfl rfl (ex_eql hf rfl rfl) (fun a hf => ?_)
                        refine stq hf rfl rfl rfl (ex_pickT hf rfl rfl) (fun a hf => ?_)
                        refine stq hf rfl rfl rfl (ex_pickF hf rfl rfl) (fun a hf => ?_)
                        refine stq hf rfl rfl rfl (ex_assign hf rfl) (fun a hf => ?_)
                        refine hK41 _ _ ?_
                        have e35 := some_eq H; subst e35
                        exact hJ35 _ _ ⟨hf.sub ⟨rfl, rfl, rfl, rfl, rfl, trivial⟩, hs⟩
                      · -- not (gd false x24 y16) = true
                        refine region_k (fun K42 hK42 => ?_)
                        refine stq hf rfl rfl rfl (ex_move hf rfl) (fun a hf => ?_)
                        refine stq hf rfl rfl rfl (ex_move hf rfl) (fun a hf => ?_)
                        replace hf := hf.castB (t := 7) rfl (bool_f hc36)
                        replace hf := hf.castB (t := 66) rfl (bool_f hc36)
                        replace hf := hf.castB (t := 67) rfl (bool_f hc36)
                        refine stq hf rfl rfl rfl (ex_move hf rfl) (fun a hf => ?_)
                        refine stq hf rfl rfl rfl (ex_nilCheck hf rfl) (fun a hf => ?_)
                        refine stq hf rfl rfl rfl (ex_fieldAddrB fa_64_1 rfl hf rfl) (fun a hf => ?_)
                        refine stq hf rfl rfl rfl (ex_load sc_52 hf rfl (bx_cell (hs.get (i := 0) rfl) _ rfl)) (fun a hf => ?_)
                        refine stq hf rfl rfl rfl (ex_move hf rfl) (fun a hf => ?_)
                        refine stq hf rfl rfl rfl (ex_indexAddr sa_52 (rsl_isSl (osl_rsl _ (hs.get (i := 1) rfl))) hc38.1 hc38.2 hf rfl rfl) (fun a hf => ?_)
                        refine stq hf rfl rfl rfl (ex_load sc_4 hf rfl (el_cell (K := K_bool) (f := 0) (rsl_rd (osl_rsl _ (hs.get (i := 1) rfl))) hc38.1 hc38.2 rfl)) (fun a hf => ?_)
                        refine stq hf rfl rfl rfl (ex_move hf rfl) (fun a hf => ?_)
                        replace hf := hf.castB (t := 74) rfl (bool_f hc39)
                        replace hf := hf.castB (t := 75) rfl (bool_f hc39)
                        refine stepN hf rfl rfl rfl (fun a hf => ?_)
                        refine stepN hf rfl rfl rfl (fun a hf => ?_)
                        refine stepN hf rfl rfl rfl (fun a hf => ?_)
                        refine stepN hf rfl rfl rfl (fun a hf => ?_)
                        refine stepN hf rfl rfl rfl (fun a hf => ?_)
                        refine stepN hf rfl rfl rfl (fun a hf => ?_)
                        refine stepN hf rfl rfl rfl (fun a hf => ?_)
                        refine stepN hf rfl rfl rfl (fun a hf => ?_)
                        refine stepN hf rfl rfl rfl (fun a hf => ?_)
                        refine stq hf rfl rfl rfl (ex_pickF hf rfl rfl) (fun a hf => ?_)
                        refine stq hf rfl rfl rfl (ex_pickF hf rfl rfl) (fun a hf => ?_)
                        refine stq hf rfl rfl rfl (ex_assign hf rfl) (fun a hf => ?_)
                        refine hK42 _ _ ?_
                        have e35 := some_eq H; subst e35
                        exact hJ35 _ _ ⟨hf.sub ⟨rfl, rfl, rfl, rfl, rfl, trivial⟩, hs⟩
                  · obtain ⟨hf, hs⟩ := hJ
                    replace H := HO35
                    clear HO35
                    refine itt H (fun hc43 H => ?_) (fun hc43 H => ?_)
                    · -- y15 = true
                      refine region_k (fun K44 hK44 => ?_)
                      refine stq hf rfl rfl rfl (ex_move hf rfl) (fun a hf => ?_)
                      refine stq hf rfl rfl rfl (ex_move hf rfl) (fun a hf => ?_)
                      replace hf := hf.castB (t := 8) rfl hc43
                      replace hf := hf.castB (t := 87) rfl hc43
                      replace hf := hf.castB (t := 88) rfl hc43
                      refine stepN hf rfl rfl rfl (fun a hf => ?_)
                      refine stepN hf rfl rfl rfl (fun a hf => ?_)
                      refine stepN hf rfl rfl rfl (fun a hf => ?_)
                      refine stepN hf rfl rfl rfl (fun a hf => ?_)
                      refine stepN hf rfl rfl rfl (fun a hf => ?_)
                      refine stepN hf rfl rfl rfl (fun a hf => ?_)
                      refine stepN hf rfl rfl rfl (fun a hf => ?_)
                      refine stepN hf rfl rfl rfl (fun a hf => ?_)
                      refine stepN hf rfl rfl rfl (fun a hf => ?_)
                      refine stepN hf rfl rfl rfl (fun a hf => ?_)
                      refine stepN hf rfl rfl rfl (fun a hf => ?_)
                      refine stepN hf rfl rfl rfl (fun a hf => ?_)
                      refine stepN hf rfl rfl rfl (fun a hf => ?_)
                      refine stepN hf rfl rfl rfl (fun a hf => ?_)
                      refine stepN hf rfl rfl rfl (fun a hf => ?_)
                      refine stepN hf rfl rfl rfl (fun a hf => ?_)
                      refine stepN hf rfl rfl rfl (fun a hf => ?_)
                      refine stepN hf rfl rfl rfl (fun a hf => ?_)
                      refine stq hf rfl rfl rfl (ex_pickT hf rfl rfl) (fun a hf => ?_)
                      refine stq hf rfl rfl rfl (ex_assign hf rfl) (fun a hf => ?_)
                      refine hK44 _ _ ?_
                      refine hN23 _ _ ?_
                      have e22 := some_eq H; subst e22
                      exact hJ22 _ _ ⟨hf.sub ⟨rfl, rfl, rfl, rfl, rfl, trivial⟩, hs⟩
                    · -- not y15 = true
                      refine ck_some H (fun hc45 H => ?_)
                      refine itt H (fun hc46 H => ?_) (fun hc46 H => ?_)
                      · -- (gd false x24 y16) = true
                        refine ck_some H (fun hc47 H => ?_)
                        refine region_k (fun K48 hK48 => ?_)
                        refine stq hf rfl rfl rfl (ex_move hf rfl) (fun a hf => ?_)
                        refine stq hf rfl rfl rfl (ex_move hf rfl) (fun a hf => ?_)
                        replace hf := hf.castB (t := 8) rfl (bool_f hc43)
                        replace hf := hf.castB (t := 87) rfl (bool_f hc43)
                        replace hf := hf.castB (t := 88) rfl (bool_f hc43)
                        refine stq hf rfl rfl rfl (ex_move hf rfl) (fun a hf => ?_)
                        refine stq hf rfl rfl rfl (ex_nilCheck hf rfl) (fun a hf => ?_)
                        refine stq hf rfl rfl rfl (ex_fieldAddrB fa_64_1 rfl hf rfl) (fun a hf => ?_)
                        refine stq hf rfl rfl rfl (ex_load sc_52 hf rfl (bx_cell (hs.get (i := 0) rfl) _ rfl)) (fun a hf => ?_)
                        refine stq hf rfl rfl rfl (ex_move hf rfl) (fun a hf => ?_)
                        refine stq hf rfl rfl rfl (ex_indexAddr sa_52 (rsl_isSl (osl_rsl _ (hs.get (i := 1) rfl))) hc45.1 hc45.2 hf rfl rfl) (fun a hf => ?_)
                        refine stq hf rfl rfl rfl (ex_load sc_4 hf rfl (el_cell (K := K_bool) (f := 0) (rsl_rd (osl_rsl _ (hs.get (i := 1) rfl))) hc45.1 hc45.2 rfl)) (fun a hf => ?_)
                        refine stq hf rfl rfl rfl (ex_move hf rfl) (fun a hf => ?_)
                        replace hf := hf.castB (t := 95) rfl hc46
                        replace hf := hf.castB (t := 96) rfl hc46
                        refine stq hf rfl rfl rfl (ex_move hf rfl) (fun a hf => ?_)
                        refine stq hf rfl rfl rfl (ex_nilCheck hf rfl) (fun a hf => ?_)
                        refine stq hf rfl rfl rfl (ex_fieldAddrB fa_64_0 rfl hf rfl) (fun a hf => ?_)
                        refine stq hf rfl rfl rfl (ex_load sc_22 hf rfl (bx_cell (hs.get (i := 0) rfl) _ rfl)) (fun a hf => ?_)
                        refine stq hf rfl rfl rfl (ex_move hf rfl) (fun a hf => ?_)
                        refine stq hf rfl rfl rfl (ex_indexAddr sa_22 (rsl_isSl (hr.now hs (i := 0) rfl)) hc47.1 hc47.2 hf rfl rfl) (fun a hf => ?_)
                        refine stq hf rfl rfl rfl (ex_fieldAddrS fa_24_0 rfl hf rfl) (fun a hf => ?_)
                        refine stq hf rfl rfl rfl (ex_load sc_3 hf rfl (el_cell (K := K_api_Trip) (f := 0) (rsl_rd (hr.now hs (i := 0) rfl)) hc47.1 hc47.2 rfl)) (fun a hf => ?_)
                        refine stq hf rfl rfl rfl (ex_eql hf rfl rfl) (fun a hf => ?_)
                        refine stq hf rfl rfl rfl (ex_pickT hf rfl rfl) (fun a hf => ?_)
                        refine stq hf rfl rfl rfl (ex_pickF hf rfl rfl) (fun a hf => ?_)
                        refine stq hf rfl rfl rfl (ex_assign hf rfl) (fun a hf => ?_)
                        refine hK48 _ _ ?_
                        refine hN23 _ _ ?_
                        have e22 := some_eq H; subst e22
                        exact hJ22 _ _ ⟨hf.sub ⟨rfl, rfl, rfl, rfl, rfl, trivial⟩, hs⟩
                      · -- not (gd false x24 y16) = true
                        refine region_k (fun K49 hK49 => ?_)
                        refine stq hf rfl rfl rfl (ex_move hf rfl) (fun a hf => ?_)
                        refine stq hf rfl rfl rfl (ex_move hf rfl) (fun a hf => ?_)
                        replace hf := hf.castB (t := 8) rfl (bool_f hc43)
                        replace hf := hf.castB (t := 87) rfl (bool_f hc43)
                        replace hf := hf.castB (t := 88) rfl (bool_f hc43)
                        refine stq hf rfl rfl rfl (ex_move hf rfl) (fun a hf => ?_)
                        refine stq hf rfl rfl rfl (ex_nilCheck hf rfl) (fun a hf => ?_)
                        refine stq hf rfl rfl rfl (ex_fieldAddrB fa_64_1 rfl hf rfl) (fun a hf => ?_)
                        refine stq hf rfl rfl rfl (ex_load sc_52 hf rfl (bx_cell (hs.get (i := 0) rfl) _ rfl)) (fun a hf => ?_)
                        refine stq hf rfl rfl rfl (ex_move hf rfl) (fun a hf => ?_)
                        refine stq hf rfl rfl rfl (ex_indexAddr sa_52 (rsl_isSl (osl_rsl _ (hs.get (i := 1) rfl))) hc45.1 hc45.2 hf rfl rfl) (fun a hf => ?_)
                        refine stq hf rfl rfl rfl (ex_load sc_4 hf rfl (el_cell (K := K_bool) (f := 0) (rsl_rd (osl_rsl _ (hs.get (i := 1) rfl))) hc45.1 hc45.2 rfl)) (fun a hf => ?_)
                        refine stq hf rfl rfl rfl (ex_move hf rfl) (fun a hf => ?_)
                        replace hf := hf.castB (t := 95) rfl (bool_f hc46)
                        replace hf := hf.castB (t := 96) rfl (bool_f hc46)
                        refine stepN hf rfl rfl rfl (fun a hf => ?_)
                        refine stepN hf rfl rfl rfl (fun a hf => ?_)
                        refine stepN hf rfl rfl rfl (fun a hf => ?_)
                        refine stepN hf rfl rfl rfl (fun a hf => ?_)
                        refine stepN hf rfl rfl rfl (fun a hf => ?_)
                        refine stepN hf rfl rfl rfl (fun a hf => ?_)
                        refine stepN hf rfl rfl rfl (fun a hf => ?_)
                        refine stepN hf rfl rfl rfl (fun a hf => ?_)
                        refine stepN hf rfl rfl rfl (fun a hf => ?_)
                        refine stq hf rfl rfl rfl (ex_pickF hf rfl rfl) (fun a hf => ?_)
                        refine stq hf rfl rfl rfl (ex_pickF hf rfl rfl) (fun a hf => ?_)
                        refine stq hf rfl rfl rfl (ex_assign hf rfl) (fun a hf => ?_)
                        refine hK49 _ _ ?_
                        refine hN23 _ _ ?_
                        have e22 := some_eq H; subst e22
                        exact hJ22 _ _ ⟨hf.sub ⟨rfl, rfl, rfl, rfl, rfl, trivial⟩, hs⟩
              · obtain ⟨hf, hs⟩ := hJ
                replace H := HO22
                clear HO22
                refine region_k (fun K50 hK50 => ?_)
                refine stq hf rfl rfl rfl (ex_move hf rfl) (fun a hf => ?_)
                refine stq hf rfl rfl rfl (ex_add hf rfl rfl) (fun a hf => ?_)
                refine stq hf rfl rfl rfl (ex_assign hf rfl) (fun a hf => ?_)
                refine hK50 _ _ ?_
                exact hL18 k18 _ _ (Nat.lt_succ_self _) ⟨x22.1, x22.2.1, x22.2.2, (IntKind.i64.wrap (y16 + 1)), hf.sub ⟨rfl, rfl, rfl, rfl, rfl, trivial⟩, hs, H⟩
            · -- not y16 < (a0_T.length : Int)
              replace hf := hf.castB (t := 22) rfl (dec_f hc21)
              refine cond_F hf rfl ?_
              refine wp_exit ?_
              refine hX19 0 _ _ ?_
              refine hX18 0 _ _ ?_
              refine hX12 _ _ ?_
              have e10 := some_eq H; subst e10
              exact hJ10 _ _ ⟨hf.sub ⟨rfl, rfl, rfl, trivial⟩, hs⟩
      · obtain ⟨hf, hs⟩ := hJ
        replace H := HO10
        clear HO10
        refine bnd H (fun x51 H51 HO51 => ?_)
        clear H
        refine seq_cut (fun a w => Fr a 136 [(0, .pointer (some ⟨b0, 0, none⟩)), (8, .bool x10.2.2)] ∧ St M w0 w [bx b0 64 [v0_T, v0_On, .int .i64 a0_N, .int .i64 x51], osl K_bool v0_On x10.1]) (fun Q51 hJ51 hR51 hX51 => ?_) (fun a w hJ => ?_)
        · replace H := H51
          refine seq_reg (fun K52 hK52 => ?_)
          refine stq hf rfl rfl rfl (ex_move hf rfl) (fun a hf => ?_)
          refine hK52 _ _ ?_
          refine itt H (fun hc53 H => ?_) (fun hc53 H => ?_)
          · -- x10.2.1 = true
            replace hf := hf.castB (t := 7) rfl hc53
            replace hf := hf.castB (t := 108) rfl hc53
            refine cond_T hf rfl ?_
            refine region_d fol 11 [(0, .pointer (some ⟨b0, 0, none⟩)), (8, .bool x10.2.2)] [(0, .pointer (some ⟨b0, 0, none⟩)), (1, .pointer (some ⟨b0, 0, none⟩)), (2, .pointer (some ⟨b0, 0, none⟩)), (3, .pointer (some ⟨b0, 3, none⟩)), (4, .int .i64 a0_At), (5, .int .i64 (IntKind.i64.wrap (a0_At + 1))), (6, .pointer (some ⟨b0, 0, none⟩)), (7, .pointer (some ⟨b0, 0, none⟩)), (8, .pointer (some ⟨b0, 2, none⟩)), (9, .int .i64 a0_N), (10, .int .i64 (mn (IntKind.i64.wrap (a0_At + 1)) a0_N))] [] (fun w => (bx b0 64 [v0_T, v0_On, .int .i64 a0_N, .int .i64 a0_At]).ok w ∧ True) (fun w => St M w0 w [bx b0 64 [v0_T, v0_On, .int .i64 a0_N, .int .i64 a0_At], osl K_bool v0_On x10.1]) hf ⟨rfl, rfl, trivial⟩ (by kernel_rfl) (by kernel_rfl) rfl (by decide) ⟨hs.drew.get (i := 0) rfl, trivial⟩ hs.drew (.cons (⟨_, _, rfl, rfl, rfl, rfl, fun a w hR hf => .inl ⟨wanted_yes hf rfl, ex_move hf rfl⟩⟩) (.cons (⟨_, _, rfl, rfl, rfl, rfl, fun a w hR hf => .inl ⟨wanted_yes hf rfl, ex_move hf rfl⟩⟩) (.cons (⟨_, _, rfl, rfl, rfl, rfl, fun a w hR hf => .inl ⟨wanted_yes hf rfl, ex_nilCheck hf rfl⟩⟩) (.cons (⟨_, _, rfl, rfl, rfl, rfl, fun a w hR hf => .inl ⟨wanted_yes hf rfl, ex_fieldAddrB fa_64_3 rfl hf rfl⟩⟩) (.cons (⟨_, _, rfl, rfl, rfl, rfl, fun a w hR hf => .inl ⟨wanted_yes hf rfl, ex_load sc_3 hf rfl (bx_cell (hR.1) _ rfl)⟩⟩) (.cons (⟨_, _, rfl, rfl, rfl, rfl, fun a w hR hf => .inl ⟨wanted_yes hf rfl, ex_add hf rfl rfl⟩⟩) (.cons (⟨_, _, rfl, rfl, rfl, rfl, fun a w hR hf => .inl ⟨wanted_yes hf rfl, ex_move hf rfl⟩⟩) (.cons (⟨_, _, rfl, rfl, rfl, rfl, fun a w hR hf => .inl ⟨wanted_yes hf rfl, ex_nilCheck hf rfl⟩⟩) (.cons (⟨_, _, rfl, rfl, rfl, rfl, fun a w hR hf => .inl ⟨wanted_yes hf rfl, ex_fieldAddrB fa_64_2 rfl hf rfl⟩⟩) (.cons (⟨_, _, rfl, rfl, rfl, rfl, fun a w hR hf => .inl ⟨wanted_yes hf rfl, ex_load sc_3 hf rfl (bx_cell (hR.1) _ rfl)⟩⟩) (.cons (⟨_, _, rfl, rfl, rfl, rfl, fun a w hR hf => .inl ⟨wanted_yes hf rfl, ex_min hf rfl rfl⟩⟩) (.nil)))))))))))) (fun K54 hK54 => ?_)
            refine RW.zero (by kernel_rfl) (by kernel_rfl) [(0, .pointer (some ⟨b0, 0, none⟩)), (8, .bool x10.2.2), (109, .pointer (some ⟨b0, 0, none⟩)), (119, .int .i64 (mn (IntKind.i64.wrap (a0_At + 1)) a0_N))] ⟨rfl, rfl, rfl, rfl, trivial⟩ (fun a w hR hs hf => ?_)
            refine stq hf rfl rfl rfl (ex_nilCheck hf rfl) (fun a hf => ?_)
            refine stq hf rfl rfl rfl (ex_fieldAddrB fa_64_3 rfl hf rfl) (fun a hf => ?_)
            refine stepS hf rfl rfl (er_storeB hs (.c (.k .nil)) hf rfl rfl rfl sz_3 rfl) (fun w hs => ?_)
            refine hK54 _ _ ?_
            have e51 := some_eq H; subst e51
            exact hJ51 _ _ ⟨hf.sub ⟨rfl, rfl, trivial⟩, hs⟩
          · -- not x10.2.1 = true
            replace hf := hf.castB (t := 7) rfl (bool_f hc53)
            replace hf := hf.castB (t := 108) rfl (bool_f hc53)
            refine cond_F hf rfl ?_
            refine region_k (fun K55 hK55 => ?_)
            refine stq hf rfl rfl rfl (ex_move hf rfl) (fun a hf => ?_)
            refine stq hf rfl rfl rfl (ex_move hf rfl) (fun a hf => ?_)
            refine stq hf rfl rfl rfl (ex_nilCheck hf rfl) (fun a hf => ?_)
            refine stq hf rfl rfl rfl (ex_fieldAddrB fa_64_3 rfl hf rfl) (fun a hf => ?_)
            refine stq hf rfl rfl rfl (ex_load sc_3 hf rfl (bx_cell (hs.get (i := 0) rfl) _ rfl)) (fun a hf => ?_)
            refine stq hf rfl rfl rfl (ex_sub hf rfl rfl) (fun a hf => ?_)
            refine stq hf rfl rfl rfl (ex_max hf rfl rfl) (fun a hf => ?_)
            refine stq hf rfl rfl rfl (ex_nilCheck hf rfl) (fun a hf => ?_)
            refine stq hf rfl rfl rfl (ex_fieldAddrB fa_64_3 rfl hf rfl) (fun a hf => ?_)
            refine stepS hf rfl rfl (er_storeB hs (.c (.k .nil)) hf rfl rfl rfl sz_3 rfl) (fun w hs => ?_)
            refine hK55 _ _ ?_
            have e51 := some_eq H; subst e51
            exact hJ51 _ _ ⟨hf.sub ⟨rfl, rfl, trivial⟩, hs⟩
        · obtain ⟨hf, hs⟩ := hJ
          replace H := HO51
          clear HO51
          refine seq_reg (fun K56 hK56 => ?_)
          refine stq hf rfl rfl rfl (ex_move hf rfl) (fun a hf => ?_)
          refine stq hf rfl rfl rfl (ex_nilCheck hf rfl) (fun a hf => ?_)
          refine stq hf rfl rfl rfl (ex_fieldAddrB fa_64_3 rfl hf rfl) (fun a hf => ?_)
          refine stq hf rfl rfl rfl (ex_load sc_3 hf rfl (bx_cell (hs.get (i := 0) rfl) _ rfl)) (fun a hf => ?_)
          refine stq hf rfl rfl rfl (ex_move hf rfl) (fun a hf => ?_)
          refine stq hf rfl rfl rfl (ex_assign hf rfl) (fun a hf => ?_)
          refine stq hf rfl rfl rfl (ex_assign hf rfl) (fun a hf => ?_)
          refine stq hf rfl rfl rfl (ex_assign hf rfl) (fun a hf => ?_)
          refine hK56 _ _ ?_
          refine wp_ret ?_
          have eR := some_eq H; subst eR
          exact ret3 Try.results23 hf rfl rfl rfl ⟨_, rfl, ⟨v0_On, rfl, hs⟩⟩

set_option maxRecDepth 100000 in
theorem thermal_Zone_Level.calls {M : Nat → Prop} {w0 : World} (k : Nat) (a0_trips : (List Trip)) (a0_active : (List Bool)) (a0_levels : Int) (a0_level : Int) (b0 : Nat) (v0_trips : Value) (v0_active : Value) {r : Int} (hs : St M w0 w0 []) (hr : Sr M w0 [bx b0 62 [v0_trips, v0_active, .int .i64 a0_levels, .int .i64 a0_level], rsl K_api_Trip v0_trips a0_trips, rsl K_bool v0_active a0_active])
    (h : thermal_Zone_Level.f k a0_trips a0_active a0_levels a0_level = some r) : Calls Try.prog 24 #[.pointer (some ⟨b0, 0, none⟩)] w0 fun e w => ∃ v, e = .returned v ∧ (.int .i64 r = v ∧ St M w0 w []) := by
  have H := (thermal_Zone_Level.f.eq_1 ..).symm.trans h
  clear h
  refine enter Try.func24 rfl Try.ntmps24 rfl (fun a hf => ?_)
  refine seq_reg (fun K1 hK1 => ?_)
  refine stq hf rfl rfl rfl (ex_assign hf rfl) (fun a hf => ?_)
  refine hK1 _ _ ?_
  refine seq_reg (fun K2 hK2 => ?_)
  refine stq hf rfl rfl rfl (ex_move hf rfl) (fun a hf => ?_)
  refine stq hf rfl rfl rfl (ex_nilCheck hf rfl) (fun a hf => ?_)
  refine stq hf rfl rfl rfl (ex_fieldAddrB fa_62_3 rfl hf rfl) (fun a hf => ?_)
  refine stq hf rfl rfl rfl (ex_load sc_3 hf rfl (bx_cell (hr.now hs (i := 0) rfl) _ rfl)) (fun a hf => ?_)
  refine stq hf rfl rfl rfl (ex_assign hf rfl) (fun a hf => ?_)
  refine hK2 _ _ ?_
  refine wp_ret ?_
  have eR := some_eq H; subst eR
  exact ret1 Try.results24 hf rfl ⟨_, rfl, ⟨rfl, hs⟩⟩

set_option maxRecDepth 100000 in
theorem ref39_Zone_Level.calls {M : Nat → Prop} {w0 : World} (k : Nat) (a0_T : (List Trip)) (a0_On : (List Bool)) (a0_N : Int) (a0_At : Int) (b0 : Nat) (v0_T : Value) (v0_On : Value) {r : Int} (hs : St M w0 w0 []) (hr : Sr M w0 [bx b0 64 [v0_T, v0_On, .int .i64 a0_N, .int .i64 a0_At], rsl K_api_Trip v0_T a0_T, rsl K_bool v0_On a0_On])
    (h : ref39_Zone_Level.f k a0_T a0_On a0_N a0_At = some r) : Calls Try.prog 25 #[.pointer (some ⟨b0, 0, none⟩)] w0 fun e w => ∃ v, e = .returned v ∧ (.int .i64 r = v ∧ St M w0 w []) := by
  have H := (ref39_Zone_Level.f.eq_1 ..).symm.trans h
  clear h
  refine enter Try.func25 rfl Try.ntmps25 rfl (fun a hf => ?_)
  refine seq_reg (fun K1 hK1 => ?_)
  refine stq hf rfl rfl rfl (ex_assign hf rfl) (fun a hf => ?_)
  refine hK1 _ _ ?_
  refine seq_reg (fun K2 hK2 => ?_)
  refine stq hf rfl rfl rfl (ex_move hf rfl) (fun a hf => ?_)
  refine stq hf rfl rfl rfl (ex_nilCheck hf rfl) (fun a hf => ?_)
  refine stq hf rfl rfl rfl (ex_fieldAddrB fa_64_3 rfl hf rfl) (fun a hf => ?_)
  refine stq hf rfl rfl rfl (ex_load sc_3 hf rfl (bx_cell (hr.now hs (i := 0) rfl) _ rfl)) (fun a hf => ?_)
  refine stq hf rfl rfl rfl (ex_assign hf rfl) (fun a hf => ?_)
  refine hK2 _ _ ?_
  refine wp_ret ?_
  have eR := some_eq H; subst eR
  exact ret1 Try.results25 hf rfl ⟨_, rfl, ⟨rfl, hs⟩⟩

set_option maxRecDepth 100000 in
theorem slices_Clone_bool_bool.calls {M : Nat → Prop} {w0 : World} (k : Nat) (a0 : (List Bool)) (v0 : Value) {r : (List Bool)} (hs : St M w0 w0 []) (hr : Sr M w0 [rsl K_bool v0 a0])
    (h : slices_Clone_bool_bool.f k a0 = some r) : Calls Try.prog 41 #[v0] w0 fun e w => ∃ v, e = .returned v ∧ (∃ (g0 : Value), g0 = v ∧ St M w0 w [osl K_bool g0 r]) := by
  have H := (slices_Clone_bool_bool.f.eq_1 ..).symm.trans h
  clear h
  refine enter Try.func41 rfl Try.ntmps41 rfl (fun a hf => ?_)
  refine seq_reg (fun K1 hK1 => ?_)
  refine stq hf rfl rfl rfl (ex_assign hf rfl) (fun a hf => ?_)
  refine hK1 _ _ ?_
  refine seq_n (fun Q2 hN2 hR2 hX2 => ?_)
  refine seq_reg (fun K3 hK3 => ?_)
  refine stq hf rfl rfl rfl (ex_move hf rfl) (fun a hf => ?_)
  refine stq hf rfl rfl rfl (ex_eqnil Try.underlying52 (rsl_isSl (hr.now hs (i := 0) rfl)) hf rfl rfl) (fun a hf => ?_)
  refine hK3 _ _ ?_
  by_cases hc4 : (isNil v0) = true
  · -- nil
    have hz5 : a0 = [] := isNil_nil (rsl_isSl (hr.now hs (i := 0) rfl)) hc4
    replace H : (some ([] : List Bool)) = some r := by simpa [ck, hz5] using H
    replace hf := hf.castB (t := 4) rfl hc4
    refine cond_T hf rfl ?_
    refine seq_reg (fun K6 hK6 => ?_)
    refine stq hf rfl rfl rfl (ex_assign hf rfl) (fun a hf => ?_)
    refine hK6 _ _ ?_
    refine wp_ret ?_
    refine hR2 _ _ ?_
    have eR := some_eq H; subst eR
    replace hs := hs.nilS K_bool
    exact ret1 Try.results41 hf rfl ⟨_, rfl, ⟨(.slice none 0 0), rfl, hs⟩⟩
  · -- not nil
    replace hf := hf.castB (t := 4) rfl (bool_f hc4)
    refine cond_F hf rfl ?_
    refine wp_skip ?_
    refine hN2 _ _ ?_
    refine ck_some H (fun hc8 H => ?_)
    refine seq_reg (fun K10 hK10 => ?_)
    refine stepV hf rfl rfl rfl (er_buildSlice (K := K_bool) (xs := ([] : List Bool)) hs Try.underlying52 ep_4 rfl rfl hf rfl .nil rfl rfl) (fun v7 w hs a hf => ?_)
    refine stq hf rfl rfl rfl (ex_move hf rfl) (fun a hf => ?_)
    refine stepV hf rfl rfl rfl (er_append (K := K_bool) hs (.c .nil) (hr.now hs (i := 0) rfl) rfl Try.underlying52 ep_4 hc8 rfl hf rfl rfl) (fun v9 w hs a hf => ?_)
    refine stq hf rfl rfl rfl (ex_assign hf rfl) (fun a hf => ?_)
    refine hK10 _ _ ?_
    refine wp_ret ?_
    have eR := some_eq H; subst eR
    exact ret1 Try.results41 hf rfl ⟨_, rfl, ⟨v9, rfl, hs⟩⟩

set_option maxRecDepth 100000 in
theorem thermal_Zone_Active.calls {M : Nat → Prop} {w0 : World} (k : Nat) (a0_trips : (List Trip)) (a0_active : (List Bool)) (a0_levels : Int) (a0_level : Int) (b0 : Nat) (v0_trips : Value) (v0_active : Value) {r : (List Bool)} (hs : St M w0 w0 []) (hr : Sr M w0 [bx b0 62 [v0_trips, v0_active, .int .i64 a0_levels, .int .i64 a0_level], rsl K_api_Trip v0_trips a0_trips, rsl K_bool v0_active a0_active])
    (h : thermal_Zone_Active.f k a0_trips a0_active a0_levels a0_level = some r) : Calls Try.prog 27 #[.pointer (some ⟨b0, 0, none⟩)] w0 fun e w => ∃ v, e = .returned v ∧ (∃ (g0 : Value), g0 = v ∧ St M w0 w [osl K_bool g0 r]) := by
  have H := (thermal_Zone_Active.f.eq_1 ..).symm.trans h
  clear h
  refine enter Try.func27 rfl Try.ntmps27 rfl (fun a hf => ?_)
  refine seq_reg (fun K1 hK1 => ?_)
  refine stq hf rfl rfl rfl (ex_assign hf rfl) (fun a hf => ?_)
  refine hK1 _ _ ?_
  refine bnd H (fun s2 hs2 H => ?_)
  refine seq_reg (fun K4 hK4 => ?_)
  refine stq hf rfl rfl rfl (ex_move hf rfl) (fun a hf => ?_)
  refine stq hf rfl rfl rfl (ex_nilCheck hf rfl) (fun a hf => ?_)
  refine stq hf rfl rfl rfl (ex_fieldAddrB fa_62_1 rfl hf rfl) (fun a hf => ?_)
  refine stq hf rfl rfl rfl (ex_load sc_52 hf rfl (bx_cell (hr.now hs (i := 0) rfl) _ rfl)) (fun a hf => ?_)
  refine stepF hf rfl rfl rfl (ex_call cf_41 hf rfl) (slices_Clone_bool_bool.calls k a0_active v0_active (hs.enter .nil) (Sr.old hr hs .nil (i := 2) rfl (fun _ h => h) (fun _ h => h) (Sr.nil _ _)) hs2) (fun v w hR a hf => ?_)
  obtain ⟨v3, rfl, hs'⟩ := hR
  replace hs := hs.step .nil hs'
  clear hs'
  refine stq hf rfl rfl rfl (ex_assign hf rfl) (fun a hf => ?_)
  refine hK4 _ _ ?_
  refine wp_ret ?_
  have eR := some_eq H; subst eR
  exact ret1 Try.results27 hf rfl ⟨_, rfl, ⟨v3, rfl, hs⟩⟩

set_option maxRecDepth 100000 in
theorem ref39_Zone_Active.calls {M : Nat → Prop} {w0 : World} (k : Nat) (a0_T : (List Trip)) (a0_On : (List Bool)) (a0_N : Int) (a0_At : Int) (b0 : Nat) (v0_T : Value) (v0_On : Value) {r : (List Bool)} (hs : St M w0 w0 []) (hr : Sr M w0 [bx b0 64 [v0_T, v0_On, .int .i64 a0_N, .int .i64 a0_At], rsl K_api_Trip v0_T a0_T, rsl K_bool v0_On a0_On])
    (h : ref39_Zone_Active.f k a0_T a0_On a0_N a0_At = some r) : Calls Try.prog 28 #[.pointer (some ⟨b0, 0, none⟩)] w0 fun e w => ∃ v, e = .returned v ∧ (∃ (g0 : Value), g0 = v ∧ St M w0 w [osl K_bool g0 r]) := by
  have H := (ref39_Zone_Active.f.eq_1 ..).symm.trans h
  clear h
  refine enter Try.func28 rfl Try.ntmps28 rfl (fun a hf => ?_)
  refine seq_reg (fun K1 hK1 => ?_)
  refine stq hf rfl rfl rfl (ex_assign hf rfl) (fun a hf => ?_)
  refine hK1 _ _ ?_
  refine ck_some H (fun hc3 H => ?_)
  refine seq_reg (fun K5 hK5 => ?_)
  refine stepV hf rfl rfl rfl (er_buildSlice (K := K_bool) (xs := ([] : List Bool)) hs Try.underlying52 ep_4 rfl rfl hf rfl .nil rfl rfl) (fun v2 w hs a hf => ?_)
  refine stq hf rfl rfl rfl (ex_move hf rfl) (fun a hf => ?_)
  refine stq hf rfl rfl rfl (ex_nilCheck hf rfl) (fun a hf => ?_)
  refine stq hf rfl rfl rfl (ex_fieldAddrB fa_64_1 rfl hf rfl) (fun a hf => ?_)
  refine stq hf rfl rfl rfl (ex_load sc_52 hf rfl (bx_cell (hr.now hs (i := 0) rfl) _ rfl)) (fun a hf => ?_)
  refine stepV hf rfl rfl rfl (er_append (K := K_bool) hs (.c .nil) (hr.now hs (i := 2) rfl) rfl Try.underlying52 ep_4 hc3 rfl hf rfl rfl) (fun v4 w hs a hf => ?_)
  refine stq hf rfl rfl rfl (ex_assign hf rfl) (fun a hf => ?_)
  refine hK5 _ _ ?_
  refine wp_ret ?_
  have eR := some_eq H; subst eR
  exact ret1 Try.results28 hf rfl ⟨_, rfl, ⟨v4, rfl, hs⟩⟩

set_option maxRecDepth 100000 in
theorem help_Equal_bool.calls {M : Nat → Prop} {w0 : World} (k : Nat) (a0 : (List Bool)) (a1 : (List Bool)) (v0 : Value) (v1 : Value) {r : Bool} (hs : St M w0 w0 []) (hr : Sr M w0 [rsl K_bool v0 a0, rsl K_bool v1 a1])
    (h : help_Equal_bool.f k a0 a1 = some r) : Calls Try.prog 26 #[v0, v1] w0 fun e w => ∃ v, e = .returned v ∧ (.bool r = v ∧ St M w0 w []) := by
  have H := (help_Equal_bool.f.eq_1 ..).symm.trans h
  clear h
  refine enter Try.func26 rfl Try.ntmps26 rfl (fun a hf => ?_)
  refine seq_reg (fun K1 hK1 => ?_)
  refine stq hf rfl rfl rfl (ex_assign hf rfl) (fun a hf => ?_)
  refine hK1 _ _ ?_
  refine seq_n (fun Q2 hN2 hR2 hX2 => ?_)
  refine seq_reg (fun K3 hK3 => ?_)
  refine stq hf rfl rfl rfl (ex_move hf rfl) (fun a hf => ?_)
  refine stq hf rfl rfl rfl (ex_lenS Try.underlying52 (rsl_isSl (hr.now hs (i := 0) rfl)) hf rfl) (fun a hf => ?_)
  refine stq hf rfl rfl rfl (ex_move hf rfl) (fun a hf => ?_)
  refine stq hf rfl rfl rfl (ex_lenS Try.underlying52 (rsl_isSl (hr.now hs (i := 1) rfl)) hf rfl) (fun a hf => ?_)
  refine stq hf rfl rfl rfl (ex_neq hf rfl rfl) (fun a hf => ?_)
  refine hK3 _ _ ?_
  refine itt H (fun hc4 H => ?_) (fun hc4 H => ?_)
  · -- (a0.length : Int) = (a1.length : Int)
    replace hf := hf.castB (t := 10) rfl (ndec_f hc4)
    refine cond_F hf rfl ?_
    refine wp_skip ?_
    refine hN2 _ _ ?_
    refine bnd H (fun x5 H5 HO5 => ?_)
    clear H
    refine seq_cut (fun a w => ∃ (x5s : Unit), x5 = .go x5s ∧ Fr a 26 [] ∧ St M w0 w []) (fun Q5 hJ5 hR5 hX5 => ?_) (fun a w hJ => ?_)
    · replace H := H5
      refine seq_reg (fun K6 hK6 => ?_)
      refine stq hf rfl rfl rfl (ex_assign hf rfl) (fun a hf => ?_)
      refine hK6 _ _ ?_
      refine block_k (fun Q7 hN7 hR7 hX7 hY7 => ?_)
      refine loop_k (fun n a w => ∃ (y8 : Int), Fr a 26 [(0, v0), (1, v1), (5, .int .i64 y8)] ∧ St M w0 w [] ∧ help_Equal_bool.l1 n a0 a1 y8 = some x5) k ?_ (fun n10 a w hI Q10 hL10 hR10 hX10 => ?_)
      · -- at the start
        exact ⟨0, hf.sub ⟨rfl, rfl, rfl, trivial⟩, hs, H⟩
      · obtain ⟨y8, hf, hs, H⟩ := hI
        cases n10 with
        | zero => exact absurd H (by rw [help_Equal_bool.l1.eq_1]; intro h; cases h)
        | succ k10 =>
          replace H := (help_Equal_bool.l1.eq_2 ..).symm.trans H
          refine seq_n (fun Q11 hN11 hR11 hX11 => ?_)
          refine seq_reg (fun K12 hK12 => ?_)
          refine stq hf rfl rfl rfl (ex_move hf rfl) (fun a hf => ?_)
          refine stq hf rfl rfl rfl (ex_move hf rfl) (fun a hf => ?_)
          refine stq hf rfl rfl rfl (ex_lenS Try.underlying52 (rsl_isSl (hr.now hs (i := 0) rfl)) hf rfl) (fun a hf => ?_)
          refine stq hf rfl rfl rfl (ex_lss hf rfl rfl) (fun a hf => ?_)
          refine hK12 _ _ ?_
          refine itt H (fun hc13 H => ?_) (fun hc13 H => ?_)
          · -- y8 < (a0.length : Int)
            replace hf := hf.castB (t := 14) rfl (dec_t hc13)
            refine cond_T hf rfl ?_
            refine wp_skip ?_
            refine hN11 _ _ ?_
            refine seq_n (fun Q14 hN14 hR14 hX14 => ?_)
            refine block_k (fun Q15 hN15 hR15 hX15 hY15 => ?_)
            refine seq_n (fun Q16 hN16 hR16 hX16 => ?_)
            refine ck_some H (fun hc17 H => ?_)
            refine ck_some H (fun hc18 H => ?_)
            refine region_d fol 9 [(0, v0), (1, v1), (5, .int .i64 y8)] [(0, v0), (1, .int .i64 y8), (2, .pointer (some (sla v0 (y8.toNat * 1)))), (3, .bool (gd false a0 y8)), (4, v1), (5, .int .i64 y8), (6, .pointer (some (sla v1 (y8.toNat * 1)))), (7, .bool (gd false a1 y8)), (8, .bool (!((gd false a0 y8) == (gd false a1 y8))))] [] (fun w => (rsl K_bool v0 a0).ok w ∧ (rsl K_bool v1 a1).ok w ∧ True) (fun w => St M w0 w []) hf ⟨rfl, rfl, rfl, trivial⟩ (by kernel_rfl) (by kernel_rfl) rfl (by decide) ⟨hr.now hs.drew (i := 0) rfl, hr.now hs.drew (i := 1) rfl, trivial⟩ hs.drew (.cons (⟨_, _, rfl, rfl, rfl, rfl, fun a w hR hf => .inl ⟨wanted_yes hf rfl, ex_move hf rfl⟩⟩) (.cons (⟨_, _, rfl, rfl, rfl, rfl, fun a w hR hf => .inl ⟨wanted_yes hf rfl, ex_move hf rfl⟩⟩) (.cons (⟨_, _, rfl, rfl, rfl, rfl, fun a w hR hf => .inl ⟨wanted_yes hf rfl, ex_indexAddr sa_52 (rsl_isSl hR.1) hc17.1 hc17.2 hf rfl rfl⟩⟩) (.cons (⟨_, _, rfl, rfl, rfl, rfl, fun a w hR hf => .inl ⟨wanted_yes hf rfl, ex_load sc_4 hf rfl (el_cell (K := K_bool) (f := 0) (rsl_rd hR.1) hc17.1 hc17.2 rfl)⟩⟩) (.cons (⟨_, _, rfl, rfl, rfl, rfl, fun a w hR hf => .inl ⟨wanted_yes hf rfl, ex_move hf rfl⟩⟩) (.cons (⟨_, _, rfl, rfl, rfl, rfl, fun a w hR hf => .inl ⟨wanted_yes hf rfl, ex_move hf rfl⟩⟩) (.cons (⟨_, _, rfl, rfl, rfl, rfl, fun a w hR hf => .inl ⟨wanted_yes hf rfl, ex_indexAddr sa_52 (rsl_isSl hR.2.1) hc18.1 hc18.2 hf rfl rfl⟩⟩) (.cons (⟨_, _, rfl, rfl, rfl, rfl, fun a w hR hf => .inl ⟨wanted_yes hf rfl, ex_load sc_4 hf rfl (el_cell (K := K_bool) (f := 0) (rsl_rd hR.2.1) hc18.1 hc18.2 rfl)⟩⟩) (.cons (⟨_, _, rfl, rfl, rfl, rfl, fun a w hR hf => .inl ⟨wanted_yes hf rfl, ex_neb Try.underlying4 hf rfl rfl⟩⟩) (.nil)))))))))) (fun K19 hK19 => ?_)
            refine RW.zero (by kernel_rfl) (by kernel_rfl) [(0, v0), (1, v1), (5, .int .i64 y8), (25, .bool (!((gd false a0 y8) == (gd false a1 y8))))] ⟨rfl, rfl, rfl, rfl, trivial⟩ (fun a w hR hs hf => ?_)
            refine hK19 _ _ ?_
            refine hN16 _ _ ?_
            refine itt H (fun hc20 H => ?_) (fun hc20 H => ?_)
            · -- ((gd false a0 y8) == (gd false a1 y8)) = true
              replace hf := hf.castB (t := 25) rfl (nbool_f hc20)
              refine cond_F hf rfl ?_
              refine wp_skip ?_
              refine hN15 _ _ ?_
              refine hN14 _ _ ?_
              refine region_k (fun K21 hK21 => ?_)
              refine stq hf rfl rfl rfl (ex_move hf rfl) (fun a hf => ?_)
              refine stq hf rfl rfl rfl (ex_add hf rfl rfl) (fun a hf => ?_)
              refine stq hf rfl rfl rfl (ex_assign hf rfl) (fun a hf => ?_)
              refine hK21 _ _ ?_
              exact hL10 k10 _ _ (Nat.lt_succ_self _) ⟨(IntKind.i64.wrap (y8 + 1)), hf.sub ⟨rfl, rfl, rfl, trivial⟩, hs, H⟩
            · -- not ((gd false a0 y8) == (gd false a1 y8)) = true
              replace hf := hf.castB (t := 25) rfl (nbool_t hc20)
              refine cond_T hf rfl ?_
              refine seq_reg (fun K22 hK22 => ?_)
              refine stq hf rfl rfl rfl (ex_assign hf rfl) (fun a hf => ?_)
              refine hK22 _ _ ?_
              refine wp_ret ?_
              refine hR15 _ _ ?_
              refine hR14 _ _ ?_
              refine hR10 _ _ ?_
              refine hR7 _ _ ?_
              have e5 := some_eq H; subst e5; replace H := el_rt HO5
              refine hR5 _ _ ?_
              have eR := some_eq H; subst eR
              exact ret1 Try.results26 hf rfl ⟨_, rfl, ⟨rfl, hs⟩⟩
          · -- not y8 < (a0.length : Int)
            replace hf := hf.castB (t := 14) rfl (dec_f hc13)
            refine cond_F hf rfl ?_
            refine wp_exit ?_
            refine hX11 0 _ _ ?_
            refine hX10 0 _ _ ?_
            refine hX7 _ _ ?_
            have e5 := some_eq H; subst e5
            exact hJ5 _ _ ⟨_, rfl, hf.sub trivial, hs⟩
    · obtain ⟨x5s, rfl, hf, hs⟩ := hJ
      replace H := el_go HO5
      clear HO5
      refine seq_reg (fun K23 hK23 => ?_)
      refine stq hf rfl rfl rfl (ex_assign hf rfl) (fun a hf => ?_)
      refine hK23 _ _ ?_
      refine wp_ret ?_
      have eR := some_eq H; subst eR
      exact ret1 Try.results26 hf rfl ⟨_, rfl, ⟨rfl, hs⟩⟩
  · -- not (a0.length : Int) = (a1.length : Int)
    replace hf := hf.castB (t := 10) rfl (ndec_t hc4)
    refine cond_T hf rfl ?_
    refine seq_reg (fun K24 hK24 => ?_)
    refine stq hf rfl rfl rfl (ex_assign hf rfl) (fun a hf => ?_)
    refine hK24 _ _ ?_
    refine wp_ret ?_
    refine hR2 _ _ ?_
    have eR := some_eq H; subst eR
    exact ret1 Try.results26 hf rfl ⟨_, rfl, ⟨rfl, hs⟩⟩

set_option maxRecDepth 100000 in
theorem law39_want.calls {M : Nat → Prop} {w0 : World} (k : Nat) (a0 : Actor) {r : Int} (hs : St M w0 w0 []) (hr : Sr M w0 [])
    (h : law39_want.f k a0 = some r) : Calls Try.prog 29 #[.agg #[.int .u64 a0.Request, .int .u64 a0.Min, .int .u64 a0.Max]] w0 fun e w => ∃ v, e = .returned v ∧ (.int .u64 r = v ∧ St M w0 w []) := by
  have H := (law39_want.f.eq_1 ..).symm.trans h
  clear h
  refine enter Try.func29 rfl Try.ntmps29 rfl (fun a hf => ?_)
  refine seq_reg (fun K2 hK2 => ?_)
  refine stepV hf rfl rfl rfl (er_box (cs := [.int .u64 a0.Request, .int .u64 a0.Min, .int .u64 a0.Max]) hs hf rfl rfl) (fun v w hR a hf => ?_)
  obtain ⟨b1, rfl, hs⟩ := hR
  refine stq hf rfl rfl rfl (ex_assign hf rfl) (fun a hf => ?_)
  refine hK2 _ _ ?_
  refine seq_reg (fun K3 hK3 => ?_)
  refine stq hf rfl rfl rfl (ex_fieldAddrB fa_56_0 rfl hf rfl) (fun a hf => ?_)
  refine stq hf rfl rfl rfl (ex_load sc_37 hf rfl (bx_cell (hs.get (i := 0) rfl) _ rfl)) (fun a hf => ?_)
  refine stq hf rfl rfl rfl (ex_fieldAddrB fa_56_1 rfl hf rfl) (fun a hf => ?_)
  refine stq hf rfl rfl rfl (ex_load sc_37 hf rfl (bx_cell (hs.get (i := 0) rfl) _ rfl)) (fun a hf => ?_)
  refine stq hf rfl rfl rfl (ex_max hf rfl rfl) (fun a hf => ?_)
  refine stq hf rfl rfl rfl (ex_fieldAddrB fa_56_2 rfl hf rfl) (fun a hf => ?_)
  refine stq hf rfl rfl rfl (ex_load sc_37 hf rfl (bx_cell (hs.get (i := 0) rfl) _ rfl)) (fun a hf => ?_)
  refine stq hf rfl rfl rfl (ex_min hf rfl rfl) (fun a hf => ?_)
  refine stq hf rfl rfl rfl (ex_assign hf rfl) (fun a hf => ?_)
  refine hK3 _ _ ?_
  refine wp_ret ?_
  have eR := some_eq H; subst eR
  replace hs := hs.keep (.d .nil)
  exact ret1 Try.results29 hf rfl ⟨_, rfl, ⟨rfl, hs⟩⟩

set_option maxRecDepth 100000 in
theorem thermal_Fair.calls {M : Nat → Prop} {w0 : World} (k : Nat) (a0 : Int) (a1 : (List Actor)) (a2 : (List Int)) (v1 : Value) (v2 : Value) {r : Bool} (hs : St M w0 w0 []) (hr : Sr M w0 [rsl K_api_Actor v1 a1, rsl K_uint64 v2 a2])
    (h : thermal_Fair.f k a0 a1 a2 = some r) : Calls Try.prog 30 #[.int .u64 a0, v1, v2] w0 fun e w => ∃ v, e = .returned v ∧ (.bool r = v ∧ St M w0 w []) := by
  have H := (thermal_Fair.f.eq_1 ..).symm.trans h
  clear h
  refine enter Try.func30 rfl Try.ntmps30 rfl (fun a hf => ?_)
  refine seq_reg (fun K1 hK1 => ?_)
  refine stq hf rfl rfl rfl (ex_assign hf rfl) (fun a hf => ?_)
  refine hK1 _ _ ?_
  refine seq_n (fun Q2 hN2 hR2 hX2 => ?_)
  refine bnd H (fun x3 H3 HO3 => ?_)
  clear H
  refine seq_cut (fun a w => Fr a 104 [(0, .int .u64 a0), (1, v1), (2, v2), (23, .bool x3)] ∧ St M w0 w []) (fun Q3 hJ3 hR3 hX3 => ?_) (fun a w hJ => ?_)
  · replace H := H3
    refine bnd H (fun s4 hs4 H => ?_)
    refine itt H (fun hc5 H => ?_) (fun hc5 H => ?_)
    · -- s4 = true
      refine region_k (fun K6 hK6 => ?_)
      refine stq hf rfl rfl rfl (ex_move hf rfl) (fun a hf => ?_)
      refine stepF hf rfl rfl rfl (ex_call cf_33 hf rfl) (thermal_validActors.calls k a1 v1 (hs.enter .nil) (Sr.old hr hs .nil (i := 0) rfl (fun _ h => h) (fun _ h => h) (Sr.nil _ _)) hs4) (fun v w hR a hf => ?_)
      obtain ⟨rfl, hs'⟩ := hR
      replace hs := hs.step .nil hs'
      clear hs'
      refine stq hf rfl rfl rfl (ex_not hf rfl) (fun a hf => ?_)
      refine stq hf rfl rfl rfl (ex_move hf rfl) (fun a hf => ?_)
      replace hf := hf.castB (t := 15) rfl hc5
      replace hf := hf.castB (t := 16) rfl (nbool_f hc5)
      replace hf := hf.castB (t := 17) rfl (nbool_f hc5)
      refine stq hf rfl rfl rfl (ex_move hf rfl) (fun a hf => ?_)
      refine stq hf rfl rfl rfl (ex_lenS Try.underlying40 (rsl_isSl (hr.now hs (i := 1) rfl)) hf rfl) (fun a hf => ?_)
      refine stq hf rfl rfl rfl (ex_move hf rfl) (fun a hf => ?_)
      refine stq hf rfl rfl rfl (ex_lenS Try.underlying38 (rsl_isSl (hr.now hs (i := 0) rfl)) hf rfl) (fun a hf => ?_)
      refine stq hf rfl rfl rfl (ex_neq hf rfl rfl) (fun a hf => ?_)
      refine stq hf rfl rfl rfl (ex_pickF hf rfl rfl) (fun a hf => ?_)
      refine hK6 _ _ ?_
      have e3 := some_eq H; subst e3
      exact hJ3 _ _ ⟨hf.sub ⟨rfl, rfl, rfl, rfl, trivial⟩, hs⟩
    · -- not s4 = true
      refine region_k (fun K7 hK7 => ?_)
      refine stq hf rfl rfl rfl (ex_move hf rfl) (fun a hf => ?_)
      refine stepF hf rfl rfl rfl (ex_call cf_33 hf rfl) (thermal_validActors.calls k a1 v1 (hs.enter .nil) (Sr.old hr hs .nil (i := 0) rfl (fun _ h => h) (fun _ h => h) (Sr.nil _ _)) hs4) (fun v w hR a hf => ?_)
      obtain ⟨rfl, hs'⟩ := hR
      replace hs := hs.step .nil hs'
      clear hs'
      refine stq hf rfl rfl rfl (ex_not hf rfl) (fun a hf => ?_)
      refine stq hf rfl rfl rfl (ex_move hf rfl) (fun a hf => ?_)
      replace hf := hf.castB (t := 15) rfl (bool_f hc5)
      replace hf := hf.castB (t := 16) rfl (nbool_t hc5)
      replace hf := hf.castB (t := 17) rfl (nbool_t hc5)
      refine stepN hf rfl rfl rfl (fun a hf => ?_)
      refine stepN hf rfl rfl rfl (fun a hf => ?_)
      refine stepN hf rfl rfl rfl (fun a hf => ?_)
      refine stepN hf rfl rfl rfl (fun a hf => ?_)
      refine stepN hf rfl rfl rfl (fun a hf => ?_)
      refine stq hf rfl rfl rfl (ex_pickT hf rfl rfl) (fun a hf => ?_)
      refine hK7 _ _ ?_
      have e3 := some_eq H; subst e3
      exact hJ3 _ _ ⟨hf.sub ⟨rfl, rfl, rfl, rfl, trivial⟩, hs⟩
  · obtain ⟨hf, hs⟩ := hJ
    replace H := HO3
    clear HO3
    refine itt H (fun hc8 H => ?_) (fun hc8 H => ?_)
    · -- x3 = true
      replace hf := hf.castB (t := 23) rfl hc8
      refine cond_T hf rfl ?_
      refine seq_reg (fun K9 hK9 => ?_)
      refine stq hf rfl rfl rfl (ex_assign hf rfl) (fun a hf => ?_)
      refine hK9 _ _ ?_
      refine wp_ret ?_
      refine hR2 _ _ ?_
      have eR := some_eq H; subst eR
      exact ret1 Try.results30 hf rfl ⟨_, rfl, ⟨rfl, hs⟩⟩
    · -- not x3 = true
      replace hf := hf.castB (t := 23) rfl (bool_f hc8)
      refine cond_F hf rfl ?_
      refine wp_skip ?_
      refine hN2 _ _ ?_
      refine seq_reg (fun K10 hK10 => ?_)
      refine stq hf rfl rfl rfl (ex_assign hf rfl) (fun a hf => ?_)
      refine hK10 _ _ ?_
      refine bnd H (fun x11 H11 HO11 => ?_)
      clear H
      refine seq_cut (fun a w => ∃ (x11s : Int), x11 = .go x11s ∧ Fr a 104 [(0, .int .u64 a0), (1, v1), (2, v2), (7, .int .u64 x11s)] ∧ St M w0 w []) (fun Q11 hJ11 hR11 hX11 => ?_) (fun a w hJ => ?_)
      · replace H := H11
        refine seq_reg (fun K12 hK12 => ?_)
        refine stq hf rfl rfl rfl (ex_move hf rfl) (fun a hf => ?_)
        refine stq hf rfl rfl rfl (ex_lenS Try.underlying38 (rsl_isSl (hr.now hs (i := 0) rfl)) hf rfl) (fun a hf => ?_)
        refine stq hf rfl rfl rfl (ex_move hf rfl) (fun a hf => ?_)
        refine hK12 _ _ ?_
        refine block_k (fun Q13 hN13 hR13 hX13 hY13 => ?_)
        refine loop_k (fun n a w => ∃ (y14 : Int) (y15 : Int), Fr a 104 [(0, .int .u64 a0), (1, v1), (2, v2), (7, .int .u64 y14), (24, v1), (25, .int .i64 (a1.length : Int)), (26, .int .i64 y15)] ∧ St M w0 w [] ∧ thermal_Fair.l1 n a1 a2 y14 y15 = some x11) k ?_ (fun n17 a w hI Q17 hL17 hR17 hX17 => ?_)
        · -- at the start
          exact ⟨0, 0, hf.sub ⟨rfl, rfl, rfl, rfl, rfl, rfl, rfl, trivial⟩, hs, H⟩
        · obtain ⟨y14, y15, hf, hs, H⟩ := hI
          cases n17 with
          | zero => exact absurd H (by rw [thermal_Fair.l1.eq_1]; intro h; cases h)
          | succ k17 =>
            replace H := (thermal_Fair.l1.eq_2 ..).symm.trans H
            refine seq_reg (fun K18 hK18 => ?_)
            refine stq hf rfl rfl rfl (ex_lss hf rfl rfl) (fun a hf => ?_)
            refine hK18 _ _ ?_
            refine seq_n (fun Q19 hN19 hR19 hX19 => ?_)
            refine itt H (fun hc20 H => ?_) (fun hc20 H => ?_)
            · -- y15 < (a1.length : Int)
              replace hf := hf.castB (t := 27) rfl (dec_t hc20)
              refine cond_T hf rfl ?_
              refine wp_skip ?_
              refine hN19 _ _ ?_
              refine seq_n (fun Q21 hN21 hR21 hX21 => ?_)
              refine block_k (fun Q22 hN22 hR22 hX22 hY22 => ?_)
              refine ck_some H (fun hc23 H => ?_)
              refine seq_reg (fun K25 hK25 => ?_)
              refine stq hf rfl rfl rfl (ex_move hf rfl) (fun a hf => ?_)
              refine stq hf rfl rfl rfl (ex_indexAddr sa_38 (rsl_isSl (hr.now hs (i := 0) rfl)) hc23.1 hc23.2 hf rfl rfl) (fun a hf => ?_)
              refine stq hf rfl rfl rfl (ex_loadA (cs := [.int .u64 ((gd Actor.zero a1 y15).Request), .int .u64 ((gd Actor.zero a1 y15).Min), .int .u64 ((gd Actor.zero a1 y15).Max)]) ag_56 hf rfl (el_cells (K := K_api_Actor) (rsl_rd (hr.now hs (i := 0) rfl)) hc23.1 hc23.2 rfl)) (fun a hf => ?_)
              refine stepV hf rfl rfl rfl (er_alloc hs ti_56 (cs := [.int .u64 0, .int .u64 0, .int .u64 0]) rfl) (fun v w hR a hf => ?_)
              obtain ⟨b24, rfl, hs⟩ := hR
              refine stq hf rfl rfl rfl (ex_assign hf rfl) (fun a hf => ?_)
              refine stepS hf rfl rfl (er_storeAB (vs := [.int .u64 ((gd Actor.zero a1 y15).Request), .int .u64 ((gd Actor.zero a1 y15).Min), .int .u64 ((gd Actor.zero a1 y15).Max)]) (cs' := [.int .u64 ((gd Actor.zero a1 y15).Request), .int .u64 ((gd Actor.zero a1 y15).Min), .int .u64 ((gd Actor.zero a1 y15).Max)]) hs (.c .nil) sz_56 hf rfl rfl (all1 rfl (all1 rfl (all1 rfl (all1_nil)))) rfl rfl) (fun w hs => ?_)
              refine hK25 _ _ ?_
              refine seq_n (fun Q26 hN26 hR26 hX26 => ?_)
              refine bnd H (fun x27 H27 HO27 => ?_)
              clear H
              refine seq_cut (fun a w => Fr a 104 [(0, .int .u64 a0), (1, v1), (2, v2), (7, .int .u64 y14), (8, .int .i64 y15), (24, v1), (25, .int .i64 (a1.length : Int)), (26, .int .i64 y15), (46, .bool x27)] ∧ St M w0 w []) (fun Q27 hJ27 hR27 hX27 => ?_) (fun a w hJ => ?_)
              · replace H := H27
                refine ck_some H (fun hc28 H => ?_)
                refine itt H (fun hc29 H => ?_) (fun hc29 H => ?_)
                · -- (gd 0 a2 y15) < ((gd Actor.zero a1 y15).Min)
                  refine region_d fol 16 [(0, .int .u64 a0), (1, v1), (2, v2), (7, .int .u64 y14), (8, .int .i64 y15), (9, .pointer (some ⟨b24, 0, none⟩)), (24, v1), (25, .int .i64 (a1.length : Int)), (26, .int .i64 y15)] [(0, v2), (1, .int .i64 y15), (2, .pointer (some (sla v2 (y15.toNat * 1)))), (3, .int .u64 (gd 0 a2 y15)), (4, .pointer (some ⟨b24, 1, none⟩)), (5, .int .u64 ((gd Actor.zero a1 y15).Min)), (6, .bool true), (7, .bool true), (8, undef), (9, undef), (10, undef), (11, undef), (12, undef), (13, undef), (14, undef), (15, .bool true)] [] (fun w => (rsl K_uint64 v2 a2).ok w ∧ (bx b24 56 [.int .u64 ((gd Actor.zero a1 y15).Request), .int .u64 ((gd Actor.zero a1 y15).Min), .int .u64 ((gd Actor.zero a1 y15).Max)]).ok w ∧ True) (fun w => St M w0 w [bx b24 56 [.int .u64 ((gd Actor.zero a1 y15).Request), .int .u64 ((gd Actor.zero a1 y15).Min), .int .u64 ((gd Actor.zero a1 y15).Max)]]) hf ⟨rfl, rfl, rfl, rfl, rfl, rfl, rfl, rfl, rfl, trivial⟩ (by kernel_rfl) (by kernel_rfl) rfl (by decide) ⟨hr.now hs.drew (i := 1) rfl, hs.drew.get (i := 0) rfl, trivial⟩ hs.drew (.cons (⟨_, _, rfl, rfl, rfl, rfl, fun a w hR hf => .inl ⟨wanted_yes hf rfl, ex_move hf rfl⟩⟩) (.cons (⟨_, _, rfl, rfl, rfl, rfl, fun a w hR hf => .inl ⟨wanted_yes hf rfl, ex_move hf rfl⟩⟩) (.cons (⟨_, _, rfl, rfl, rfl, rfl, fun a w hR hf => .inl ⟨wanted_yes hf rfl, ex_indexAddr sa_40 (rsl_isSl hR.1) hc28.1 hc28.2 hf rfl rfl⟩⟩) (.cons (⟨_, _, rfl, rfl, rfl, rfl, fun a w hR hf => .inl ⟨wanted_yes hf rfl, ex_load sc_37 hf rfl (el_cell (K := K_uint64) (f := 0) (rsl_rd hR.1) hc28.1 hc28.2 rfl)⟩⟩) (.cons (⟨_, _, rfl, rfl, rfl, rfl, fun a w hR hf => .inl ⟨wanted_yes hf rfl, ex_fieldAddrB fa_56_1 rfl hf rfl⟩⟩) (.cons (⟨_, _, rfl, rfl, rfl, rfl, fun a w hR hf => .inl ⟨wanted_yes hf rfl, ex_load sc_37 hf rfl (bx_cell (hR.2.1) _ rfl)⟩⟩) (.cons (⟨_, _, rfl, rfl, rfl, rfl, fun a w hR hf => .inl ⟨wanted_yes hf rfl, ex_castB (ex_lss hf rfl rfl) (dec_t hc29)⟩⟩) (.cons (⟨_, _, rfl, rfl, rfl, rfl, fun a w hR hf => .inl ⟨wanted_yes hf rfl, ex_move hf rfl⟩⟩) (.cons (⟨_, _, rfl, rfl, rfl, rfl, fun a w hR hf => .inr ⟨wanted_no hf rfl, rfl⟩⟩) (.cons (⟨_, _, rfl, rfl, rfl, rfl, fun a w hR hf => .inr ⟨wanted_no hf rfl, rfl⟩⟩) (.cons (⟨_, _, rfl, rfl, rfl, rfl, fun a w hR hf => .inr ⟨wanted_no hf rfl, rfl⟩⟩) (.cons (⟨_, _, rfl, rfl, rfl, rfl, fun a w hR hf => .inr ⟨wanted_no hf rfl, rfl⟩⟩) (.cons (⟨_, _, rfl, rfl, rfl, rfl, fun a w hR hf => .inr ⟨wanted_no hf rfl, rfl⟩⟩) (.cons (⟨_, _, rfl, rfl, rfl, rfl, fun a w hR hf => .inr ⟨wanted_no hf rfl, rfl⟩⟩) (.cons (⟨_, _, rfl, rfl, rfl, rfl, fun a w hR hf => .inr ⟨wanted_no hf rfl, rfl⟩⟩) (.cons (⟨_, _, rfl, rfl, rfl, rfl, fun a w hR hf => .inl ⟨wanted_yes hf rfl, ex_pickT hf rfl rfl⟩⟩) (.nil))))))))))))))))) (fun K30 hK30 => ?_)
                  refine RW.zero (by kernel_rfl) (by kernel_rfl) [(0, .int .u64 a0), (1, v1), (2, v2), (7, .int .u64 y14), (8, .int .i64 y15), (24, v1), (25, .int .i64 (a1.length : Int)), (26, .int .i64 y15), (46, .bool true)] ⟨rfl, rfl, rfl, rfl, rfl, rfl, rfl, rfl, rfl, trivial⟩ (fun a w hR hs hf => ?_)
                  refine hK30 _ _ ?_
                  replace hs := hs.keep (.d .nil)
                  have e27 := some_eq H; subst e27
                  exact hJ27 _ _ ⟨hf.sub ⟨rfl, rfl, rfl, rfl, rfl, rfl, rfl, rfl, rfl, trivial⟩, hs⟩
                · -- not (gd 0 a2 y15) < ((gd Actor.zero a1 y15).Min)
                  refine bnd H (fun s31 hs31 H => ?_)
                  refine region_d fol 16 [(0, .int .u64 a0), (1, v1), (2, v2), (7, .int .u64 y14), (8, .int .i64 y15), (9, .pointer (some ⟨b24, 0, none⟩)), (24, v1), (25, .int .i64 (a1.length : Int)), (26, .int .i64 y15)] [(0, v2), (1, .int .i64 y15), (2, .pointer (some (sla v2 (y15.toNat * 1)))), (3, .int .u64 (gd 0 a2 y15)), (4, .pointer (some ⟨b24, 1, none⟩)), (5, .int .u64 ((gd Actor.zero a1 y15).Min)), (6, .bool false), (7, .bool false), (8, v2), (9, .int .i64 y15), (10, .pointer (some (sla v2 (y15.toNat * 1)))), (11, .int .u64 (gd 0 a2 y15)), (12, .agg #[.int .u64 ((gd Actor.zero a1 y15).Request), .int .u64 ((gd Actor.zero a1 y15).Min), .int .u64 ((gd Actor.zero a1 y15).Max)])] [13] (fun w => (rsl K_uint64 v2 a2).ok w ∧ (bx b24 56 [.int .u64 ((gd Actor.zero a1 y15).Request), .int .u64 ((gd Actor.zero a1 y15).Min), .int .u64 ((gd Actor.zero a1 y15).Max)]).ok w ∧ True) (fun w => St M w0 w [bx b24 56 [.int .u64 ((gd Actor.zero a1 y15).Request), .int .u64 ((gd Actor.zero a1 y15).Min), .int .u64 ((gd Actor.zero a1 y15).Max)]]) hf ⟨rfl, rfl, rfl, rfl, rfl, rfl, rfl, rfl, rfl, trivial⟩ (by kernel_rfl) (by kernel_rfl) rfl (by decide) ⟨hr.now hs.drew (i := 1) rfl, hs.drew.get (i := 0) rfl, trivial⟩ hs.drew (.cons (⟨_, _, rfl, rfl, rfl, rfl, fun a w hR hf => .inl ⟨wanted_yes hf rfl, ex_move hf rfl⟩⟩) (.cons (⟨_, _, rfl, rfl, rfl, rfl, fun a w hR hf => .inl ⟨wanted_yes hf rfl, ex_move hf rfl⟩⟩) (.cons (⟨_, _, rfl, rfl, rfl, rfl, fun a w hR hf => .inl ⟨wanted_yes hf rfl, ex_indexAddr sa_40 (rsl_isSl hR.1) hc28.1 hc28.2 hf rfl rfl⟩⟩) (.cons (⟨_, _, rfl, rfl, rfl, rfl, fun a w hR hf => .inl ⟨wanted_yes hf rfl, ex_load sc_37 hf rfl (el_cell (K := K_uint64) (f := 0) (rsl_rd hR.1) hc28.1 hc28.2 rfl)⟩⟩) (.cons (⟨_, _, rfl, rfl, rfl, rfl, fun a w hR hf => .inl ⟨wanted_yes hf rfl, ex_fieldAddrB fa_56_1 rfl hf rfl⟩⟩) (.cons (⟨_, _, rfl, rfl, rfl, rfl, fun a w hR hf => .inl ⟨wanted_yes hf rfl, ex_load sc_37 hf rfl (bx_cell (hR.2.1) _ rfl)⟩⟩) (.cons (⟨_, _, rfl, rfl, rfl, rfl, fun a w hR hf => .inl ⟨wanted_yes hf rfl, ex_castB (ex_lss hf rfl rfl) (dec_f hc29)⟩⟩) (.cons (⟨_, _, rfl, rfl, rfl, rfl, fun a w hR hf => .inl ⟨wanted_yes hf rfl, ex_move hf rfl⟩⟩) (.cons (⟨_, _, rfl, rfl, rfl, rfl, fun a w hR hf => .inl ⟨wanted_yes hf rfl, ex_move hf rfl⟩⟩) (.cons (⟨_, _, rfl, rfl, rfl, rfl, fun a w hR hf => .inl ⟨wanted_yes hf rfl, ex_move hf rfl⟩⟩) (.cons (⟨_, _, rfl, rfl, rfl, rfl, fun a w hR hf => .inl ⟨wanted_yes hf rfl, ex_indexAddr sa_40 (rsl_isSl hR.1) hc28.1 hc28.2 hf rfl rfl⟩⟩) (.cons (⟨_, _, rfl, rfl, rfl, rfl, fun a w hR hf => .inl ⟨wanted_yes hf rfl, ex_load sc_37 hf rfl (el_cell (K := K_uint64) (f := 0) (rsl_rd hR.1) hc28.1 hc28.2 rfl)⟩⟩) (.cons (⟨_, _, rfl, rfl, rfl, rfl, fun a w hR hf => .inl ⟨wanted_yes hf rfl, ex_loadA (cs := [.int .u64 ((gd Actor.zero a1 y15).Request), .int .u64 ((gd Actor.zero a1 y15).Min), .int .u64 ((gd Actor.zero a1 y15).Max)]) ag_56 hf rfl (bx_cells (hR.2.1) rfl)⟩⟩) (.nil)))))))))))))) (fun K32 hK32 => ?_)
                  refine RW.one 13 (by kernel_rfl) (by kernel_rfl) rfl (fun d hd => by cases hd; rfl) [(38, .bool false), (43, .agg #[.int .u64 ((gd Actor.zero a1 y15).Request), .int .u64 ((gd Actor.zero a1 y15).Min), .int .u64 ((gd Actor.zero a1 y15).Max)])] ⟨rfl, rfl, trivial⟩ (fun a w hR hs hf => ⟨wanted_yes hf rfl, ?_⟩)
                  refine estep_f (ex_call cf_36 hf rfl) (thermal_want.calls k17 (⟨((gd Actor.zero a1 y15).Request), ((gd Actor.zero a1 y15).Min), ((gd Actor.zero a1 y15).Max)⟩ : Actor) (hs.enter (.k .nil)) (Sr.nil _ _) hs31) (fun v w hR => ?_)
                  obtain ⟨rfl, hs'⟩ := hR
                  replace hs := hs.step (.k .nil) hs'
                  clear hs'
                  refine ⟨[(14, .bool (decide (s31 < (gd 0 a2 y15)))), (15, .bool (decide (s31 < (gd 0 a2 y15))))], [(14, .bool (decide (s31 < (gd 0 a2 y15)))), (15, .bool (decide (s31 < (gd 0 a2 y15)))), (13, .int .u64 s31), (0, v2), (1, .int .i64 y15), (2, .pointer (some (sla v2 (y15.toNat * 1)))), (3, .int .u64 (gd 0 a2 y15)), (4, .pointer (some ⟨b24, 1, none⟩)), (5, .int .u64 ((gd Actor.zero a1 y15).Min)), (6, .bool false), (7, .bool false), (8, v2), (9, .int .i64 y15), (10, .pointer (some (sla v2 (y15.toNat * 1)))), (11, .int .u64 (gd 0 a2 y15)), (12, .agg #[.int .u64 ((gd Actor.zero a1 y15).Request), .int .u64 ((gd Actor.zero a1 y15).Min), .int .u64 ((gd Actor.zero a1 y15).Max)])], [], (fun _ => True), (fun w => St M w0 w [bx b24 56 [.int .u64 ((gd Actor.zero a1 y15).Request), .int .u64 ((gd Actor.zero a1 y15).Min), .int .u64 ((gd Actor.zero a1 y15).Max)]]), rfl, rfl, ⟨hr.now hs (i := 1) rfl, hs.get (i := 0) rfl, trivial⟩, trivial, hs, (by kernel_rfl), .cons (⟨_, _, rfl, rfl, rfl, rfl, fun a w hR hf => .inl ⟨wanted_yes hf rfl, ex_gtr hf rfl rfl⟩⟩) (.cons (⟨_, _, rfl, rfl, rfl, rfl, fun a w hR hf => .inl ⟨wanted_yes hf rfl, ex_pickF hf rfl rfl⟩⟩) (.nil)), ?_⟩
                  refine RW.zero (by kernel_rfl) (by kernel_rfl) [(0, .int .u64 a0), (1, v1), (2, v2), (7, .int .u64 y14), (8, .int .i64 y15), (24, v1), (25, .int .i64 (a1.length : Int)), (26, .int .i64 y15), (46, .bool (decide (s31 < (gd 0 a2 y15))))] ⟨rfl, rfl, rfl, rfl, rfl, rfl, rfl, rfl, rfl, trivial⟩ (fun a w hR hs hf => ?_)
                  refine hK32 _ _ ?_
                  replace hs := hs.keep (.d .nil)
                  have e27 := some_eq H; subst e27
                  exact hJ27 _ _ ⟨hf.sub ⟨rfl, rfl, rfl, rfl, rfl, rfl, rfl, rfl, rfl, trivial⟩, hs⟩
              · obtain ⟨hf, hs⟩ := hJ
                replace H := HO27
                clear HO27
                refine itt H (fun hc33 H => ?_) (fun hc33 H => ?_)
                · -- x27 = true
                  replace hf := hf.castB (t := 46) rfl hc33
                  refine cond_T hf rfl ?_
                  refine seq_reg (fun K34 hK34 => ?_)
                  refine stq hf rfl rfl rfl (ex_assign hf rfl) (fun a hf => ?_)
                  refine hK34 _ _ ?_
                  refine wp_ret ?_
                  refine hR26 _ _ ?_
                  refine hR22 _ _ ?_
                  refine hR21 _ _ ?_
                  refine hR17 _ _ ?_
                  refine hR13 _ _ ?_
                  have e11 := some_eq H; subst e11; replace H := el_rt HO11
                  refine hR11 _ _ ?_
                  have eR := some_eq H; subst eR
                  exact ret1 Try.results30 hf rfl ⟨_, rfl, ⟨rfl, hs⟩⟩
                · -- not x27 = true
                  replace hf := hf.castB (t := 46) rfl (bool_f hc33)
                  refine cond_F hf rfl ?_
                  refine wp_skip ?_
                  refine hN26 _ _ ?_
                  refine ck_some H (fun hc35 H => ?_)
                  refine region_k (fun K36 hK36 => ?_)
                  refine stq hf rfl rfl rfl (ex_move hf rfl) (fun a hf => ?_)
                  refine stq hf rfl rfl rfl (ex_move hf rfl) (fun a hf => ?_)
                  refine stq hf rfl rfl rfl (ex_move hf rfl) (fun a hf => ?_)
                  refine stq hf rfl rfl rfl (ex_indexAddr sa_40 (rsl_isSl (hr.now hs (i := 1) rfl)) hc35.1 hc35.2 hf rfl rfl) (fun a hf => ?_)
                  refine stq hf rfl rfl rfl (ex_load sc_37 hf rfl (el_cell (K := K_uint64) (f := 0) (rsl_rd (hr.now hs (i := 1) rfl)) hc35.1 hc35.2 rfl)) (fun a hf => ?_)
                  refine stq hf rfl rfl rfl (ex_add hf rfl rfl) (fun a hf => ?_)
                  refine stq hf rfl rfl rfl (ex_assign hf rfl) (fun a hf => ?_)
                  refine hK36 _ _ ?_
                  refine hN22 _ _ ?_
                  refine hN21 _ _ ?_
                  refine region_k (fun K37 hK37 => ?_)
                  refine stq hf rfl rfl rfl (ex_add hf rfl rfl) (fun a hf => ?_)
                  refine stq hf rfl rfl rfl (ex_move hf rfl) (fun a hf => ?_)
                  refine hK37 _ _ ?_
                  exact hL17 k17 _ _ (Nat.lt_succ_self _) ⟨(IntKind.u64.wrap (y14 + (gd 0 a2 y15))), (IntKind.i64.wrap (y15 + 1)), hf.sub ⟨rfl, rfl, rfl, rfl, rfl, rfl, rfl, trivial⟩, hs, H⟩
            · -- not y15 < (a1.length : Int)
              replace hf := hf.castB (t := 27) rfl (dec_f hc20)
              refine cond_F hf rfl ?_
              refine wp_exit ?_
              refine hX19 0 _ _ ?_
              refine hX17 0 _ _ ?_
              refine hX13 _ _ ?_
              have e11 := some_eq H; subst e11
              exact hJ11 _ _ ⟨_, rfl, hf.sub ⟨rfl, rfl, rfl, rfl, trivial⟩, hs⟩
      · obtain ⟨x11s, rfl, hf, hs⟩ := hJ
        replace H := el_go HO11
        clear HO11
        refine seq_n (fun Q38 hN38 hR38 hX38 => ?_)
        refine bnd H (fun s39 hs39 H => ?_)
        refine seq_reg (fun K40 hK40 => ?_)
        refine stq hf rfl rfl rfl (ex_move hf rfl) (fun a hf => ?_)
        refine stq hf rfl rfl rfl (ex_move hf rfl) (fun a hf => ?_)
        refine stq hf rfl rfl rfl (ex_move hf rfl) (fun a hf => ?_)
        refine stepF hf rfl rfl rfl (ex_call cf_34 hf rfl) (thermal_total.calls k a1 4294967296 v1 (hs.enter .nil) (Sr.old hr hs .nil (i := 0) rfl (fun _ h => h) (fun _ h => h) (Sr.nil _ _)) hs39) (fun v w hR a hf => ?_)
        obtain ⟨rfl, hs'⟩ := hR
        replace hs := hs.step .nil hs'
        clear hs'
        refine stq hf rfl rfl rfl (ex_min hf rfl rfl) (fun a hf => ?_)
        refine stq hf rfl rfl rfl (ex_neq hf rfl rfl) (fun a hf => ?_)
        refine hK40 _ _ ?_
        refine itt H (fun hc41 H => ?_) (fun hc41 H => ?_)
        · -- x11s = (mn a0 s39)
          replace hf := hf.castB (t := 59) rfl (ndec_f hc41)
          refine cond_F hf rfl ?_
          refine wp_skip ?_
          refine hN38 _ _ ?_
          refine bnd H (fun x42 H42 HO42 => ?_)
          clear H
          refine seq_cut (fun a w => ∃ (x42s : Unit), x42 = .go x42s ∧ Fr a 104 [] ∧ St M w0 w []) (fun Q42 hJ42 hR42 hX42 => ?_) (fun a w hJ => ?_)
          · replace H := H42
            refine seq_reg (fun K43 hK43 => ?_)
            refine stq hf rfl rfl rfl (ex_move hf rfl) (fun a hf => ?_)
            refine stq hf rfl rfl rfl (ex_lenS Try.underlying38 (rsl_isSl (hr.now hs (i := 0) rfl)) hf rfl) (fun a hf => ?_)
            refine stq hf rfl rfl rfl (ex_move hf rfl) (fun a hf => ?_)
            refine hK43 _ _ ?_
            refine block_k (fun Q44 hN44 hR44 hX44 hY44 => ?_)
            refine loop_k (fun n a w => ∃ (y45 : Int), Fr a 104 [(1, v1), (2, v2), (60, v1), (61, .int .i64 (a1.length : Int)), (62, .int .i64 y45)] ∧ St M w0 w [] ∧ thermal_Fair.l2 n a1 a2 y45 = some x42) k ?_ (fun n47 a w hI Q47 hL47 hR47 hX47 => ?_)
            · -- at the start
              exact ⟨0, hf.sub ⟨rfl, rfl, rfl, rfl, rfl, trivial⟩, hs, H⟩
            · obtain ⟨y45, hf, hs, H⟩ := hI
              cases n47 with
              | zero => exact absurd H (by rw [thermal_Fair.l2.eq_1]; intro h; cases h)
              | succ k47 =>
                replace H := (thermal_Fair.l2.eq_2 ..).symm.trans H
                refine seq_reg (fun K48 hK48 => ?_)
                refine stq hf rfl rfl rfl (ex_lss hf rfl rfl) (fun a hf => ?_)
                refine hK48 _ _ ?_
                refine seq_n (fun Q49 hN49 hR49 hX49 => ?_)
                refine itt H (fun hc50 H => ?_) (fun hc50 H => ?_)
                · -- y45 < (a1.length : Int)
                  replace hf := hf.castB (t := 63) rfl (dec_t hc50)
                  refine cond_T hf rfl ?_
                  refine wp_skip ?_
                  refine hN49 _ _ ?_
                  refine bnd H (fun x51 H51 HO51 => ?_)
                  clear H
                  refine seq_cut (fun a w => ∃ (x51s : Unit), x51 = .go x51s ∧ Fr a 104 [(1, v1), (2, v2), (60, v1), (61, .int .i64 (a1.length : Int)), (62, .int .i64 y45)] ∧ St M w0 w []) (fun Q51 hJ51 hR51 hX51 => ?_) (fun a w hJ => ?_)
                  · replace H := H51
                    refine block_k (fun Q52 hN52 hR52 hX52 hY52 => ?_)
                    refine ck_some H (fun hc53 H => ?_)
                    refine seq_reg (fun K55 hK55 => ?_)
                    refine stq hf rfl rfl rfl (ex_move hf rfl) (fun a hf => ?_)
                    refine stq hf rfl rfl rfl (ex_indexAddr sa_38 (rsl_isSl (hr.now hs (i := 0) rfl)) hc53.1 hc53.2 hf rfl rfl) (fun a hf => ?_)
                    refine stq hf rfl rfl rfl (ex_loadA (cs := [.int .u64 ((gd Actor.zero a1 y45).Request), .int .u64 ((gd Actor.zero a1 y45).Min), .int .u64 ((gd Actor.zero a1 y45).Max)]) ag_56 hf rfl (el_cells (K := K_api_Actor) (rsl_rd (hr.now hs (i := 0) rfl)) hc53.1 hc53.2 rfl)) (fun a hf => ?_)
                    refine stepV hf rfl rfl rfl (er_alloc hs ti_56 (cs := [.int .u64 0, .int .u64 0, .int .u64 0]) rfl) (fun v w hR a hf => ?_)
                    obtain ⟨b54, rfl, hs⟩ := hR
                    refine stq hf rfl rfl rfl (ex_assign hf rfl) (fun a hf => ?_)
                    refine stepS hf rfl rfl (er_storeAB (vs := [.int .u64 ((gd Actor.zero a1 y45).Request), .int .u64 ((gd Actor.zero a1 y45).Min), .int .u64 ((gd Actor.zero a1 y45).Max)]) (cs' := [.int .u64 ((gd Actor.zero a1 y45).Request), .int .u64 ((gd Actor.zero a1 y45).Min), .int .u64 ((gd Actor.zero a1 y45).Max)]) hs (.c .nil) sz_56 hf rfl rfl (all1 rfl (all1 rfl (all1 rfl (all1_nil)))) rfl rfl) (fun w hs => ?_)
                    refine hK55 _ _ ?_
                    refine seq_reg (fun K56 hK56 => ?_)
                    refine stq hf rfl rfl rfl (ex_move hf rfl) (fun a hf => ?_)
                    refine stq hf rfl rfl rfl (ex_lenS Try.underlying38 (rsl_isSl (hr.now hs (i := 0) rfl)) hf rfl) (fun a hf => ?_)
                    refine stq hf rfl rfl rfl (ex_move hf rfl) (fun a hf => ?_)
                    refine hK56 _ _ ?_
                    refine block_k (fun Q57 hN57 hR57 hX57 hY57 => ?_)
                    refine loop_k (fun n a w => ∃ (y58 : Int), Fr a 104 [(1, v1), (2, v2), (10, .int .i64 y45), (11, .pointer (some ⟨b54, 0, none⟩)), (60, v1), (61, .int .i64 (a1.length : Int)), (62, .int .i64 y45), (67, v1), (68, .int .i64 (a1.length : Int)), (69, .int .i64 y58)] ∧ St M w0 w [bx b54 56 [.int .u64 ((gd Actor.zero a1 y45).Request), .int .u64 ((gd Actor.zero a1 y45).Min), .int .u64 ((gd Actor.zero a1 y45).Max)]] ∧ thermal_Fair.l3 n a1 y45 a2 y58 = some x51) k47 ?_ (fun n60 a w hI Q60 hL60 hR60 hX60 => ?_)
                    · -- at the start
                      exact ⟨0, hf.sub ⟨rfl, rfl, rfl, rfl, rfl, rfl, rfl, rfl, rfl, rfl, trivial⟩, hs, H⟩
                    · obtain ⟨y58, hf, hs, H⟩ := hI
                      cases n60 with
                      | zero => exact absurd H (by rw [thermal_Fair.l3.eq_1]; intro h; cases h)
                      | succ k60 =>
                        replace H := (thermal_Fair.l3.eq_2 ..).symm.trans H
                        refine seq_reg (fun K61 hK61 => ?_)
                        refine stq hf rfl rfl rfl (ex_lss hf rfl rfl) (fun a hf => ?_)
                        refine hK61 _ _ ?_
                        refine seq_n (fun Q62 hN62 hR62 hX62 => ?_)
                        refine itt H (fun hc63 H => ?_) (fun hc63 H => ?_)
                        · -- y58 < (a1.length : Int)
                          replace hf := hf.castB (t := 70) rfl (dec_t hc63)
                          refine cond_T hf rfl ?_
                          refine wp_skip ?_
                          refine hN62 _ _ ?_
                          refine seq_n (fun Q64 hN64 hR64 hX64 => ?_)
                          refine block_k (fun Q65 hN65 hR65 hX65 hY65 => ?_)
                          refine ck_some H (fun hc66 H => ?_)
                          refine seq_reg (fun K68 hK68 => ?_)
                          refine stq hf rfl rfl rfl (ex_move hf rfl) (fun a hf => ?_)
                          refine stq hf rfl rfl rfl (ex_indexAddr sa_38 (rsl_isSl (hr.now hs (i := 0) rfl)) hc66.1 hc66.2 hf rfl rfl) (fun a hf => ?_)
                          refine stq hf rfl rfl rfl (ex_loadA (cs := [.int .u64 ((gd Actor.zero a1 y58).Request), .int .u64 ((gd Actor.zero a1 y58).Min), .int .u64 ((gd Actor.zero a1 y58).Max)]) ag_56 hf rfl (el_cells (K := K_api_Actor) (rsl_rd (hr.now hs (i := 0) rfl)) hc66.1 hc66.2 rfl)) (fun a hf => ?_)
                          refine stepV hf rfl rfl rfl (er_alloc hs ti_56 (cs := [.int .u64 0, .int .u64 0, .int .u64 0]) rfl) (fun v w hR a hf => ?_)
                          obtain ⟨b67, rfl, hs⟩ := hR
                          refine stq hf rfl rfl rfl (ex_assign hf rfl) (fun a hf => ?_)
                          refine stepS hf rfl rfl (er_storeAB (vs := [.int .u64 ((gd Actor.zero a1 y58).Request), .int .u64 ((gd Actor.zero a1 y58).Min), .int .u64 ((gd Actor.zero a1 y58).Max)]) (cs' := [.int .u64 ((gd Actor.zero a1 y58).Request), .int .u64 ((gd Actor.zero a1 y58).Min), .int .u64 ((gd Actor.zero a1 y58).Max)]) hs (.c (.k .nil)) sz_56 hf rfl rfl (all1 rfl (all1 rfl (all1 rfl (all1_nil)))) rfl rfl) (fun w hs => ?_)
                          refine hK68 _ _ ?_
                          refine bnd H (fun x69 H69 HO69 => ?_)
                          clear H
                          refine seq_cut (fun a w => Fr a 104 [(1, v1), (2, v2), (10, .int .i64 y45), (11, .pointer (some ⟨b54, 0, none⟩)), (60, v1), (61, .int .i64 (a1.length : Int)), (62, .int .i64 y45), (67, v1), (68, .int .i64 (a1.length : Int)), (69, .int .i64 y58), (101, .bool x69)] ∧ St M w0 w [bx b54 56 [.int .u64 ((gd Actor.zero a1 y45).Request), .int .u64 ((gd Actor.zero a1 y45).Min), .int .u64 ((gd Actor.zero a1 y45).Max)]]) (fun Q69 hJ69 hR69 hX69 => ?_) (fun a w hJ => ?_)
                          · replace H := H69
                            refine ck_some H (fun hc70 H => ?_)
                            refine bnd H (fun s71 hs71 H => ?_)
                            refine itt H (fun hc72 H => ?_) (fun hc72 H => ?_)
                            · -- (gd 0 a2 y45) < s71
                              refine ck_some H (fun hc73 H => ?_)
                              refine itt H (fun hc74 H => ?_) (fun hc74 H => ?_)
                              · -- ((gd Actor.zero a1 y58).Min) < (gd 0 a2 y58)
                                refine region_d fol 28 [(1, v1), (2, v2), (10, .int .i64 y45), (11, .pointer (some ⟨b54, 0, none⟩)), (12, .int .i64 y58), (13, .pointer (some ⟨b67, 0, none⟩)), (60, v1), (61, .int .i64 (a1.length : Int)), (62, .int .i64 y45), (67, v1), (68, .int .i64 (a1.length : Int)), (69, .int .i64 y58)] [(0, v2), (1, .int .i64 y45), (2, .pointer (some (sla v2 (y45.toNat * 1)))), (3, .int .u64 (gd 0 a2 y45)), (4, .agg #[.int .u64 ((gd Actor.zero a1 y45).Request), .int .u64 ((gd Actor.zero a1 y45).Min), .int .u64 ((gd Actor.zero a1 y45).Max)])] [5] (fun w => (rsl K_uint64 v2 a2).ok w ∧ (bx b54 56 [.int .u64 ((gd Actor.zero a1 y45).Request), .int .u64 ((gd Actor.zero a1 y45).Min), .int .u64 ((gd Actor.zero a1 y45).Max)]).ok w ∧ (bx b67 56 [.int .u64 ((gd Actor.zero a1 y58).Request), .int .u64 ((gd Actor.zero a1 y58).Min), .int .u64 ((gd Actor.zero a1 y58).Max)]).ok w ∧ True) (fun w => St M w0 w [bx b67 56 [.int .u64 ((gd Actor.zero a1 y58).Request), .int .u64 ((gd Actor.zero a1 y58).Min), .int .u64 ((gd Actor.zero a1 y58).Max)], bx b54 56 [.int .u64 ((gd Actor.zero a1 y45).Request), .int .u64 ((gd Actor.zero a1 y45).Min), .int .u64 ((gd Actor.zero a1 y45).Max)]]) hf ⟨rfl, rfl, rfl, rfl, rfl, rfl, rfl, rfl, rfl, rfl, rfl, rfl, trivial⟩ (by kernel_rfl) (by kernel_rfl) rfl (by decide) ⟨hr.now hs.drew (i := 1) rfl, hs.drew.get (i := 1) rfl, hs.drew.get (i := 0) rfl, trivial⟩ hs.drew (.cons (⟨_, _, rfl, rfl, rfl, rfl, fun a w hR hf => .inl ⟨wanted_yes hf rfl, ex_move hf rfl⟩⟩) (.cons (⟨_, _, rfl, rfl, rfl, rfl, fun a w hR hf => .inl ⟨wanted_yes hf rfl, ex_move hf rfl⟩⟩) (.cons (⟨_, _, rfl, rfl, rfl, rfl, fun a w hR hf => .inl ⟨wanted_yes hf rfl, ex_indexAddr sa_40 (rsl_isSl hR.1) hc70.1 hc70.2 hf rfl rfl⟩⟩) (.cons (⟨_, _, rfl, rfl, rfl, rfl, fun a w hR hf => .inl ⟨wanted_yes hf rfl, ex_load sc_37 hf rfl (el_cell (K := K_uint64) (f := 0) (rsl_rd hR.1) hc70.1 hc70.2 rfl)⟩⟩) (.cons (⟨_, _, rfl, rfl, rfl, rfl, fun a w hR hf => .inl ⟨wanted_yes hf rfl, ex_loadA (cs := [.int .u64 ((gd Actor.zero a1 y45).Request), .int .u64 ((gd Actor.zero a1 y45).Min), .int .u64 ((gd Actor.zero a1 y45).Max)]) ag_56 hf rfl (bx_cells (hR.2.1) rfl)⟩⟩) (.nil)))))) (fun K75 hK75 => ?_)
                                refine RW.one 5 (by kernel_rfl) (by kernel_rfl) rfl (fun d hd => by cases hd; rfl) [(78, .agg #[.int .u64 ((gd Actor.zero a1 y45).Request), .int .u64 ((gd Actor.zero a1 y45).Min), .int .u64 ((gd Actor.zero a1 y45).Max)])] ⟨rfl, trivial⟩ (fun a w hR hs hf => ⟨wanted_yes hf rfl, ?_⟩)
                                refine estep_f (ex_call cf_36 hf rfl) (thermal_want.calls k60 (⟨((gd Actor.zero a1 y45).Request), ((gd Actor.zero a1 y45).Min), ((gd Actor.zero a1 y45).Max)⟩ : Actor) (hs.enter (.k (.k .nil))) (Sr.nil _ _) hs71) (fun v w hR => ?_)
                                obtain ⟨rfl, hs'⟩ := hR
                                replace hs := hs.step (.k (.k .nil)) hs'
                                clear hs'
                                refine ⟨[(6, .bool true), (7, .bool true), (8, v2), (9, .int .i64 y58), (10, .pointer (some (sla v2 (y58.toNat * 1)))), (11, .int .u64 (gd 0 a2 y58)), (12, .pointer (some ⟨b67, 1, none⟩)), (13, .int .u64 ((gd Actor.zero a1 y58).Min)), (14, .bool true), (15, .bool true), (16, .bool true), (17, v2), (18, .int .i64 y58), (19, .pointer (some (sla v2 (y58.toNat * 1)))), (20, .int .u64 (gd 0 a2 y58)), (21, v2), (22, .int .i64 y45), (23, .pointer (some (sla v2 (y45.toNat * 1)))), (24, .int .u64 (gd 0 a2 y45)), (25, .int .u64 (IntKind.u64.wrap ((gd 0 a2 y45) + 1))), (26, .bool (decide ((IntKind.u64.wrap ((gd 0 a2 y45) + 1)) < (gd 0 a2 y58)))), (27, .bool (decide ((IntKind.u64.wrap ((gd 0 a2 y45) + 1)) < (gd 0 a2 y58))))], [(6, .bool true), (7, .bool true), (8, v2), (9, .int .i64 y58), (10, .pointer (some (sla v2 (y58.toNat * 1)))), (11, .int .u64 (gd 0 a2 y58)), (12, .pointer (some ⟨b67, 1, none⟩)), (13, .int .u64 ((gd Actor.zero a1 y58).Min)), (14, .bool true), (15, .bool true), (16, .bool true), (17, v2), (18, .int .i64 y58), (19, .pointer (some (sla v2 (y58.toNat * 1)))), (20, .int .u64 (gd 0 a2 y58)), (21, v2), (22, .int .i64 y45), (23, .pointer (some (sla v2 (y45.toNat * 1)))), (24, .int .u64 (gd 0 a2 y45)), (25, .int .u64 (IntKind.u64.wrap ((gd 0 a2 y45) + 1))), (26, .bool (decide ((IntKind.u64.wrap ((gd 0 a2 y45) + 1)) < (gd 0 a2 y58)))), (27, .bool (decide ((IntKind.u64.wrap ((gd 0 a2 y45) + 1)) < (gd 0 a2 y58)))), (5, .int .u64 s71), (0, v2), (1, .int .i64 y45), (2, .pointer (some (sla v2 (y45.toNat * 1)))), (3, .int .u64 (gd 0 a2 y45)), (4, .agg #[.int .u64 ((gd Actor.zero a1 y45).Request), .int .u64 ((gd Actor.zero a1 y45).Min), .int .u64 ((gd Actor.zero a1 y45).Max)])], [], (fun _ => True), (fun w => St M w0 w [bx b67 56 [.int .u64 ((gd Actor.zero a1 y58).Request), .int .u64 ((gd Actor.zero a1 y58).Min), .int .u64 ((gd Actor.zero a1 y58).Max)], bx b54 56 [.int .u64 ((gd Actor.zero a1 y45).Request), .int .u64 ((gd Actor.zero a1 y45).Min), .int .u64 ((gd Actor.zero a1 y45).Max)]]), rfl, rfl, ⟨hr.now hs (i := 1) rfl, hs.get (i := 1) rfl, hs.get (i := 0) rfl, trivial⟩, trivial, hs, (by kernel_rfl), .cons (⟨_, _, rfl, rfl, rfl, rfl, fun a w hR hf => .inl ⟨wanted_yes hf rfl, ex_castB (ex_lss hf rfl rfl) (dec_t hc72)⟩⟩) (.cons (⟨_, _, rfl, rfl, rfl, rfl, fun a w hR hf => .inl ⟨wanted_yes hf rfl, ex_move hf rfl⟩⟩) (.cons (⟨_, _, rfl, rfl, rfl, rfl, fun a w hR hf => .inl ⟨wanted_yes hf rfl, ex_move hf rfl⟩⟩) (.cons (⟨_, _, rfl, rfl, rfl, rfl, fun a w hR hf => .inl ⟨wanted_yes hf rfl, ex_move hf rfl⟩⟩) (.cons (⟨_, _, rfl, rfl, rfl, rfl, fun a w hR hf => .inl ⟨wanted_yes hf rfl, ex_indexAddr sa_40 (rsl_isSl hR.1.1) hc73.1 hc73.2 hf rfl rfl⟩⟩) (.cons (⟨_, _, rfl, rfl, rfl, rfl, fun a w hR hf => .inl ⟨wanted_yes hf rfl, ex_load sc_37 hf rfl (el_cell (K := K_uint64) (f := 0) (rsl_rd hR.1.1) hc73.1 hc73.2 rfl)⟩⟩) (.cons (⟨_, _, rfl, rfl, rfl, rfl, fun a w hR hf => .inl ⟨wanted_yes hf rfl, ex_fieldAddrB fa_56_1 rfl hf rfl⟩⟩) (.cons (⟨_, _, rfl, rfl, rfl, rfl, fun a w hR hf => .inl ⟨wanted_yes hf rfl, ex_load sc_37 hf rfl (bx_cell (hR.1.2.2.1) _ rfl)⟩⟩) (.cons (⟨_, _, rfl, rfl, rfl, rfl, fun a w hR hf => .inl ⟨wanted_yes hf rfl, ex_castB (ex_gtr hf rfl rfl) (dec_t hc74)⟩⟩) (.cons (⟨_, _, rfl, rfl, rfl, rfl, fun a w hR hf => .inl ⟨wanted_yes hf rfl, ex_pickT hf rfl rfl⟩⟩) (.cons (⟨_, _, rfl, rfl, rfl, rfl, fun a w hR hf => .inl ⟨wanted_yes hf rfl, ex_move hf rfl⟩⟩) (.cons (⟨_, _, rfl, rfl, rfl, rfl, fun a w hR hf => .inl ⟨wanted_yes hf rfl, ex_move hf rfl⟩⟩) (.cons (⟨_, _, rfl, rfl, rfl, rfl, fun a w hR hf => .inl ⟨wanted_yes hf rfl, ex_move hf rfl⟩⟩) (.cons (⟨_, _, rfl, rfl, rfl, rfl, fun a w hR hf => .inl ⟨wanted_yes hf rfl, ex_indexAddr sa_40 (rsl_isSl hR.1.1) hc73.1 hc73.2 hf rfl rfl⟩⟩) (.cons (⟨_, _, rfl, rfl, rfl, rfl, fun a w hR hf => .inl ⟨wanted_yes hf rfl, ex_load sc_37 hf rfl (el_cell (K := K_uint64) (f := 0) (rsl_rd hR.1.1) hc73.1 hc73.2 rfl)⟩⟩) (.cons (⟨_, _, rfl, rfl, rfl, rfl, fun a w hR hf => .inl ⟨wanted_yes hf rfl, ex_move hf rfl⟩⟩) (.cons (⟨_, _, rfl, rfl, rfl, rfl, fun a w hR hf => .inl ⟨wanted_yes hf rfl, ex_move hf rfl⟩⟩) (.cons (⟨_, _, rfl, rfl, rfl, rfl, fun a w hR hf => .inl ⟨wanted_yes hf rfl, ex_indexAddr sa_40 (rsl_isSl hR.1.1) hc70.1 hc70.2 hf rfl rfl⟩⟩) (.cons (⟨_, _, rfl, rfl, rfl, rfl, fun a w hR hf => .inl ⟨wanted_yes hf rfl, ex_load sc_37 hf rfl (el_cell (K := K_uint64) (f := 0) (rsl_rd hR.1.1) hc70.1 hc70.2 rfl)⟩⟩) (.cons (⟨_, _, rfl, rfl, rfl, rfl, fun a w hR hf => .inl ⟨wanted_yes hf rfl, ex_add hf rfl rfl⟩⟩) (.cons (⟨_, _, rfl, rfl, rfl, rfl, fun a w hR hf => .inl ⟨wanted_yes hf rfl, ex_gtr hf rfl rfl⟩⟩) (.cons (⟨_, _, rfl, rfl, rfl, rfl, fun a w hR hf => .inl ⟨wanted_yes hf rfl, ex_pickT hf rfl rfl⟩⟩) (.nil)))))))))))))))))))))), ?_⟩
                                refine RW.zero (by kernel_rfl) (by kernel_rfl) [(1, v1), (2, v2), (10, .int .i64 y45), (11, .pointer (some ⟨b54, 0, none⟩)), (60, v1), (61, .int .i64 (a1.length : Int)), (62, .int .i64 y45), (67, v1), (68, .int .i64 (a1.length : Int)), (69, .int .i64 y58), (101, .bool (decide ((IntKind.u64.wrap ((gd 0 a2 y45) + 1)) < (gd 0 a2 y58))))] ⟨rfl, rfl, rfl, rfl, rfl, rfl, rfl, rfl, rfl, rfl, rfl, trivial⟩ (fun a w hR hs hf => ?_)
                                refine hK75 _ _ ?_
                                replace hs := hs.keep (.d (.k .nil))
                                have e69 := some_eq H; subst e69
                                exact hJ69 _ _ ⟨hf.sub ⟨rfl, rfl, rfl, rfl, rfl, rfl, rfl, rfl, rfl, rfl, rfl, trivial⟩, hs⟩
                              · -- not ((gd Actor.zero a1 y58).Min) < (gd 0 a2 y58)
                                refine region_d fol 28 [(1, v1), (2, v2), (10, .int .i64 y45), (11, .pointer (some ⟨b54, 0, none⟩)), (12, .int .i64 y58), (13, .pointer (some ⟨b67, 0, none⟩)), (60, v1), (61, .int .i64 (a1.length : Int)), (62, .int .i64 y45), (67, v1), (68, .int .i64 (a1.length : Int)), (69, .int .i64 y58)] [(0, v2), (1, .int .i64 y45), (2, .pointer (some (sla v2 (y45.toNat * 1)))), (3, .int .u64 (gd 0 a2 y45)), (4, .agg #[.int .u64 ((gd Actor.zero a1 y45).Request), .int .u64 ((gd Actor.zero a1 y45).Min), .int .u64 ((gd Actor.zero a1 y45).Max)])] [5] (fun w => (rsl K_uint64 v2 a2).ok w ∧ (bx b54 56 [.int .u64 ((gd Actor.zero a1 y45).Request), .int .u64 ((gd Actor.zero a1 y45).Min), .int .u64 ((gd Actor.zero a1 y45).Max)]).ok w ∧ (bx b67 56 [.int .u64 ((gd Actor.zero a1 y58).Request), .int .u64 ((gd Actor.zero a1 y58).Min), .int .u64 ((gd Actor.zero a1 y58).Max)]).ok w ∧ True) (fun w => St M w0 w [bx b67 56 [.int .u64 ((gd Actor.zero a1 y58).Request), .int .u64 ((gd Actor.zero a1 y58).Min), .int .u64 ((gd Actor.zero a1 y58).Max)], bx b54 56 [.int .u64 ((gd Actor.zero a1 y45).Request), .int .u64 ((gd Actor.zero a1 y45).Min), .int .u64 ((gd Actor.zero a1 y45).Max)]]) hf ⟨rfl, rfl, rfl, rfl, rfl, rfl, rfl, rfl, rfl, rfl, rfl, rfl, trivial⟩ (by kernel_rfl) (by kernel_rfl) rfl (by decide) ⟨hr.now hs.drew (i := 1) rfl, hs.drew.get (i := 1) rfl, hs.drew.get (i := 0) rfl, trivial⟩ hs.drew (.cons (⟨_, _, rfl, rfl, rfl, rfl, fun a w hR hf => .inl ⟨wanted_yes hf rfl, ex_move hf rfl⟩⟩) (.cons (⟨_, _, rfl, rfl, rfl, rfl, fun a w hR hf => .inl ⟨wanted_yes hf rfl, ex_move hf rfl⟩⟩) (.cons (⟨_, _, rfl, rfl, rfl, rfl, fun a w hR hf => .inl ⟨wanted_yes hf rfl, ex_indexAddr sa_40 (rsl_isSl hR.1) hc70.1 hc70.2 hf rfl rfl⟩⟩) (.cons (⟨_, _, rfl, rfl, rfl, rfl, fun a w hR hf => .inl ⟨wanted_yes hf rfl, ex_load sc_37 hf rfl (el_cell (K := K_uint64) (f := 0) (rsl_rd hR.1) hc70.1 hc70.2 rfl)⟩⟩) (.cons (⟨_, _, rfl, rfl, rfl, rfl, fun a w hR hf => .inl ⟨wanted_yes hf rfl, ex_loadA (cs := [.int .u64 ((gd Actor.zero a1 y45).Request), .int .u64 ((gd Actor.zero a1 y45).Min), .int .u64 ((gd Actor.zero a1 y45).Max)]) ag_56 hf rfl (bx_cells (hR.2.1) rfl)⟩⟩) (.nil)))))) (fun K76 hK76 => ?_)
                                refine RW.one 5 (by kernel_rfl) (by kernel_rfl) rfl (fun d hd => by cases hd; rfl) [(78, .agg #[.int .u64 ((gd Actor.zero a1 y45).Request), .int .u64 ((gd Actor.zero a1 y45).Min), .int .u64 ((gd Actor.zero a1 y45).Max)])] ⟨rfl, trivial⟩ (fun a w hR hs hf => ⟨wanted_yes hf rfl, ?_⟩)
                                refine estep_f (ex_call cf_36 hf rfl) (thermal_want.calls k60 (⟨((gd Actor.zero a1 y45).Request), ((gd Actor.zero a1 y45).Min), ((gd Actor.zero a1 y45).Max)⟩ : Actor) (hs.enter (.k (.k .nil))) (Sr.nil _ _) hs71) (fun v w hR => ?_)
                                obtain ⟨rfl, hs'⟩ := hR
                                replace hs := hs.step (.k (.k .nil)) hs'
                                clear hs'
                                refine ⟨[(6, .bool true), (7, .bool true), (8, v2), (9, .int .i64 y58), (10, .pointer (some (sla v2 (y58.toNat * 1)))), (11, .int .u64 (gd 0 a2 y58)), (12, .pointer (some ⟨b67, 1, none⟩)), (13, .int .u64 ((gd Actor.zero a1 y58).Min)), (14, .bool false), (15, .bool false), (16, .bool false), (17, undef), (18, undef), (19, undef), (20, undef), (21, undef), (22, undef), (23, undef), (24, undef), (25, undef), (26, undef), (27, .bool false)], [(6, .bool true), (7, .bool true), (8, v2), (9, .int .i64 y58), (10, .pointer (some (sla v2 (y58.toNat * 1)))), (11, .int .u64 (gd 0 a2 y58)), (12, .pointer (some ⟨b67, 1, none⟩)), (13, .int .u64 ((gd Actor.zero a1 y58).Min)), (14, .bool false), (15, .bool false), (16, .bool false), (17, undef), (18, undef), (19, undef), (20, undef), (21, undef), (22, undef), (23, undef), (24, undef), (25, undef), (26, undef), (27, .bool false), (5, .int .u64 s71), (0, v2), (1, .int .i64 y45), (2, .pointer (some (sla v2 (y45.toNat * 1)))), (3, .int .u64 (gd 0 a2 y45)), (4, .agg #[.int .u64 ((gd Actor.zero a1 y45).Request), .int .u64 ((gd Actor.zero a1 y45).Min), .int .u64 ((gd Actor.zero a1 y45).Max)])], [], (fun _ => True), (fun w => St M w0 w [bx b67 56 [.int .u64 ((gd Actor.zero a1 y58).Request), .int .u64 ((gd Actor.zero a1 y58).Min), .int .u64 ((gd Actor.zero a1 y58).Max)], bx b54 56 [.int .u64 ((gd Actor.zero a1 y45).Request), .int .u64 ((gd Actor.zero a1 y45).Min), .int .u64 ((gd Actor.zero a1 y45).Max)]]), rfl, rfl, ⟨hr.now hs (i := 1) rfl, hs.get (i := 1) rfl, hs.get (i := 0) rfl, trivial⟩, trivial, hs, (by kernel_rfl), .cons (⟨_, _, rfl, rfl, rfl, rfl, fun a w hR hf => .inl ⟨wanted_yes hf rfl, ex_castB (ex_lss hf rfl rfl) (dec_t hc72)⟩⟩) (.cons (⟨_, _, rfl, rfl, rfl, rfl, fun a w hR hf => .inl ⟨wanted_yes hf rfl, ex_move hf rfl⟩⟩) (.cons (⟨_, _, rfl, rfl, rfl, rfl, fun a w hR hf => .inl ⟨wanted_yes hf rfl, ex_move hf rfl⟩⟩) (.cons (⟨_, _, rfl, rfl, rfl, rfl, fun a w hR hf => .inl ⟨wanted_yes hf rfl, ex_move hf rfl⟩⟩) (.cons (⟨_, _, rfl, rfl, rfl, rfl, fun a w hR hf => .inl ⟨wanted_yes hf rfl, ex_indexAddr sa_40 (rsl_isSl hR.1.1) hc73.1 hc73.2 hf rfl rfl⟩⟩) (.cons (⟨_, _, rfl, rfl, rfl, rfl, fun a w hR hf => .inl ⟨wanted_yes hf rfl, ex_load sc_37 hf rfl (el_cell (K := K_uint64) (f := 0) (rsl_rd hR.1.1) hc73.1 hc73.2 rfl)⟩⟩) (.cons (⟨_, _, rfl, rfl, rfl, rfl, fun a w hR hf => .inl ⟨wanted_yes hf rfl, ex_fieldAddrB fa_56_1 rfl hf rfl⟩⟩) (.cons (⟨_, _, rfl, rfl, rfl, rfl, fun a w hR hf => .inl ⟨wanted_yes hf rfl, ex_load sc_37 hf rfl (bx_cell (hR.1.2.2.1) _ rfl)⟩⟩) (.cons (⟨_, _, rfl, rfl, rfl, rfl, fun a w hR hf => .inl ⟨wanted_yes hf rfl, ex_castB (ex_gtr hf rfl rfl) (dec_f hc74)⟩⟩) (.cons (⟨_, _, rfl, rfl, rfl, rfl, fun a w hR hf => .inl ⟨wanted_yes hf rfl, ex_pickT hf rfl rfl⟩⟩) (.cons (⟨_, _, rfl, rfl, rfl, rfl, fun a w hR hf => .inl ⟨wanted_yes hf rfl, ex_move hf rfl⟩⟩) (.cons (⟨_, _, rfl, rfl, rfl, rfl, fun a w hR hf => .inr ⟨wanted_no hf rfl, rfl⟩⟩) (.cons (⟨_, _, rfl, rfl, rfl, rfl, fun a w hR hf => .inr ⟨wanted_no hf rfl, rfl⟩⟩) (.cons (⟨_, _, rfl, rfl, rfl, rfl, fun a w hR hf => .inr ⟨wanted_no hf rfl, rfl⟩⟩) (.cons (⟨_, _, rfl, rfl, rfl, rfl, fun a w hR hf => .inr ⟨wanted_no hf rfl, rfl⟩⟩) (.cons (⟨_, _, rfl, rfl, rfl, rfl, fun a w hR hf => .inr ⟨wanted_no hf rfl, rfl⟩⟩) (.cons (⟨_, _, rfl, rfl, rfl, rfl, fun a w hR hf => .inr ⟨wanted_no hf rfl, rfl⟩⟩) (.cons (⟨_, _, rfl, rfl, rfl, rfl, fun a w hR hf => .inr ⟨wanted_no hf rfl, rfl⟩⟩) (.cons (⟨_, _, rfl, rfl, rfl, rfl, fun a w hR hf => .inr ⟨wanted_no hf rfl, rfl⟩⟩) (.cons (⟨_, _, rfl, rfl, rfl, rfl, fun a w hR hf => .inr ⟨wanted_no hf rfl, rfl⟩⟩) (.cons (⟨_, _, rfl, rfl, rfl, rfl, fun a w hR hf => .inr ⟨wanted_no hf rfl, rfl⟩⟩) (.cons (⟨_, _, rfl, rfl, rfl, rfl, fun a w hR hf => .inl ⟨wanted_yes hf rfl, ex_pickF hf rfl rfl⟩⟩) (.nil)))))))))))))))))))))), ?_⟩
                                refine RW.zero (by kernel_rfl) (by kernel_rfl) [(1, v1), (2, v2), (10, .int .i64 y45), (11, .pointer (some ⟨b54, 0, none⟩)), (60, v1), (61, .int .i64 (a1.length : Int)), (62, .int .i64 y45), (67, v1), (68, .int .i64 (a1.length : Int)), (69, .int .i64 y58), (101, .bool false)] ⟨rfl, rfl, rfl, rfl, rfl, rfl, rfl, rfl, rfl, rfl, rfl, trivial⟩ (fun a w hR hs hf => ?_)
                                refine hK76 _ _ ?_
                                replace hs := hs.keep (.d (.k .nil))
                                have e69 := some_eq H; subst e69
                                exact hJ69 _ _ ⟨hf.sub ⟨rfl, rfl, rfl, rfl, rfl, rfl, rfl, rfl, rfl, rfl, rfl, trivial⟩, hs⟩
                            · -- not (gd 0 a2 y45) < s71
                              refine region_d fol 28 [(1, v1), (2, v2), (10, .int .i64 y45), (11, .pointer (some ⟨b54, 0, none⟩)), (12, .int .i64 y58), (13, .pointer (some ⟨b67, 0, none⟩)), (60, v1), (61, .int .i64 (a1.length : Int)), (62, .int .i64 y45), (67, v1), (68, .int .i64 (a1.length : Int)), (69, .int .i64 y58)] [(0, v2), (1, .int .i64 y45), (2, .pointer (some (sla v2 (y45.toNat * 1)))), (3, .int .u64 (gd 0 a2 y45)), (4, .agg #[.int .u64 ((gd Actor.zero a1 y45).Request), .int .u64 ((gd Actor.zero a1 y45).Min), .int .u64 ((gd Actor.zero a1 y45).Max)])] [5] (fun w => (rsl K_uint64 v2 a2).ok w ∧ (bx b54 56 [.int .u64 ((gd Actor.zero a1 y45).Request), .int .u64 ((gd Actor.zero a1 y45).Min), .int .u64 ((gd Actor.zero a1 y45).Max)]).ok w ∧ (bx b67 56 [.int .u64 ((gd Actor.zero a1 y58).Request), .int .u64 ((gd Actor.zero a1 y58).Min), .int .u64 ((gd Actor.zero a1 y58).Max)]).ok w ∧ True) (fun w => St M w0 w [bx b67 56 [.int .u64 ((gd Actor.zero a1 y58).Request), .int .u64 ((gd Actor.zero a1 y58).Min), .int .u64 ((gd Actor.zero a1 y58).Max)], bx b54 56 [.int .u64 ((gd Actor.zero a1 y45).Request), .int .u64 ((gd Actor.zero a1 y45).Min), .int .u64 ((gd Actor.zero a1 y45).Max)]]) hf ⟨rfl, rfl, rfl, rfl, rfl, rfl, rfl, rfl, rfl, rfl, rfl, rfl, trivial⟩ (by kernel_rfl) (by kernel_rfl) rfl (by decide) ⟨hr.now hs.drew (i := 1) rfl, hs.drew.get (i := 1) rfl, hs.drew.get (i := 0) rfl, trivial⟩ hs.drew (.cons (⟨_, _, rfl, rfl, rfl, rfl, fun a w hR hf => .inl ⟨wanted_yes hf rfl, ex_move hf rfl⟩⟩) (.cons (⟨_, _, rfl, rfl, rfl, rfl, fun a w hR hf => .inl ⟨wanted_yes hf rfl, ex_move hf rfl⟩⟩) (.cons (⟨_, _, rfl, rfl, rfl, rfl, fun a w hR hf => .inl ⟨wanted_yes hf rfl, ex_indexAddr sa_40 (rsl_isSl hR.1) hc70.1 hc70.2 hf rfl rfl⟩⟩) (.cons (⟨_, _, rfl, rfl, rfl, rfl, fun a w hR hf => .inl ⟨wanted_yes hf rfl, ex_load sc_37 hf rfl (el_cell (K := K_uint64) (f := 0) (rsl_rd hR.1) hc70.1 hc70.2 rfl)⟩⟩) (.cons (⟨_, _, rfl, rfl, rfl, rfl, fun a w hR hf => .inl ⟨wanted_yes hf rfl, ex_loadA (cs := [.int .u64 ((gd Actor.zero a1 y45).Request), .int .u64 ((gd Actor.zero a1 y45).Min), .int .u64 ((gd Actor.zero a1 y45).Max)]) ag_56 hf rfl (bx_cells (hR.2.1) rfl)⟩⟩) (.nil)))))) (fun K77 hK77 => ?_)
                              refine RW.one 5 (by kernel_rfl) (by kernel_rfl) rfl (fun d hd => by cases hd; rfl) [(78, .agg #[.int .u64 ((gd Actor.zero a1 y45).Request), .int .u64 ((gd Actor.zero a1 y45).Min), .int .u64 ((gd Actor.zero a1 y45).Max)])] ⟨rfl, trivial⟩ (fun a w hR hs hf => ⟨wanted_yes hf rfl, ?_⟩)
                              refine estep_f (ex_call cf_36 hf rfl) (thermal_want.calls k60 (⟨((gd Actor.zero a1 y45).Request), ((gd Actor.zero a1 y45).Min), ((gd Actor.zero a1 y45).Max)⟩ : Actor) (hs.enter (.k (.k .nil))) (Sr.nil _ _) hs71) (fun v w hR => ?_)
                              obtain ⟨rfl, hs'⟩ := hR
                              replace hs := hs.step (.k (.k .nil)) hs'
                              clear hs'
                              refine ⟨[(6, .bool false), (7, .bool false), (8, undef), (9, undef), (10, undef), (11, undef), (12, undef), (13, undef), (14, undef), (15, .bool false), (16, .bool false), (17, undef), (18, undef), (19, undef), (20, undef), (21, undef), (22, undef), (23, undef), (24, undef), (25, undef), (26, undef), (27, .bool false)], [(6, .bool false), (7, .bool false), (8, undef), (9, undef), (10, undef), (11, undef), (12, undef), (13, undef), (14, undef), (15, .bool false), (16, .bool false), (17, undef), (18, undef), (19, undef), (20, undef), (21, undef), (22, undef), (23, undef), (24, undef), (25, undef), (26, undef), (27, .bool false), (5, .int .u64 s71), (0, v2), (1, .int .i64 y45), (2, .pointer (some (sla v2 (y45.toNat * 1)))), (3, .int .u64 (gd 0 a2 y45)), (4, .agg #[.int .u64 ((gd Actor.zero a1 y45).Request), .int .u64 ((gd Actor.zero a1 y45).Min), .int .u64 ((gd Actor.zero a1 y45).Max)])], [], (fun _ => True), (fun w => St M w0 w [bx b67 56 [.int .u64 ((gd Actor.zero a1 y58).Request), .int .u64 ((gd Actor.zero a1 y58).Min), .int .u64 ((gd Actor.zero a1 y58).Max)], bx b54 56 [.int .u64 ((gd Actor.zero a1 y45).Request), .int .u64 ((gd Actor.zero a1 y45).Min), .int .u64 ((gd Actor.zero a1 y45).Max)]]), rfl, rfl, ⟨hr.now hs (i := 1) rfl, hs.get (i := 1) rfl, hs.get (i := 0) rfl, trivial⟩, trivial, hs, (by kernel_rfl), .cons (⟨_, _, rfl, rfl, rfl, rfl, fun a w hR hf => .inl ⟨wanted_yes hf rfl, ex_castB (ex_lss hf rfl rfl) (dec_f hc72)⟩⟩) (.cons (⟨_, _, rfl, rfl, rfl, rfl, fun a w hR hf => .inl ⟨wanted_yes hf rfl, ex_move hf rfl⟩⟩) (.cons (⟨_, _, rfl, rfl, rfl, rfl, fun a w hR hf => .inr ⟨wanted_no hf rfl, rfl⟩⟩) (.cons (⟨_, _, rfl, rfl, rfl, rfl, fun a w hR hf => .inr ⟨wanted_no hf rfl, rfl⟩⟩) (.cons (⟨_, _, rfl, rfl, rfl, rfl, fun a w hR hf => .inr ⟨wanted_no hf rfl, rfl⟩⟩) (.cons (⟨_, _, rfl, rfl, rfl, rfl, fun a w hR hf => .inr ⟨wanted_no hf rfl, rfl⟩⟩) (.cons (⟨_, _, rfl, rfl, rfl, rfl, fun a w hR hf => .inr ⟨wanted_no hf rfl, rfl⟩⟩) (.cons (⟨_, _, rfl, rfl, rfl, rfl, fun a w hR hf => .inr ⟨wanted_no hf rfl, rfl⟩⟩) (.cons (⟨_, _, rfl, rfl, rfl, rfl, fun a w hR hf => .inr ⟨wanted_no hf rfl, rfl⟩⟩) (.cons (⟨_, _, rfl, rfl, rfl, rfl, fun a w hR hf => .inl ⟨wanted_yes hf rfl, ex_pickF hf rfl rfl⟩⟩) (.cons (⟨_, _, rfl, rfl, rfl, rfl, fun a w hR hf => .inl ⟨wanted_yes hf rfl, ex_move hf rfl⟩⟩) (.cons (⟨_, _, rfl, rfl, rfl, rfl, fun a w hR hf => .inr ⟨wanted_no hf rfl, rfl⟩⟩) (.cons (⟨_, _, rfl, rfl, rfl, rfl, fun a w hR hf => .inr ⟨wanted_no hf rfl, rfl⟩⟩) (.cons (⟨_, _, rfl, rfl, rfl, rfl, fun a w hR hf => .inr ⟨wanted_no hf rfl, rfl⟩⟩) (.cons (⟨_, _, rfl, rfl, rfl, rfl, fun a w hR hf => .inr ⟨wanted_no hf rfl, rfl⟩⟩) (.cons (⟨_, _, rfl, rfl, rfl, rfl, fun a w hR hf => .inr ⟨wanted_no hf rfl, rfl⟩⟩) (.cons (⟨_, _, rfl, rfl, rfl, rfl, fun a w hR hf => .inr ⟨wanted_no hf rfl, rfl⟩⟩) (.cons (⟨_, _, rfl, rfl, rfl, rfl, fun a w hR hf => .inr ⟨wanted_no hf rfl, rfl⟩⟩) (.cons (⟨_, _, rfl, rfl, rfl, rfl, fun a w hR hf => .inr ⟨wanted_no hf rfl, rfl⟩⟩) (.cons (⟨_, _, rfl, rfl, rfl, rfl, fun a w hR hf => .inr ⟨wanted_no hf rfl, rfl⟩⟩) (.cons (⟨_, _, rfl, rfl, rfl, rfl, fun a w hR hf => .inr ⟨wanted_no hf rfl, rfl⟩⟩) (.cons (⟨_, _, rfl, rfl, rfl, rfl, fun a w hR hf => .inl ⟨wanted_yes hf rfl, ex_pickF hf rfl rfl⟩⟩) (.nil)))))))))))))))))))))), ?_⟩
                              refine RW.zero (by kernel_rfl) (by kernel_rfl) [(1, v1), (2, v2), (10, .int .i64 y45), (11, .pointer (some ⟨b54, 0, none⟩)), (60, v1), (61, .int .i64 (a1.length : Int)), (62, .int .i64 y45), (67, v1), (68, .int .i64 (a1.length : Int)), (69, .int .i64 y58), (101, .bool false)] ⟨rfl, rfl, rfl, rfl, rfl, rfl, rfl, rfl, rfl, rfl, rfl, trivial⟩ (fun a w hR hs hf => ?_)
                              refine hK77 _ _ ?_
                              replace hs := hs.keep (.d (.k .nil))
                              have e69 := some_eq H; subst e69
                              exact hJ69 _ _ ⟨hf.sub ⟨rfl, rfl, rfl, rfl, rfl, rfl, rfl, rfl, rfl, rfl, rfl, trivial⟩, hs⟩
                          · obtain ⟨hf, hs⟩ := hJ
                            replace H := HO69
                            clear HO69
                            refine itt H (fun hc78 H => ?_) (fun hc78 H => ?_)
                            · -- x69 = true
                              replace hf := hf.castB (t := 101) rfl hc78
                              refine cond_T hf rfl ?_
                              refine seq_reg (fun K79 hK79 => ?_)
                              refine stq hf rfl rfl rfl (ex_assign hf rfl) (fun a hf => ?_)
                              refine hK79 _ _ ?_
                              refine wp_ret ?_
                              refine hR65 _ _ ?_
                              refine hR64 _ _ ?_
                              refine hR60 _ _ ?_
                              refine hR57 _ _ ?_
                              refine hR52 _ _ ?_
                              have e51 := some_eq H; subst e51; replace H := el_rt HO51
                              refine hR51 _ _ ?_
                              refine hR47 _ _ ?_
                              refine hR44 _ _ ?_
                              have e42 := some_eq H; subst e42; replace H := el_rt HO42
                              refine hR42 _ _ ?_
                              have eR := some_eq H; subst eR
                              replace hs := hs.keep (.d .nil)
                              exact ret1 Try.results30 hf rfl ⟨_, rfl, ⟨rfl, hs⟩⟩
                            · -- not x69 = true
                              replace hf := hf.castB (t := 101) rfl (bool_f hc78)
                              refine cond_F hf rfl ?_
                              refine wp_skip ?_
                              refine hN65 _ _ ?_
                              refine hN64 _ _ ?_
                              refine region_k (fun K80 hK80 => ?_)
                              refine stq hf rfl rfl rfl (ex_add hf rfl rfl) (fun a hf => ?_)
                              refine stq hf rfl rfl rfl (ex_move hf rfl) (fun a hf => ?_)
                              refine hK80 _ _ ?_
                              exact hL60 k60 _ _ (Nat.lt_succ_self _) ⟨(IntKind.i64.wrap (y58 + 1)), hf.sub ⟨rfl, rfl, rfl, rfl, rfl, rfl, rfl, rfl, rfl, rfl, trivial⟩, hs, H⟩
                        · -- not y58 < (a1.length : Int)
                          replace hf := hf.castB (t := 70) rfl (dec_f hc63)
                          refine cond_F hf rfl ?_
                          refine wp_exit ?_
                          refine hX62 4 _ _ ?_
                          refine hX60 4 _ _ ?_
                          refine hX57 _ _ ?_
                          refine hN52 _ _ ?_
                          replace hs := hs.keep (.d .nil)
                          have e51 := some_eq H; subst e51
                          exact hJ51 _ _ ⟨_, rfl, hf.sub ⟨rfl, rfl, rfl, rfl, rfl, trivial⟩, hs⟩
                  · obtain ⟨x51s, rfl, hf, hs⟩ := hJ
                    replace H := el_go HO51
                    clear HO51
                    refine region_k (fun K81 hK81 => ?_)
                    refine stq hf rfl rfl rfl (ex_add hf rfl rfl) (fun a hf => ?_)
                    refine stq hf rfl rfl rfl (ex_move hf rfl) (fun a hf => ?_)
                    refine hK81 _ _ ?_
                    exact hL47 k47 _ _ (Nat.lt_succ_self _) ⟨(IntKind.i64.wrap (y45 + 1)), hf.sub ⟨rfl, rfl, rfl, rfl, rfl, trivial⟩, hs, H⟩
                · -- not y45 < (a1.length : Int)
                  replace hf := hf.castB (t := 63) rfl (dec_f hc50)
                  refine cond_F hf rfl ?_
                  refine wp_exit ?_
                  refine hX49 2 _ _ ?_
                  refine hX47 2 _ _ ?_
                  refine hX44 _ _ ?_
                  have e42 := some_eq H; subst e42
                  exact hJ42 _ _ ⟨_, rfl, hf.sub trivial, hs⟩
          · obtain ⟨x42s, rfl, hf, hs⟩ := hJ
            replace H := el_go HO42
            clear HO42
            refine seq_reg (fun K82 hK82 => ?_)
            refine stq hf rfl rfl rfl (ex_assign hf rfl) (fun a hf => ?_)
            refine hK82 _ _ ?_
            refine wp_ret ?_
            have eR := some_eq H; subst eR
            exact ret1 Try.results30 hf rfl ⟨_, rfl, ⟨rfl, hs⟩⟩
        · -- not x11s = (mn a0 s39)
          replace hf := hf.castB (t := 59) rfl (ndec_t hc41)
          refine cond_T hf rfl ?_
          refine seq_reg (fun K83 hK83 => ?_)
          refine stq hf rfl rfl rfl (ex_assign hf rfl) (fun a hf => ?_)
          refine hK83 _ _ ?_
          refine wp_ret ?_
          refine hR38 _ _ ?_
          have eR := some_eq H; subst eR
          exact ret1 Try.results30 hf rfl ⟨_, rfl, ⟨rfl, hs⟩⟩

end Go.Proofs.Ytkcmohmnmapnbaa.X
