/- Each function of the machine comes to what its pure function says. -/
import Derived.Test.YthemeobgfgmblaaFc1
import Derived.Test.YthemeobgfgmblaaFc2
import Derived.Test.YthemeobgfgmblaaFb
namespace Go.Proofs.Ythemeobgfgmblaa.X
open Go Go.RowKit Go.Sx
set_option linter.unusedVariables false

set_option maxHeartbeats 4000000 in
set_option maxRecDepth 100000 in
theorem law36_PerfCheckAgrees.calls {M : Nat → Prop} {w0 : World} (k : Nat) (a0 : (List OperatingPoint)) (a1 : Int) (a2 : Int) (a3 : OperatingPoint) (v0 : Value) {r : Bool} (hs : St M w0 w0 []) (hr : Sr M w0 [rsl K_api_OperatingPoint v0 a0])
    (h : law36_PerfCheckAgrees.f k a0 a1 a2 a3 = some r) : Calls Try.prog 3 #[v0, .int .u64 a1, .int .i64 a2, .agg #[.int .u64 a3.Frequency, .int .u64 a3.Voltage, .int .u64 a3.Power]] w0 fun e w => ∃ v, e = .returned v ∧ (.bool r = v ∧ St M w0 w []) := by
  have H := (law36_PerfCheckAgrees.f.eq_1 ..).symm.trans h
  clear h
  refine enter Try.func3 rfl Try.ntmps3 rfl (fun a hf => ?_)
  refine seq_reg (fun K2 hK2 => ?_)
  refine stepV hf rfl rfl rfl (er_box (cs := [.int .u64 a3.Frequency, .int .u64 a3.Voltage, .int .u64 a3.Power]) hs hf rfl rfl) (fun v w hR a hf => ?_)
  obtain ⟨b1, rfl, hs⟩ := hR
  refine stq hf rfl rfl rfl (ex_assign hf rfl) (fun a hf => ?_)
  refine hK2 _ _ ?_
  refine seq_n (fun Q3 hN3 hR3 hX3 => ?_)
  refine seq_reg (fun K4 hK4 => ?_)
  refine stq hf rfl rfl rfl (ex_move hf rfl) (fun a hf => ?_)
  refine stq hf rfl rfl rfl (ex_lenS Try.underlying22 (rsl_isSl (hr.now hs (i := 0) rfl)) hf rfl) (fun a hf => ?_)
  refine stq hf rfl rfl rfl (ex_gtr hf rfl rfl) (fun a hf => ?_)
  refine hK4 _ _ ?_
  refine itt H (fun hc5 H => ?_) (fun hc5 H => ?_)
  · -- 20 < (a0.length : Int)
    replace hf := hf.castB (t := 23) rfl (dec_t hc5)
    refine cond_T hf rfl ?_
    refine bnd H (fun s6 hs6 H => ?_)
    refine seq_reg (fun K7 hK7 => ?_)
    refine stepF hf rfl rfl rfl (ex_call cf_12 hf rfl) (law36_awake.calls k (hs.enter (.k .nil)) (Sr.nil _ _) hs6) (fun v w hR a hf => ?_)
    obtain ⟨rfl, hs'⟩ := hR
    replace hs := hs.step (.k .nil) hs'
    clear hs'
    refine stq hf rfl rfl rfl (ex_assign hf rfl) (fun a hf => ?_)
    refine hK7 _ _ ?_
    refine wp_ret ?_
    refine hR3 _ _ ?_
    have eR := some_eq H; subst eR
    replace hs := hs.keep (.d .nil)
    exact ret1 Try.results3 hf rfl ⟨_, rfl, ⟨rfl, hs⟩⟩
  · -- not 20 < (a0.length : Int)
    replace hf := hf.castB (t := 23) rfl (dec_f hc5)
    refine cond_F hf rfl ?_
    refine wp_skip ?_
    refine hN3 _ _ ?_
    refine bnd H (fun s8 hs8 H => ?_)
    refine seq_reg (fun K10 hK10 => ?_)
    refine stq hf rfl rfl rfl (ex_move hf rfl) (fun a hf => ?_)
    refine stepF hf rfl rfl rfl (ex_call cf_13 hf rfl) (law36_Table.calls k a0 v0 (hs.enter (.k .nil)) (Sr.old hr hs (.k .nil) (i := 0) rfl (fun _ h => h) (fun _ h => h) (Sr.nil _ _)) hs8) (fun v w hR a hf => ?_)
    obtain ⟨v9, rfl, hs'⟩ := hR
    replace hs := hs.step (.k .nil) hs'
    clear hs'
    refine stq hf rfl rfl rfl (ex_assign hf rfl) (fun a hf => ?_)
    refine hK10 _ _ ?_
    refine ck_some H (fun hc12 H => ?_)
    refine seq_reg (fun K14 hK14 => ?_)
    refine stepV hf rfl rfl rfl (er_buildSlice (K := K_api_OperatingPoint) (xs := ([] : List OperatingPoint)) hs Try.underlying22 ep_25 rfl rfl hf rfl .nil rfl rfl) (fun v11 w hs a hf => ?_)
    refine stq hf rfl rfl rfl (ex_move hf rfl) (fun a hf => ?_)
    refine stepV hf rfl rfl rfl (er_append (K := K_api_OperatingPoint) hs (.c (.k (.k .nil))) (osl_rsl _ (hs.get (i := 1) rfl)) rfl Try.underlying22 ep_25 hc12 rfl hf rfl rfl) (fun v13 w hs a hf => ?_)
    refine stq hf rfl rfl rfl (ex_assign hf rfl) (fun a hf => ?_)
    refine hK14 _ _ ?_
    refine seq_n (fun Q15 hN15 hR15 hX15 => ?_)
    refine bnd H (fun s16 hs16 H => ?_)
    refine ck_some H (fun hc17 H => ?_)
    refine region_d fol 6 [(0, v0), (1, .int .u64 a1), (2, .int .i64 a2), (7, .pointer (some ⟨b1, 0, none⟩)), (9, v9), (10, v13)] [(0, v13), (1, .int .i64 a2), (2, v13), (3, .int .i64 ((([] : List OperatingPoint) ++ s8).length : Int)), (5, .agg #[.int .u64 a3.Frequency, .int .u64 a3.Voltage, .int .u64 a3.Power])] [4] (fun w => (osl K_api_OperatingPoint v13 (([] : List OperatingPoint) ++ s8)).ok w ∧ (bx b1 25 [.int .u64 a3.Frequency, .int .u64 a3.Voltage, .int .u64 a3.Power]).ok w ∧ True) (fun w => St M w0 w [osl K_api_OperatingPoint v13 (([] : List OperatingPoint) ++ s8), osl K_api_OperatingPoint v9 s8, bx b1 25 [.int .u64 a3.Frequency, .int .u64 a3.Voltage, .int .u64 a3.Power]]) hf ⟨rfl, rfl, rfl, rfl, rfl, rfl, trivial⟩ (by kernel_rfl) (by kernel_rfl) rfl (by decide) ⟨hs.drew.get (i := 0) rfl, hs.drew.get (i := 2) rfl, trivial⟩ hs.drew (.cons (⟨_, _, rfl, rfl, rfl, rfl, fun a w hR hf => .inl ⟨wanted_yes hf rfl, ex_move hf rfl⟩⟩) (.cons (⟨_, _, rfl, rfl, rfl, rfl, fun a w hR hf => .inl ⟨wanted_yes hf rfl, ex_move hf rfl⟩⟩) (.cons (⟨_, _, rfl, rfl, rfl, rfl, fun a w hR hf => .inl ⟨wanted_yes hf rfl, ex_move hf rfl⟩⟩) (.cons (⟨_, _, rfl, rfl, rfl, rfl, fun a w hR hf => .inl ⟨wanted_yes hf rfl, ex_lenS Try.underlying22 (rsl_isSl (osl_rsl _ hR.1)) hf rfl⟩⟩) (.cons (⟨_, _, rfl, rfl, rfl, rfl, fun a w hR hf => .inl ⟨wanted_yes hf rfl, ex_loadA (cs := [.int .u64 a3.Frequency, .int .u64 a3.Voltage, .int .u64 a3.Power]) ag_25 hf rfl (bx_cells (hR.2.1) rfl)⟩⟩) (.nil)))))) (fun K18 hK18 => ?_)
    refine RW.one 4 (by kernel_rfl) (by kernel_rfl) rfl (fun d hd => by cases hd; rfl) [(31, .int .i64 a2), (33, .int .i64 ((([] : List OperatingPoint) ++ s8).length : Int))] ⟨rfl, rfl, trivial⟩ (fun a w hR hs hf => ⟨wanted_yes hf rfl, ?_⟩)
    refine estep_f (ex_call cf_14 hf rfl) (help_Mod.calls k a2 ((([] : List OperatingPoint) ++ s8).length : Int) (hs.enter (.k (.k (.k .nil)))) (Sr.nil _ _) hs16) (fun v w hR => ?_)
    obtain ⟨rfl, hs'⟩ := hR
    replace hs := hs.step (.k (.k (.k .nil))) hs'
    clear hs'
    refine ⟨[], [(4, .int .i64 s16), (0, v13), (1, .int .i64 a2), (2, v13), (3, .int .i64 ((([] : List OperatingPoint) ++ s8).length : Int)), (5, .agg #[.int .u64 a3.Frequency, .int .u64 a3.Voltage, .int .u64 a3.Power])], [], (fun _ => True), (fun w => St M w0 w [osl K_api_OperatingPoint v13 (([] : List OperatingPoint) ++ s8), osl K_api_OperatingPoint v9 s8, bx b1 25 [.int .u64 a3.Frequency, .int .u64 a3.Voltage, .int .u64 a3.Power]]), rfl, rfl, ⟨hs.get (i := 0) rfl, hs.get (i := 2) rfl, trivial⟩, trivial, hs, (by kernel_rfl), .nil, ?_⟩
    refine RW.zero (by kernel_rfl) (by kernel_rfl) [(0, v0), (1, .int .u64 a1), (9, v9), (10, v13), (30, v13), (34, .int .i64 s16), (35, .agg #[.int .u64 a3.Frequency, .int .u64 a3.Voltage, .int .u64 a3.Power])] ⟨rfl, rfl, rfl, rfl, rfl, rfl, rfl, trivial⟩ (fun a w hR hs hf => ?_)
    refine stq hf rfl rfl rfl (ex_indexAddr sa_22 (rsl_isSl (osl_rsl _ (hs.get (i := 0) rfl))) hc17.1 hc17.2 hf rfl rfl) (fun a hf => ?_)
    refine stepS hf rfl rfl (er_storeX (K := K_api_OperatingPoint) (x' := a3) (vs := [.int .u64 a3.Frequency, .int .u64 a3.Voltage, .int .u64 a3.Power]) hs (.c (.k (.k .nil))) hc17.1 hc17.2 hf rfl rfl sz_25 rfl) (fun w hs => ?_)
    refine hK18 _ _ ?_
    refine hN15 _ _ ?_
    refine bnd H (fun x19 H19 HO19 => ?_)
    clear H
    refine seq_cut (fun a w => ∃ (x19s : Unit), x19 = .go x19s ∧ Fr a 97 [] ∧ St M w0 w []) (fun Q19 hJ19 hR19 hX19 => ?_) (fun a w hJ => ?_)
    · replace H := H19
      refine seq_reg (fun K20 hK20 => ?_)
      refine stq hf rfl rfl rfl (ex_move hf rfl) (fun a hf => ?_)
      refine stq hf rfl rfl rfl (ex_move hf rfl) (fun a hf => ?_)
      refine stq hf rfl rfl rfl (ex_move hf rfl) (fun a hf => ?_)
      refine stq hf rfl rfl rfl (ex_buildA (cs := [v0, v9, v13]) ba_29 hf rfl (.cons (CL.one (IsSl.one (rsl_isSl (hr.now hs (i := 0) rfl)))) (.cons (CL.one (IsSl.one (rsl_isSl (osl_rsl _ (hs.get (i := 1) rfl))))) (.cons (CL.one (IsSl.one (rsl_isSl (osl_rsl _ (hs.get (i := 0) rfl))))) .nil))) rfl) (fun a hf => ?_)
      refine stq hf rfl rfl rfl (ex_move hf rfl) (fun a hf => ?_)
      refine hK20 _ _ ?_
      refine block_k (fun Q21 hN21 hR21 hX21 hY21 => ?_)
      refine loop_k (fun n a w => ∃ (y22 : Int), Fr a 97 [(1, .int .u64 a1), (40, .agg #[v0, v9, v13]), (41, .int .i64 y22)] ∧ St M w0 w [osl K_api_OperatingPoint v9 s8, osl K_api_OperatingPoint v13 ((([] : List OperatingPoint) ++ s8).set s16.toNat a3)] ∧ law36_PerfCheckAgrees.l1 n a0 a1 s8 s16 a3 y22 = some x19) k ?_ (fun n24 a w hI Q24 hL24 hR24 hX24 => ?_)
      · -- at the start
        replace hs := hs.keep (.k (.k (.d .nil)))
        replace hs := hs.pick (.k (.c .nil))
        exact ⟨0, hf.sub ⟨rfl, rfl, rfl, trivial⟩, hs, H⟩
      · obtain ⟨y22, hf, hs, H⟩ := hI
        cases n24 with
        | zero => exact absurd H (by rw [law36_PerfCheckAgrees.l1.eq_1]; intro h; cases h)
        | succ k24 =>
          replace H := (law36_PerfCheckAgrees.l1.eq_2 ..).symm.trans H
          refine seq_reg (fun K25 hK25 => ?_)
          refine stq hf rfl rfl rfl (ex_lss hf rfl rfl) (fun a hf => ?_)
          refine hK25 _ _ ?_
          refine seq_n (fun Q26 hN26 hR26 hX26 => ?_)
          refine itt H (fun hc27 H => ?_) (fun hc27 H => ?_)
          · -- y22 < 3
            replace hf := hf.castB (t := 42) rfl (dec_t hc27)
            refine cond_T hf rfl ?_
            refine wp_skip ?_
            refine hN26 _ _ ?_
            refine bnd H (fun x28 H28 HO28 => ?_)
            clear H
            refine seq_cut (fun a w => ∃ (x28s : Unit), x28 = .go x28s ∧ Fr a 97 [(1, .int .u64 a1), (40, .agg #[v0, v9, v13]), (41, .int .i64 y22)] ∧ St M w0 w [osl K_api_OperatingPoint v9 s8, osl K_api_OperatingPoint v13 ((([] : List OperatingPoint) ++ s8).set s16.toNat a3)]) (fun Q28 hJ28 hR28 hX28 => ?_) (fun a w hJ => ?_)
            · replace H := H28
              refine block_k (fun Q29 hN29 hR29 hX29 hY29 => ?_)
              refine itt H (fun hc30 H => ?_) (fun hc30 H => ?_)
              · -- y22 = 0
                refine seq_reg (fun K31 hK31 => ?_)
                refine stq hf rfl rfl rfl (ex_indexC (cs := [v0, v9, v13]) 0 ia_29 sc_22 hc30 (by decide) hf rfl rfl rfl) (fun a hf => ?_)
                refine stq hf rfl rfl rfl (ex_assign hf rfl) (fun a hf => ?_)
                refine hK31 _ _ ?_
                refine bnd H (fun s32 hs32 H => ?_)
                refine seq_reg (fun K33 hK33 => ?_)
                refine stq hf rfl rfl rfl (ex_move hf rfl) (fun a hf => ?_)
                refine stq hf rfl rfl rfl (ex_move hf rfl) (fun a hf => ?_)
                refine stq hf rfl rfl rfl (ex_rem hf rfl rfl (by decide)) (fun a hf => ?_)
                refine stepF hf rfl rfl rfl (ex_call cf_15 hf rfl) (perf_Find.calls k24 a0 (Int.tmod a1 1000) v0 (hs.enter (.k (.k .nil))) (Sr.old hr hs (.k (.k .nil)) (i := 0) rfl (fun _ h => h) (fun _ h => h) (Sr.nil _ _)) hs32) (fun v w hR a hf => ?_)
                obtain ⟨rfl, hs'⟩ := hR
                replace hs := hs.step (.k (.k .nil)) hs'
                clear hs'
                refine stq hf rfl rfl rfl (ex_move hf rfl) (fun a hf => ?_)
                refine stq hf rfl rfl rfl (ex_extract hf rfl rfl) (fun a hf => ?_)
                refine stq hf rfl rfl rfl (ex_extract hf rfl rfl) (fun a hf => ?_)
                refine stq hf rfl rfl rfl (ex_assign hf rfl) (fun a hf => ?_)
                refine stq hf rfl rfl rfl (ex_assign hf rfl) (fun a hf => ?_)
                refine hK33 _ _ ?_
                refine bnd H (fun s34 hs34 H => ?_)
                refine seq_reg (fun K35 hK35 => ?_)
                refine stq hf rfl rfl rfl (ex_move hf rfl) (fun a hf => ?_)
                refine stq hf rfl rfl rfl (ex_move hf rfl) (fun a hf => ?_)
                refine stq hf rfl rfl rfl (ex_rem hf rfl rfl (by decide)) (fun a hf => ?_)
                refine stepF hf rfl rfl rfl (ex_call cf_16 hf rfl) (ref36_Find.calls k24 a0 (Int.tmod a1 1000) v0 (hs.enter (.k (.k .nil))) (Sr.old hr hs (.k (.k .nil)) (i := 0) rfl (fun _ h => h) (fun _ h => h) (Sr.nil _ _)) hs34) (fun v w hR a hf => ?_)
                obtain ⟨rfl, hs'⟩ := hR
                replace hs := hs.step (.k (.k .nil)) hs'
                clear hs'
                refine stq hf rfl rfl rfl (ex_move hf rfl) (fun a hf => ?_)
                refine stq hf rfl rfl rfl (ex_extract hf rfl rfl) (fun a hf => ?_)
                refine stq hf rfl rfl rfl (ex_extract hf rfl rfl) (fun a hf => ?_)
                refine stq hf rfl rfl rfl (ex_assign hf rfl) (fun a hf => ?_)
                refine stq hf rfl rfl rfl (ex_assign hf rfl) (fun a hf => ?_)
                refine hK35 _ _ ?_
                refine bnd H (fun s36 hs36 H => ?_)
                refine seq_reg (fun K37 hK37 => ?_)
                refine stq hf rfl rfl rfl (ex_move hf rfl) (fun a hf => ?_)
                refine stq hf rfl rfl rfl (ex_move hf rfl) (fun a hf => ?_)
                refine stepF hf rfl rfl rfl (ex_call cf_15 hf rfl) (perf_Find.calls k24 a0 a1 v0 (hs.enter (.k (.k .nil))) (Sr.old hr hs (.k (.k .nil)) (i := 0) rfl (fun _ h => h) (fun _ h => h) (Sr.nil _ _)) hs36) (fun v w hR a hf => ?_)
                obtain ⟨rfl, hs'⟩ := hR
                replace hs := hs.step (.k (.k .nil)) hs'
                clear hs'
                refine stq hf rfl rfl rfl (ex_move hf rfl) (fun a hf => ?_)
                refine stq hf rfl rfl rfl (ex_extract hf rfl rfl) (fun a hf => ?_)
                refine stq hf rfl rfl rfl (ex_extract hf rfl rfl) (fun a hf => ?_)
                refine stq hf rfl rfl rfl (ex_assign hf rfl) (fun a hf => ?_)
                refine stq hf rfl rfl rfl (ex_assign hf rfl) (fun a hf => ?_)
                refine hK37 _ _ ?_
                refine bnd H (fun s38 hs38 H => ?_)
                refine seq_reg (fun K39 hK39 => ?_)
                refine stq hf rfl rfl rfl (ex_move hf rfl) (fun a hf => ?_)
                refine stq hf rfl rfl rfl (ex_move hf rfl) (fun a hf => ?_)
                refine stepF hf rfl rfl rfl (ex_call cf_16 hf rfl) (ref36_Find.calls k24 a0 a1 v0 (hs.enter (.k (.k .nil))) (Sr.old hr hs (.k (.k .nil)) (i := 0) rfl (fun _ h => h) (fun _ h => h) (Sr.nil _ _)) hs38) (fun v w hR a hf => ?_)
                obtain ⟨rfl, hs'⟩ := hR
                replace hs := hs.step (.k (.k .nil)) hs'
                clear hs'
                refine stq hf rfl rfl rfl (ex_move hf rfl) (fun a hf => ?_)
                refine stq hf rfl rfl rfl (ex_extract hf rfl rfl) (fun a hf => ?_)
                refine stq hf rfl rfl rfl (ex_extract hf rfl rfl) (fun a hf => ?_)
                refine stq hf rfl rfl rfl (ex_assign hf rfl) (fun a hf => ?_)
                refine stq hf rfl rfl rfl (ex_assign hf rfl) (fun a hf => ?_)
                refine hK39 _ _ ?_
                refine bnd H (fun x40 H40 HO40 => ?_)
                clear H
                refine seq_cut (fun a w => Fr a 97 [(1, .int .u64 a1), (40, .agg #[v0, v9, v13]), (41, .int .i64 y22), (94, .bool x40)] ∧ St M w0 w [osl K_api_OperatingPoint v9 s8, osl K_api_OperatingPoint v13 ((([] : List OperatingPoint) ++ s8).set s16.toNat a3)]) (fun Q40 hJ40 hR40 hX40 => ?_) (fun a w hJ => ?_)
                · replace H := H40
                  refine bnd H (fun s41 hs41 H => ?_)
                  refine bnd H (fun s42 hs42 H => ?_)
                  refine itt H (fun hc43 H => ?_) (fun hc43 H => ?_)
                  · -- s41 = s42
                    refine itt H (fun hc44 H => ?_) (fun hc44 H => ?_)
                    · -- s32.1 = s34.1
                      refine itt H (fun hc45 H => ?_) (fun hc45 H => ?_)
                      · -- s32.2 = s34.2
                        refine itt H (fun hc46 H => ?_) (fun hc46 H => ?_)
                        · -- s36.1 = s38.1
                          refine region_k (fun K47 hK47 => ?_)
                          refine stq hf rfl rfl rfl (ex_move hf rfl) (fun a hf => ?_)
                          refine stepF hf rfl rfl rfl (ex_call cf_17 hf rfl) (perf_Check.calls k24 a0 v0 (hs.enter (.k (.k .nil))) (Sr.old hr hs (.k (.k .nil)) (i := 0) rfl (fun _ h => h) (fun _ h => h) (Sr.nil _ _)) hs41) (fun v w hR a hf => ?_)
                          obtain ⟨rfl, hs'⟩ := hR
                          replace hs := hs.step (.k (.k .nil)) hs'
                          clear hs'
                          refine stq hf rfl rfl rfl (ex_move hf rfl) (fun a hf => ?_)
                          refine stepF hf rfl rfl rfl (ex_call cf_18 hf rfl) (ref36_Check.calls k24 a0 v0 (hs.enter (.k (.k .nil))) (Sr.old hr hs (.k (.k .nil)) (i := 0) rfl (fun _ h => h) (fun _ h => h) (Sr.nil _ _)) hs42) (fun v w hR a hf => ?_)
                          obtain ⟨rfl, hs'⟩ := hR
                          replace hs := hs.step (.k (.k .nil)) hs'
                          clear hs'
                          refine stq hf rfl rfl rfl (ex_neq hf rfl rfl) (fun a hf => ?_)
                          refine stq hf rfl rfl rfl (ex_move hf rfl) (fun a hf => ?_)
                          replace hf := hf.castB (t := 74) rfl (ndec_f hc43)
                          replace hf := hf.castB (t := 75) rfl (ndec_f hc43)
                          refine stq hf rfl rfl rfl (ex_move hf rfl) (fun a hf => ?_)
                          refine stq hf rfl rfl rfl (ex_move hf rfl) (fun a hf => ?_)
                          refine stq hf rfl rfl rfl (ex_neq hf rfl rfl) (fun a hf => ?_)
                          refine stq hf rfl rfl rfl (ex_pickF hf rfl rfl) (fun a hf => ?_)
                          refine stq hf rfl rfl rfl (ex_move hf rfl) (fun a hf => ?_)
                          replace hf := hf.castB (t := 78) rfl (ndec_f hc44)
                          replace hf := hf.castB (t := 79) rfl (ndec_f hc44)
                          replace hf := hf.castB (t := 80) rfl (ndec_f hc44)
                          refine stq hf rfl rfl rfl (ex_move hf rfl) (fun a hf => ?_)
                          refine stq hf rfl rfl rfl (ex_move hf rfl) (fun a hf => ?_)
                          refine stq hf rfl rfl rfl (ex_neq hf rfl rfl) (fun a hf => ?_)
                          refine stq hf rfl rfl rfl (ex_pickF hf rfl rfl) (fun a hf => ?_)
                          refine stq hf rfl rfl rfl (ex_move hf rfl) (fun a hf => ?_)
                          replace hf := hf.castB (t := 83) rfl (ndec_f hc45)
                          replace hf := hf.castB (t := 84) rfl (ndec_f hc45)
                          replace hf := hf.castB (t := 85) rfl (ndec_f hc45)
                          refine stq hf rfl rfl rfl (ex_move hf rfl) (fun a hf => ?_)
                          refine stq hf rfl rfl rfl (ex_move hf rfl) (fun a hf => ?_)
                          refine stq hf rfl rfl rfl (ex_neq hf rfl rfl) (fun a hf => ?_)
                          refine stq hf rfl rfl rfl (ex_pickF hf rfl rfl) (fun a hf => ?_)
                          refine stq hf rfl rfl rfl (ex_move hf rfl) (fun a hf => ?_)
                          replace hf := hf.castB (t := 88) rfl (ndec_f hc46)
                          replace hf := hf.castB (t := 89) rfl (ndec_f hc46)
                          replace hf := hf.castB (t := 90) rfl (ndec_f hc46)
                          refine stq hf rfl rfl rfl (ex_move hf rfl) (fun a hf => ?_)
                          refine stq hf rfl rfl rfl (ex_move hf rfl) (fun a hf => ?_)
                          refine stq hf rfl rfl rfl (ex_neq hf rfl rfl) (fun a hf => ?_)
                          refine stq hf rfl rfl rfl (ex_pickF hf rfl rfl) (fun a hf => ?_)
                          refine hK47 _ _ ?_
                          have e40 := some_eq H; subst e40
                          exact hJ40 _ _ ⟨hf.sub ⟨rfl, rfl, rfl, rfl, trivial⟩, hs⟩
                        · -- not s36.1 = s38.1
                          refine region_k (fun K48 hK48 => ?_)
                          refine stq hf rfl rfl rfl (ex_move hf rfl) (fun a hf => ?_)
                          refine stepF hf rfl rfl rfl (ex_call cf_17 hf rfl) (perf_Check.calls k24 a0 v0 (hs.enter (.k (.k .nil))) (Sr.old hr hs (.k (.k .nil)) (i := 0) rfl (fun _ h => h) (fun _ h => h) (Sr.nil _ _)) hs41) (fun v w hR a hf => ?_)
                          obtain ⟨rfl, hs'⟩ := hR
                          replace hs := hs.step (.k (.k .nil)) hs'
                          clear hs'
                          refine stq hf rfl rfl rfl (ex_move hf rfl) (fun a hf => ?_)
                          refine stepF hf rfl rfl rfl (ex_call cf_18 hf rfl) (ref36_Check.calls k24 a0 v0 (hs.enter (.k (.k .nil))) (Sr.old hr hs (.k (.k .nil)) (i := 0) rfl (fun _ h => h) (fun _ h => h) (Sr.nil _ _)) hs42) (fun v w hR a hf => ?_)
                          obtain ⟨rfl, hs'⟩ := hR
                          replace hs := hs.step (.k (.k .nil)) hs'
                          clear hs'
                          refine stq hf rfl rfl rfl (ex_neq hf rfl rfl) (fun a hf => ?_)
                          refine stq hf rfl rfl rfl (ex_move hf rfl) (fun a hf => ?_)
                          replace hf := hf.castB (t := 74) rfl (ndec_f hc43)
                          replace hf := hf.castB (t := 75) rfl (ndec_f hc43)
                          refine stq hf rfl rfl rfl (ex_move hf rfl) (fun a hf => ?_)
                          refine stq hf rfl rfl rfl (ex_move hf rfl) (fun a hf => ?_)
                          refine stq hf rfl rfl rfl (ex_neq hf rfl rfl) (fun a hf => ?_)
                          refine stq hf rfl rfl rfl (ex_pickF hf rfl rfl) (fun a hf => ?_)
                          refine stq hf rfl rfl rfl (ex_move hf rfl) (fun a hf => ?_)
                          replace hf := hf.castB (t := 78) rfl (ndec_f hc44)
                          replace hf := hf.castB (t := 79) rfl (ndec_f hc44)
                          replace hf := hf.castB (t := 80) rfl (ndec_f hc44)
                          refine stq hf rfl rfl rfl (ex_move hf rfl) (fun a hf => ?_)
                          refine stq hf rfl rfl rfl (ex_move hf rfl) (fun a hf => ?_)
                          refine stq hf rfl rfl rfl (ex_neq hf rfl rfl) (fun a hf => ?_)
                          refine stq hf rfl rfl rfl (ex_pickF hf rfl rfl) (fun a hf => ?_)
                          refine stq hf rfl rfl rfl (ex_move hf rfl) (fun a hf => ?_)
                          replace hf := hf.castB (t := 83) rfl (ndec_f hc45)
                          replace hf := hf.castB (t := 84) rfl (ndec_f hc45)
                          replace hf := hf.castB (t := 85) rfl (ndec_f hc45)
                          refine stq hf rfl rfl rfl (ex_move hf rfl) (fun a hf => ?_)
                          refine stq hf rfl rfl rfl (ex_move hf rfl) (fun a hf => ?_)
                          refine stq hf rfl rfl rfl (ex_neq hf rfl rfl) (fun a hf => ?_)
                          refine stq hf rfl rfl rfl (ex_pickF hf rfl rfl) (fun a hf => ?_)
                          refine stq hf rfl rfl rfl (ex_move hf rfl) (fun a hf => ?_)
                          replace hf := hf.castB (t := 88) rfl (ndec_t hc46)
                          replace hf := hf.castB (t := 89) rfl (ndec_t hc46)
                          replace hf := hf.castB (t := 90) rfl (ndec_t hc46)
                          refine stepN hf rfl rfl rfl (fun a hf => ?_)
                          refine stepN hf rfl rfl rfl (fun a hf => ?_)
                          refine stepN hf rfl rfl rfl (fun a hf => ?_)
                          refine stq hf rfl rfl rfl (ex_pickT hf rfl rfl) (fun a hf => ?_)
                          refine hK48 _ _ ?_
                          have e40 := some_eq H; subst e40
                          exact hJ40 _ _ ⟨hf.sub ⟨rfl, rfl, rfl, rfl, trivial⟩, hs⟩
                      · -- not s32.2 = s34.2
                        refine region_k (fun K49 hK49 => ?_)
                        refine stq hf rfl rfl rfl (ex_move hf rfl) (fun a hf => ?_)
                        refine stepF hf rfl rfl rfl (ex_call cf_17 hf rfl) (perf_Check.calls k24 a0 v0 (hs.enter (.k (.k .nil))) (Sr.old hr hs (.k (.k .nil)) (i := 0) rfl (fun _ h => h) (fun _ h => h) (Sr.nil _ _)) hs41) (fun v w hR a hf => ?_)
                        obtain ⟨rfl, hs'⟩ := hR
                        replace hs := hs.step (.k (.k .nil)) hs'
                        clear hs'
                        refine stq hf rfl rfl rfl (ex_move hf rfl) (fun a hf => ?_)
                        refine stepF hf rfl rfl rfl (ex_call cf_18 hf rfl) (ref36_Check.calls k24 a0 v0 (hs.enter (.k (.k .nil))) (Sr.old hr hs (.k (.k .nil)) (i := 0) rfl (fun _ h => h) (fun _ h => h) (Sr.nil _ _)) hs42) (fun v w hR a hf => ?_)
                        obtain ⟨rfl, hs'⟩ := hR
                        replace hs := hs.step (.k (.k .nil)) hs'
                        clear hs'
                        refine stq hf rfl rfl rfl (ex_neq hf rfl rfl) (fun a hf => ?_)
                        refine stq hf rfl rfl rfl (ex_move hf rfl) (fun a hf => ?_)
                        replace hf := hf.castB (t := 74) rfl (ndec_f hc43)
                        replace hf := hf.castB (t := 75) rfl (ndec_f hc43)
                        refine stq hf rfl rfl rfl (ex_move hf rfl) (fun a hf => ?_)
                        refine stq hf rfl rfl rfl (ex_move hf rfl) (fun a hf => ?_)
                        refine stq hf rfl rfl rfl (ex_neq hf rfl rfl) (fun a hf => ?_)
                        refine stq hf rfl rfl rfl (ex_pickF hf rfl rfl) (fun a hf => ?_)
                        refine stq hf rfl rfl rfl (ex_move hf rfl) (fun a hf => ?_)
                        replace hf := hf.castB (t := 78) rfl (ndec_f hc44)
                        replace hf := hf.castB (t := 79) rfl (ndec_f hc44)
                        replace hf := hf.castB (t := 80) rfl (ndec_f hc44)
                        refine stq hf rfl rfl rfl (ex_move hf rfl) (fun a hf => ?_)
                        refine stq hf rfl rfl rfl (ex_move hf rfl) (fun a hf => ?_)
                        refine stq hf rfl rfl rfl (ex_neq hf rfl rfl) (fun a hf => ?_)
                        refine stq hf rfl rfl rfl (ex_pickF hf rfl rfl) (fun a hf => ?_)
                        refine stq hf rfl rfl rfl (ex_move hf rfl) (fun a hf => ?_)
                        replace hf := hf.castB (t := 83) rfl (ndec_t hc45)
                        replace hf := hf.castB (t := 84) rfl (ndec_t hc45)
                        replace hf := hf.castB (t := 85) rfl (ndec_t hc45)
                        refine stepN hf rfl rfl rfl (fun a hf => ?_)
                        refine stepN hf rfl rfl rfl (fun a hf => ?_)
                        refine stepN hf rfl rfl rfl (fun a hf => ?_)
                        refine stq hf rfl rfl rfl (ex_pickT hf rfl rfl) (fun a hf => ?_)
                        refine stq hf rfl rfl rfl (ex_move hf rfl) (fun a hf => ?_)
                        refine stepN hf rfl rfl rfl (fun a hf => ?_)
                        refine stepN hf rfl rfl rfl (fun a hf => ?_)
                        refine stepN hf rfl rfl rfl (fun a hf => ?_)
                        refine stq hf rfl rfl rfl (ex_pickT hf rfl rfl) (fun a hf => ?_)
                        refine hK49 _ _ ?_
                        have e40 := some_eq H; subst e40
                        exact hJ40 _ _ ⟨hf.sub ⟨rfl, rfl, rfl, rfl, trivial⟩, hs⟩
                    · -- not s32.1 = s34.1
                      refine region_k (fun K50 hK50 => ?_)
                      refine stq hf rfl rfl rfl (ex_move hf rfl) (fun a hf => ?_)
                      refine stepF hf rfl rfl rfl (ex_call cf_17 hf rfl) (perf_Check.calls k24 a0 v0 (hs.enter (.k (.k .nil))) (Sr.old hr hs (.k (.k .nil)) (i := 0) rfl (fun _ h => h) (fun _ h => h) (Sr.nil _ _)) hs41) (fun v w hR a hf => ?_)
                      obtain ⟨rfl, hs'⟩ := hR
                      replace hs := hs.step (.k (.k .nil)) hs'
                      clear hs'
                      refine stq hf rfl rfl rfl (ex_move hf rfl) (fun a hf => ?_)
                      refine stepF hf rfl rfl rfl (ex_call cf_18 hf rfl) (ref36_Check.calls k24 a0 v0 (hs.enter (.k (.k .nil))) (Sr.old hr hs (.k (.k .nil)) (i := 0) rfl (fun _ h => h) (fun _ h => h) (Sr.nil _ _)) hs42) (fun v w hR a hf => ?_)
                      obtain ⟨rfl, hs'⟩ := hR
                      replace hs := hs.step (.k (.k .nil)) hs'
                      clear hs'
                      refine stq hf rfl rfl rfl (ex_neq hf rfl rfl) (fun a hf => ?_)
                      refine stq hf rfl rfl rfl (ex_move hf rfl) (fun a hf => ?_)
                      replace hf := hf.castB (t := 74) rfl (ndec_f hc43)
                      replace hf := hf.castB (t := 75) rfl (ndec_f hc43)
                      refine stq hf rfl rfl rfl (ex_move hf rfl) (fun a hf => ?_)
                      refine stq hf rfl rfl rfl (ex_move hf rfl) (fun a hf => ?_)
                      refine stq hf rfl rfl rfl (ex_neq hf rfl rfl) (fun a hf => ?_)
                      refine stq hf rfl rfl rfl (ex_pickF hf rfl rfl) (fun a hf => ?_)
                      refine stq hf rfl rfl rfl (ex_move hf rfl) (fun a hf => ?_)
                      replace hf := hf.castB (t := 78) rfl (ndec_t hc44)
                      replace hf := hf.castB (t := 79) rfl (ndec_t hc44)
                      replace hf := hf.castB (t := 80) rfl (ndec_t hc44)
                      refine stepN hf rfl rfl rfl (fun a hf => ?_)
                      refine stepN hf rfl rfl rfl (fun a hf => ?_)
                      refine stepN hf rfl rfl rfl (fun a hf => ?_)
                      refine stq hf rfl rfl rfl (ex_pickT hf rfl rfl) (fun a hf => ?_)
                      refine stq hf rfl rfl rfl (ex_move hf rfl) (fun a hf => ?_)
                      refine stepN hf rfl rfl rfl (fun a hf => ?_)
                      refine stepN hf rfl rfl rfl (fun a hf => ?_)
                      refine stepN hf rfl rfl rfl (fun a hf => ?_)
                      refine stq hf rfl rfl rfl (ex_pickT hf rfl rfl) (fun a hf => ?_)
                      refine stq hf rfl rfl rfl (ex_move hf rfl) (fun a hf => ?_)
                      refine stepN hf rfl rfl rfl (fun a hf => ?_)
                      refine stepN hf rfl rfl rfl (fun a hf => ?_)
                      refine stepN hf rfl rfl rfl (fun a hf => ?_)
                      refine stq hf rfl rfl rfl (ex_pickT hf rfl rfl) (fun a hf => ?_)
                      refine hK50 _ _ ?_
                      have e40 := some_eq H; subst e40
                      exact hJ40 _ _ ⟨hf.sub ⟨rfl, rfl, rfl, rfl, trivial⟩, hs⟩
                  · -- not s41 = s42
                    refine region_k (fun K51 hK51 => ?_)
                    refine stq hf rfl rfl rfl (ex_move hf rfl) (fun a hf => ?_)
                    refine stepF hf rfl rfl rfl (ex_call cf_17 hf rfl) (perf_Check.calls k24 a0 v0 (hs.enter (.k (.k .nil))) (Sr.old hr hs (.k (.k .nil)) (i := 0) rfl (fun _ h => h) (fun _ h => h) (Sr.nil _ _)) hs41) (fun v w hR a hf => ?_)
                    obtain ⟨rfl, hs'⟩ := hR
                    replace hs := hs.step (.k (.k .nil)) hs'
                    clear hs'
                    refine stq hf rfl rfl rfl (ex_move hf rfl) (fun a hf => ?_)
                    refine stepF hf rfl rfl rfl (ex_call cf_18 hf rfl) (ref36_Check.calls k24 a0 v0 (hs.enter (.k (.k .nil))) (Sr.old hr hs (.k (.k .nil)) (i := 0) rfl (fun _ h => h) (fun _ h => h) (Sr.nil _ _)) hs42) (fun v w hR a hf => ?_)
                    obtain ⟨rfl, hs'⟩ := hR
                    replace hs := hs.step (.k (.k .nil)) hs'
                    clear hs'
                    refine stq hf rfl rfl rfl (ex_neq hf rfl rfl) (fun a hf => ?_)
                    refine stq hf rfl rfl rfl (ex_move hf rfl) (fun a hf => ?_)
                    replace hf := hf.castB (t := 74) rfl (ndec_t hc43)
                    replace hf := hf.castB (t := 75) rfl (ndec_t hc43)
                    refine stepN hf rfl rfl rfl (fun a hf => ?_)
                    refine stepN hf rfl rfl rfl (fun a hf => ?_)
                    refine stepN hf rfl rfl rfl (fun a hf => ?_)
                    refine stq hf rfl rfl rfl (ex_pickT hf rfl rfl) (fun a hf => ?_)
                    refine stq hf rfl rfl rfl (ex_move hf rfl) (fun a hf => ?_)
                    refine stepN hf rfl rfl rfl (fun a hf => ?_)
                    refine stepN hf rfl rfl rfl (fun a hf => ?_)
                    refine stepN hf rfl rfl rfl (fun a hf => ?_)
                    refine stq hf rfl rfl rfl (ex_pickT hf rfl rfl) (fun a hf => ?_)
                    refine stq hf rfl rfl rfl (ex_move hf rfl) (fun a hf => ?_)
                    refine stepN hf rfl rfl rfl (fun a hf => ?_)
                    refine stepN hf rfl rfl rfl (fun a hf => ?_)
                    refine stepN hf rfl rfl rfl (fun a hf => ?_)
                    refine stq hf rfl rfl rfl (ex_pickT hf rfl rfl) (fun a hf => ?_)
                    refine stq hf rfl rfl rfl (ex_move hf rfl) (fun a hf => ?_)
                    refine stepN hf rfl rfl rfl (fun a hf => ?_)
                    refine stepN hf rfl rfl rfl (fun a hf => ?_)
                    refine stepN hf rfl rfl rfl (fun a hf => ?_)
                    refine stq hf rfl rfl rfl (ex_pickT hf rfl rfl) (fun a hf => ?_)
                    refine hK51 _ _ ?_
                    have e40 := some_eq H; subst e40
                    exact hJ40 _ _ ⟨hf.sub ⟨rfl, rfl, rfl, rfl, trivial⟩, hs⟩
                · obtain ⟨hf, hs⟩ := hJ
                  replace H := HO40
                  clear HO40
                  refine itt H (fun hc52 H => ?_) (fun hc52 H => ?_)
                  · -- x40 = true
                    replace hf := hf.castB (t := 94) rfl hc52
                    refine cond_T hf rfl ?_
                    refine seq_reg (fun K53 hK53 => ?_)
                    refine stq hf rfl rfl rfl (ex_assign hf rfl) (fun a hf => ?_)
                    refine hK53 _ _ ?_
                    refine wp_ret ?_
                    refine hR29 _ _ ?_
                    have e28 := some_eq H; subst e28; replace H := el_rt HO28
                    refine hR28 _ _ ?_
                    refine hR24 _ _ ?_
                    refine hR21 _ _ ?_
                    have e19 := some_eq H; subst e19; replace H := el_rt HO19
                    refine hR19 _ _ ?_
                    have eR := some_eq H; subst eR
                    replace hs := hs.keep (.d (.d .nil))
                    exact ret1 Try.results3 hf rfl ⟨_, rfl, ⟨rfl, hs⟩⟩
                  · -- not x40 = true
                    replace hf := hf.castB (t := 94) rfl (bool_f hc52)
                    refine cond_F hf rfl ?_
                    refine wp_skip ?_
                    refine hN29 _ _ ?_
                    have e28 := some_eq H; subst e28
                    exact hJ28 _ _ ⟨_, rfl, hf.sub ⟨rfl, rfl, rfl, trivial⟩, hs⟩
              · -- not y22 = 0
                refine itt H (fun hc54 H => ?_) (fun hc54 H => ?_)
                · -- y22 = 1
                  refine seq_reg (fun K55 hK55 => ?_)
                  refine stq hf rfl rfl rfl (ex_indexC (cs := [v0, v9, v13]) 1 ia_29 sc_22 hc54 (by decide) hf rfl rfl rfl) (fun a hf => ?_)
                  refine stq hf rfl rfl rfl (ex_assign hf rfl) (fun a hf => ?_)
                  refine hK55 _ _ ?_
                  refine bnd H (fun s56 hs56 H => ?_)
                  refine seq_reg (fun K57 hK57 => ?_)
                  refine stq hf rfl rfl rfl (ex_move hf rfl) (fun a hf => ?_)
                  refine stq hf rfl rfl rfl (ex_move hf rfl) (fun a hf => ?_)
                  refine stq hf rfl rfl rfl (ex_rem hf rfl rfl (by decide)) (fun a hf => ?_)
                  refine stepF hf rfl rfl rfl (ex_call cf_15 hf rfl) (perf_Find.calls k24 s8 (Int.tmod a1 1000) v9 (hs.enter (.k (.k .nil))) (Sr.own hs (.k (.k .nil)) (i := 0) rfl osl_rsl (fun _ h => h.1) (Sr.nil _ _)) hs56) (fun v w hR a hf => ?_)
                  obtain ⟨rfl, hs'⟩ := hR
                  replace hs := hs.step (.k (.k .nil)) hs'
                  clear hs'
                  refine stq hf rfl rfl rfl (ex_move hf rfl) (fun a hf => ?_)
                  refine stq hf rfl rfl rfl (ex_extract hf rfl rfl) (fun a hf => ?_)
                  refine stq hf rfl rfl rfl (ex_extract hf rfl rfl) (fun a hf => ?_)
                  refine stq hf rfl rfl rfl (ex_assign hf rfl) (fun a hf => ?_)
                  refine stq hf rfl rfl rfl (ex_assign hf rfl) (fun a hf => ?_)
                  refine hK57 _ _ ?_
                  refine bnd H (fun s58 hs58 H => ?_)
                  refine seq_reg (fun K59 hK59 => ?_)
                  refine stq hf rfl rfl rfl (ex_move hf rfl) (fun a hf => ?_)
                  refine stq hf rfl rfl rfl (ex_move hf rfl) (fun a hf => ?_)
                  refine stq hf rfl rfl rfl (ex_rem hf rfl rfl (by decide)) (fun a hf => ?_)
                  refine stepF hf rfl rfl rfl (ex_call cf_16 hf rfl) (ref36_Find.calls k24 s8 (Int.tmod a1 1000) v9 (hs.enter (.k (.k .nil))) (Sr.own hs (.k (.k .nil)) (i := 0) rfl osl_rsl (fun _ h => h.1) (Sr.nil _ _)) hs58) (fun v w hR a hf => ?_)
                  obtain ⟨rfl, hs'⟩ := hR
                  replace hs := hs.step (.k (.k .nil)) hs'
                  clear hs'
                  refine stq hf rfl rfl rfl (ex_move hf rfl) (fun a hf => ?_)
                  refine stq hf rfl rfl rfl (ex_extract hf rfl rfl) (fun a hf => ?_)
                  refine stq hf rfl rfl rfl (ex_extract hf rfl rfl) (fun a hf => ?_)
                  refine stq hf rfl rfl rfl (ex_assign hf rfl) (fun a hf => ?_)
                  refine stq hf rfl rfl rfl (ex_assign hf rfl) (fun a hf => ?_)
                  refine hK59 _ _ ?_
                  refine bnd H (fun s60 hs60 H => ?_)
                  refine seq_reg (fun K61 hK61 => ?_)
                  refine stq hf rfl rfl rfl (ex_move hf rfl) (fun a hf => ?_)
                  refine stq hf rfl rfl rfl (ex_move hf rfl) (fun a hf => ?_)
                  refine stepF hf rfl rfl rfl (ex_call cf_15 hf rfl) (perf_Find.calls k24 s8 a1 v9 (hs.enter (.k (.k .nil))) (Sr.own hs (.k (.k .nil)) (i := 0) rfl osl_rsl (fun _ h => h.1) (Sr.nil _ _)) hs60) (fun v w hR a hf => ?_)
                  obtain ⟨rfl, hs'⟩ := hR
                  replace hs := hs.step (.k (.k .nil)) hs'
                  clear hs'
                  refine stq hf rfl rfl rfl (ex_move hf rfl) (fun a hf => ?_)
                  refine stq hf rfl rfl rfl (ex_extract hf rfl rfl) (fun a hf => ?_)
                  refine stq hf rfl rfl rfl (ex_extract hf rfl rfl) (fun a hf => ?_)
                  refine stq hf rfl rfl rfl (ex_assign hf rfl) (fun a hf => ?_)
                  refine stq hf rfl rfl rfl (ex_assign hf rfl) (fun a hf => ?_)
                  refine hK61 _ _ ?_
                  refine bnd H (fun s62 hs62 H => ?_)
                  refine seq_reg (fun K63 hK63 => ?_)
                  refine stq hf rfl rfl rfl (ex_move hf rfl) (fun a hf => ?_)
                  refine stq hf rfl rfl rfl (ex_move hf rfl) (fun a hf => ?_)
                  refine stepF hf rfl rfl rfl (ex_call cf_16 hf rfl) (ref36_Find.calls k24 s8 a1 v9 (hs.enter (.k (.k .nil))) (Sr.own hs (.k (.k .nil)) (i := 0) rfl osl_rsl (fun _ h => h.1) (Sr.nil _ _)) hs62) (fun v w hR a hf => ?_)
                  obtain ⟨rfl, hs'⟩ := hR
                  replace hs := hs.step (.k (.k .nil)) hs'
                  clear hs'
                  refine stq hf rfl rfl rfl (ex_move hf rfl) (fun a hf => ?_)
                  refine stq hf rfl rfl rfl (ex_extract hf rfl rfl) (fun a hf => ?_)
                  refine stq hf rfl rfl rfl (ex_extract hf rfl rfl) (fun a hf => ?_)
                  refine stq hf rfl rfl rfl (ex_assign hf rfl) (fun a hf => ?_)
                  refine stq hf rfl rfl rfl (ex_assign hf rfl) (fun a hf => ?_)
                  refine hK63 _ _ ?_
                  refine bnd H (fun x64 H64 HO64 => ?_)
                  clear H
                  refine seq_cut (fun a w => Fr a 97 [(1, .int .u64 a1), (40, .agg #[v0, v9, v13]), (41, .int .i64 y22), (94, .bool x64)] ∧ St M w0 w [osl K_api_OperatingPoint v9 s8, osl K_api_OperatingPoint v13 ((([] : List OperatingPoint) ++ s8).set s16.toNat a3)]) (fun Q64 hJ64 hR64 hX64 => ?_) (fun a w hJ => ?_)
                  · replace H := H64
                    refine bnd H (fun s65 hs65 H => ?_)
                    refine bnd H (fun s66 hs66 H => ?_)
                    refine itt H (fun hc67 H => ?_) (fun hc67 H => ?_)
                    · -- s65 = s66
                      refine itt H (fun hc68 H => ?_) (fun hc68 H => ?_)
                      · -- s56.1 = s58.1
                        refine itt H (fun hc69 H => ?_) (fun hc69 H => ?_)
                        · -- s56.2 = s58.2
                          refine itt H (fun hc70 H => ?_) (fun hc70 H => ?_)
                          · -- s60.1 = s62.1
                            refine region_k (fun K71 hK71 => ?_)
                            refine stq hf rfl rfl rfl (ex_move hf rfl) (fun a hf => ?_)
                            refine stepF hf rfl rfl rfl (ex_call cf_17 hf rfl) (perf_Check.calls k24 s8 v9 (hs.enter (.k (.k .nil))) (Sr.own hs (.k (.k .nil)) (i := 0) rfl osl_rsl (fun _ h => h.1) (Sr.nil _ _)) hs65) (fun v w hR a hf => ?_)
                            obtain ⟨rfl, hs'⟩ := hR
                            replace hs := hs.step (.k (.k .nil)) hs'
                            clear hs'
                            refine stq hf rfl rfl rfl (ex_move hf rfl) (fun a hf => ?_)
                            refine stepF hf rfl rfl rfl (ex_call cf_18 hf rfl) (ref36_Check.calls k24 s8 v9 (hs.enter (.k (.k .nil))) (Sr.own hs (.k (.k .nil)) (i := 0) rfl osl_rsl (fun _ h => h.1) (Sr.nil _ _)) hs66) (fun v w hR a hf => ?_)
                            obtain ⟨rfl, hs'⟩ := hR
                            replace hs := hs.step (.k (.k .nil)) hs'
                            clear hs'
                            refine stq hf rfl rfl rfl (ex_neq hf rfl rfl) (fun a hf => ?_)
                            refine stq hf rfl rfl rfl (ex_move hf rfl) (fun a hf => ?_)
                            replace hf := hf.castB (t := 74) rfl (ndec_f hc67)
                            replace hf := hf.castB (t := 75) rfl (ndec_f hc67)
                            refine stq hf rfl rfl rfl (ex_move hf rfl) (fun a hf => ?_)
                            refine stq hf rfl rfl rfl (ex_move hf rfl) (fun a hf => ?_)
                            refine stq hf rfl rfl rfl (ex_neq hf rfl rfl) (fun a hf => ?_)
                            refine stq hf rfl rfl rfl (ex_pickF hf rfl rfl) (fun a hf => ?_)
                            refine stq hf rfl rfl rfl (ex_move hf rfl) (fun a hf => ?_)
                            replace hf := hf.castB (t := 78) rfl (ndec_f hc68)
                            replace hf := hf.castB (t := 79) rfl (ndec_f hc68)
                            replace hf := hf.castB (t := 80) rfl (ndec_f hc68)
                            refine stq hf rfl rfl rfl (ex_move hf rfl) (fun a hf => ?_)
                            refine stq hf rfl rfl rfl (ex_move hf rfl) (fun a hf => ?_)
                            refine stq hf rfl rfl rfl (ex_neq hf rfl rfl) (fun a hf => ?_)
                            refine stq hf rfl rfl rfl (ex_pickF hf rfl rfl) (fun a hf => ?_)
                            refine stq hf rfl rfl rfl (ex_move hf rfl) (fun a hf => ?_)
                            replace hf := hf.castB (t := 83) rfl (ndec_f hc69)
                            replace hf := hf.castB (t := 84) rfl (ndec_f hc69)
                            replace hf := hf.castB (t := 85) rfl (ndec_f hc69)
                            refine stq hf rfl rfl rfl (ex_move hf rfl) (fun a hf => ?_)
                            refine stq hf rfl rfl rfl (ex_move hf rfl) (fun a hf => ?_)
                            refine stq hf rfl rfl rfl (ex_neq hf rfl rfl) (fun a hf => ?_)
                            refine stq hf rfl rfl rfl (ex_pickF hf rfl rfl) (fun a hf => ?_)
                            refine stq hf rfl rfl rfl (ex_move hf rfl) (fun a hf => ?_)
                            replace hf := hf.castB (t := 88) rfl (ndec_f hc70)
                            replace hf := hf.castB (t := 89) rfl (ndec_f hc70)
                            replace hf := hf.castB (t := 90) rfl (ndec_f hc70)
                            refine stq hf rfl rfl rfl (ex_move hf rfl) (fun a hf => ?_)
                            refine stq hf rfl rfl rfl (ex_move hf rfl) (fun a hf => ?_)
                            refine stq hf rfl rfl rfl (ex_neq hf rfl rfl) (fun a hf => ?_)
                            refine stq hf rfl rfl rfl (ex_pickF hf rfl rfl) (fun a hf => ?_)
                            refine hK71 _ _ ?_
                            have e64 := some_eq H; subst e64
                            exact hJ64 _ _ ⟨hf.sub ⟨rfl, rfl, rfl, rfl, trivial⟩, hs⟩
                          · -- not s60.1 = s62.1
                            refine region_k (fun K72 hK72 => ?_)
                            refine stq hf rfl rfl rfl (ex_move hf rfl) (fun a hf => ?_)
                            refine stepF hf rfl rfl rfl (ex_call cf_17 hf rfl) (perf_Check.calls k24 s8 v9 (hs.enter (.k (.k .nil))) (Sr.own hs (.k (.k .nil)) (i := 0) rfl osl_rsl (fun _ h => h.1) (Sr.nil _ _)) hs65) (fun v w hR a hf => ?_)
                            obtain ⟨rfl, hs'⟩ := hR
                            replace hs := hs.step (.k (.k .nil)) hs'
                            clear hs'
                            refine stq hf rfl rfl rfl (ex_move hf rfl) (fun a hf => ?_)
                            refine stepF hf rfl rfl rfl (ex_call cf_18 hf rfl) (ref36_Check.calls k24 s8 v9 (hs.enter (.k (.k .nil))) (Sr.own hs (.k (.k .nil)) (i := 0) rfl osl_rsl (fun _ h => h.1) (Sr.nil _ _)) hs66) (fun v w hR a hf => ?_)
                            obtain ⟨rfl, hs'⟩ := hR
                            replace hs := hs.step (.k (.k .nil)) hs'
                            clear hs'
                            refine stq hf rfl rfl rfl (ex_neq hf rfl rfl) (fun a hf => ?_)
                            refine stq hf rfl rfl rfl (ex_move hf rfl) (fun a hf => ?_)
                            replace hf := hf.castB (t := 74) rfl (ndec_f hc67)
                            replace hf := hf.castB (t := 75) rfl (ndec_f hc67)
                            refine stq hf rfl rfl rfl (ex_move hf rfl) (fun a hf => ?_)
                            refine stq hf rfl rfl rfl (ex_move hf rfl) (fun a hf => ?_)
                            refine stq hf rfl rfl rfl (ex_neq hf rfl rfl) (fun a hf => ?_)
                            refine stq hf rfl rfl rfl (ex_pickF hf rfl rfl) (fun a hf => ?_)
                            refine stq hf rfl rfl rfl (ex_move hf rfl) (fun a hf => ?_)
                            replace hf := hf.castB (t := 78) rfl (ndec_f hc68)
                            replace hf := hf.castB (t := 79) rfl (ndec_f hc68)
                            replace hf := hf.castB (t := 80) rfl (ndec_f hc68)
                            refine stq hf rfl rfl rfl (ex_move hf rfl) (fun a hf => ?_)
                            refine stq hf rfl rfl rfl (ex_move hf rfl) (fun a hf => ?_)
                            refine stq hf rfl rfl rfl (ex_neq hf rfl rfl) (fun a hf => ?_)
                            refine stq hf rfl rfl rfl (ex_pickF hf rfl rfl) (fun a hf => ?_)
                            refine stq hf rfl rfl rfl (ex_move hf rfl) (fun a hf => ?_)
                            replace hf := hf.castB (t := 83) rfl (ndec_f hc69)
                            replace hf := hf.castB (t := 84) rfl (ndec_f hc69)
                            replace hf := hf.castB (t := 85) rfl (ndec_f hc69)
                            refine stq hf rfl rfl rfl (ex_move hf rfl) (fun a hf => ?_)
                            refine stq hf rfl rfl rfl (ex_move hf rfl) (fun a hf => ?_)
                            refine stq hf rfl rfl rfl (ex_neq hf rfl rfl) (fun a hf => ?_)
                            refine stq hf rfl rfl rfl (ex_pickF hf rfl rfl) (fun a hf => ?_)
                            refine stq hf rfl rfl rfl (ex_move hf rfl) (fun a hf => ?_)
                            replace hf := hf.castB (t := 88) rfl (ndec_t hc70)
                            replace hf := hf.castB (t := 89) rfl (ndec_t hc70)
                            replace hf := hf.castB (t := 90) rfl (ndec_t hc70)
                            refine stepN hf rfl rfl rfl (fun a hf => ?_)
                            refine stepN hf rfl rfl rfl (fun a hf => ?_)
                            refine stepN hf rfl rfl rfl (fun a hf => ?_)
                            refine stq hf rfl rfl rfl (ex_pickT hf rfl rfl) (fun a hf => ?_)
                            refine hK72 _ _ ?_
                            have e64 := some_eq H; subst e64
                            exact hJ64 _ _ ⟨hf.sub ⟨rfl, rfl, rfl, rfl, trivial⟩, hs⟩
                        · -- not s56.2 = s58.2
                          refine region_k (fun K73 hK73 => ?_)
                          refine stq hf rfl rfl rfl (ex_move hf rfl) (fun a hf => ?_)
                          refine stepF hf rfl rfl rfl (ex_call cf_17 hf rfl) (perf_Check.calls k24 s8 v9 (hs.enter (.k (.k .nil))) (Sr.own hs (.k (.k .nil)) (i := 0) rfl osl_rsl (fun _ h => h.1) (Sr.nil _ _)) hs65) (fun v w hR a hf => ?_)
                          obtain ⟨rfl, hs'⟩ := hR
                          replace hs := hs.step (.k (.k .nil)) hs'
                          clear hs'
                          refine stq hf rfl rfl rfl (ex_move hf rfl) (fun a hf => ?_)
                          refine stepF hf rfl rfl rfl (ex_call cf_18 hf rfl) (ref36_Check.calls k24 s8 v9 (hs.enter (.k (.k .nil))) (Sr.own hs (.k (.k .nil)) (i := 0) rfl osl_rsl (fun _ h => h.1) (Sr.nil _ _)) hs66) (fun v w hR a hf => ?_)
                          obtain ⟨rfl, hs'⟩ := hR
                          replace hs := hs.step (.k (.k .nil)) hs'
                          clear hs'
                          refine stq hf rfl rfl rfl (ex_neq hf rfl rfl) (fun a hf => ?_)
                          refine stq hf rfl rfl rfl (ex_move hf rfl) (fun a hf => ?_)
                          replace hf := hf.castB (t := 74) rfl (ndec_f hc67)
                          replace hf := hf.castB (t := 75) rfl (ndec_f hc67)
                          refine stq hf rfl rfl rfl (ex_move hf rfl) (fun a hf => ?_)
                          refine stq hf rfl rfl rfl (ex_move hf rfl) (fun a hf => ?_)
                          refine stq hf rfl rfl rfl (ex_neq hf rfl rfl) (fun a hf => ?_)
                          refine stq hf rfl rfl rfl (ex_pickF hf rfl rfl) (fun a hf => ?_)
                          refine stq hf rfl rfl rfl (ex_move hf rfl) (fun a hf => ?_)
                          replace hf := hf.castB (t := 78) rfl (ndec_f hc68)
                          replace hf := hf.castB (t := 79) rfl (ndec_f hc68)
                          replace hf := hf.castB (t := 80) rfl (ndec_f hc68)
                          refine stq hf rfl rfl rfl (ex_move hf rfl) (fun a hf => ?_)
                          refine stq hf rfl rfl rfl (ex_move hf rfl) (fun a hf => ?_)
                          refine stq hf rfl rfl rfl (ex_neq hf rfl rfl) (fun a hf => ?_)
                          refine stq hf rfl rfl rfl (ex_pickF hf rfl rfl) (fun a hf => ?_)
                          refine stq hf rfl rfl rfl (ex_move hf rfl) (fun a hf => ?_)
                          replace hf := hf.castB (t := 83) rfl (ndec_t hc69)
                          replace hf := hf.castB (t := 84) rfl (ndec_t hc69)
                          replace hf := hf.castB (t := 85) rfl (ndec_t hc69)
                          refine stepN hf rfl rfl rfl (fun a hf => ?_)
                          refine stepN hf rfl rfl rfl (fun a hf => ?_)
                          refine stepN hf rfl rfl rfl (fun a hf => ?_)
                          refine stq hf rfl rfl rfl (ex_pickT hf rfl rfl) (fun a hf => ?_)
                          refine stq hf rfl rfl rfl (ex_move hf rfl) (fun a hf => ?_)
                          refine stepN hf rfl rfl rfl (fun a hf => ?_)
                          refine stepN hf rfl rfl rfl (fun a hf => ?_)
                          refine stepN hf rfl rfl rfl (fun a hf => ?_)
                          refine stq hf rfl rfl rfl (ex_pickT hf rfl rfl) (fun a hf => ?_)
                          refine hK73 _ _ ?_
                          have e64 := some_eq H; subst e64
                          exact hJ64 _ _ ⟨hf.sub ⟨rfl, rfl, rfl, rfl, trivial⟩, hs⟩
                      · -- not s56.1 = s58.1
                        refine region_k (fun K74 hK74 => ?_)
                        refine stq hf rfl rfl rfl (ex_move hf rfl) (fun a hf => ?_)
                        refine stepF hf rfl rfl rfl (ex_call cf_17 hf rfl) (perf_Check.calls k24 s8 v9 (hs.enter (.k (.k .nil))) (Sr.own hs (.k (.k .nil)) (i := 0) rfl osl_rsl (fun _ h => h.1) (Sr.nil _ _)) hs65) (fun v w hR a hf => ?_)
                        obtain ⟨rfl, hs'⟩ := hR
                        replace hs := hs.step (.k (.k .nil)) hs'
                        clear hs'
                        refine stq hf rfl rfl rfl (ex_move hf rfl) (fun a hf => ?_)
                        refine stepF hf rfl rfl rfl (ex_call cf_18 hf rfl) (ref36_Check.calls k24 s8 v9 (hs.enter (.k (.k .nil))) (Sr.own hs (.k (.k .nil)) (i := 0) rfl osl_rsl (fun _ h => h.1) (Sr.nil _ _)) hs66) (fun v w hR a hf => ?_)
                        obtain ⟨rfl, hs'⟩ := hR
                        replace hs := hs.step (.k (.k .nil)) hs'
                        clear hs'
                        refine stq hf rfl rfl rfl (ex_neq hf rfl rfl) (fun a hf => ?_)
                        refine stq hf rfl rfl rfl (ex_move hf rfl) (fun a hf => ?_)
                        replace hf := hf.castB (t := 74) rfl (ndec_f hc67)
                        replace hf := hf.castB (t := 75) rfl (ndec_f hc67)
                        refine stq hf rfl rfl rfl (ex_move hf rfl) (fun a hf => ?_)
                        refine stq hf rfl rfl rfl (ex_move hf rfl) (fun a hf => ?_)
                        refine stq hf rfl rfl rfl (ex_neq hf rfl rfl) (fun a hf => ?_)
                        refine stq hf rfl rfl rfl (ex_pickF hf rfl rfl) (fun a hf => ?_)
                        refine stq hf rfl rfl rfl (ex_move hf rfl) (fun a hf => ?_)
                        replace hf := hf.castB (t := 78) rfl (ndec_t hc68)
                        replace hf := hf.castB (t := 79) rfl (ndec_t hc68)
                        replace hf := hf.castB (t := 80) rfl (ndec_t hc68)
                        refine stepN hf rfl rfl rfl (fun a hf => ?_)
                        refine stepN hf rfl rfl rfl (fun a hf => ?_)
                        refine stepN hf rfl rfl rfl (fun a hf => ?_)
                        refine stq hf rfl rfl rfl (ex_pickT hf rfl rfl) (fun a hf => ?_)
                        refine stq hf rfl rfl rfl (ex_move hf rfl) (fun a hf => ?_)
                        refine stepN hf rfl rfl rfl (fun a hf => ?_)
                        refine stepN hf rfl rfl rfl (fun a hf => ?_)
                        refine stepN hf rfl rfl rfl (fun a hf => ?_)
                        refine stq hf rfl rfl rfl (ex_pickT hf rfl rfl) (fun a hf => ?_)
                        refine stq hf rfl rfl rfl (ex_move hf rfl) (fun a hf => ?_)
                        refine stepN hf rfl rfl rfl (fun a hf => ?_)
                        refine stepN hf rfl rfl rfl (fun a hf => ?_)
                        refine stepN hf rfl rfl rfl (fun a hf => ?_)
                        refine stq hf rfl rfl rfl (ex_pickT hf rfl rfl) (fun a hf => ?_)
                        refine hK74 _ _ ?_
                        have e64 := some_eq H; subst e64
                        exact hJ64 _ _ ⟨hf.sub ⟨rfl, rfl, rfl, rfl, trivial⟩, hs⟩
                    · -- not s65 = s66
                      refine region_k (fun K75 hK75 => ?_)
                      refine stq hf rfl rfl rfl (ex_move hf rfl) (fun a hf => ?_)
                      refine stepF hf rfl rfl rfl (ex_call cf_17 hf rfl) (perf_Check.calls k24 s8 v9 (hs.enter (.k (.k .nil))) (Sr.own hs (.k (.k .nil)) (i := 0) rfl osl_rsl (fun _ h => h.1) (Sr.nil _ _)) hs65) (fun v w hR a hf => ?_)
                      obtain ⟨rfl, hs'⟩ := hR
                      replace hs := hs.step (.k (.k .nil)) hs'
                      clear hs'
                      refine stq hf rfl rfl rfl (ex_move hf rfl) (fun a hf => ?_)
                      refine stepF hf rfl rfl rfl (ex_call cf_18 hf rfl) (ref36_Check.calls k24 s8 v9 (hs.enter (.k (.k .nil))) (Sr.own hs (.k (.k .nil)) (i := 0) rfl osl_rsl (fun _ h => h.1) (Sr.nil _ _)) hs66) (fun v w hR a hf => ?_)
                      obtain ⟨rfl, hs'⟩ := hR
                      replace hs := hs.step (.k (.k .nil)) hs'
                      clear hs'
                      refine stq hf rfl rfl rfl (ex_neq hf rfl rfl) (fun a hf => ?_)
                      refine stq hf rfl rfl rfl (ex_move hf rfl) (fun a hf => ?_)
                      replace hf := hf.castB (t := 74) rfl (ndec_t hc67)
                      replace hf := hf.castB (t := 75) rfl (ndec_t hc67)
                      refine stepN hf rfl rfl rfl (fun a hf => ?_)
                      refine stepN hf rfl rfl rfl (fun a hf => ?_)
                      refine stepN hf rfl rfl rfl (fun a hf => ?_)
                      refine stq hf rfl rfl rfl (ex_pickT hf rfl rfl) (fun a hf => ?_)
                      refine stq hf rfl rfl rfl (ex_move hf rfl) (fun a hf => ?_)
                      refine stepN hf rfl rfl rfl (fun a hf => ?_)
                      refine stepN hf rfl rfl rfl (fun a hf => ?_)
                      refine stepN hf rfl rfl rfl (fun a hf => ?_)
                      refine stq hf rfl rfl rfl (ex_pickT hf rfl rfl) (fun a hf => ?_)
                      refine stq hf rfl rfl rfl (ex_move hf rfl) (fun a hf => ?_)
                      refine stepN hf rfl rfl rfl (fun a hf => ?_)
                      refine stepN hf rfl rfl rfl (fun a hf => ?_)
                      refine stepN hf rfl rfl rfl (fun a hf => ?_)
                      refine stq hf rfl rfl rfl (ex_pickT hf rfl rfl) (fun a hf => ?_)
                      refine stq hf rfl rfl rfl (ex_move hf rfl) (fun a hf => ?_)
                      refine stepN hf rfl rfl rfl (fun a hf => ?_)
                      refine stepN hf rfl rfl rfl (fun a hf => ?_)
                      refine stepN hf rfl rfl rfl (fun a hf => ?_)
                      refine stq hf rfl rfl rfl (ex_pickT hf rfl rfl) (fun a hf => ?_)
                      refine hK75 _ _ ?_
                      have e64 := some_eq H; subst e64
                      exact hJ64 _ _ ⟨hf.sub ⟨rfl, rfl, rfl, rfl, trivial⟩, hs⟩
                  · obtain ⟨hf, hs⟩ := hJ
                    replace H := HO64
                    clear HO64
                    refine itt H (fun hc76 H => ?_) (fun hc76 H => ?_)
                    · -- x64 = true
                      replace hf := hf.castB (t := 94) rfl hc76
                      refine cond_T hf rfl ?_
                      refine seq_reg (fun K77 hK77 => ?_)
                      refine stq hf rfl rfl rfl (ex_assign hf rfl) (fun a hf => ?_)
                      refine hK77 _ _ ?_
                      refine wp_ret ?_
                      refine hR29 _ _ ?_
                      have e28 := some_eq H; subst e28; replace H := el_rt HO28
                      refine hR28 _ _ ?_
                      refine hR24 _ _ ?_
                      refine hR21 _ _ ?_
                      have e19 := some_eq H; subst e19; replace H := el_rt HO19
                      refine hR19 _ _ ?_
                      have eR := some_eq H; subst eR
                      replace hs := hs.keep (.d (.d .nil))
                      exact ret1 Try.results3 hf rfl ⟨_, rfl, ⟨rfl, hs⟩⟩
                    · -- not x64 = true
                      replace hf := hf.castB (t := 94) rfl (bool_f hc76)
                      refine cond_F hf rfl ?_
                      refine wp_skip ?_
                      refine hN29 _ _ ?_
                      have e28 := some_eq H; subst e28
                      exact hJ28 _ _ ⟨_, rfl, hf.sub ⟨rfl, rfl, rfl, trivial⟩, hs⟩
                · -- not y22 = 1
                  refine itt H (fun hc78 H => ?_) (fun hc78 H => ?_)
                  · -- y22 = 2
                    refine seq_reg (fun K79 hK79 => ?_)
                    refine stq hf rfl rfl rfl (ex_indexC (cs := [v0, v9, v13]) 2 ia_29 sc_22 hc78 (by decide) hf rfl rfl rfl) (fun a hf => ?_)
                    refine stq hf rfl rfl rfl (ex_assign hf rfl) (fun a hf => ?_)
                    refine hK79 _ _ ?_
                    refine bnd H (fun s80 hs80 H => ?_)
                    refine seq_reg (fun K81 hK81 => ?_)
                    refine stq hf rfl rfl rfl (ex_move hf rfl) (fun a hf => ?_)
                    refine stq hf rfl rfl rfl (ex_move hf rfl) (fun a hf => ?_)
                    refine stq hf rfl rfl rfl (ex_rem hf rfl rfl (by decide)) (fun a hf => ?_)
                    refine stepF hf rfl rfl rfl (ex_call cf_15 hf rfl) (perf_Find.calls k24 ((([] : List OperatingPoint) ++ s8).set s16.toNat a3) (Int.tmod a1 1000) v13 (hs.enter (.k (.k .nil))) (Sr.own hs (.k (.k .nil)) (i := 1) rfl osl_rsl (fun _ h => h.1) (Sr.nil _ _)) hs80) (fun v w hR a hf => ?_)
                    obtain ⟨rfl, hs'⟩ := hR
                    replace hs := hs.step (.k (.k .nil)) hs'
                    clear hs'
                    refine stq hf rfl rfl rfl (ex_move hf rfl) (fun a hf => ?_)
                    refine stq hf rfl rfl rfl (ex_extract hf rfl rfl) (fun a hf => ?_)
                    refine stq hf rfl rfl rfl (ex_extract hf rfl rfl) (fun a hf => ?_)
                    refine stq hf rfl rfl rfl (ex_assign hf rfl) (fun a hf => ?_)
                    refine stq hf rfl rfl rfl (ex_assign hf rfl) (fun a hf => ?_)
                    refine hK81 _ _ ?_
                    refine bnd H (fun s82 hs82 H => ?_)
                    refine seq_reg (fun K83 hK83 => ?_)
                    refine stq hf rfl rfl rfl (ex_move hf rfl) (fun a hf => ?_)
                    refine stq hf rfl rfl rfl (ex_move hf rfl) (fun a hf => ?_)
                    refine stq hf rfl rfl rfl (ex_rem hf rfl rfl (by decide)) (fun a hf => ?_)
                    refine stepF hf rfl rfl rfl (ex_call cf_16 hf rfl) (ref36_Find.calls k24 ((([] : List OperatingPoint) ++ s8).set s16.toNat a3) (Int.tmod a1 1000) v13 (hs.enter (.k (.k .nil))) (Sr.own hs (.k (.k .nil)) (i := 1) rfl osl_rsl (fun _ h => h.1) (Sr.nil _ _)) hs82) (fun v w hR a hf => ?_)
                    obtain ⟨rfl, hs'⟩ := hR
                    replace hs := hs.step (.k (.k .nil)) hs'
                    clear hs'
                    refine stq hf rfl rfl rfl (ex_move hf rfl) (fun a hf => ?_)
                    refine stq hf rfl rfl rfl (ex_extract hf rfl rfl) (fun a hf => ?_)
                    refine stq hf rfl rfl rfl (ex_extract hf rfl rfl) (fun a hf => ?_)
                    refine stq hf rfl rfl rfl (ex_assign hf rfl) (fun a hf => ?_)
                    refine stq hf rfl rfl rfl (ex_assign hf rfl) (fun a hf => ?_)
                    refine hK83 _ _ ?_
                    refine bnd H (fun s84 hs84 H => ?_)
                    refine seq_reg (fun K85 hK85 => ?_)
                    refine stq hf rfl rfl rfl (ex_move hf rfl) (fun a hf => ?_)
                    refine stq hf rfl rfl rfl (ex_move hf rfl) (fun a hf => ?_)
                    refine stepF hf rfl rfl rfl (ex_call cf_15 hf rfl) (perf_Find.calls k24 ((([] : List OperatingPoint) ++ s8).set s16.toNat a3) a1 v13 (hs.enter (.k (.k .nil))) (Sr.own hs (.k (.k .nil)) (i := 1) rfl osl_rsl (fun _ h => h.1) (Sr.nil _ _)) hs84) (fun v w hR a hf => ?_)
                    obtain ⟨rfl, hs'⟩ := hR
                    replace hs := hs.step (.k (.k .nil)) hs'
                    clear hs'
                    refine stq hf rfl rfl rfl (ex_move hf rfl) (fun a hf => ?_)
                    refine stq hf rfl rfl rfl (ex_extract hf rfl rfl) (fun a hf => ?_)
                    refine stq hf rfl rfl rfl (ex_extract hf rfl rfl) (fun a hf => ?_)
                    refine stq hf rfl rfl rfl (ex_assign hf rfl) (fun a hf => ?_)
                    refine stq hf rfl rfl rfl (ex_assign hf rfl) (fun a hf => ?_)
                    refine hK85 _ _ ?_
                    refine bnd H (fun s86 hs86 H => ?_)
                    refine seq_reg (fun K87 hK87 => ?_)
                    refine stq hf rfl rfl rfl (ex_move hf rfl) (fun a hf => ?_)
                    refine stq hf rfl rfl rfl (ex_move hf rfl) (fun a hf => ?_)
                    refine stepF hf rfl rfl rfl (ex_call cf_16 hf rfl) (ref36_Find.calls k24 ((([] : List OperatingPoint) ++ s8).set s16.toNat a3) a1 v13 (hs.enter (.k (.k .nil))) (Sr.own hs (.k (.k .nil)) (i := 1) rfl osl_rsl (fun _ h => h.1) (Sr.nil _ _)) hs86) (fun v w hR a hf => ?_)
                    obtain ⟨rfl, hs'⟩ := hR
                    replace hs := hs.step (.k (.k .nil)) hs'
                    clear hs'
                    refine stq hf rfl rfl rfl (ex_move hf rfl) (fun a hf => ?_)
                    refine stq hf rfl rfl rfl (ex_extract hf rfl rfl) (fun a hf => ?_)
                    refine stq hf rfl rfl rfl (ex_extract hf rfl rfl) (fun a hf => ?_)
                    refine stq hf rfl rfl rfl (ex_assign hf rfl) (fun a hf => ?_)
                    refine stq hf rfl rfl rfl (ex_assign hf rfl) (fun a hf => ?_)
                    refine hK87 _ _ ?_
                    refine bnd H (fun x88 H88 HO88 => ?_)
                    clear H
                    refine seq_cut (fun a w => Fr a 97 [(1, .int .u64 a1), (40, .agg #[v0, v9, v13]), (41, .int .i64 y22), (94, .bool x88)] ∧ St M w0 w [osl K_api_OperatingPoint v9 s8, osl K_api_OperatingPoint v13 ((([] : List OperatingPoint) ++ s8).set s16.toNat a3)]) (fun Q88 hJ88 hR88 hX88 => ?_) (fun a w hJ => ?_)
                    · replace H := H88
                      refine bnd H (fun s89 hs89 H => ?_)
                      refine bnd H (fun s90 hs90 H => ?_)
                      refine itt H (fun hc91 H => ?_) (fun hc91 H => ?_)
                      · -- s89 = s90
                        refine itt H (fun hc92 H => ?_) (fun hc92 H => ?_)
                        · -- s80.1 = s82.1
                          refine itt H (fun hc93 H => ?_) (fun hc93 H => ?_)
                          · -- s80.2 = s82.2
                            refine itt H (fun hc94 H => ?_) (fun hc94 H => ?_)
                            · -- s84.1 = s86.1
                              refine region_k (fun K95 hK95 => ?_)
                              refine stq hf rfl rfl rfl (ex_move hf rfl) (fun a hf => ?_)
                              refine stepF hf rfl rfl rfl (ex_call cf_17 hf rfl) (perf_Check.calls k24 ((([] : List OperatingPoint) ++ s8).set s16.toNat a3) v13 (hs.enter (.k (.k .nil))) (Sr.own hs (.k (.k .nil)) (i := 1) rfl osl_rsl (fun _ h => h.1) (Sr.nil _ _)) hs89) (fun v w hR a hf => ?_)
                              obtain ⟨rfl, hs'⟩ := hR
                              replace hs := hs.step (.k (.k .nil)) hs'
                              clear hs'
                              refine stq hf rfl rfl rfl (ex_move hf rfl) (fun a hf => ?_)
                              refine stepF hf rfl rfl rfl (ex_call cf_18 hf rfl) (ref36_Check.calls k24 ((([] : List OperatingPoint) ++ s8).set s16.toNat a3) v13 (hs.enter (.k (.k .nil))) (Sr.own hs (.k (.k .nil)) (i := 1) rfl osl_rsl (fun _ h => h.1) (Sr.nil _ _)) hs90) (fun v w hR a hf => ?_)
                              obtain ⟨rfl, hs'⟩ := hR
                              replace hs := hs.step (.k (.k .nil)) hs'
                              clear hs'
                              refine stq hf rfl rfl rfl (ex_neq hf rfl rfl) (fun a hf => ?_)
                              refine stq hf rfl rfl rfl (ex_move hf rfl) (fun a hf => ?_)
                              replace hf := hf.castB (t := 74) rfl (ndec_f hc91)
                              replace hf := hf.castB (t := 75) rfl (ndec_f hc91)
                              refine stq hf rfl rfl rfl (ex_move hf rfl) (fun a hf => ?_)
                              refine stq hf rfl rfl rfl (ex_move hf rfl) (fun a hf => ?_)
                              refine stq hf rfl rfl rfl (ex_neq hf rfl rfl) (fun a hf => ?_)
                              refine stq hf rfl rfl rfl (ex_pickF hf rfl rfl) (fun a hf => ?_)
                              refine stq hf rfl rfl rfl (ex_move hf rfl) (fun a hf => ?_)
                              replace hf := hf.castB (t := 78) rfl (ndec_f hc92)
                              replace hf := hf.castB (t := 79) rfl (ndec_f hc92)
                              replace hf := hf.castB (t := 80) rfl (ndec_f hc92)
                              refine stq hf rfl rfl rfl (ex_move hf rfl) (fun a hf => ?_)
                              refine stq hf rfl rfl rfl (ex_move hf rfl) (fun a hf => ?_)
                              refine stq hf rfl rfl rfl (ex_neq hf rfl rfl) (fun a hf => ?_)
                              refine stq hf rfl rfl rfl (ex_pickF hf rfl rfl) (fun a hf => ?_)
                              refine stq hf rfl rfl rfl (ex_move hf rfl) (fun a hf => ?_)
                              replace hf := hf.castB (t := 83) rfl (ndec_f hc93)
                              replace hf := hf.castB (t := 84) rfl (ndec_f hc93)
                              replace hf := hf.castB (t := 85) rfl (ndec_f hc93)
                              refine stq hf rfl rfl rfl (ex_move hf rfl) (fun a hf => ?_)
                              refine stq hf rfl rfl rfl (ex_move hf rfl) (fun a hf => ?_)
                              refine stq hf rfl rfl rfl (ex_neq hf rfl rfl) (fun a hf => ?_)
                              refine stq hf rfl rfl rfl (ex_pickF hf rfl rfl) (fun a hf => ?_)
                              refine stq hf rfl rfl rfl (ex_move hf rfl) (fun a hf => ?_)
                              replace hf := hf.castB (t := 88) rfl (ndec_f hc94)
                              replace hf := hf.castB (t := 89) rfl (ndec_f hc94)
                              replace hf := hf.castB (t := 90) rfl (ndec_f hc94)
                              refine stq hf rfl rfl rfl (ex_move hf rfl) (fun a hf => ?_)
                              refine stq hf rfl rfl rfl (ex_move hf rfl) (fun a hf => ?_)
                              refine stq hf rfl rfl rfl (ex_neq hf rfl rfl) (fun a hf => ?_)
                              refine stq hf rfl rfl rfl (ex_pickF hf rfl rfl) (fun a hf => ?_)
                              refine hK95 _ _ ?_
                              have e88 := some_eq H; subst e88
                              exact hJ88 _ _ ⟨hf.sub ⟨rfl, rfl, rfl, rfl, trivial⟩, hs⟩
                            · -- not s84.1 = s86.1
                              refine region_k (fun K96 hK96 => ?_)
                              refine stq hf rfl rfl rfl (ex_move hf rfl) (fun a hf => ?_)
                              refine stepF hf rfl rfl rfl (ex_call cf_17 hf rfl) (perf_Check.calls k24 ((([] : List OperatingPoint) ++ s8).set s16.toNat a3) v13 (hs.enter (.k (.k .nil))) (Sr.own hs (.k (.k .nil)) (i := 1) rfl osl_rsl (fun _ h => h.1) (Sr.nil _ _)) hs89) (fun v w hR a hf => ?_)
                              obtain ⟨rfl, hs'⟩ := hR
                              replace hs := hs.step (.k (.k .nil)) hs'
                              clear hs'
                              refine stq hf rfl rfl rfl (ex_move hf rfl) (fun a hf => ?_)
                              refine stepF hf rfl rfl rfl (ex_call cf_18 hf rfl) (ref36_Check.calls k24 ((([] : List OperatingPoint) ++ s8).set s16.toNat a3) v13 (hs.enter (.k (.k .nil))) (Sr.own hs (.k (.k .nil)) (i := 1) rfl osl_rsl (fun _ h => h.1) (Sr.nil _ _)) hs90) (fun v w hR a hf => ?_)
                              obtain ⟨rfl, hs'⟩ := hR
                              replace hs := hs.step (.k (.k .nil)) hs'
                              clear hs'
                              refine stq hf rfl rfl rfl (ex_neq hf rfl rfl) (fun a hf => ?_)
                              refine stq hf rfl rfl rfl (ex_move hf rfl) (fun a hf => ?_)
                              replace hf := hf.castB (t := 74) rfl (ndec_f hc91)
                              replace hf := hf.castB (t := 75) rfl (ndec_f hc91)
                              refine stq hf rfl rfl rfl (ex_move hf rfl) (fun a hf => ?_)
                              refine stq hf rfl rfl rfl (ex_move hf rfl) (fun a hf => ?_)
                              refine stq hf rfl rfl rfl (ex_neq hf rfl rfl) (fun a hf => ?_)
                              refine stq hf rfl rfl rfl (ex_pickF hf rfl rfl) (fun a hf => ?_)
                              refine stq hf rfl rfl rfl (ex_move hf rfl) (fun a hf => ?_)
                              replace hf := hf.castB (t := 78) rfl (ndec_f hc92)
                              replace hf := hf.castB (t := 79) rfl (ndec_f hc92)
                              replace hf := hf.castB (t := 80) rfl (ndec_f hc92)
                              refine stq hf rfl rfl rfl (ex_move hf rfl) (fun a hf => ?_)
                              refine stq hf rfl rfl rfl (ex_move hf rfl) (fun a hf => ?_)
                              refine stq hf rfl rfl rfl (ex_neq hf rfl rfl) (fun a hf => ?_)
                              refine stq hf rfl rfl rfl (ex_pickF hf rfl rfl) (fun a hf => ?_)
                              refine stq hf rfl rfl rfl (ex_move hf rfl) (fun a hf => ?_)
                              replace hf := hf.castB (t := 83) rfl (ndec_f hc93)
                              replace hf := hf.castB (t := 84) rfl (ndec_f hc93)
                              replace hf := hf.castB (t := 85) rfl (ndec_f hc93)
                              refine stq hf rfl rfl rfl (ex_move hf rfl) (fun a hf => ?_)
                              refine stq hf rfl rfl rfl (ex_move hf rfl) (fun a hf => ?_)
                              refine stq hf rfl rfl rfl (ex_neq hf rfl rfl) (fun a hf => ?_)
                              refine stq hf rfl rfl rfl (ex_pickF hf rfl rfl) (fun a hf => ?_)
                              refine stq hf rfl rfl rfl (ex_move hf rfl) (fun a hf => ?_)
                              replace hf := hf.castB (t := 88) rfl (ndec_t hc94)
                              replace hf := hf.castB (t := 89) rfl (ndec_t hc94)
                              replace hf := hf.castB (t := 90) rfl (ndec_t hc94)
                              refine stepN hf rfl rfl rfl (fun a hf => ?_)
                              refine stepN hf rfl rfl rfl (fun a hf => ?_)
                              refine stepN hf rfl rfl rfl (fun a hf => ?_)
                              refine stq hf rfl rfl rfl (ex_pickT hf rfl rfl) (fun a hf => ?_)
                              refine hK96 _ _ ?_
                              have e88 := some_eq H; subst e88
                              exact hJ88 _ _ ⟨hf.sub ⟨rfl, rfl, rfl, rfl, trivial⟩, hs⟩
                          · -- not s80.2 = s82.2
                            refine region_k (fun K97 hK97 => ?_)
                            refine stq hf rfl rfl rfl (ex_move hf rfl) (fun a hf => ?_)
                            refine stepF hf rfl rfl rfl (ex_call cf_17 hf rfl) (perf_Check.calls k24 ((([] : List OperatingPoint) ++ s8).set s16.toNat a3) v13 (hs.enter (.k (.k .nil))) (Sr.own hs (.k (.k .nil)) (i := 1) rfl osl_rsl (fun _ h => h.1) (Sr.nil _ _)) hs89) (fun v w hR a hf => ?_)
                            obtain ⟨rfl, hs'⟩ := hR
                            replace hs := hs.step (.k (.k .nil)) hs'
                            clear hs'
                            refine stq hf rfl rfl rfl (ex_move hf rfl) (fun a hf => ?_)
                            refine stepF hf rfl rfl rfl (ex_call cf_18 hf rfl) (ref36_Check.calls k24 ((([] : List OperatingPoint) ++ s8).set s16.toNat a3) v13 (hs.enter (.k (.k .nil))) (Sr.own hs (.k (.k .nil)) (i := 1) rfl osl_rsl (fun _ h => h.1) (Sr.nil _ _)) hs90) (fun v w hR a hf => ?_)
                            obtain ⟨rfl, hs'⟩ := hR
                            replace hs := hs.step (.k (.k .nil)) hs'
                            clear hs'
                            refine stq hf rfl rfl rfl (ex_neq hf rfl rfl) (fun a hf => ?_)
                            refine stq hf rfl rfl rfl (ex_move hf rfl) (fun a hf => ?_)
                            replace hf := hf.castB (t := 74) rfl (ndec_f hc91)
                            replace hf := hf.castB (t := 75) rfl (ndec_f hc91)
                            refine stq hf rfl rfl rfl (ex_move hf rfl) (fun a hf => ?_)
                            refine stq hf rfl rfl rfl (ex_move hf rfl) (fun a hf => ?_)
                            refine stq hf rfl rfl rfl (ex_neq hf rfl rfl) (fun a hf => ?_)
                            refine stq hf rfl rfl rfl (ex_pickF hf rfl rfl) (fun a hf => ?_)
                            refine stq hf rfl rfl rfl (ex_move hf rfl) (fun a hf => ?_)
                            replace hf := hf.castB (t := 78) rfl (ndec_f hc92)
                            replace hf := hf.castB (t := 79) rfl (ndec_f hc92)
                            replace hf := hf.castB (t := 80) rfl (ndec_f hc92)
                            refine stq hf rfl rfl rfl (ex_move hf rfl) (fun a hf => ?_)
                            refine stq hf rfl rfl rfl (ex_move hf rfl) (fun a hf => ?_)
                            refine stq hf rfl rfl rfl (ex_neq hf rfl rfl) (fun a hf => ?_)
                            refine stq hf rfl rfl rfl (ex_pickF hf rfl rfl) (fun a hf => ?_)
                            refine stq hf rfl rfl rfl (ex_move hf rfl) (fun a hf => ?_)
                            replace hf := hf.castB (t := 83) rfl (ndec_t hc93)
                            replace hf := hf.castB (t := 84) rfl (ndec_t hc93)
                            replace hf := hf.castB (t := 85) rfl (ndec_t hc93)
                            refine stepN hf rfl rfl rfl (fun a hf => ?_)
                            refine stepN hf rfl rfl rfl (fun a hf => ?_)
                            refine stepN hf rfl rfl rfl (fun a hf => ?_)
                            refine stq hf rfl rfl rfl (ex_pickT hf rfl rfl) (fun a hf => ?_)
                            refine stq hf rfl rfl rfl (ex_move hf rfl) (fun a hf => ?_)
                            refine stepN hf rfl rfl rfl (fun a hf => ?_)
                            refine stepN hf rfl rfl rfl (fun a hf => ?_)
                            refine stepN hf rfl rfl rfl (fun a hf => ?_)
                            refine stq hf rfl rfl rfl (ex_pickT hf rfl rfl) (fun a hf => ?_)
                            refine hK97 _ _ ?_
                            have e88 := some_eq H; subst e88
                            exact hJ88 _ _ ⟨hf.sub ⟨rfl, rfl, rfl, rfl, trivial⟩, hs⟩
                        · -- not s80.1 = s82.1
                          refine region_k (fun K98 hK98 => ?_)
                          refine stq hf rfl rfl rfl (ex_move hf rfl) (fun a hf => ?_)
                          refine stepF hf rfl rfl rfl (ex_call cf_17 hf rfl) (perf_Check.calls k24 ((([] : List OperatingPoint) ++ s8).set s16.toNat a3) v13 (hs.enter (.k (.k .nil))) (Sr.own hs (.k (.k .nil)) (i := 1) rfl osl_rsl (fun _ h => h.1) (Sr.nil _ _)) hs89) (fun v w hR a hf => ?_)
                          obtain ⟨rfl, hs'⟩ := hR
                          replace hs := hs.step (.k (.k .nil)) hs'
                          clear hs'
                          refine stq hf rfl rfl rfl (ex_move hf rfl) (fun a hf => ?_)
                          refine stepF hf rfl rfl rfl (ex_call cf_18 hf rfl) (ref36_Check.calls k24 ((([] : List OperatingPoint) ++ s8).set s16.toNat a3) v13 (hs.enter (.k (.k .nil))) (Sr.own hs (.k (.k .nil)) (i := 1) rfl osl_rsl (fun _ h => h.1) (Sr.nil _ _)) hs90) (fun v w hR a hf => ?_)
                          obtain ⟨rfl, hs'⟩ := hR
                          replace hs := hs.step (.k (.k .nil)) hs'
                          clear hs'
                          refine stq hf rfl rfl rfl (ex_neq hf rfl rfl) (fun a hf => ?_)
                          refine stq hf rfl rfl rfl (ex_move hf rfl) (fun a hf => ?_)
                          replace hf := hf.castB (t := 74) rfl (ndec_f hc91)
                          replace hf := hf.castB (t := 75) rfl (ndec_f hc91)
                          refine stq hf rfl rfl rfl (ex_move hf rfl) (fun a hf => ?_)
                          refine stq hf rfl rfl rfl (ex_move hf rfl) (fun a hf => ?_)
                          refine stq hf rfl rfl rfl (ex_neq hf rfl rfl) (fun a hf => ?_)
                          refine stq hf rfl rfl rfl (ex_pickF hf rfl rfl) (fun a hf => ?_)
                          refine stq hf rfl rfl rfl (ex_move hf rfl) (fun a hf => ?_)
                          replace hf := hf.castB (t := 78) rfl (ndec_t hc92)
                          replace hf := hf.castB (t := 79) rfl (ndec_t hc92)
                          replace hf := hf.castB (t := 80) rfl (ndec_t hc92)
                          refine stepN hf rfl rfl rfl (fun a hf => ?_)
                          refine stepN hf rfl rfl rfl (fun a hf => ?_)
                          refine stepN hf rfl rfl rfl (fun a hf => ?_)
                          refine stq hf rfl rfl rfl (ex_pickT hf rfl rfl) (fun a hf => ?_)
                          refine stq hf rfl rfl rfl (ex_move hf rfl) (fun a hf => ?_)
                          refine stepN hf rfl rfl rfl (fun a hf => ?_)
                          refine stepN hf rfl rfl rfl (fun a hf => ?_)
                          refine stepN hf rfl rfl rfl (fun a hf => ?_)
                          refine stq hf rfl rfl rfl (ex_pickT hf rfl rfl) (fun a hf => ?_)
                          refine stq hf rfl rfl rfl (ex_move hf rfl) (fun a hf => ?_)
                          refine stepN hf rfl rfl rfl (fun a hf => ?_)
                          refine stepN hf rfl rfl rfl (fun a hf => ?_)
                          refine stepN hf rfl rfl rfl (fun a hf => ?_)
                          refine stq hf rfl rfl rfl (ex_pickT hf rfl rfl) (fun a hf => ?_)
                          refine hK98 _ _ ?_
                          have e88 := some_eq H; subst e88
                          exact hJ88 _ _ ⟨hf.sub ⟨rfl, rfl, rfl, rfl, trivial⟩, hs⟩
                      · -- not s89 = s90
                        refine region_k (fun K99 hK99 => ?_)
                        refine stq hf rfl rfl rfl (ex_move hf rfl) (fun a hf => ?_)
                        refine stepF hf rfl rfl rfl (ex_call cf_17 hf rfl) (perf_Check.calls k24 ((([] : List OperatingPoint) ++ s8).set s16.toNat a3) v13 (hs.enter (.k (.k .nil))) (Sr.own hs (.k (.k .nil)) (i := 1) rfl osl_rsl (fun _ h => h.1) (Sr.nil _ _)) hs89) (fun v w hR a hf => ?_)
                        obtain ⟨rfl, hs'⟩ := hR
                        replace hs := hs.step (.k (.k .nil)) hs'
                        clear hs'
                        refine stq hf rfl rfl rfl (ex_move hf rfl) (fun a hf => ?_)
                        refine stepF hf rfl rfl rfl (ex_call cf_18 hf rfl) (ref36_Check.calls k24 ((([] : List OperatingPoint) ++ s8).set s16.toNat a3) v13 (hs.enter (.k (.k .nil))) (Sr.own hs (.k (.k .nil)) (i := 1) rfl osl_rsl (fun _ h => h.1) (Sr.nil _ _)) hs90) (fun v w hR a hf => ?_)
                        obtain ⟨rfl, hs'⟩ := hR
                        replace hs := hs.step (.k (.k .nil)) hs'
                        clear hs'
                        refine stq hf rfl rfl rfl (ex_neq hf rfl rfl) (fun a hf => ?_)
                        refine stq hf rfl rfl rfl (ex_move hf rfl) (fun a hf => ?_)
                        replace hf := hf.castB (t := 74) rfl (ndec_t hc91)
                        replace hf := hf.castB (t := 75) rfl (ndec_t hc91)
                        refine stepN hf rfl rfl rfl (fun a hf => ?_)
                        refine stepN hf rfl rfl rfl (fun a hf => ?_)
                        refine stepN hf rfl rfl rfl (fun a hf => ?_)
                        refine stq hf rfl rfl rfl (ex_pickT hf rfl rfl) (fun a hf => ?_)
                        refine stq hf rfl rfl rfl (ex_move hf rfl) (fun a hf => ?_)
                        refine stepN hf rfl rfl rfl (fun a hf => ?_)
                        refine stepN hf rfl rfl rfl (fun a hf => ?_)
                        refine stepN hf rfl rfl rfl (fun a hf => ?_)
                        refine stq hf rfl rfl rfl (ex_pickT hf rfl rfl) (fun a hf => ?_)
                        refine stq hf rfl rfl rfl (ex_move hf rfl) (fun a hf => ?_)
                        refine stepN hf rfl rfl rfl (fun a hf => ?_)
                        refine stepN hf rfl rfl rfl (fun a hf => ?_)
                        refine stepN hf rfl rfl rfl (fun a hf => ?_)
                        refine stq hf rfl rfl rfl (ex_pickT hf rfl rfl) (fun a hf => ?_)
                        refine stq hf rfl rfl rfl (ex_move hf rfl) (fun a hf => ?_)
                        refine stepN hf rfl rfl rfl (fun a hf => ?_)
                        refine stepN hf rfl rfl rfl (fun a hf => ?_)
                        refine stepN hf rfl rfl rfl (fun a hf => ?_)
                        refine stq hf rfl rfl rfl (ex_pickT hf rfl rfl) (fun a hf => ?_)
                        refine hK99 _ _ ?_
                        have e88 := some_eq H; subst e88
                        exact hJ88 _ _ ⟨hf.sub ⟨rfl, rfl, rfl, rfl, trivial⟩, hs⟩
                    · obtain ⟨hf, hs⟩ := hJ
                      replace H := HO88
                      clear HO88
                      refine itt H (fun hc100 H => ?_) (fun hc100 H => ?_)
                      · -- x88 = true
                        replace hf := hf.castB (t := 94) rfl hc100
                        refine cond_T hf rfl ?_
                        refine seq_reg (fun K101 hK101 => ?_)
                        refine stq hf rfl rfl rfl (ex_assign hf rfl) (fun a hf => ?_)
                        refine hK101 _ _ ?_
                        refine wp_ret ?_
                        refine hR29 _ _ ?_
                        have e28 := some_eq H; subst e28; replace H := el_rt HO28
                        refine hR28 _ _ ?_
                        refine hR24 _ _ ?_
                        refine hR21 _ _ ?_
                        have e19 := some_eq H; subst e19; replace H := el_rt HO19
                        refine hR19 _ _ ?_
                        have eR := some_eq H; subst eR
                        replace hs := hs.keep (.d (.d .nil))
                        exact ret1 Try.results3 hf rfl ⟨_, rfl, ⟨rfl, hs⟩⟩
                      · -- not x88 = true
                        replace hf := hf.castB (t := 94) rfl (bool_f hc100)
                        refine cond_F hf rfl ?_
                        refine wp_skip ?_
                        refine hN29 _ _ ?_
                        have e28 := some_eq H; subst e28
                        exact hJ28 _ _ ⟨_, rfl, hf.sub ⟨rfl, rfl, rfl, trivial⟩, hs⟩
                  · -- not y22 = 2
                    cases H
            · obtain ⟨x28s, rfl, hf, hs⟩ := hJ
              replace H := el_go HO28
              clear HO28
              refine region_k (fun K102 hK102 => ?_)
              refine stq hf rfl rfl rfl (ex_add hf rfl rfl) (fun a hf => ?_)
              refine stq hf rfl rfl rfl (ex_move hf rfl) (fun a hf => ?_)
              refine hK102 _ _ ?_
              exact hL24 k24 _ _ (Nat.lt_succ_self _) ⟨(IntKind.i64.wrap (y22 + 1)), hf.sub ⟨rfl, rfl, rfl, trivial⟩, hs, H⟩
          · -- not y22 < 3
            replace hf := hf.castB (t := 42) rfl (dec_f hc27)
            refine cond_F hf rfl ?_
            refine wp_exit ?_
            refine hX26 0 _ _ ?_
            refine hX24 0 _ _ ?_
            refine hX21 _ _ ?_
            replace hs := hs.keep (.d (.d .nil))
            have e19 := some_eq H; subst e19
            exact hJ19 _ _ ⟨_, rfl, hf.sub trivial, hs⟩
    · obtain ⟨x19s, rfl, hf, hs⟩ := hJ
      replace H := el_go HO19
      clear HO19
      refine bnd H (fun s103 hs103 H => ?_)
      refine seq_reg (fun K104 hK104 => ?_)
      refine stepF hf rfl rfl rfl (ex_call cf_12 hf rfl) (law36_awake.calls k (hs.enter .nil) (Sr.nil _ _) hs103) (fun v w hR a hf => ?_)
      obtain ⟨rfl, hs'⟩ := hR
      replace hs := hs.step .nil hs'
      clear hs'
      refine stq hf rfl rfl rfl (ex_assign hf rfl) (fun a hf => ?_)
      refine hK104 _ _ ?_
      refine wp_ret ?_
      have eR := some_eq H; subst eR
      exact ret1 Try.results3 hf rfl ⟨_, rfl, ⟨rfl, hs⟩⟩

end Go.Proofs.Ythemeobgfgmblaa.X
