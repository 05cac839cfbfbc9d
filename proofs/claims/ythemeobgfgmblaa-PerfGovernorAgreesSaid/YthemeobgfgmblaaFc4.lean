/- Each function of the machine comes to what its pure function says. -/
import Derived.Test.YthemeobgfgmblaaFb
namespace Go.Proofs.Ythemeobgfgmblaa.X
open Go Go.RowKit Go.Sx
set_option linter.unusedVariables false

set_option maxRecDepth 100000 in
theorem ref36_Governor_Limit.calls {M : Nat → Prop} {w0 : World} (k : Nat) (a0_T : (List OperatingPoint)) (a0_P_Up : Int) (a0_P_Down : Int) (a0_P_Samples : Int) (a0_Low : Int) (a0_High : Int) (a0_At : Int) (a0_N : Int) (a1 : Int) (a2 : Int) (b0 : Nat) (v0_T : Value) {r : Int × Int × Int × Int × Int} (hs : St M w0 w0 [bx b0 69 [v0_T, .int .i64 a0_P_Up, .int .i64 a0_P_Down, .int .i64 a0_P_Samples, .int .i64 a0_Low, .int .i64 a0_High, .int .i64 a0_At, .int .i64 a0_N]]) (hr : Sr M w0 [rsl K_api_OperatingPoint v0_T a0_T])
    (h : ref36_Governor_Limit.f k a0_T a0_P_Up a0_P_Down a0_P_Samples a0_Low a0_High a0_At a0_N a1 a2 = some r) : Calls Try.prog 30 #[.pointer (some ⟨b0, 0, none⟩), .int .i64 a1, .int .i64 a2] w0 fun e w => ∃ v, e = .returned v ∧ (.int .i64 r.2.2.2.2 = v ∧ St M w0 w [bx b0 69 [v0_T, .int .i64 a0_P_Up, .int .i64 a0_P_Down, .int .i64 a0_P_Samples, .int .i64 r.1, .int .i64 r.2.1, .int .i64 r.2.2.1, .int .i64 r.2.2.2.1]]) := by
  have H := (ref36_Governor_Limit.f.eq_1 ..).symm.trans h
  clear h
  refine enter Try.func30 rfl Try.ntmps30 rfl (fun a hf => ?_)
  refine seq_reg (fun K1 hK1 => ?_)
  refine stq hf rfl rfl rfl (ex_assign hf rfl) (fun a hf => ?_)
  refine hK1 _ _ ?_
  refine seq_n (fun Q2 hN2 hR2 hX2 => ?_)
  refine bnd H (fun x3 H3 HO3 => ?_)
  clear H
  refine seq_cut (fun a w => Fr a 45 [(0, .pointer (some ⟨b0, 0, none⟩)), (1, .int .i64 a1), (2, .int .i64 a2), (22, .bool x3)] ∧ St M w0 w [bx b0 69 [v0_T, .int .i64 a0_P_Up, .int .i64 a0_P_Down, .int .i64 a0_P_Samples, .int .i64 a0_Low, .int .i64 a0_High, .int .i64 a0_At, .int .i64 a0_N]]) (fun Q3 hJ3 hR3 hX3 => ?_) (fun a w hJ => ?_)
  · replace H := H3
    refine itt H (fun hc4 H => ?_) (fun hc4 H => ?_)
    · -- a1 < 0
      refine region_k (fun K5 hK5 => ?_)
      refine stq hf rfl rfl rfl (ex_move hf rfl) (fun a hf => ?_)
      refine stq hf rfl rfl rfl (ex_lss hf rfl rfl) (fun a hf => ?_)
      refine stq hf rfl rfl rfl (ex_move hf rfl) (fun a hf => ?_)
      replace hf := hf.castB (t := 8) rfl (dec_t hc4)
      replace hf := hf.castB (t := 9) rfl (dec_t hc4)
      refine stepN hf rfl rfl rfl (fun a hf => ?_)
      refine stepN hf rfl rfl rfl (fun a hf => ?_)
      refine stepN hf rfl rfl rfl (fun a hf => ?_)
      refine stq hf rfl rfl rfl (ex_pickT hf rfl rfl) (fun a hf => ?_)
      refine stq hf rfl rfl rfl (ex_move hf rfl) (fun a hf => ?_)
      refine stepN hf rfl rfl rfl (fun a hf => ?_)
      refine stepN hf rfl rfl rfl (fun a hf => ?_)
      refine stepN hf rfl rfl rfl (fun a hf => ?_)
      refine stepN hf rfl rfl rfl (fun a hf => ?_)
      refine stepN hf rfl rfl rfl (fun a hf => ?_)
      refine stepN hf rfl rfl rfl (fun a hf => ?_)
      refine stepN hf rfl rfl rfl (fun a hf => ?_)
      refine stq hf rfl rfl rfl (ex_pickT hf rfl rfl) (fun a hf => ?_)
      refine hK5 _ _ ?_
      have e3 := some_eq H; subst e3
      exact hJ3 _ _ ⟨hf.sub ⟨rfl, rfl, rfl, rfl, trivial⟩, hs⟩
    · -- not a1 < 0
      refine itt H (fun hc6 H => ?_) (fun hc6 H => ?_)
      · -- a2 < a1
        refine region_k (fun K7 hK7 => ?_)
        refine stq hf rfl rfl rfl (ex_move hf rfl) (fun a hf => ?_)
        refine stq hf rfl rfl rfl (ex_lss hf rfl rfl) (fun a hf => ?_)
        refine stq hf rfl rfl rfl (ex_move hf rfl) (fun a hf => ?_)
        replace hf := hf.castB (t := 8) rfl (dec_f hc4)
        replace hf := hf.castB (t := 9) rfl (dec_f hc4)
        refine stq hf rfl rfl rfl (ex_move hf rfl) (fun a hf => ?_)
        refine stq hf rfl rfl rfl (ex_move hf rfl) (fun a hf => ?_)
        refine stq hf rfl rfl rfl (ex_gtr hf rfl rfl) (fun a hf => ?_)
        refine stq hf rfl rfl rfl (ex_pickF hf rfl rfl) (fun a hf => ?_)
        refine stq hf rfl rfl rfl (ex_move hf rfl) (fun a hf => ?_)
        replace hf := hf.castB (t := 12) rfl (dec_t hc6)
        replace hf := hf.castB (t := 13) rfl (dec_t hc6)
        replace hf := hf.castB (t := 14) rfl (dec_t hc6)
        refine stepN hf rfl rfl rfl (fun a hf => ?_)
        refine stepN hf rfl rfl rfl (fun a hf => ?_)
        refine stepN hf rfl rfl rfl (fun a hf => ?_)
        refine stepN hf rfl rfl rfl (fun a hf => ?_)
        refine stepN hf rfl rfl rfl (fun a hf => ?_)
        refine stepN hf rfl rfl rfl (fun a hf => ?_)
        refine stepN hf rfl rfl rfl (fun a hf => ?_)
        refine stq hf rfl rfl rfl (ex_pickT hf rfl rfl) (fun a hf => ?_)
        refine hK7 _ _ ?_
        have e3 := some_eq H; subst e3
        exact hJ3 _ _ ⟨hf.sub ⟨rfl, rfl, rfl, rfl, trivial⟩, hs⟩
      · -- not a2 < a1
        refine region_k (fun K8 hK8 => ?_)
        refine stq hf rfl rfl rfl (ex_move hf rfl) (fun a hf => ?_)
        refine stq hf rfl rfl rfl (ex_lss hf rfl rfl) (fun a hf => ?_)
        refine stq hf rfl rfl rfl (ex_move hf rfl) (fun a hf => ?_)
        replace hf := hf.castB (t := 8) rfl (dec_f hc4)
        replace hf := hf.castB (t := 9) rfl (dec_f hc4)
        refine stq hf rfl rfl rfl (ex_move hf rfl) (fun a hf => ?_)
        refine stq hf rfl rfl rfl (ex_move hf rfl) (fun a hf => ?_)
        refine stq hf rfl rfl rfl (ex_gtr hf rfl rfl) (fun a hf => ?_)
        refine stq hf rfl rfl rfl (ex_pickF hf rfl rfl) (fun a hf => ?_)
        refine stq hf rfl rfl rfl (ex_move hf rfl) (fun a hf => ?_)
        replace hf := hf.castB (t := 12) rfl (dec_f hc6)
        replace hf := hf.castB (t := 13) rfl (dec_f hc6)
        replace hf := hf.castB (t := 14) rfl (dec_f hc6)
        refine stq hf rfl rfl rfl (ex_move hf rfl) (fun a hf => ?_)
        refine stq hf rfl rfl rfl (ex_move hf rfl) (fun a hf => ?_)
        refine stq hf rfl rfl rfl (ex_nilCheck hf rfl) (fun a hf => ?_)
        refine stq hf rfl rfl rfl (ex_fieldAddrB fa_69_0 rfl hf rfl) (fun a hf => ?_)
        refine stq hf rfl rfl rfl (ex_load sc_22 hf rfl (bx_cell (hs.get (i := 0) rfl) _ rfl)) (fun a hf => ?_)
        refine stq hf rfl rfl rfl (ex_lenS Try.underlying22 (rsl_isSl (hr.now hs (i := 0) rfl)) hf rfl) (fun a hf => ?_)
        refine stq hf rfl rfl rfl (ex_geq hf rfl rfl) (fun a hf => ?_)
        refine stq hf rfl rfl rfl (ex_pickF hf rfl rfl) (fun a hf => ?_)
        refine hK8 _ _ ?_
        have e3 := some_eq H; subst e3
        exact hJ3 _ _ ⟨hf.sub ⟨rfl, rfl, rfl, rfl, trivial⟩, hs⟩
  · obtain ⟨hf, hs⟩ := hJ
    replace H := HO3
    clear HO3
    refine itt H (fun hc9 H => ?_) (fun hc9 H => ?_)
    · -- x3 = true
      replace hf := hf.castB (t := 22) rfl hc9
      refine cond_T hf rfl ?_
      refine seq_reg (fun K10 hK10 => ?_)
      refine stq hf rfl rfl rfl (ex_assign hf rfl) (fun a hf => ?_)
      refine hK10 _ _ ?_
      refine wp_ret ?_
      refine hR2 _ _ ?_
      have eR := some_eq H; subst eR
      exact ret1 Try.results30 hf rfl ⟨_, rfl, ⟨rfl, hs⟩⟩
    · -- not x3 = true
      replace hf := hf.castB (t := 22) rfl (bool_f hc9)
      refine cond_F hf rfl ?_
      refine wp_skip ?_
      refine hN2 _ _ ?_
      refine seq_reg (fun K11 hK11 => ?_)
      refine stq hf rfl rfl rfl (ex_move hf rfl) (fun a hf => ?_)
      refine stq hf rfl rfl rfl (ex_move hf rfl) (fun a hf => ?_)
      refine stq hf rfl rfl rfl (ex_move hf rfl) (fun a hf => ?_)
      refine stq hf rfl rfl rfl (ex_move hf rfl) (fun a hf => ?_)
      refine stq hf rfl rfl rfl (ex_move hf rfl) (fun a hf => ?_)
      refine stq hf rfl rfl rfl (ex_nilCheck hf rfl) (fun a hf => ?_)
      refine stq hf rfl rfl rfl (ex_fieldAddrB fa_69_2 rfl hf rfl) (fun a hf => ?_)
      refine stepS hf rfl rfl (er_storeB hs (.c .nil) hf rfl rfl rfl sz_3 rfl) (fun w hs => ?_)
      refine stq hf rfl rfl rfl (ex_nilCheck hf rfl) (fun a hf => ?_)
      refine stq hf rfl rfl rfl (ex_fieldAddrB fa_69_3 rfl hf rfl) (fun a hf => ?_)
      refine stepS hf rfl rfl (er_storeB hs (.c .nil) hf rfl rfl rfl sz_3 rfl) (fun w hs => ?_)
      refine stq hf rfl rfl rfl (ex_nilCheck hf rfl) (fun a hf => ?_)
      refine stq hf rfl rfl rfl (ex_fieldAddrB fa_69_5 rfl hf rfl) (fun a hf => ?_)
      refine stepS hf rfl rfl (er_storeB hs (.c .nil) hf rfl rfl rfl sz_3 rfl) (fun w hs => ?_)
      refine hK11 _ _ ?_
      refine seq_reg (fun K12 hK12 => ?_)
      refine stq hf rfl rfl rfl (ex_move hf rfl) (fun a hf => ?_)
      refine stq hf rfl rfl rfl (ex_move hf rfl) (fun a hf => ?_)
      refine stq hf rfl rfl rfl (ex_nilCheck hf rfl) (fun a hf => ?_)
      refine stq hf rfl rfl rfl (ex_fieldAddrB fa_69_4 rfl hf rfl) (fun a hf => ?_)
      refine stq hf rfl rfl rfl (ex_load sc_3 hf rfl (bx_cell (hs.get (i := 0) rfl) _ rfl)) (fun a hf => ?_)
      refine stq hf rfl rfl rfl (ex_move hf rfl) (fun a hf => ?_)
      refine stq hf rfl rfl rfl (ex_max hf rfl rfl) (fun a hf => ?_)
      refine stq hf rfl rfl rfl (ex_move hf rfl) (fun a hf => ?_)
      refine stq hf rfl rfl rfl (ex_min hf rfl rfl) (fun a hf => ?_)
      refine stq hf rfl rfl rfl (ex_nilCheck hf rfl) (fun a hf => ?_)
      refine stq hf rfl rfl rfl (ex_fieldAddrB fa_69_4 rfl hf rfl) (fun a hf => ?_)
      refine stepS hf rfl rfl (er_storeB hs (.c .nil) hf rfl rfl rfl sz_3 rfl) (fun w hs => ?_)
      refine hK12 _ _ ?_
      refine seq_reg (fun K13 hK13 => ?_)
      refine stq hf rfl rfl rfl (ex_assign hf rfl) (fun a hf => ?_)
      refine hK13 _ _ ?_
      refine wp_ret ?_
      have eR := some_eq H; subst eR
      exact ret1 Try.results30 hf rfl ⟨_, rfl, ⟨rfl, hs⟩⟩

set_option maxRecDepth 100000 in
theorem ref36_Governor_Sample.calls {M : Nat → Prop} {w0 : World} (k : Nat) (a0_T : (List OperatingPoint)) (a0_P_Up : Int) (a0_P_Down : Int) (a0_P_Samples : Int) (a0_Low : Int) (a0_High : Int) (a0_At : Int) (a0_N : Int) (a1 : Int) (b0 : Nat) (v0_T : Value) {r : Int × Int × Int × Int} (hs : St M w0 w0 [bx b0 69 [v0_T, .int .i64 a0_P_Up, .int .i64 a0_P_Down, .int .i64 a0_P_Samples, .int .i64 a0_Low, .int .i64 a0_High, .int .i64 a0_At, .int .i64 a0_N]]) (hr : Sr M w0 [rsl K_api_OperatingPoint v0_T a0_T])
    (h : ref36_Governor_Sample.f k a0_T a0_P_Up a0_P_Down a0_P_Samples a0_Low a0_High a0_At a0_N a1 = some r) : Calls Try.prog 31 #[.pointer (some ⟨b0, 0, none⟩), .int .i64 a1] w0 fun e w => ∃ v, e = .returned v ∧ (.tuple #[.int .i64 r.2.2.1, .int .i64 r.2.2.2] = v ∧ St M w0 w [bx b0 69 [v0_T, .int .i64 a0_P_Up, .int .i64 a0_P_Down, .int .i64 a0_P_Samples, .int .i64 a0_Low, .int .i64 a0_High, .int .i64 r.1, .int .i64 r.2.1]]) := by
  have H := (ref36_Governor_Sample.f.eq_1 ..).symm.trans h
  clear h
  refine enter Try.func31 rfl Try.ntmps31 rfl (fun a hf => ?_)
  refine seq_reg (fun K1 hK1 => ?_)
  refine stq hf rfl rfl rfl (ex_assign hf rfl) (fun a hf => ?_)
  refine stq hf rfl rfl rfl (ex_assign hf rfl) (fun a hf => ?_)
  refine hK1 _ _ ?_
  refine seq_n (fun Q2 hN2 hR2 hX2 => ?_)
  refine bnd H (fun x3 H3 HO3 => ?_)
  clear H
  refine seq_cut (fun a w => Fr a 124 [(0, .pointer (some ⟨b0, 0, none⟩)), (1, .int .i64 a1), (12, .bool x3)] ∧ St M w0 w [bx b0 69 [v0_T, .int .i64 a0_P_Up, .int .i64 a0_P_Down, .int .i64 a0_P_Samples, .int .i64 a0_Low, .int .i64 a0_High, .int .i64 a0_At, .int .i64 a0_N]]) (fun Q3 hJ3 hR3 hX3 => ?_) (fun a w hJ => ?_)
  · replace H := H3
    refine itt H (fun hc4 H => ?_) (fun hc4 H => ?_)
    · -- a1 < 0
      refine region_k (fun K5 hK5 => ?_)
      refine stq hf rfl rfl rfl (ex_move hf rfl) (fun a hf => ?_)
      refine stq hf rfl rfl rfl (ex_lss hf rfl rfl) (fun a hf => ?_)
      refine stq hf rfl rfl rfl (ex_move hf rfl) (fun a hf => ?_)
      replace hf := hf.castB (t := 8) rfl (dec_t hc4)
      replace hf := hf.castB (t := 9) rfl (dec_t hc4)
      refine stepN hf rfl rfl rfl (fun a hf => ?_)
      refine stepN hf rfl rfl rfl (fun a hf => ?_)
      refine stq hf rfl rfl rfl (ex_pickT hf rfl rfl) (fun a hf => ?_)
      refine hK5 _ _ ?_
      have e3 := some_eq H; subst e3
      exact hJ3 _ _ ⟨hf.sub ⟨rfl, rfl, rfl, trivial⟩, hs⟩
    · -- not a1 < 0
      refine region_k (fun K6 hK6 => ?_)
      refine stq hf rfl rfl rfl (ex_move hf rfl) (fun a hf => ?_)
      refine stq hf rfl rfl rfl (ex_lss hf rfl rfl) (fun a hf => ?_)
      refine stq hf rfl rfl rfl (ex_move hf rfl) (fun a hf => ?_)
      replace hf := hf.castB (t := 8) rfl (dec_f hc4)
      replace hf := hf.castB (t := 9) rfl (dec_f hc4)
      refine stq hf rfl rfl rfl (ex_move hf rfl) (fun a hf => ?_)
      refine stq hf rfl rfl rfl (ex_gtr hf rfl rfl) (fun a hf => ?_)
      refine stq hf rfl rfl rfl (ex_pickF hf rfl rfl) (fun a hf => ?_)
      refine hK6 _ _ ?_
      have e3 := some_eq H; subst e3
      exact hJ3 _ _ ⟨hf.sub ⟨rfl, rfl, rfl, trivial⟩, hs⟩
  · obtain ⟨hf, hs⟩ := hJ
    replace H := HO3
    clear HO3
    refine itt H (fun hc7 H => ?_) (fun hc7 H => ?_)
    · -- x3 = true
      replace hf := hf.castB (t := 12) rfl hc7
      refine cond_T hf rfl ?_
      refine seq_reg (fun K8 hK8 => ?_)
      refine stq hf rfl rfl rfl (ex_assign hf rfl) (fun a hf => ?_)
      refine stq hf rfl rfl rfl (ex_assign hf rfl) (fun a hf => ?_)
      refine hK8 _ _ ?_
      refine wp_ret ?_
      refine hR2 _ _ ?_
      have eR := some_eq H; subst eR
      exact ret2 Try.results31 hf rfl rfl ⟨_, rfl, ⟨rfl, hs⟩⟩
    · -- not x3 = true
      replace hf := hf.castB (t := 12) rfl (bool_f hc7)
      refine cond_F hf rfl ?_
      refine wp_skip ?_
      refine hN2 _ _ ?_
      refine bnd H (fun x9 H9 HO9 => ?_)
      clear H
      refine seq_cut (fun a w => ∃ (x9s : Int × Int), x9 = .go x9s ∧ Fr a 124 [(0, .pointer (some ⟨b0, 0, none⟩))] ∧ St M w0 w [bx b0 69 [v0_T, .int .i64 a0_P_Up, .int .i64 a0_P_Down, .int .i64 a0_P_Samples, .int .i64 a0_Low, .int .i64 a0_High, .int .i64 x9s.1, .int .i64 x9s.2]]) (fun Q9 hJ9 hR9 hX9 => ?_) (fun a w hJ => ?_)
      · replace H := H9
        refine block_k (fun Q10 hN10 hR10 hX10 hY10 => ?_)
        refine seq_reg (fun K11 hK11 => ?_)
        refine stq hf rfl rfl rfl (ex_move hf rfl) (fun a hf => ?_)
        refine stq hf rfl rfl rfl (ex_move hf rfl) (fun a hf => ?_)
        refine stq hf rfl rfl rfl (ex_nilCheck hf rfl) (fun a hf => ?_)
        refine stq hf rfl rfl rfl (ex_fieldAddrB fa_69_1 rfl hf rfl) (fun a hf => ?_)
        refine stq hf rfl rfl rfl (ex_fieldAddrB fa_45_0 rfl hf rfl) (fun a hf => ?_)
        refine stq hf rfl rfl rfl (ex_load sc_3 hf rfl (bx_cell (hs.get (i := 0) rfl) _ rfl)) (fun a hf => ?_)
        refine stq hf rfl rfl rfl (ex_gtr hf rfl rfl) (fun a hf => ?_)
        refine stq hf rfl rfl rfl (ex_assign hf rfl) (fun a hf => ?_)
        refine hK11 _ _ ?_
        refine itt H (fun hc12 H => ?_) (fun hc12 H => ?_)
        · -- a0_P_Up < a1
          replace hf := hf.castB (t := 23) rfl (dec_t hc12)
          replace hf := hf.castB (t := 16) rfl (dec_t hc12)
          refine cond_T hf rfl ?_
          refine region_k (fun K13 hK13 => ?_)
          refine stq hf rfl rfl rfl (ex_move hf rfl) (fun a hf => ?_)
          refine stq hf rfl rfl rfl (ex_move hf rfl) (fun a hf => ?_)
          refine stq hf rfl rfl rfl (ex_move hf rfl) (fun a hf => ?_)
          refine stq hf rfl rfl rfl (ex_nilCheck hf rfl) (fun a hf => ?_)
          refine stq hf rfl rfl rfl (ex_fieldAddrB fa_69_3 rfl hf rfl) (fun a hf => ?_)
          refine stq hf rfl rfl rfl (ex_load sc_3 hf rfl (bx_cell (hs.get (i := 0) rfl) _ rfl)) (fun a hf => ?_)
          refine stq hf rfl rfl rfl (ex_nilCheck hf rfl) (fun a hf => ?_)
          refine stq hf rfl rfl rfl (ex_fieldAddrB fa_69_4 rfl hf rfl) (fun a hf => ?_)
          refine stepS hf rfl rfl (er_storeB hs (.c .nil) hf rfl rfl rfl sz_3 rfl) (fun w hs => ?_)
          refine stq hf rfl rfl rfl (ex_nilCheck hf rfl) (fun a hf => ?_)
          refine stq hf rfl rfl rfl (ex_fieldAddrB fa_69_5 rfl hf rfl) (fun a hf => ?_)
          refine stepS hf rfl rfl (er_storeB hs (.c .nil) hf rfl rfl rfl sz_3 rfl) (fun w hs => ?_)
          refine hK13 _ _ ?_
          refine hN10 _ _ ?_
          have e9 := some_eq H; subst e9
          exact hJ9 _ _ ⟨_, rfl, hf.sub ⟨rfl, trivial⟩, hs⟩
        · -- not a0_P_Up < a1
          replace hf := hf.castB (t := 23) rfl (dec_f hc12)
          replace hf := hf.castB (t := 16) rfl (dec_f hc12)
          refine cond_F hf rfl ?_
          refine seq_reg (fun K14 hK14 => ?_)
          refine stq hf rfl rfl rfl (ex_move hf rfl) (fun a hf => ?_)
          refine stq hf rfl rfl rfl (ex_move hf rfl) (fun a hf => ?_)
          refine stq hf rfl rfl rfl (ex_nilCheck hf rfl) (fun a hf => ?_)
          refine stq hf rfl rfl rfl (ex_fieldAddrB fa_69_1 rfl hf rfl) (fun a hf => ?_)
          refine stq hf rfl rfl rfl (ex_fieldAddrB fa_45_1 rfl hf rfl) (fun a hf => ?_)
          refine stq hf rfl rfl rfl (ex_load sc_3 hf rfl (bx_cell (hs.get (i := 0) rfl) _ rfl)) (fun a hf => ?_)
          refine stq hf rfl rfl rfl (ex_lss hf rfl rfl) (fun a hf => ?_)
          refine stq hf rfl rfl rfl (ex_assign hf rfl) (fun a hf => ?_)
          refine hK14 _ _ ?_
          refine itt H (fun hc15 H => ?_) (fun hc15 H => ?_)
          · -- a1 < a0_P_Down
            replace hf := hf.castB (t := 41) rfl (dec_t hc15)
            replace hf := hf.castB (t := 34) rfl (dec_t hc15)
            refine cond_T hf rfl ?_
            refine seq_reg (fun K16 hK16 => ?_)
            refine stq hf rfl rfl rfl (ex_move hf rfl) (fun a hf => ?_)
            refine stq hf rfl rfl rfl (ex_nilCheck hf rfl) (fun a hf => ?_)
            refine stq hf rfl rfl rfl (ex_fieldAddrB fa_69_5 rfl hf rfl) (fun a hf => ?_)
            refine stq hf rfl rfl rfl (ex_load sc_3 hf rfl (bx_cell (hs.get (i := 0) rfl) _ rfl)) (fun a hf => ?_)
            refine stq hf rfl rfl rfl (ex_add hf rfl rfl) (fun a hf => ?_)
            refine stq hf rfl rfl rfl (ex_nilCheck hf rfl) (fun a hf => ?_)
            refine stq hf rfl rfl rfl (ex_fieldAddrB fa_69_5 rfl hf rfl) (fun a hf => ?_)
            refine stepS hf rfl rfl (er_storeB hs (.c .nil) hf rfl rfl rfl sz_3 rfl) (fun w hs => ?_)
            refine hK16 _ _ ?_
            refine seq_n (fun Q17 hN17 hR17 hX17 => ?_)
            refine region_d fol 10 [(0, .pointer (some ⟨b0, 0, none⟩)), (1, .int .i64 a1)] [(0, .pointer (some ⟨b0, 0, none⟩)), (1, .pointer (some ⟨b0, 0, none⟩)), (2, .pointer (some ⟨b0, 7, none⟩)), (3, .int .i64 (IntKind.i64.wrap (a0_N + 1))), (4, .pointer (some ⟨b0, 0, none⟩)), (5, .pointer (some ⟨b0, 0, none⟩)), (6, .pointer (some ⟨b0, 1, none⟩)), (7, .pointer (some ⟨b0, 3, none⟩)), (8, .int .i64 a0_P_Samples), (9, .bool (decide (a0_P_Samples ≤ (IntKind.i64.wrap (a0_N + 1)))))] [] (fun w => (bx b0 69 [v0_T, .int .i64 a0_P_Up, .int .i64 a0_P_Down, .int .i64 a0_P_Samples, .int .i64 a0_Low, .int .i64 a0_High, .int .i64 a0_At, .int .i64 (IntKind.i64.wrap (a0_N + 1))]).ok w ∧ True) (fun w => St M w0 w [bx b0 69 [v0_T, .int .i64 a0_P_Up, .int .i64 a0_P_Down, .int .i64 a0_P_Samples, .int .i64 a0_Low, .int .i64 a0_High, .int .i64 a0_At, .int .i64 (IntKind.i64.wrap (a0_N + 1))]]) hf ⟨rfl, rfl, trivial⟩ (by kernel_rfl) (by kernel_rfl) rfl (by decide) ⟨hs.drew.get (i := 0) rfl, trivial⟩ hs.drew (.cons (⟨_, _, rfl, rfl, rfl, rfl, fun a w hR hf => .inl ⟨wanted_yes hf rfl, ex_move hf rfl⟩⟩) (.cons (⟨_, _, rfl, rfl, rfl, rfl, fun a w hR hf => .inl ⟨wanted_yes hf rfl, ex_nilCheck hf rfl⟩⟩) (.cons (⟨_, _, rfl, rfl, rfl, rfl, fun a w hR hf => .inl ⟨wanted_yes hf rfl, ex_fieldAddrB fa_69_5 rfl hf rfl⟩⟩) (.cons (⟨_, _, rfl, rfl, rfl, rfl, fun a w hR hf => .inl ⟨wanted_yes hf rfl, ex_load sc_3 hf rfl (bx_cell (hR.1) _ rfl)⟩⟩) (.cons (⟨_, _, rfl, rfl, rfl, rfl, fun a w hR hf => .inl ⟨wanted_yes hf rfl, ex_move hf rfl⟩⟩) (.cons (⟨_, _, rfl, rfl, rfl, rfl, fun a w hR hf => .inl ⟨wanted_yes hf rfl, ex_nilCheck hf rfl⟩⟩) (.cons (⟨_, _, rfl, rfl, rfl, rfl, fun a w hR hf => .inl ⟨wanted_yes hf rfl, ex_fieldAddrB fa_69_1 rfl hf rfl⟩⟩) (.cons (⟨_, _, rfl, rfl, rfl, rfl, fun a w hR hf => .inl ⟨wanted_yes hf rfl, ex_fieldAddrB fa_45_2 rfl hf rfl⟩⟩) (.cons (⟨_, _, rfl, rfl, rfl, rfl, fun a w hR hf => .inl ⟨wanted_yes hf rfl, ex_load sc_3 hf rfl (bx_cell (hR.1) _ rfl)⟩⟩) (.cons (⟨_, _, rfl, rfl, rfl, rfl, fun a w hR hf => .inl ⟨wanted_yes hf rfl, ex_geq hf rfl rfl⟩⟩) (.nil))))))))))) (fun K18 hK18 => ?_)
            refine RW.zero (by kernel_rfl) (by kernel_rfl) [(0, .pointer (some ⟨b0, 0, none⟩)), (1, .int .i64 a1), (58, .bool (decide (a0_P_Samples ≤ (IntKind.i64.wrap (a0_N + 1)))))] ⟨rfl, rfl, rfl, trivial⟩ (fun a w hR hs hf => ?_)
            refine hK18 _ _ ?_
            refine hN17 _ _ ?_
            refine itt H (fun hc19 H => ?_) (fun hc19 H => ?_)
            · -- a0_P_Samples ≤ (IntKind.i64.wrap (a0_N + 1))
              replace hf := hf.castB (t := 58) rfl (dec_t hc19)
              refine cond_T hf rfl ?_
              refine seq_reg (fun K20 hK20 => ?_)
              refine stq hf rfl rfl rfl (ex_move hf rfl) (fun a hf => ?_)
              refine stq hf rfl rfl rfl (ex_nilCheck hf rfl) (fun a hf => ?_)
              refine stq hf rfl rfl rfl (ex_fieldAddrB fa_69_5 rfl hf rfl) (fun a hf => ?_)
              refine stepS hf rfl rfl (er_storeB hs (.c .nil) hf rfl rfl rfl sz_3 rfl) (fun w hs => ?_)
              refine hK20 _ _ ?_
              refine bnd H (fun x21 H21 HO21 => ?_)
              clear H
              refine seq_cut (fun a w => ∃ (x21s : Unit), x21 = .go x21s ∧ Fr a 124 [(0, .pointer (some ⟨b0, 0, none⟩))] ∧ St M w0 w [bx b0 69 [v0_T, .int .i64 a0_P_Up, .int .i64 a0_P_Down, .int .i64 a0_P_Samples, .int .i64 a0_Low, .int .i64 a0_High, .int .i64 a0_At, .int .i64 0]]) (fun Q21 hJ21 hR21 hX21 => ?_) (fun a w hJ => ?_)
              · replace H := H21
                refine seq_reg (fun K22 hK22 => ?_)
                refine stq hf rfl rfl rfl (ex_move hf rfl) (fun a hf => ?_)
                refine stq hf rfl rfl rfl (ex_nilCheck hf rfl) (fun a hf => ?_)
                refine stq hf rfl rfl rfl (ex_fieldAddrB fa_69_4 rfl hf rfl) (fun a hf => ?_)
                refine stq hf rfl rfl rfl (ex_load sc_3 hf rfl (bx_cell (hs.get (i := 0) rfl) _ rfl)) (fun a hf => ?_)
                refine stq hf rfl rfl rfl (ex_assign hf rfl) (fun a hf => ?_)
                refine hK22 _ _ ?_
                refine block_k (fun Q23 hN23 hR23 hX23 hY23 => ?_)
                refine loop_k (fun n a w => ∃ (y24 : Int), Fr a 124 [(0, .pointer (some ⟨b0, 0, none⟩)), (1, .int .i64 a1), (6, .int .i64 y24)] ∧ St M w0 w [bx b0 69 [v0_T, .int .i64 a0_P_Up, .int .i64 a0_P_Down, .int .i64 a0_P_Samples, .int .i64 a0_Low, .int .i64 a0_High, .int .i64 a0_At, .int .i64 0]] ∧ ref36_Governor_Sample.l1 n a0_Low a0_At a0_T a1 a0_P_Up y24 = some x21) k ?_ (fun n26 a w hI Q26 hL26 hR26 hX26 => ?_)
                · -- at the start
                  exact ⟨a0_At, hf.sub ⟨rfl, rfl, rfl, trivial⟩, hs, H⟩
                · obtain ⟨y24, hf, hs, H⟩ := hI
                  cases n26 with
                  | zero => exact absurd H (by rw [ref36_Governor_Sample.l1.eq_1]; intro h; cases h)
                  | succ k26 =>
                    replace H := (ref36_Governor_Sample.l1.eq_2 ..).symm.trans H
                    refine seq_n (fun Q27 hN27 hR27 hX27 => ?_)
                    refine seq_reg (fun K28 hK28 => ?_)
                    refine stq hf rfl rfl rfl (ex_move hf rfl) (fun a hf => ?_)
                    refine stq hf rfl rfl rfl (ex_move hf rfl) (fun a hf => ?_)
                    refine stq hf rfl rfl rfl (ex_nilCheck hf rfl) (fun a hf => ?_)
                    refine stq hf rfl rfl rfl (ex_fieldAddrB fa_69_2 rfl hf rfl) (fun a hf => ?_)
                    refine stq hf rfl rfl rfl (ex_load sc_3 hf rfl (bx_cell (hs.get (i := 0) rfl) _ rfl)) (fun a hf => ?_)
                    refine stq hf rfl rfl rfl (ex_geq hf rfl rfl) (fun a hf => ?_)
                    refine hK28 _ _ ?_
                    refine itt H (fun hc29 H => ?_) (fun hc29 H => ?_)
                    · -- a0_Low ≤ y24
                      replace hf := hf.castB (t := 71) rfl (dec_t hc29)
                      refine cond_T hf rfl ?_
                      refine wp_skip ?_
                      refine hN27 _ _ ?_
                      refine seq_n (fun Q30 hN30 hR30 hX30 => ?_)
                      refine block_k (fun Q31 hN31 hR31 hX31 hY31 => ?_)
                      refine seq_n (fun Q32 hN32 hR32 hX32 => ?_)
                      refine seq_n (fun Q33 hN33 hR33 hX33 => ?_)
                      refine ck_some H (fun hc34 H => ?_)
                      refine ck_some H (fun hc35 H => ?_)
                      refine region_d fol 30 [(0, .pointer (some ⟨b0, 0, none⟩)), (1, .int .i64 a1), (6, .int .i64 y24)] [(0, .int .i64 a1), (1, .int .u64 (IntKind.u64.wrap a1)), (2, .pointer (some ⟨b0, 0, none⟩)), (3, .pointer (some ⟨b0, 0, none⟩)), (4, .pointer (some ⟨b0, 0, none⟩)), (5, v0_T), (6, .pointer (some ⟨b0, 0, none⟩)), (7, .pointer (some ⟨b0, 0, none⟩)), (8, .pointer (some ⟨b0, 6, none⟩)), (9, .int .i64 a0_At), (10, .pointer (some (sla v0_T (a0_At.toNat * 3)))), (11, .pointer (some (sla v0_T (a0_At.toNat * 3 + 0)))), (12, .int .u64 ((gd OperatingPoint.zero a0_T a0_At).Frequency)), (13, .int .u64 (IntKind.u64.wrap ((IntKind.u64.wrap a1) * ((gd OperatingPoint.zero a0_T a0_At).Frequency)))), (14, .pointer (some ⟨b0, 0, none⟩)), (15, .pointer (some ⟨b0, 0, none⟩)), (16, .pointer (some ⟨b0, 1, none⟩)), (17, .pointer (some ⟨b0, 1, none⟩)), (18, .int .i64 a0_P_Up), (19, .int .u64 (IntKind.u64.wrap a0_P_Up)), (20, .pointer (some ⟨b0, 0, none⟩)), (21, .pointer (some ⟨b0, 0, none⟩)), (22, .pointer (some ⟨b0, 0, none⟩)), (23, v0_T), (24, .int .i64 y24), (25, .pointer (some (sla v0_T (y24.toNat * 3)))), (26, .pointer (some (sla v0_T (y24.toNat * 3 + 0)))), (27, .int .u64 ((gd OperatingPoint.zero a0_T y24).Frequency)), (28, .int .u64 (IntKind.u64.wrap ((IntKind.u64.wrap a0_P_Up) * ((gd OperatingPoint.zero a0_T y24).Frequency)))), (29, .bool (decide ((IntKind.u64.wrap ((IntKind.u64.wrap a1) * ((gd OperatingPoint.zero a0_T a0_At).Frequency))) ≤ (IntKind.u64.wrap ((IntKind.u64.wrap a0_P_Up) * ((gd OperatingPoint.zero a0_T y24).Frequency))))))] [] (fun w => (bx b0 69 [v0_T, .int .i64 a0_P_Up, .int .i64 a0_P_Down, .int .i64 a0_P_Samples, .int .i64 a0_Low, .int .i64 a0_High, .int .i64 a0_At, .int .i64 0]).ok w ∧ (rsl K_api_OperatingPoint v0_T a0_T).ok w ∧ True) (fun w => St M w0 w [bx b0 69 [v0_T, .int .i64 a0_P_Up, .int .i64 a0_P_Down, .int .i64 a0_P_Samples, .int .i64 a0_Low, .int .i64 a0_High, .int .i64 a0_At, .int .i64 0]]) hf ⟨rfl, rfl, rfl, trivial⟩ (by kernel_rfl) (by kernel_rfl) rfl (by decide) ⟨hs.drew.get (i := 0) rfl, hr.now hs.drew (i := 0) rfl, trivial⟩ hs.drew (.cons (⟨_, _, rfl, rfl, rfl, rfl, fun a w hR hf => .inl ⟨wanted_yes hf rfl, ex_move hf rfl⟩⟩) (.cons (⟨_, _, rfl, rfl, rfl, rfl, fun a w hR hf => .inl ⟨wanted_yes hf rfl, ex_conv Try.underlying3 Try.underlying23 hf rfl⟩⟩) (.cons (⟨_, _, rfl, rfl, rfl, rfl, fun a w hR hf => .inl ⟨wanted_yes hf rfl, ex_move hf rfl⟩⟩) (.cons (⟨_, _, rfl, rfl, rfl, rfl, fun a w hR hf => .inl ⟨wanted_yes hf rfl, ex_nilCheck hf rfl⟩⟩) (.cons (⟨_, _, rfl, rfl, rfl, rfl, fun a w hR hf => .inl ⟨wanted_yes hf rfl, ex_fieldAddrB fa_69_0 rfl hf rfl⟩⟩) (.cons (⟨_, _, rfl, rfl, rfl, rfl, fun a w hR hf => .inl ⟨wanted_yes hf rfl, ex_load sc_22 hf rfl (bx_cell (hR.1) _ rfl)⟩⟩) (.cons (⟨_, _, rfl, rfl, rfl, rfl, fun a w hR hf => .inl ⟨wanted_yes hf rfl, ex_move hf rfl⟩⟩) (.cons (⟨_, _, rfl, rfl, rfl, rfl, fun a w hR hf => .inl ⟨wanted_yes hf rfl, ex_nilCheck hf rfl⟩⟩) (.cons (⟨_, _, rfl, rfl, rfl, rfl, fun a w hR hf => .inl ⟨wanted_yes hf rfl, ex_fieldAddrB fa_69_4 rfl hf rfl⟩⟩) (.cons (⟨_, _, rfl, rfl, rfl, rfl, fun a w hR hf => .inl ⟨wanted_yes hf rfl, ex_load sc_3 hf rfl (bx_cell (hR.1) _ rfl)⟩⟩) (.cons (⟨_, _, rfl, rfl, rfl, rfl, fun a w hR hf => .inl ⟨wanted_yes hf rfl, ex_indexAddr sa_22 (rsl_isSl hR.2.1) hc34.1 hc34.2 hf rfl rfl⟩⟩) (.cons (⟨_, _, rfl, rfl, rfl, rfl, fun a w hR hf => .inl ⟨wanted_yes hf rfl, ex_fieldAddrS fa_25_0 rfl hf rfl⟩⟩) (.cons (⟨_, _, rfl, rfl, rfl, rfl, fun a w hR hf => .inl ⟨wanted_yes hf rfl, ex_load sc_23 hf rfl (el_cell (K := K_api_OperatingPoint) (f := 0) (rsl_rd hR.2.1) hc34.1 hc34.2 rfl)⟩⟩) (.cons (⟨_, _, rfl, rfl, rfl, rfl, fun a w hR hf => .inl ⟨wanted_yes hf rfl, ex_mul hf rfl rfl⟩⟩) (.cons (⟨_, _, rfl, rfl, rfl, rfl, fun a w hR hf => .inl ⟨wanted_yes hf rfl, ex_move hf rfl⟩⟩) (.cons (⟨_, _, rfl, rfl, rfl, rfl, fun a w hR hf => .inl ⟨wanted_yes hf rfl, ex_nilCheck hf rfl⟩⟩) (.cons (⟨_, _, rfl, rfl, rfl, rfl, fun a w hR hf => .inl ⟨wanted_yes hf rfl, ex_fieldAddrB fa_69_1 rfl hf rfl⟩⟩) (.cons (⟨_, _, rfl, rfl, rfl, rfl, fun a w hR hf => .inl ⟨wanted_yes hf rfl, ex_fieldAddrB fa_45_0 rfl hf rfl⟩⟩) (.cons (⟨_, _, rfl, rfl, rfl, rfl, fun a w hR hf => .inl ⟨wanted_yes hf rfl, ex_load sc_3 hf rfl (bx_cell (hR.1) _ rfl)⟩⟩) (.cons (⟨_, _, rfl, rfl, rfl, rfl, fun a w hR hf => .inl ⟨wanted_yes hf rfl, ex_conv Try.underlying3 Try.underlying23 hf rfl⟩⟩) (.cons (⟨_, _, rfl, rfl, rfl, rfl, fun a w hR hf => .inl ⟨wanted_yes hf rfl, ex_move hf rfl⟩⟩) (.cons (⟨_, _, rfl, rfl, rfl, rfl, fun a w hR hf => .inl ⟨wanted_yes hf rfl, ex_nilCheck hf rfl⟩⟩) (.cons (⟨_, _, rfl, rfl, rfl, rfl, fun a w hR hf => .inl ⟨wanted_yes hf rfl, ex_fieldAddrB fa_69_0 rfl hf rfl⟩⟩) (.cons (⟨_, _, rfl, rfl, rfl, rfl, fun a w hR hf => .inl ⟨wanted_yes hf rfl, ex_load sc_22 hf rfl (bx_cell (hR.1) _ rfl)⟩⟩) (.cons (⟨_, _, rfl, rfl, rfl, rfl, fun a w hR hf => .inl ⟨wanted_yes hf rfl, ex_move hf rfl⟩⟩) (.cons (⟨_, _, rfl, rfl, rfl, rfl, fun a w hR hf => .inl ⟨wanted_yes hf rfl, ex_indexAddr sa_22 (rsl_isSl hR.2.1) hc35.1 hc35.2 hf rfl rfl⟩⟩) (.cons (⟨_, _, rfl, rfl, rfl, rfl, fun a w hR hf => .inl ⟨wanted_yes hf rfl, ex_fieldAddrS fa_25_0 rfl hf rfl⟩⟩) (.cons (⟨_, _, rfl, rfl, rfl, rfl, fun a w hR hf => .inl ⟨wanted_yes hf rfl, ex_load sc_23 hf rfl (el_cell (K := K_api_OperatingPoint) (f := 0) (rsl_rd hR.2.1) hc35.1 hc35.2 rfl)⟩⟩) (.cons (⟨_, _, rfl, rfl, rfl, rfl, fun a w hR hf => .inl ⟨wanted_yes hf rfl, ex_mul hf rfl rfl⟩⟩) (.cons (⟨_, _, rfl, rfl, rfl, rfl, fun a w hR hf => .inl ⟨wanted_yes hf rfl, ex_leq hf rfl rfl⟩⟩) (.nil))))))))))))))))))))))))))))))) (fun K36 hK36 => ?_)
                      refine RW.zero (by kernel_rfl) (by kernel_rfl) [(0, .pointer (some ⟨b0, 0, none⟩)), (1, .int .i64 a1), (6, .int .i64 y24), (103, .bool (decide ((IntKind.u64.wrap ((IntKind.u64.wrap a1) * ((gd OperatingPoint.zero a0_T a0_At).Frequency))) ≤ (IntKind.u64.wrap ((IntKind.u64.wrap a0_P_Up) * ((gd OperatingPoint.zero a0_T y24).Frequency))))))] ⟨rfl, rfl, rfl, rfl, trivial⟩ (fun a w hR hs hf => ?_)
                      refine hK36 _ _ ?_
                      refine hN33 _ _ ?_
                      refine itt H (fun hc37 H => ?_) (fun hc37 H => ?_)
                      · -- (IntKind.u64.wrap ((IntKind.u64.wrap a1) * ((gd OperatingPoi
                        replace hf := hf.castB (t := 103) rfl (dec_t hc37)
                        refine cond_T hf rfl ?_
                        refine wp_exit ?_
                        refine hX32 2 _ _ ?_
                        refine hX31 _ _ ?_
                        refine hN30 _ _ ?_
                        refine region_k (fun K38 hK38 => ?_)
                        refine stq hf rfl rfl rfl (ex_move hf rfl) (fun a hf => ?_)
                        refine stq hf rfl rfl rfl (ex_sub hf rfl rfl) (fun a hf => ?_)
                        refine stq hf rfl rfl rfl (ex_assign hf rfl) (fun a hf => ?_)
                        refine hK38 _ _ ?_
                        exact hL26 k26 _ _ (Nat.lt_succ_self _) ⟨(IntKind.i64.wrap (y24 - 1)), hf.sub ⟨rfl, rfl, rfl, trivial⟩, hs, H⟩
                      · -- not (IntKind.u64.wrap ((IntKind.u64.wrap a1) * ((gd OperatingPoi
                        replace hf := hf.castB (t := 103) rfl (dec_f hc37)
                        refine cond_F hf rfl ?_
                        refine wp_skip ?_
                        refine hN32 _ _ ?_
                        refine seq_reg (fun K39 hK39 => ?_)
                        refine stq hf rfl rfl rfl (ex_move hf rfl) (fun a hf => ?_)
                        refine stq hf rfl rfl rfl (ex_move hf rfl) (fun a hf => ?_)
                        refine stq hf rfl rfl rfl (ex_add hf rfl rfl) (fun a hf => ?_)
                        refine stq hf rfl rfl rfl (ex_nilCheck hf rfl) (fun a hf => ?_)
                        refine stq hf rfl rfl rfl (ex_fieldAddrB fa_69_4 rfl hf rfl) (fun a hf => ?_)
                        refine stepS hf rfl rfl (er_storeB hs (.c .nil) hf rfl rfl rfl sz_3 rfl) (fun w hs => ?_)
                        refine hK39 _ _ ?_
                        refine seq_reg (fun K40 hK40 => ?_)
                        refine stq hf rfl rfl rfl (ex_move hf rfl) (fun a hf => ?_)
                        refine stq hf rfl rfl rfl (ex_nilCheck hf rfl) (fun a hf => ?_)
                        refine stq hf rfl rfl rfl (ex_fieldAddrB fa_69_4 rfl hf rfl) (fun a hf => ?_)
                        refine stq hf rfl rfl rfl (ex_load sc_3 hf rfl (bx_cell (hs.get (i := 0) rfl) _ rfl)) (fun a hf => ?_)
                        refine stq hf rfl rfl rfl (ex_assign hf rfl) (fun a hf => ?_)
                        refine stq hf rfl rfl rfl (ex_assign hf rfl) (fun a hf => ?_)
                        refine hK40 _ _ ?_
                        refine wp_ret ?_
                        refine hR31 _ _ ?_
                        refine hR30 _ _ ?_
                        refine hR26 _ _ ?_
                        refine hR23 _ _ ?_
                        have e21 := some_eq H; subst e21; replace H := el_rt HO21
                        refine hR21 _ _ ?_
                        refine hR10 _ _ ?_
                        have e9 := some_eq H; subst e9; replace H := el_rt HO9
                        refine hR9 _ _ ?_
                        have eR := some_eq H; subst eR
                        exact ret2 Try.results31 hf rfl rfl ⟨_, rfl, ⟨rfl, hs⟩⟩
                    · -- not a0_Low ≤ y24
                      replace hf := hf.castB (t := 71) rfl (dec_f hc29)
                      refine cond_F hf rfl ?_
                      refine wp_exit ?_
                      refine hX27 1 _ _ ?_
                      refine hX26 1 _ _ ?_
                      refine hX23 _ _ ?_
                      have e21 := some_eq H; subst e21
                      exact hJ21 _ _ ⟨_, rfl, hf.sub ⟨rfl, trivial⟩, hs⟩
              · obtain ⟨x21s, rfl, hf, hs⟩ := hJ
                replace H := el_go HO21
                clear HO21
                refine region_k (fun K41 hK41 => ?_)
                refine stq hf rfl rfl rfl (ex_move hf rfl) (fun a hf => ?_)
                refine stq hf rfl rfl rfl (ex_move hf rfl) (fun a hf => ?_)
                refine stq hf rfl rfl rfl (ex_nilCheck hf rfl) (fun a hf => ?_)
                refine stq hf rfl rfl rfl (ex_fieldAddrB fa_69_2 rfl hf rfl) (fun a hf => ?_)
                refine stq hf rfl rfl rfl (ex_load sc_3 hf rfl (bx_cell (hs.get (i := 0) rfl) _ rfl)) (fun a hf => ?_)
                refine stq hf rfl rfl rfl (ex_nilCheck hf rfl) (fun a hf => ?_)
                refine stq hf rfl rfl rfl (ex_fieldAddrB fa_69_4 rfl hf rfl) (fun a hf => ?_)
                refine stepS hf rfl rfl (er_storeB hs (.c .nil) hf rfl rfl rfl sz_3 rfl) (fun w hs => ?_)
                refine hK41 _ _ ?_
                refine hN10 _ _ ?_
                have e9 := some_eq H; subst e9
                exact hJ9 _ _ ⟨_, rfl, hf.sub ⟨rfl, trivial⟩, hs⟩
            · -- not a0_P_Samples ≤ (IntKind.i64.wrap (a0_N + 1))
              replace hf := hf.castB (t := 58) rfl (dec_f hc19)
              refine cond_F hf rfl ?_
              refine wp_skip ?_
              refine hN10 _ _ ?_
              have e9 := some_eq H; subst e9
              exact hJ9 _ _ ⟨_, rfl, hf.sub ⟨rfl, trivial⟩, hs⟩
          · -- not a1 < a0_P_Down
            replace hf := hf.castB (t := 41) rfl (dec_f hc15)
            replace hf := hf.castB (t := 34) rfl (dec_f hc15)
            refine cond_F hf rfl ?_
            refine region_k (fun K42 hK42 => ?_)
            refine stq hf rfl rfl rfl (ex_move hf rfl) (fun a hf => ?_)
            refine stq hf rfl rfl rfl (ex_nilCheck hf rfl) (fun a hf => ?_)
            refine stq hf rfl rfl rfl (ex_fieldAddrB fa_69_5 rfl hf rfl) (fun a hf => ?_)
            refine stepS hf rfl rfl (er_storeB hs (.c .nil) hf rfl rfl rfl sz_3 rfl) (fun w hs => ?_)
            refine hK42 _ _ ?_
            refine hN10 _ _ ?_
            have e9 := some_eq H; subst e9
            exact hJ9 _ _ ⟨_, rfl, hf.sub ⟨rfl, trivial⟩, hs⟩
      · obtain ⟨x9s, rfl, hf, hs⟩ := hJ
        replace H := el_go HO9
        clear HO9
        refine seq_reg (fun K43 hK43 => ?_)
        refine stq hf rfl rfl rfl (ex_move hf rfl) (fun a hf => ?_)
        refine stq hf rfl rfl rfl (ex_nilCheck hf rfl) (fun a hf => ?_)
        refine stq hf rfl rfl rfl (ex_fieldAddrB fa_69_4 rfl hf rfl) (fun a hf => ?_)
        refine stq hf rfl rfl rfl (ex_load sc_3 hf rfl (bx_cell (hs.get (i := 0) rfl) _ rfl)) (fun a hf => ?_)
        refine stq hf rfl rfl rfl (ex_assign hf rfl) (fun a hf => ?_)
        refine stq hf rfl rfl rfl (ex_assign hf rfl) (fun a hf => ?_)
        refine hK43 _ _ ?_
        refine wp_ret ?_
        have eR := some_eq H; subst eR
        exact ret2 Try.results31 hf rfl rfl ⟨_, rfl, ⟨rfl, hs⟩⟩

set_option maxRecDepth 100000 in
theorem ref36_Governor_Current.calls {M : Nat → Prop} {w0 : World} (k : Nat) (a0_T : (List OperatingPoint)) (a0_P_Up : Int) (a0_P_Down : Int) (a0_P_Samples : Int) (a0_Low : Int) (a0_High : Int) (a0_At : Int) (a0_N : Int) (b0 : Nat) (v0_T : Value) {r : Int} (hs : St M w0 w0 []) (hr : Sr M w0 [bx b0 69 [v0_T, .int .i64 a0_P_Up, .int .i64 a0_P_Down, .int .i64 a0_P_Samples, .int .i64 a0_Low, .int .i64 a0_High, .int .i64 a0_At, .int .i64 a0_N], rsl K_api_OperatingPoint v0_T a0_T])
    (h : ref36_Governor_Current.f k a0_T a0_P_Up a0_P_Down a0_P_Samples a0_Low a0_High a0_At a0_N = some r) : Calls Try.prog 32 #[.pointer (some ⟨b0, 0, none⟩)] w0 fun e w => ∃ v, e = .returned v ∧ (.int .i64 r = v ∧ St M w0 w []) := by
  have H := (ref36_Governor_Current.f.eq_1 ..).symm.trans h
  clear h
  refine enter Try.func32 rfl Try.ntmps32 rfl (fun a hf => ?_)
  refine seq_reg (fun K1 hK1 => ?_)
  refine stq hf rfl rfl rfl (ex_assign hf rfl) (fun a hf => ?_)
  refine hK1 _ _ ?_
  refine seq_reg (fun K2 hK2 => ?_)
  refine stq hf rfl rfl rfl (ex_move hf rfl) (fun a hf => ?_)
  refine stq hf rfl rfl rfl (ex_nilCheck hf rfl) (fun a hf => ?_)
  refine stq hf rfl rfl rfl (ex_fieldAddrB fa_69_4 rfl hf rfl) (fun a hf => ?_)
  refine stq hf rfl rfl rfl (ex_load sc_3 hf rfl (bx_cell (hr.now hs (i := 0) rfl) _ rfl)) (fun a hf => ?_)
  refine stq hf rfl rfl rfl (ex_assign hf rfl) (fun a hf => ?_)
  refine hK2 _ _ ?_
  refine wp_ret ?_
  have eR := some_eq H; subst eR
  exact ret1 Try.results32 hf rfl ⟨_, rfl, ⟨rfl, hs⟩⟩

end Go.Proofs.Ythemeobgfgmblaa.X
