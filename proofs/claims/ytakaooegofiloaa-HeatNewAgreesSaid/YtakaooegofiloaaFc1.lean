/- Each function of the machine comes to what its pure function says. -/
import Derived.Test.YtakaooegofiloaaFb
namespace Go.Proofs.Ytakaooegofiloaa.X
open Go Go.RowKit Go.Sx
set_option linter.unusedVariables false

set_option maxRecDepth 100000 in
theorem heat_inRange.calls {M : Nat → Prop} {w0 : World} (k : Nat) (a0 : Int) (a1 : Int) {r : Bool} (hs : St M w0 w0 []) (hr : Sr M w0 [])
    (h : heat_inRange.f k a0 a1 = some r) : Calls Try.prog 39 #[.int .i64 a0, .int .i64 a1] w0 fun e w => ∃ v, e = .returned v ∧ (.bool r = v ∧ St M w0 w []) := by
  have H := (heat_inRange.f.eq_1 ..).symm.trans h
  clear h
  refine enter Try.func39 rfl Try.ntmps39 rfl (fun a hf => ?_)
  refine seq_reg (fun K1 hK1 => ?_)
  refine stq hf rfl rfl rfl (ex_assign hf rfl) (fun a hf => ?_)
  refine hK1 _ _ ?_
  refine itt H (fun hc2 H => ?_) (fun hc2 H => ?_)
  · -- a1 ≤ a0
    refine seq_reg (fun K3 hK3 => ?_)
    refine stq hf rfl rfl rfl (ex_move hf rfl) (fun a hf => ?_)
    refine stq hf rfl rfl rfl (ex_move hf rfl) (fun a hf => ?_)
    refine stq hf rfl rfl rfl (ex_geq hf rfl rfl) (fun a hf => ?_)
    refine stq hf rfl rfl rfl (ex_move hf rfl) (fun a hf => ?_)
    replace hf := hf.castB (t := 7) rfl (dec_t hc2)
    replace hf := hf.castB (t := 8) rfl (dec_t hc2)
    refine stq hf rfl rfl rfl (ex_move hf rfl) (fun a hf => ?_)
    refine stq hf rfl rfl rfl (ex_leq hf rfl rfl) (fun a hf => ?_)
    refine stq hf rfl rfl rfl (ex_pickT hf rfl rfl) (fun a hf => ?_)
    refine stq hf rfl rfl rfl (ex_assign hf rfl) (fun a hf => ?_)
    refine hK3 _ _ ?_
    refine wp_ret ?_
    have eR := some_eq H; subst eR
    exact ret1 Try.results39 hf rfl ⟨_, rfl, ⟨rfl, hs⟩⟩
  · -- not a1 ≤ a0
    refine seq_reg (fun K4 hK4 => ?_)
    refine stq hf rfl rfl rfl (ex_move hf rfl) (fun a hf => ?_)
    refine stq hf rfl rfl rfl (ex_move hf rfl) (fun a hf => ?_)
    refine stq hf rfl rfl rfl (ex_geq hf rfl rfl) (fun a hf => ?_)
    refine stq hf rfl rfl rfl (ex_move hf rfl) (fun a hf => ?_)
    replace hf := hf.castB (t := 7) rfl (dec_f hc2)
    replace hf := hf.castB (t := 8) rfl (dec_f hc2)
    refine stepN hf rfl rfl rfl (fun a hf => ?_)
    refine stepN hf rfl rfl rfl (fun a hf => ?_)
    refine stq hf rfl rfl rfl (ex_pickF hf rfl rfl) (fun a hf => ?_)
    refine stq hf rfl rfl rfl (ex_assign hf rfl) (fun a hf => ?_)
    refine hK4 _ _ ?_
    refine wp_ret ?_
    have eR := some_eq H; subst eR
    exact ret1 Try.results39 hf rfl ⟨_, rfl, ⟨rfl, hs⟩⟩

set_option maxRecDepth 100000 in
theorem heat_connects.calls {M : Nat → Prop} {w0 : World} (k : Nat) (a0 : HeatLink) (a1 : HeatLink) {r : Bool} (hs : St M w0 w0 []) (hr : Sr M w0 [])
    (h : heat_connects.f k a0 a1 = some r) : Calls Try.prog 46 #[.agg #[.int .i64 a0.A, .int .i64 a0.B, .int .i64 a0.Conductance], .agg #[.int .i64 a1.A, .int .i64 a1.B, .int .i64 a1.Conductance]] w0 fun e w => ∃ v, e = .returned v ∧ (.bool r = v ∧ St M w0 w []) := by
  have H := (heat_connects.f.eq_1 ..).symm.trans h
  clear h
  refine enter Try.func46 rfl Try.ntmps46 rfl (fun a hf => ?_)
  refine seq_reg (fun K3 hK3 => ?_)
  refine stepV hf rfl rfl rfl (er_box (cs := [.int .i64 a0.A, .int .i64 a0.B, .int .i64 a0.Conductance]) hs hf rfl rfl) (fun v w hR a hf => ?_)
  obtain ⟨b1, rfl, hs⟩ := hR
  refine stepV hf rfl rfl rfl (er_box (cs := [.int .i64 a1.A, .int .i64 a1.B, .int .i64 a1.Conductance]) hs hf rfl rfl) (fun v w hR a hf => ?_)
  obtain ⟨b2, rfl, hs⟩ := hR
  refine stq hf rfl rfl rfl (ex_assign hf rfl) (fun a hf => ?_)
  refine hK3 _ _ ?_
  refine itt H (fun hc4 H => ?_) (fun hc4 H => ?_)
  · -- a0.A = a1.A
    refine itt H (fun hc5 H => ?_) (fun hc5 H => ?_)
    · -- a0.B = a1.B
      refine seq_reg (fun K6 hK6 => ?_)
      refine stq hf rfl rfl rfl (ex_fieldAddrB fa_43_0 rfl hf rfl) (fun a hf => ?_)
      refine stq hf rfl rfl rfl (ex_load sc_3 hf rfl (bx_cell (hs.get (i := 1) rfl) _ rfl)) (fun a hf => ?_)
      refine stq hf rfl rfl rfl (ex_fieldAddrB fa_43_0 rfl hf rfl) (fun a hf => ?_)
      refine stq hf rfl rfl rfl (ex_load sc_3 hf rfl (bx_cell (hs.get (i := 0) rfl) _ rfl)) (fun a hf => ?_)
      refine stq hf rfl rfl rfl (ex_eql hf rfl rfl) (fun a hf => ?_)
      refine stq hf rfl rfl rfl (ex_move hf rfl) (fun a hf => ?_)
      replace hf := hf.castB (t := 9) rfl (dec_t hc4)
      replace hf := hf.castB (t := 10) rfl (dec_t hc4)
      refine stq hf rfl rfl rfl (ex_fieldAddrB fa_43_1 rfl hf rfl) (fun a hf => ?_)
      refine stq hf rfl rfl rfl (ex_load sc_3 hf rfl (bx_cell (hs.get (i := 1) rfl) _ rfl)) (fun a hf => ?_)
      refine stq hf rfl rfl rfl (ex_fieldAddrB fa_43_1 rfl hf rfl) (fun a hf => ?_)
      refine stq hf rfl rfl rfl (ex_load sc_3 hf rfl (bx_cell (hs.get (i := 0) rfl) _ rfl)) (fun a hf => ?_)
      refine stq hf rfl rfl rfl (ex_eql hf rfl rfl) (fun a hf => ?_)
      refine stq hf rfl rfl rfl (ex_pickT hf rfl rfl) (fun a hf => ?_)
      refine stq hf rfl rfl rfl (ex_move hf rfl) (fun a hf => ?_)
      replace hf := hf.castB (t := 15) rfl (dec_t hc5)
      replace hf := hf.castB (t := 16) rfl (dec_t hc5)
      replace hf := hf.castB (t := 17) rfl (dec_t hc5)
      refine stepN hf rfl rfl rfl (fun a hf => ?_)
      refine stepN hf rfl rfl rfl (fun a hf => ?_)
      refine stepN hf rfl rfl rfl (fun a hf => ?_)
      refine stepN hf rfl rfl rfl (fun a hf => ?_)
      refine stepN hf rfl rfl rfl (fun a hf => ?_)
      refine stepN hf rfl rfl rfl (fun a hf => ?_)
      refine stepN hf rfl rfl rfl (fun a hf => ?_)
      refine stepN hf rfl rfl rfl (fun a hf => ?_)
      refine stepN hf rfl rfl rfl (fun a hf => ?_)
      refine stepN hf rfl rfl rfl (fun a hf => ?_)
      refine stepN hf rfl rfl rfl (fun a hf => ?_)
      refine stepN hf rfl rfl rfl (fun a hf => ?_)
      refine stq hf rfl rfl rfl (ex_pickT hf rfl rfl) (fun a hf => ?_)
      refine stq hf rfl rfl rfl (ex_assign hf rfl) (fun a hf => ?_)
      refine hK6 _ _ ?_
      refine wp_ret ?_
      have eR := some_eq H; subst eR
      replace hs := hs.keep (.d (.d .nil))
      exact ret1 Try.results46 hf rfl ⟨_, rfl, ⟨rfl, hs⟩⟩
    · -- not a0.B = a1.B
      refine itt H (fun hc7 H => ?_) (fun hc7 H => ?_)
      · -- a0.A = a1.B
        refine seq_reg (fun K8 hK8 => ?_)
        refine stq hf rfl rfl rfl (ex_fieldAddrB fa_43_0 rfl hf rfl) (fun a hf => ?_)
        refine stq hf rfl rfl rfl (ex_load sc_3 hf rfl (bx_cell (hs.get (i := 1) rfl) _ rfl)) (fun a hf => ?_)
        refine stq hf rfl rfl rfl (ex_fieldAddrB fa_43_0 rfl hf rfl) (fun a hf => ?_)
        refine stq hf rfl rfl rfl (ex_load sc_3 hf rfl (bx_cell (hs.get (i := 0) rfl) _ rfl)) (fun a hf => ?_)
        refine stq hf rfl rfl rfl (ex_eql hf rfl rfl) (fun a hf => ?_)
        refine stq hf rfl rfl rfl (ex_move hf rfl) (fun a hf => ?_)
        replace hf := hf.castB (t := 9) rfl (dec_t hc4)
        replace hf := hf.castB (t := 10) rfl (dec_t hc4)
        refine stq hf rfl rfl rfl (ex_fieldAddrB fa_43_1 rfl hf rfl) (fun a hf => ?_)
        refine stq hf rfl rfl rfl (ex_load sc_3 hf rfl (bx_cell (hs.get (i := 1) rfl) _ rfl)) (fun a hf => ?_)
        refine stq hf rfl rfl rfl (ex_fieldAddrB fa_43_1 rfl hf rfl) (fun a hf => ?_)
        refine stq hf rfl rfl rfl (ex_load sc_3 hf rfl (bx_cell (hs.get (i := 0) rfl) _ rfl)) (fun a hf => ?_)
        refine stq hf rfl rfl rfl (ex_eql hf rfl rfl) (fun a hf => ?_)
        refine stq hf rfl rfl rfl (ex_pickT hf rfl rfl) (fun a hf => ?_)
        refine stq hf rfl rfl rfl (ex_move hf rfl) (fun a hf => ?_)
        replace hf := hf.castB (t := 15) rfl (dec_f hc5)
        replace hf := hf.castB (t := 16) rfl (dec_f hc5)
        replace hf := hf.castB (t := 17) rfl (dec_f hc5)
        refine stq hf rfl rfl rfl (ex_fieldAddrB fa_43_0 rfl hf rfl) (fun a hf => ?_)
        refine stq hf rfl rfl rfl (ex_load sc_3 hf rfl (bx_cell (hs.get (i := 1) rfl) _ rfl)) (fun a hf => ?_)
        refine stq hf rfl rfl rfl (ex_fieldAddrB fa_43_1 rfl hf rfl) (fun a hf => ?_)
        refine stq hf rfl rfl rfl (ex_load sc_3 hf rfl (bx_cell (hs.get (i := 0) rfl) _ rfl)) (fun a hf => ?_)
        refine stq hf rfl rfl rfl (ex_eql hf rfl rfl) (fun a hf => ?_)
        refine stq hf rfl rfl rfl (ex_move hf rfl) (fun a hf => ?_)
        replace hf := hf.castB (t := 22) rfl (dec_t hc7)
        replace hf := hf.castB (t := 23) rfl (dec_t hc7)
        refine stq hf rfl rfl rfl (ex_fieldAddrB fa_43_1 rfl hf rfl) (fun a hf => ?_)
        refine stq hf rfl rfl rfl (ex_load sc_3 hf rfl (bx_cell (hs.get (i := 1) rfl) _ rfl)) (fun a hf => ?_)
        refine stq hf rfl rfl rfl (ex_fieldAddrB fa_43_0 rfl hf rfl) (fun a hf => ?_)
        refine stq hf rfl rfl rfl (ex_load sc_3 hf rfl (bx_cell (hs.get (i := 0) rfl) _ rfl)) (fun a hf => ?_)
        refine stq hf rfl rfl rfl (ex_eql hf rfl rfl) (fun a hf => ?_)
        refine stq hf rfl rfl rfl (ex_pickT hf rfl rfl) (fun a hf => ?_)
        refine stq hf rfl rfl rfl (ex_pickF hf rfl rfl) (fun a hf => ?_)
        refine stq hf rfl rfl rfl (ex_assign hf rfl) (fun a hf => ?_)
        refine hK8 _ _ ?_
        refine wp_ret ?_
        have eR := some_eq H; subst eR
        replace hs := hs.keep (.d (.d .nil))
        exact ret1 Try.results46 hf rfl ⟨_, rfl, ⟨rfl, hs⟩⟩
      · -- not a0.A = a1.B
        refine seq_reg (fun K9 hK9 => ?_)
        refine stq hf rfl rfl rfl (ex_fieldAddrB fa_43_0 rfl hf rfl) (fun a hf => ?_)
        refine stq hf rfl rfl rfl (ex_load sc_3 hf rfl (bx_cell (hs.get (i := 1) rfl) _ rfl)) (fun a hf => ?_)
        refine stq hf rfl rfl rfl (ex_fieldAddrB fa_43_0 rfl hf rfl) (fun a hf => ?_)
        refine stq hf rfl rfl rfl (ex_load sc_3 hf rfl (bx_cell (hs.get (i := 0) rfl) _ rfl)) (fun a hf => ?_)
        refine stq hf rfl rfl rfl (ex_eql hf rfl rfl) (fun a hf => ?_)
        refine stq hf rfl rfl rfl (ex_move hf rfl) (fun a hf => ?_)
        replace hf := hf.castB (t := 9) rfl (dec_t hc4)
        replace hf := hf.castB (t := 10) rfl (dec_t hc4)
        refine stq hf rfl rfl rfl (ex_fieldAddrB fa_43_1 rfl hf rfl) (fun a hf => ?_)
        refine stq hf rfl rfl rfl (ex_load sc_3 hf rfl (bx_cell (hs.get (i := 1) rfl) _ rfl)) (fun a hf => ?_)
        refine stq hf rfl rfl rfl (ex_fieldAddrB fa_43_1 rfl hf rfl) (fun a hf => ?_)
        refine stq hf rfl rfl rfl (ex_load sc_3 hf rfl (bx_cell (hs.get (i := 0) rfl) _ rfl)) (fun a hf => ?_)
        refine stq hf rfl rfl rfl (ex_eql hf rfl rfl) (fun a hf => ?_)
        refine stq hf rfl rfl rfl (ex_pickT hf rfl rfl) (fun a hf => ?_)
        refine stq hf rfl rfl rfl (ex_move hf rfl) (fun a hf => ?_)
        replace hf := hf.castB (t := 15) rfl (dec_f hc5)
        replace hf := hf.castB (t := 16) rfl (dec_f hc5)
        replace hf := hf.castB (t := 17) rfl (dec_f hc5)
        refine stq hf rfl rfl rfl (ex_fieldAddrB fa_43_0 rfl hf rfl) (fun a hf => ?_)
        refine stq hf rfl rfl rfl (ex_load sc_3 hf rfl (bx_cell (hs.get (i := 1) rfl) _ rfl)) (fun a hf => ?_)
        refine stq hf rfl rfl rfl (ex_fieldAddrB fa_43_1 rfl hf rfl) (fun a hf => ?_)
        refine stq hf rfl rfl rfl (ex_load sc_3 hf rfl (bx_cell (hs.get (i := 0) rfl) _ rfl)) (fun a hf => ?_)
        refine stq hf rfl rfl rfl (ex_eql hf rfl rfl) (fun a hf => ?_)
        refine stq hf rfl rfl rfl (ex_move hf rfl) (fun a hf => ?_)
        replace hf := hf.castB (t := 22) rfl (dec_f hc7)
        replace hf := hf.castB (t := 23) rfl (dec_f hc7)
        refine stepN hf rfl rfl rfl (fun a hf => ?_)
        refine stepN hf rfl rfl rfl (fun a hf => ?_)
        refine stepN hf rfl rfl rfl (fun a hf => ?_)
        refine stepN hf rfl rfl rfl (fun a hf => ?_)
        refine stepN hf rfl rfl rfl (fun a hf => ?_)
        refine stq hf rfl rfl rfl (ex_pickF hf rfl rfl) (fun a hf => ?_)
        refine stq hf rfl rfl rfl (ex_pickF hf rfl rfl) (fun a hf => ?_)
        refine stq hf rfl rfl rfl (ex_assign hf rfl) (fun a hf => ?_)
        refine hK9 _ _ ?_
        refine wp_ret ?_
        have eR := some_eq H; subst eR
        replace hs := hs.keep (.d (.d .nil))
        exact ret1 Try.results46 hf rfl ⟨_, rfl, ⟨rfl, hs⟩⟩
  · -- not a0.A = a1.A
    refine itt H (fun hc10 H => ?_) (fun hc10 H => ?_)
    · -- a0.A = a1.B
      refine seq_reg (fun K11 hK11 => ?_)
      refine stq hf rfl rfl rfl (ex_fieldAddrB fa_43_0 rfl hf rfl) (fun a hf => ?_)
      refine stq hf rfl rfl rfl (ex_load sc_3 hf rfl (bx_cell (hs.get (i := 1) rfl) _ rfl)) (fun a hf => ?_)
      refine stq hf rfl rfl rfl (ex_fieldAddrB fa_43_0 rfl hf rfl) (fun a hf => ?_)
      refine stq hf rfl rfl rfl (ex_load sc_3 hf rfl (bx_cell (hs.get (i := 0) rfl) _ rfl)) (fun a hf => ?_)
      refine stq hf rfl rfl rfl (ex_eql hf rfl rfl) (fun a hf => ?_)
      refine stq hf rfl rfl rfl (ex_move hf rfl) (fun a hf => ?_)
      replace hf := hf.castB (t := 9) rfl (dec_f hc4)
      replace hf := hf.castB (t := 10) rfl (dec_f hc4)
      refine stepN hf rfl rfl rfl (fun a hf => ?_)
      refine stepN hf rfl rfl rfl (fun a hf => ?_)
      refine stepN hf rfl rfl rfl (fun a hf => ?_)
      refine stepN hf rfl rfl rfl (fun a hf => ?_)
      refine stepN hf rfl rfl rfl (fun a hf => ?_)
      refine stq hf rfl rfl rfl (ex_pickF hf rfl rfl) (fun a hf => ?_)
      refine stq hf rfl rfl rfl (ex_move hf rfl) (fun a hf => ?_)
      refine stq hf rfl rfl rfl (ex_fieldAddrB fa_43_0 rfl hf rfl) (fun a hf => ?_)
      refine stq hf rfl rfl rfl (ex_load sc_3 hf rfl (bx_cell (hs.get (i := 1) rfl) _ rfl)) (fun a hf => ?_)
      refine stq hf rfl rfl rfl (ex_fieldAddrB fa_43_1 rfl hf rfl) (fun a hf => ?_)
      refine stq hf rfl rfl rfl (ex_load sc_3 hf rfl (bx_cell (hs.get (i := 0) rfl) _ rfl)) (fun a hf => ?_)
      refine stq hf rfl rfl rfl (ex_eql hf rfl rfl) (fun a hf => ?_)
      refine stq hf rfl rfl rfl (ex_move hf rfl) (fun a hf => ?_)
      replace hf := hf.castB (t := 22) rfl (dec_t hc10)
      replace hf := hf.castB (t := 23) rfl (dec_t hc10)
      refine stq hf rfl rfl rfl (ex_fieldAddrB fa_43_1 rfl hf rfl) (fun a hf => ?_)
      refine stq hf rfl rfl rfl (ex_load sc_3 hf rfl (bx_cell (hs.get (i := 1) rfl) _ rfl)) (fun a hf => ?_)
      refine stq hf rfl rfl rfl (ex_fieldAddrB fa_43_0 rfl hf rfl) (fun a hf => ?_)
      refine stq hf rfl rfl rfl (ex_load sc_3 hf rfl (bx_cell (hs.get (i := 0) rfl) _ rfl)) (fun a hf => ?_)
      refine stq hf rfl rfl rfl (ex_eql hf rfl rfl) (fun a hf => ?_)
      refine stq hf rfl rfl rfl (ex_pickT hf rfl rfl) (fun a hf => ?_)
      refine stq hf rfl rfl rfl (ex_pickF hf rfl rfl) (fun a hf => ?_)
      refine stq hf rfl rfl rfl (ex_assign hf rfl) (fun a hf => ?_)
      refine hK11 _ _ ?_
      refine wp_ret ?_
      have eR := some_eq H; subst eR
      replace hs := hs.keep (.d (.d .nil))
      exact ret1 Try.results46 hf rfl ⟨_, rfl, ⟨rfl, hs⟩⟩
    · -- not a0.A = a1.B
      refine seq_reg (fun K12 hK12 => ?_)
      refine stq hf rfl rfl rfl (ex_fieldAddrB fa_43_0 rfl hf rfl) (fun a hf => ?_)
      refine stq hf rfl rfl rfl (ex_load sc_3 hf rfl (bx_cell (hs.get (i := 1) rfl) _ rfl)) (fun a hf => ?_)
      refine stq hf rfl rfl rfl (ex_fieldAddrB fa_43_0 rfl hf rfl) (fun a hf => ?_)
      refine stq hf rfl rfl rfl (ex_load sc_3 hf rfl (bx_cell (hs.get (i := 0) rfl) _ rfl)) (fun a hf => ?_)
      refine stq hf rfl rfl rfl (ex_eql hf rfl rfl) (fun a hf => ?_)
      refine stq hf rfl rfl rfl (ex_move hf rfl) (fun a hf => ?_)
      replace hf := hf.castB (t := 9) rfl (dec_f hc4)
      replace hf := hf.castB (t := 10) rfl (dec_f hc4)
      refine stepN hf rfl rfl rfl (fun a hf => ?_)
      refine stepN hf rfl rfl rfl (fun a hf => ?_)
      refine stepN hf rfl rfl rfl (fun a hf => ?_)
      refine stepN hf rfl rfl rfl (fun a hf => ?_)
      refine stepN hf rfl rfl rfl (fun a hf => ?_)
      refine stq hf rfl rfl rfl (ex_pickF hf rfl rfl) (fun a hf => ?_)
      refine stq hf rfl rfl rfl (ex_move hf rfl) (fun a hf => ?_)
      refine stq hf rfl rfl rfl (ex_fieldAddrB fa_43_0 rfl hf rfl) (fun a hf => ?_)
      refine stq hf rfl rfl rfl (ex_load sc_3 hf rfl (bx_cell (hs.get (i := 1) rfl) _ rfl)) (fun a hf => ?_)
      refine stq hf rfl rfl rfl (ex_fieldAddrB fa_43_1 rfl hf rfl) (fun a hf => ?_)
      refine stq hf rfl rfl rfl (ex_load sc_3 hf rfl (bx_cell (hs.get (i := 0) rfl) _ rfl)) (fun a hf => ?_)
      refine stq hf rfl rfl rfl (ex_eql hf rfl rfl) (fun a hf => ?_)
      refine stq hf rfl rfl rfl (ex_move hf rfl) (fun a hf => ?_)
      replace hf := hf.castB (t := 22) rfl (dec_f hc10)
      replace hf := hf.castB (t := 23) rfl (dec_f hc10)
      refine stepN hf rfl rfl rfl (fun a hf => ?_)
      refine stepN hf rfl rfl rfl (fun a hf => ?_)
      refine stepN hf rfl rfl rfl (fun a hf => ?_)
      refine stepN hf rfl rfl rfl (fun a hf => ?_)
      refine stepN hf rfl rfl rfl (fun a hf => ?_)
      refine stq hf rfl rfl rfl (ex_pickF hf rfl rfl) (fun a hf => ?_)
      refine stq hf rfl rfl rfl (ex_pickF hf rfl rfl) (fun a hf => ?_)
      refine stq hf rfl rfl rfl (ex_assign hf rfl) (fun a hf => ?_)
      refine hK12 _ _ ?_
      refine wp_ret ?_
      have eR := some_eq H; subst eR
      replace hs := hs.keep (.d (.d .nil))
      exact ret1 Try.results46 hf rfl ⟨_, rfl, ⟨rfl, hs⟩⟩

set_option maxRecDepth 100000 in
theorem heat_validLinks_1.calls {M : Nat → Prop} {w0 : World} (k : Nat) (a0 : HeatLink) (a1 : HeatLink) (b1 : Nat) {r : Bool} (hs : St M w0 w0 []) (hr : Sr M w0 [bx b1 43 [.int .i64 a1.A, .int .i64 a1.B, .int .i64 a1.Conductance]])
    (h : heat_validLinks_1.f k a0 a1 = some r) : Calls Try.prog 45 #[.agg #[.int .i64 a0.A, .int .i64 a0.B, .int .i64 a0.Conductance], .pointer (some ⟨b1, 0, none⟩)] w0 fun e w => ∃ v, e = .returned v ∧ (.bool r = v ∧ St M w0 w []) := by
  have H := (heat_validLinks_1.f.eq_1 ..).symm.trans h
  clear h
  refine enter Try.func45 rfl Try.ntmps45 rfl (fun a hf => ?_)
  refine seq_reg (fun K2 hK2 => ?_)
  refine stepV hf rfl rfl rfl (er_box (cs := [.int .i64 a0.A, .int .i64 a0.B, .int .i64 a0.Conductance]) hs hf rfl rfl) (fun v w hR a hf => ?_)
  obtain ⟨b1, rfl, hs⟩ := hR
  refine stq hf rfl rfl rfl (ex_assign hf rfl) (fun a hf => ?_)
  refine hK2 _ _ ?_
  refine bnd H (fun s3 hs3 H => ?_)
  refine seq_reg (fun K4 hK4 => ?_)
  refine stq hf rfl rfl rfl (ex_loadA (cs := [.int .i64 a1.A, .int .i64 a1.B, .int .i64 a1.Conductance]) ag_43 hf rfl (bx_cells (hr.now hs (i := 0) rfl) rfl)) (fun a hf => ?_)
  refine stq hf rfl rfl rfl (ex_loadA (cs := [.int .i64 a0.A, .int .i64 a0.B, .int .i64 a0.Conductance]) ag_43 hf rfl (bx_cells (hs.get (i := 0) rfl) rfl)) (fun a hf => ?_)
  refine stepF hf rfl rfl rfl (ex_call cf_46 hf rfl) (heat_connects.calls k a1 a0 (hs.enter (.k .nil)) (Sr.nil _ _) hs3) (fun v w hR a hf => ?_)
  obtain ⟨rfl, hs'⟩ := hR
  replace hs := hs.step (.k .nil) hs'
  clear hs'
  refine stq hf rfl rfl rfl (ex_assign hf rfl) (fun a hf => ?_)
  refine hK4 _ _ ?_
  refine wp_ret ?_
  have eR := some_eq H; subst eR
  replace hs := hs.keep (.d .nil)
  exact ret1 Try.results45 hf rfl ⟨_, rfl, ⟨rfl, hs⟩⟩

set_option maxRecDepth 100000 in
theorem slices_IndexFunc_api_HeatLink_api_HeatLink__validLinks_1.calls {M : Nat → Prop} {w0 : World} (k : Nat) (a0 : (List HeatLink)) (a1_0 : HeatLink) (v0 : Value) (b1_0 : Nat) {r : Int} (hs : St M w0 w0 []) (hr : Sr M w0 [rsl K_api_HeatLink v0 a0, bx b1_0 43 [.int .i64 a1_0.A, .int .i64 a1_0.B, .int .i64 a1_0.Conductance]])
    (h : slices_IndexFunc_api_HeatLink_api_HeatLink__validLinks_1.f k a0 a1_0 = some r) : Calls Try.prog 48 #[v0, .func (.func 45) #[] #[.pointer (some ⟨b1_0, 0, none⟩)]] w0 fun e w => ∃ v, e = .returned v ∧ (.int .i64 r = v ∧ St M w0 w []) := by
  have H := (slices_IndexFunc_api_HeatLink_api_HeatLink__validLinks_1.f.eq_1 ..).symm.trans h
  clear h
  refine enter Try.func48 rfl Try.ntmps48 rfl (fun a hf => ?_)
  refine seq_reg (fun K1 hK1 => ?_)
  refine stq hf rfl rfl rfl (ex_assign hf rfl) (fun a hf => ?_)
  refine hK1 _ _ ?_
  refine bnd H (fun x2 H2 HO2 => ?_)
  clear H
  refine seq_cut (fun a w => ∃ (x2s : Unit), x2 = .go x2s ∧ Fr a 19 [] ∧ St M w0 w []) (fun Q2 hJ2 hR2 hX2 => ?_) (fun a w hJ => ?_)
  · replace H := H2
    refine seq_reg (fun K3 hK3 => ?_)
    refine stq hf rfl rfl rfl (ex_move hf rfl) (fun a hf => ?_)
    refine stq hf rfl rfl rfl (ex_lenS Try.underlying23 (rsl_isSl (hr.now hs (i := 0) rfl)) hf rfl) (fun a hf => ?_)
    refine stq hf rfl rfl rfl (ex_move hf rfl) (fun a hf => ?_)
    refine hK3 _ _ ?_
    refine block_k (fun Q4 hN4 hR4 hX4 hY4 => ?_)
    refine loop_k (fun n a w => ∃ (y5 : Int), Fr a 19 [(0, v0), (1, .func (.func 45) #[] #[.pointer (some ⟨b1_0, 0, none⟩)]), (7, .int .i64 (a0.length : Int)), (8, .int .i64 y5)] ∧ St M w0 w [] ∧ slices_IndexFunc_api_HeatLink_api_HeatLink__validLinks_1.l1 n a0 a1_0 y5 = some x2) k ?_ (fun n7 a w hI Q7 hL7 hR7 hX7 => ?_)
    · -- at the start
      exact ⟨0, hf.sub ⟨rfl, rfl, rfl, rfl, trivial⟩, hs, H⟩
    · obtain ⟨y5, hf, hs, H⟩ := hI
      cases n7 with
      | zero => exact absurd H (by rw [slices_IndexFunc_api_HeatLink_api_HeatLink__validLinks_1.l1.eq_1]; intro h; cases h)
      | succ k7 =>
        replace H := (slices_IndexFunc_api_HeatLink_api_HeatLink__validLinks_1.l1.eq_2 ..).symm.trans H
        refine seq_reg (fun K8 hK8 => ?_)
        refine stq hf rfl rfl rfl (ex_lss hf rfl rfl) (fun a hf => ?_)
        refine hK8 _ _ ?_
        refine seq_n (fun Q9 hN9 hR9 hX9 => ?_)
        refine itt H (fun hc10 H => ?_) (fun hc10 H => ?_)
        · -- y5 < (a0.length : Int)
          replace hf := hf.castB (t := 9) rfl (dec_t hc10)
          refine cond_T hf rfl ?_
          refine wp_skip ?_
          refine hN9 _ _ ?_
          refine seq_n (fun Q11 hN11 hR11 hX11 => ?_)
          refine block_k (fun Q12 hN12 hR12 hX12 hY12 => ?_)
          refine seq_reg (fun K13 hK13 => ?_)
          refine stq hf rfl rfl rfl (ex_move hf rfl) (fun a hf => ?_)
          refine stq hf rfl rfl rfl (ex_assign hf rfl) (fun a hf => ?_)
          refine hK13 _ _ ?_
          refine ck_some H (fun hc14 H => ?_)
          refine bnd H (fun s15 hs15 H => ?_)
          refine seq_reg (fun K16 hK16 => ?_)
          refine stq hf rfl rfl rfl (ex_move hf rfl) (fun a hf => ?_)
          refine stq hf rfl rfl rfl (ex_move hf rfl) (fun a hf => ?_)
          refine stq hf rfl rfl rfl (ex_move hf rfl) (fun a hf => ?_)
          refine stq hf rfl rfl rfl (ex_indexAddr sa_23 (rsl_isSl (hr.now hs (i := 0) rfl)) hc14.1 hc14.2 hf rfl rfl) (fun a hf => ?_)
          refine stq hf rfl rfl rfl (ex_loadA (cs := [.int .i64 ((gd HeatLink.zero a0 y5).A), .int .i64 ((gd HeatLink.zero a0 y5).B), .int .i64 ((gd HeatLink.zero a0 y5).Conductance)]) ag_43 hf rfl (el_cells (K := K_api_HeatLink) (rsl_rd (hr.now hs (i := 0) rfl)) hc14.1 hc14.2 rfl)) (fun a hf => ?_)
          refine stepF hf rfl rfl rfl (ex_callV cf_45 hf rfl rfl) (heat_validLinks_1.calls k7 (⟨((gd HeatLink.zero a0 y5).A), ((gd HeatLink.zero a0 y5).B), ((gd HeatLink.zero a0 y5).Conductance)⟩ : HeatLink) a1_0 b1_0 (hs.enter .nil) (Sr.old hr hs .nil (i := 1) rfl (fun _ h => h) (fun _ h => h) (Sr.nil _ _)) hs15) (fun v w hR a hf => ?_)
          obtain ⟨rfl, hs'⟩ := hR
          replace hs := hs.step .nil hs'
          clear hs'
          refine hK16 _ _ ?_
          refine itt H (fun hc17 H => ?_) (fun hc17 H => ?_)
          · -- s15 = true
            replace hf := hf.castB (t := 16) rfl hc17
            refine cond_T hf rfl ?_
            refine seq_reg (fun K18 hK18 => ?_)
            refine stq hf rfl rfl rfl (ex_move hf rfl) (fun a hf => ?_)
            refine stq hf rfl rfl rfl (ex_assign hf rfl) (fun a hf => ?_)
            refine hK18 _ _ ?_
            refine wp_ret ?_
            refine hR12 _ _ ?_
            refine hR11 _ _ ?_
            refine hR7 _ _ ?_
            refine hR4 _ _ ?_
            have e2 := some_eq H; subst e2; replace H := el_rt HO2
            refine hR2 _ _ ?_
            have eR := some_eq H; subst eR
            exact ret1 Try.results48 hf rfl ⟨_, rfl, ⟨rfl, hs⟩⟩
          · -- not s15 = true
            replace hf := hf.castB (t := 16) rfl (bool_f hc17)
            refine cond_F hf rfl ?_
            refine wp_skip ?_
            refine hN12 _ _ ?_
            refine hN11 _ _ ?_
            refine region_k (fun K19 hK19 => ?_)
            refine stq hf rfl rfl rfl (ex_add hf rfl rfl) (fun a hf => ?_)
            refine stq hf rfl rfl rfl (ex_move hf rfl) (fun a hf => ?_)
            refine hK19 _ _ ?_
            exact hL7 k7 _ _ (Nat.lt_succ_self _) ⟨(IntKind.i64.wrap (y5 + 1)), hf.sub ⟨rfl, rfl, rfl, rfl, trivial⟩, hs, H⟩
        · -- not y5 < (a0.length : Int)
          replace hf := hf.castB (t := 9) rfl (dec_f hc10)
          refine cond_F hf rfl ?_
          refine wp_exit ?_
          refine hX9 0 _ _ ?_
          refine hX7 0 _ _ ?_
          refine hX4 _ _ ?_
          have e2 := some_eq H; subst e2
          exact hJ2 _ _ ⟨_, rfl, hf.sub trivial, hs⟩
  · obtain ⟨x2s, rfl, hf, hs⟩ := hJ
    replace H := el_go HO2
    clear HO2
    refine seq_reg (fun K20 hK20 => ?_)
    refine stq hf rfl rfl rfl (ex_assign hf rfl) (fun a hf => ?_)
    refine hK20 _ _ ?_
    refine wp_ret ?_
    have eR := some_eq H; subst eR
    exact ret1 Try.results48 hf rfl ⟨_, rfl, ⟨rfl, hs⟩⟩

set_option maxRecDepth 100000 in
theorem slices_ContainsFunc_api_HeatLink_api_HeatLink__validLinks_1.calls {M : Nat → Prop} {w0 : World} (k : Nat) (a0 : (List HeatLink)) (a1_0 : HeatLink) (v0 : Value) (b1_0 : Nat) {r : Bool} (hs : St M w0 w0 []) (hr : Sr M w0 [rsl K_api_HeatLink v0 a0, bx b1_0 43 [.int .i64 a1_0.A, .int .i64 a1_0.B, .int .i64 a1_0.Conductance]])
    (h : slices_ContainsFunc_api_HeatLink_api_HeatLink__validLinks_1.f k a0 a1_0 = some r) : Calls Try.prog 44 #[v0, .func (.func 45) #[] #[.pointer (some ⟨b1_0, 0, none⟩)]] w0 fun e w => ∃ v, e = .returned v ∧ (.bool r = v ∧ St M w0 w []) := by
  have H := (slices_ContainsFunc_api_HeatLink_api_HeatLink__validLinks_1.f.eq_1 ..).symm.trans h
  clear h
  refine enter Try.func44 rfl Try.ntmps44 rfl (fun a hf => ?_)
  refine seq_reg (fun K1 hK1 => ?_)
  refine stq hf rfl rfl rfl (ex_assign hf rfl) (fun a hf => ?_)
  refine hK1 _ _ ?_
  refine bnd H (fun s2 hs2 H => ?_)
  refine seq_reg (fun K3 hK3 => ?_)
  refine stq hf rfl rfl rfl (ex_move hf rfl) (fun a hf => ?_)
  refine stq hf rfl rfl rfl (ex_move hf rfl) (fun a hf => ?_)
  refine stepF hf rfl rfl rfl (ex_call cf_48 hf rfl) (slices_IndexFunc_api_HeatLink_api_HeatLink__validLinks_1.calls k a0 a1_0 v0 b1_0 (hs.enter .nil) (Sr.old hr hs .nil (i := 0) rfl (fun _ h => h) (fun _ h => h) (Sr.old hr hs .nil (i := 1) rfl (fun _ h => h) (fun _ h => h) (Sr.nil _ _))) hs2) (fun v w hR a hf => ?_)
  obtain ⟨rfl, hs'⟩ := hR
  replace hs := hs.step .nil hs'
  clear hs'
  refine stq hf rfl rfl rfl (ex_geq hf rfl rfl) (fun a hf => ?_)
  refine stq hf rfl rfl rfl (ex_assign hf rfl) (fun a hf => ?_)
  refine hK3 _ _ ?_
  refine wp_ret ?_
  have eR := some_eq H; subst eR
  exact ret1 Try.results44 hf rfl ⟨_, rfl, ⟨rfl, hs⟩⟩

set_option maxRecDepth 100000 in
theorem heat_validLinks.calls {M : Nat → Prop} {w0 : World} (k : Nat) (a0 : Int) (a1 : (List HeatLink)) (v1 : Value) {r : Bool} (hs : St M w0 w0 []) (hr : Sr M w0 [rsl K_api_HeatLink v1 a1])
    (h : heat_validLinks.f k a0 a1 = some r) : Calls Try.prog 40 #[.int .i64 a0, v1] w0 fun e w => ∃ v, e = .returned v ∧ (.bool r = v ∧ St M w0 w []) := by
  have H := (heat_validLinks.f.eq_1 ..).symm.trans h
  clear h
  refine enter Try.func40 rfl Try.ntmps40 rfl (fun a hf => ?_)
  refine seq_reg (fun K1 hK1 => ?_)
  refine stq hf rfl rfl rfl (ex_assign hf rfl) (fun a hf => ?_)
  refine hK1 _ _ ?_
  refine bnd H (fun x2 H2 HO2 => ?_)
  clear H
  refine seq_cut (fun a w => ∃ (x2s : Unit), x2 = .go x2s ∧ Fr a 53 [] ∧ St M w0 w []) (fun Q2 hJ2 hR2 hX2 => ?_) (fun a w hJ => ?_)
  · replace H := H2
    refine seq_reg (fun K3 hK3 => ?_)
    refine stq hf rfl rfl rfl (ex_move hf rfl) (fun a hf => ?_)
    refine stq hf rfl rfl rfl (ex_lenS Try.underlying23 (rsl_isSl (hr.now hs (i := 0) rfl)) hf rfl) (fun a hf => ?_)
    refine stq hf rfl rfl rfl (ex_move hf rfl) (fun a hf => ?_)
    refine hK3 _ _ ?_
    refine block_k (fun Q4 hN4 hR4 hX4 hY4 => ?_)
    refine loop_k (fun n a w => ∃ (y5 : Int), Fr a 53 [(0, .int .i64 a0), (1, v1), (7, v1), (8, .int .i64 (a1.length : Int)), (9, .int .i64 y5)] ∧ St M w0 w [] ∧ heat_validLinks.l1 n a1 a0 y5 = some x2) k ?_ (fun n7 a w hI Q7 hL7 hR7 hX7 => ?_)
    · -- at the start
      exact ⟨0, hf.sub ⟨rfl, rfl, rfl, rfl, rfl, trivial⟩, hs, H⟩
    · obtain ⟨y5, hf, hs, H⟩ := hI
      cases n7 with
      | zero => exact absurd H (by rw [heat_validLinks.l1.eq_1]; intro h; cases h)
      | succ k7 =>
        replace H := (heat_validLinks.l1.eq_2 ..).symm.trans H
        refine seq_reg (fun K8 hK8 => ?_)
        refine stq hf rfl rfl rfl (ex_lss hf rfl rfl) (fun a hf => ?_)
        refine hK8 _ _ ?_
        refine seq_n (fun Q9 hN9 hR9 hX9 => ?_)
        refine itt H (fun hc10 H => ?_) (fun hc10 H => ?_)
        · -- y5 < (a1.length : Int)
          replace hf := hf.castB (t := 10) rfl (dec_t hc10)
          refine cond_T hf rfl ?_
          refine wp_skip ?_
          refine hN9 _ _ ?_
          refine seq_n (fun Q11 hN11 hR11 hX11 => ?_)
          refine block_k (fun Q12 hN12 hR12 hX12 hY12 => ?_)
          refine ck_some H (fun hc13 H => ?_)
          refine seq_reg (fun K15 hK15 => ?_)
          refine stq hf rfl rfl rfl (ex_move hf rfl) (fun a hf => ?_)
          refine stq hf rfl rfl rfl (ex_indexAddr sa_23 (rsl_isSl (hr.now hs (i := 0) rfl)) hc13.1 hc13.2 hf rfl rfl) (fun a hf => ?_)
          refine stq hf rfl rfl rfl (ex_loadA (cs := [.int .i64 ((gd HeatLink.zero a1 y5).A), .int .i64 ((gd HeatLink.zero a1 y5).B), .int .i64 ((gd HeatLink.zero a1 y5).Conductance)]) ag_43 hf rfl (el_cells (K := K_api_HeatLink) (rsl_rd (hr.now hs (i := 0) rfl)) hc13.1 hc13.2 rfl)) (fun a hf => ?_)
          refine stepV hf rfl rfl rfl (er_alloc hs ti_43 (cs := [.int .i64 0, .int .i64 0, .int .i64 0]) rfl) (fun v w hR a hf => ?_)
          obtain ⟨b14, rfl, hs⟩ := hR
          refine stq hf rfl rfl rfl (ex_assign hf rfl) (fun a hf => ?_)
          refine stepS hf rfl rfl (er_storeAB (vs := [.int .i64 ((gd HeatLink.zero a1 y5).A), .int .i64 ((gd HeatLink.zero a1 y5).B), .int .i64 ((gd HeatLink.zero a1 y5).Conductance)]) (cs' := [.int .i64 ((gd HeatLink.zero a1 y5).A), .int .i64 ((gd HeatLink.zero a1 y5).B), .int .i64 ((gd HeatLink.zero a1 y5).Conductance)]) hs (.c .nil) sz_43 hf rfl rfl (all1 rfl (all1 rfl (all1 rfl (all1_nil)))) rfl rfl) (fun w hs => ?_)
          refine hK15 _ _ ?_
          refine seq_n (fun Q16 hN16 hR16 hX16 => ?_)
          refine bnd H (fun x17 H17 HO17 => ?_)
          clear H
          refine seq_cut (fun a w => Fr a 53 [(0, .int .i64 a0), (1, v1), (5, .int .i64 y5), (6, .pointer (some ⟨b14, 0, none⟩)), (7, v1), (8, .int .i64 (a1.length : Int)), (9, .int .i64 y5), (46, .bool x17)] ∧ St M w0 w [bx b14 43 [.int .i64 ((gd HeatLink.zero a1 y5).A), .int .i64 ((gd HeatLink.zero a1 y5).B), .int .i64 ((gd HeatLink.zero a1 y5).Conductance)]]) (fun Q17 hJ17 hR17 hX17 => ?_) (fun a w hJ => ?_)
          · replace H := H17
            refine itt H (fun hc18 H => ?_) (fun hc18 H => ?_)
            · -- ((gd HeatLink.zero a1 y5).A) < 0
              refine region_k (fun K19 hK19 => ?_)
              refine stq hf rfl rfl rfl (ex_fieldAddrB fa_43_0 rfl hf rfl) (fun a hf => ?_)
              refine stq hf rfl rfl rfl (ex_load sc_3 hf rfl (bx_cell (hs.get (i := 0) rfl) _ rfl)) (fun a hf => ?_)
              refine stq hf rfl rfl rfl (ex_lss hf rfl rfl) (fun a hf => ?_)
              refine stq hf rfl rfl rfl (ex_move hf rfl) (fun a hf => ?_)
              replace hf := hf.castB (t := 16) rfl (dec_t hc18)
              replace hf := hf.castB (t := 17) rfl (dec_t hc18)
              refine stepN hf rfl rfl rfl (fun a hf => ?_)
              refine stepN hf rfl rfl rfl (fun a hf => ?_)
              refine stepN hf rfl rfl rfl (fun a hf => ?_)
              refine stepN hf rfl rfl rfl (fun a hf => ?_)
              refine stq hf rfl rfl rfl (ex_pickT hf rfl rfl) (fun a hf => ?_)
              refine stq hf rfl rfl rfl (ex_move hf rfl) (fun a hf => ?_)
              refine stepN hf rfl rfl rfl (fun a hf => ?_)
              refine stepN hf rfl rfl rfl (fun a hf => ?_)
              refine stepN hf rfl rfl rfl (fun a hf => ?_)
              refine stq hf rfl rfl rfl (ex_pickT hf rfl rfl) (fun a hf => ?_)
              refine stq hf rfl rfl rfl (ex_move hf rfl) (fun a hf => ?_)
              refine stepN hf rfl rfl rfl (fun a hf => ?_)
              refine stepN hf rfl rfl rfl (fun a hf => ?_)
              refine stepN hf rfl rfl rfl (fun a hf => ?_)
              refine stepN hf rfl rfl rfl (fun a hf => ?_)
              refine stq hf rfl rfl rfl (ex_pickT hf rfl rfl) (fun a hf => ?_)
              refine stq hf rfl rfl rfl (ex_move hf rfl) (fun a hf => ?_)
              refine stepN hf rfl rfl rfl (fun a hf => ?_)
              refine stepN hf rfl rfl rfl (fun a hf => ?_)
              refine stepN hf rfl rfl rfl (fun a hf => ?_)
              refine stepN hf rfl rfl rfl (fun a hf => ?_)
              refine stepN hf rfl rfl rfl (fun a hf => ?_)
              refine stq hf rfl rfl rfl (ex_pickT hf rfl rfl) (fun a hf => ?_)
              refine stq hf rfl rfl rfl (ex_move hf rfl) (fun a hf => ?_)
              refine stepN hf rfl rfl rfl (fun a hf => ?_)
              refine stepN hf rfl rfl rfl (fun a hf => ?_)
              refine stepN hf rfl rfl rfl (fun a hf => ?_)
              refine stepN hf rfl rfl rfl (fun a hf => ?_)
              refine stq hf rfl rfl rfl (ex_pickT hf rfl rfl) (fun a hf => ?_)
              refine hK19 _ _ ?_
              have e17 := some_eq H; subst e17
              exact hJ17 _ _ ⟨hf.sub ⟨rfl, rfl, rfl, rfl, rfl, rfl, rfl, rfl, trivial⟩, hs⟩
            · -- not ((gd HeatLink.zero a1 y5).A) < 0
              refine itt H (fun hc20 H => ?_) (fun hc20 H => ?_)
              · -- a0 ≤ ((gd HeatLink.zero a1 y5).A)
                refine region_k (fun K21 hK21 => ?_)
                refine stq hf rfl rfl rfl (ex_fieldAddrB fa_43_0 rfl hf rfl) (fun a hf => ?_)
                refine stq hf rfl rfl rfl (ex_load sc_3 hf rfl (bx_cell (hs.get (i := 0) rfl) _ rfl)) (fun a hf => ?_)
                refine stq hf rfl rfl rfl (ex_lss hf rfl rfl) (fun a hf => ?_)
                refine stq hf rfl rfl rfl (ex_move hf rfl) (fun a hf => ?_)
                replace hf := hf.castB (t := 16) rfl (dec_f hc18)
                replace hf := hf.castB (t := 17) rfl (dec_f hc18)
                refine stq hf rfl rfl rfl (ex_fieldAddrB fa_43_0 rfl hf rfl) (fun a hf => ?_)
                refine stq hf rfl rfl rfl (ex_load sc_3 hf rfl (bx_cell (hs.get (i := 0) rfl) _ rfl)) (fun a hf => ?_)
                refine stq hf rfl rfl rfl (ex_move hf rfl) (fun a hf => ?_)
                refine stq hf rfl rfl rfl (ex_geq hf rfl rfl) (fun a hf => ?_)
                refine stq hf rfl rfl rfl (ex_pickF hf rfl rfl) (fun a hf => ?_)
                refine stq hf rfl rfl rfl (ex_move hf rfl) (fun a hf => ?_)
                replace hf := hf.castB (t := 21) rfl (dec_t hc20)
                replace hf := hf.castB (t := 22) rfl (dec_t hc20)
                replace hf := hf.castB (t := 23) rfl (dec_t hc20)
                refine stepN hf rfl rfl rfl (fun a hf => ?_)
                refine stepN hf rfl rfl rfl (fun a hf => ?_)
                refine stepN hf rfl rfl rfl (fun a hf => ?_)
                refine stq hf rfl rfl rfl (ex_pickT hf rfl rfl) (fun a hf => ?_)
                refine stq hf rfl rfl rfl (ex_move hf rfl) (fun a hf => ?_)
                refine stepN hf rfl rfl rfl (fun a hf => ?_)
                refine stepN hf rfl rfl rfl (fun a hf => ?_)
                refine stepN hf rfl rfl rfl (fun a hf => ?_)
                refine stepN hf rfl rfl rfl (fun a hf => ?_)
                refine stq hf rfl rfl rfl (ex_pickT hf rfl rfl) (fun a hf => ?_)
                refine stq hf rfl rfl rfl (ex_move hf rfl) (fun a hf => ?_)
                refine stepN hf rfl rfl rfl (fun a hf => ?_)
                refine stepN hf rfl rfl rfl (fun a hf => ?_)
                refine stepN hf rfl rfl rfl (fun a hf => ?_)
                refine stepN hf rfl rfl rfl (fun a hf => ?_)
                refine stepN hf rfl rfl rfl (fun a hf => ?_)
                refine stq hf rfl rfl rfl (ex_pickT hf rfl rfl) (fun a hf => ?_)
                refine stq hf rfl rfl rfl (ex_move hf rfl) (fun a hf => ?_)
                refine stepN hf rfl rfl rfl (fun a hf => ?_)
                refine stepN hf rfl rfl rfl (fun a hf => ?_)
                refine stepN hf rfl rfl rfl (fun a hf => ?_)
                refine stepN hf rfl rfl rfl (fun a hf => ?_)
                refine stq hf rfl rfl rfl (ex_pickT hf rfl rfl) (fun a hf => ?_)
                refine hK21 _ _ ?_
                have e17 := some_eq H; subst e17
                exact hJ17 _ _ ⟨hf.sub ⟨rfl, rfl, rfl, rfl, rfl, rfl, rfl, rfl, trivial⟩, hs⟩
              · -- not a0 ≤ ((gd HeatLink.zero a1 y5).A)
                refine itt H (fun hc22 H => ?_) (fun hc22 H => ?_)
                · -- ((gd HeatLink.zero a1 y5).B) < 0
                  refine region_k (fun K23 hK23 => ?_)
                  refine stq hf rfl rfl rfl (ex_fieldAddrB fa_43_0 rfl hf rfl) (fun a hf => ?_)
                  refine stq hf rfl rfl rfl (ex_load sc_3 hf rfl (bx_cell (hs.get (i := 0) rfl) _ rfl)) (fun a hf => ?_)
                  refine stq hf rfl rfl rfl (ex_lss hf rfl rfl) (fun a hf => ?_)
                  refine stq hf rfl rfl rfl (ex_move hf rfl) (fun a hf => ?_)
                  replace hf := hf.castB (t := 16) rfl (dec_f hc18)
                  replace hf := hf.castB (t := 17) rfl (dec_f hc18)
                  refine stq hf rfl rfl rfl (ex_fieldAddrB fa_43_0 rfl hf rfl) (fun a hf => ?_)
                  refine stq hf rfl rfl rfl (ex_load sc_3 hf rfl (bx_cell (hs.get (i := 0) rfl) _ rfl)) (fun a hf => ?_)
                  refine stq hf rfl rfl rfl (ex_move hf rfl) (fun a hf => ?_)
                  refine stq hf rfl rfl rfl (ex_geq hf rfl rfl) (fun a hf => ?_)
                  refine stq hf rfl rfl rfl (ex_pickF hf rfl rfl) (fun a hf => ?_)
                  refine stq hf rfl rfl rfl (ex_move hf rfl) (fun a hf => ?_)
                  replace hf := hf.castB (t := 21) rfl (dec_f hc20)
                  replace hf := hf.castB (t := 22) rfl (dec_f hc20)
                  replace hf := hf.castB (t := 23) rfl (dec_f hc20)
                  refine stq hf rfl rfl rfl (ex_fieldAddrB fa_43_1 rfl hf rfl) (fun a hf => ?_)
                  refine stq hf rfl rfl rfl (ex_load sc_3 hf rfl (bx_cell (hs.get (i := 0) rfl) _ rfl)) (fun a hf => ?_)
                  refine stq hf rfl rfl rfl (ex_lss hf rfl rfl) (fun a hf => ?_)
                  refine stq hf rfl rfl rfl (ex_pickF hf rfl rfl) (fun a hf => ?_)
                  refine stq hf rfl rfl rfl (ex_move hf rfl) (fun a hf => ?_)
                  replace hf := hf.castB (t := 26) rfl (dec_t hc22)
                  replace hf := hf.castB (t := 27) rfl (dec_t hc22)
                  replace hf := hf.castB (t := 28) rfl (dec_t hc22)
                  refine stepN hf rfl rfl rfl (fun a hf => ?_)
                  refine stepN hf rfl rfl rfl (fun a hf => ?_)
                  refine stepN hf rfl rfl rfl (fun a hf => ?_)
                  refine stepN hf rfl rfl rfl (fun a hf => ?_)
                  refine stq hf rfl rfl rfl (ex_pickT hf rfl rfl) (fun a hf => ?_)
                  refine stq hf rfl rfl rfl (ex_move hf rfl) (fun a hf => ?_)
                  refine stepN hf rfl rfl rfl (fun a hf => ?_)
                  refine stepN hf rfl rfl rfl (fun a hf => ?_)
                  refine stepN hf rfl rfl rfl (fun a hf => ?_)
                  refine stepN hf rfl rfl rfl (fun a hf => ?_)
                  refine stepN hf rfl rfl rfl (fun a hf => ?_)
                  refine stq hf rfl rfl rfl (ex_pickT hf rfl rfl) (fun a hf => ?_)
                  refine stq hf rfl rfl rfl (ex_move hf rfl) (fun a hf => ?_)
                  refine stepN hf rfl rfl rfl (fun a hf => ?_)
                  refine stepN hf rfl rfl rfl (fun a hf => ?_)
                  refine stepN hf rfl rfl rfl (fun a hf => ?_)
                  refine stepN hf rfl rfl rfl (fun a hf => ?_)
                  refine stq hf rfl rfl rfl (ex_pickT hf rfl rfl) (fun a hf => ?_)
                  refine hK23 _ _ ?_
                  have e17 := some_eq H; subst e17
                  exact hJ17 _ _ ⟨hf.sub ⟨rfl, rfl, rfl, rfl, rfl, rfl, rfl, rfl, trivial⟩, hs⟩
                · -- not ((gd HeatLink.zero a1 y5).B) < 0
                  refine itt H (fun hc24 H => ?_) (fun hc24 H => ?_)
                  · -- a0 ≤ ((gd HeatLink.zero a1 y5).B)
                    refine region_k (fun K25 hK25 => ?_)
                    refine stq hf rfl rfl rfl (ex_fieldAddrB fa_43_0 rfl hf rfl) (fun a hf => ?_)
                    refine stq hf rfl rfl rfl (ex_load sc_3 hf rfl (bx_cell (hs.get (i := 0) rfl) _ rfl)) (fun a hf => ?_)
                    refine stq hf rfl rfl rfl (ex_lss hf rfl rfl) (fun a hf => ?_)
                    refine stq hf rfl rfl rfl (ex_move hf rfl) (fun a hf => ?_)
                    replace hf := hf.castB (t := 16) rfl (dec_f hc18)
                    replace hf := hf.castB (t := 17) rfl (dec_f hc18)
                    refine stq hf rfl rfl rfl (ex_fieldAddrB fa_43_0 rfl hf rfl) (fun a hf => ?_)
                    refine stq hf rfl rfl rfl (ex_load sc_3 hf rfl (bx_cell (hs.get (i := 0) rfl) _ rfl)) (fun a hf => ?_)
                    refine stq hf rfl rfl rfl (ex_move hf rfl) (fun a hf => ?_)
                    refine stq hf rfl rfl rfl (ex_geq hf rfl rfl) (fun a hf => ?_)
                    refine stq hf rfl rfl rfl (ex_pickF hf rfl rfl) (fun a hf => ?_)
                    refine stq hf rfl rfl rfl (ex_move hf rfl) (fun a hf => ?_)
                    replace hf := hf.castB (t := 21) rfl (dec_f hc20)
                    replace hf := hf.castB (t := 22) rfl (dec_f hc20)
                    replace hf := hf.castB (t := 23) rfl (dec_f hc20)
                    refine stq hf rfl rfl rfl (ex_fieldAddrB fa_43_1 rfl hf rfl) (fun a hf => ?_)
                    refine stq hf rfl rfl rfl (ex_load sc_3 hf rfl (bx_cell (hs.get (i := 0) rfl) _ rfl)) (fun a hf => ?_)
                    refine stq hf rfl rfl rfl (ex_lss hf rfl rfl) (fun a hf => ?_)
                    refine stq hf rfl rfl rfl (ex_pickF hf rfl rfl) (fun a hf => ?_)
                    refine stq hf rfl rfl rfl (ex_move hf rfl) (fun a hf => ?_)
                    replace hf := hf.castB (t := 26) rfl (dec_f hc22)
                    replace hf := hf.castB (t := 27) rfl (dec_f hc22)
                    replace hf := hf.castB (t := 28) rfl (dec_f hc22)
                    refine stq hf rfl rfl rfl (ex_fieldAddrB fa_43_1 rfl hf rfl) (fun a hf => ?_)
                    refine stq hf rfl rfl rfl (ex_load sc_3 hf rfl (bx_cell (hs.get (i := 0) rfl) _ rfl)) (fun a hf => ?_)
                    refine stq hf rfl rfl rfl (ex_move hf rfl) (fun a hf => ?_)
                    refine stq hf rfl rfl rfl (ex_geq hf rfl rfl) (fun a hf => ?_)
                    refine stq hf rfl rfl rfl (ex_pickF hf rfl rfl) (fun a hf => ?_)
                    refine stq hf rfl rfl rfl (ex_move hf rfl) (fun a hf => ?_)
                    replace hf := hf.castB (t := 32) rfl (dec_t hc24)
                    replace hf := hf.castB (t := 33) rfl (dec_t hc24)
                    replace hf := hf.castB (t := 34) rfl (dec_t hc24)
                    refine stepN hf rfl rfl rfl (fun a hf => ?_)
                    refine stepN hf rfl rfl rfl (fun a hf => ?_)
                    refine stepN hf rfl rfl rfl (fun a hf => ?_)
                    refine stepN hf rfl rfl rfl (fun a hf => ?_)
                    refine stepN hf rfl rfl rfl (fun a hf => ?_)
                    refine stq hf rfl rfl rfl (ex_pickT hf rfl rfl) (fun a hf => ?_)
                    refine stq hf rfl rfl rfl (ex_move hf rfl) (fun a hf => ?_)
                    refine stepN hf rfl rfl rfl (fun a hf => ?_)
                    refine stepN hf rfl rfl rfl (fun a hf => ?_)
                    refine stepN hf rfl rfl rfl (fun a hf => ?_)
                    refine stepN hf rfl rfl rfl (fun a hf => ?_)
                    refine stq hf rfl rfl rfl (ex_pickT hf rfl rfl) (fun a hf => ?_)
                    refine hK25 _ _ ?_
                    have e17 := some_eq H; subst e17
                    exact hJ17 _ _ ⟨hf.sub ⟨rfl, rfl, rfl, rfl, rfl, rfl, rfl, rfl, trivial⟩, hs⟩
                  · -- not a0 ≤ ((gd HeatLink.zero a1 y5).B)
                    refine itt H (fun hc26 H => ?_) (fun hc26 H => ?_)
                    · -- ((gd HeatLink.zero a1 y5).A) = ((gd HeatLink.zero a1 y5).B)
                      refine region_k (fun K27 hK27 => ?_)
                      refine stq hf rfl rfl rfl (ex_fieldAddrB fa_43_0 rfl hf rfl) (fun a hf => ?_)
                      refine stq hf rfl rfl rfl (ex_load sc_3 hf rfl (bx_cell (hs.get (i := 0) rfl) _ rfl)) (fun a hf => ?_)
                      refine stq hf rfl rfl rfl (ex_lss hf rfl rfl) (fun a hf => ?_)
                      refine stq hf rfl rfl rfl (ex_move hf rfl) (fun a hf => ?_)
                      replace hf := hf.castB (t := 16) rfl (dec_f hc18)
                      replace hf := hf.castB (t := 17) rfl (dec_f hc18)
                      refine stq hf rfl rfl rfl (ex_fieldAddrB fa_43_0 rfl hf rfl) (fun a hf => ?_)
                      refine stq hf rfl rfl rfl (ex_load sc_3 hf rfl (bx_cell (hs.get (i := 0) rfl) _ rfl)) (fun a hf => ?_)
                      refine stq hf rfl rfl rfl (ex_move hf rfl) (fun a hf => ?_)
                      refine stq hf rfl rfl rfl (ex_geq hf rfl rfl) (fun a hf => ?_)
                      refine stq hf rfl rfl rfl (ex_pickF hf rfl rfl) (fun a hf => ?_)
                      refine stq hf rfl rfl rfl (ex_move hf rfl) (fun a hf => ?_)
                      replace hf := hf.castB (t := 21) rfl (dec_f hc20)
                      replace hf := hf.castB (t := 22) rfl (dec_f hc20)
                      replace hf := hf.castB (t := 23) rfl (dec_f hc20)
                      refine stq hf rfl rfl rfl (ex_fieldAddrB fa_43_1 rfl hf rfl) (fun a hf => ?_)
                      refine stq hf rfl rfl rfl (ex_load sc_3 hf rfl (bx_cell (hs.get (i := 0) rfl) _ rfl)) (fun a hf => ?_)
                      refine stq hf rfl rfl rfl (ex_lss hf rfl rfl) (fun a hf => ?_)
                      refine stq hf rfl rfl rfl (ex_pickF hf rfl rfl) (fun a hf => ?_)
                      refine stq hf rfl rfl rfl (ex_move hf rfl) (fun a hf => ?_)
                      replace hf := hf.castB (t := 26) rfl (dec_f hc22)
                      replace hf := hf.castB (t := 27) rfl (dec_f hc22)
                      replace hf := hf.castB (t := 28) rfl (dec_f hc22)
                      refine stq hf rfl rfl rfl (ex_fieldAddrB fa_43_1 rfl hf rfl) (fun a hf => ?_)
                      refine stq hf rfl rfl rfl (ex_load sc_3 hf rfl (bx_cell (hs.get (i := 0) rfl) _ rfl)) (fun a hf => ?_)
                      refine stq hf rfl rfl rfl (ex_move hf rfl) (fun a hf => ?_)
                      refine stq hf rfl rfl rfl (ex_geq hf rfl rfl) (fun a hf => ?_)
                      refine stq hf rfl rfl rfl (ex_pickF hf rfl rfl) (fun a hf => ?_)
                      refine stq hf rfl rfl rfl (ex_move hf rfl) (fun a hf => ?_)
                      replace hf := hf.castB (t := 32) rfl (dec_f hc24)
                      replace hf := hf.castB (t := 33) rfl (dec_f hc24)
                      replace hf := hf.castB (t := 34) rfl (dec_f hc24)
                      refine stq hf rfl rfl rfl (ex_fieldAddrB fa_43_0 rfl hf rfl) (fun a hf => ?_)
                      refine stq hf rfl rfl rfl (ex_load sc_3 hf rfl (bx_cell (hs.get (i := 0) rfl) _ rfl)) (fun a hf => ?_)
                      refine stq hf rfl rfl rfl (ex_fieldAddrB fa_43_1 rfl hf rfl) (fun a hf => ?_)
                      refine stq hf rfl rfl rfl (ex_load sc_3 hf rfl (bx_cell (hs.get (i := 0) rfl) _ rfl)) (fun a hf => ?_)
                      refine stq hf rfl rfl rfl (ex_eql hf rfl rfl) (fun a hf => ?_)
                      refine stq hf rfl rfl rfl (ex_pickF hf rfl rfl) (fun a hf => ?_)
                      refine stq hf rfl rfl rfl (ex_move hf rfl) (fun a hf => ?_)
                      replace hf := hf.castB (t := 39) rfl (dec_t hc26)
                      replace hf := hf.castB (t := 40) rfl (dec_t hc26)
                      replace hf := hf.castB (t := 41) rfl (dec_t hc26)
                      refine stepN hf rfl rfl rfl (fun a hf => ?_)
                      refine stepN hf rfl rfl rfl (fun a hf => ?_)
                      refine stepN hf rfl rfl rfl (fun a hf => ?_)
                      refine stepN hf rfl rfl rfl (fun a hf => ?_)
                      refine stq hf rfl rfl rfl (ex_pickT hf rfl rfl) (fun a hf => ?_)
                      refine hK27 _ _ ?_
                      have e17 := some_eq H; subst e17
                      exact hJ17 _ _ ⟨hf.sub ⟨rfl, rfl, rfl, rfl, rfl, rfl, rfl, rfl, trivial⟩, hs⟩
                    · -- not ((gd HeatLink.zero a1 y5).A) = ((gd HeatLink.zero a1 y5).B)
                      refine bnd H (fun s28 hs28 H => ?_)
                      refine region_k (fun K29 hK29 => ?_)
                      refine stq hf rfl rfl rfl (ex_fieldAddrB fa_43_0 rfl hf rfl) (fun a hf => ?_)
                      refine stq hf rfl rfl rfl (ex_load sc_3 hf rfl (bx_cell (hs.get (i := 0) rfl) _ rfl)) (fun a hf => ?_)
                      refine stq hf rfl rfl rfl (ex_lss hf rfl rfl) (fun a hf => ?_)
                      refine stq hf rfl rfl rfl (ex_move hf rfl) (fun a hf => ?_)
                      replace hf := hf.castB (t := 16) rfl (dec_f hc18)
                      replace hf := hf.castB (t := 17) rfl (dec_f hc18)
                      refine stq hf rfl rfl rfl (ex_fieldAddrB fa_43_0 rfl hf rfl) (fun a hf => ?_)
                      refine stq hf rfl rfl rfl (ex_load sc_3 hf rfl (bx_cell (hs.get (i := 0) rfl) _ rfl)) (fun a hf => ?_)
                      refine stq hf rfl rfl rfl (ex_move hf rfl) (fun a hf => ?_)
                      refine stq hf rfl rfl rfl (ex_geq hf rfl rfl) (fun a hf => ?_)
                      refine stq hf rfl rfl rfl (ex_pickF hf rfl rfl) (fun a hf => ?_)
                      refine stq hf rfl rfl rfl (ex_move hf rfl) (fun a hf => ?_)
                      replace hf := hf.castB (t := 21) rfl (dec_f hc20)
                      replace hf := hf.castB (t := 22) rfl (dec_f hc20)
                      replace hf := hf.castB (t := 23) rfl (dec_f hc20)
                      refine stq hf rfl rfl rfl (ex_fieldAddrB fa_43_1 rfl hf rfl) (fun a hf => ?_)
                      refine stq hf rfl rfl rfl (ex_load sc_3 hf rfl (bx_cell (hs.get (i := 0) rfl) _ rfl)) (fun a hf => ?_)
                      refine stq hf rfl rfl rfl (ex_lss hf rfl rfl) (fun a hf => ?_)
                      refine stq hf rfl rfl rfl (ex_pickF hf rfl rfl) (fun a hf => ?_)
                      refine stq hf rfl rfl rfl (ex_move hf rfl) (fun a hf => ?_)
                      replace hf := hf.castB (t := 26) rfl (dec_f hc22)
                      replace hf := hf.castB (t := 27) rfl (dec_f hc22)
                      replace hf := hf.castB (t := 28) rfl (dec_f hc22)
                      refine stq hf rfl rfl rfl (ex_fieldAddrB fa_43_1 rfl hf rfl) (fun a hf => ?_)
                      refine stq hf rfl rfl rfl (ex_load sc_3 hf rfl (bx_cell (hs.get (i := 0) rfl) _ rfl)) (fun a hf => ?_)
                      refine stq hf rfl rfl rfl (ex_move hf rfl) (fun a hf => ?_)
                      refine stq hf rfl rfl rfl (ex_geq hf rfl rfl) (fun a hf => ?_)
                      refine stq hf rfl rfl rfl (ex_pickF hf rfl rfl) (fun a hf => ?_)
                      refine stq hf rfl rfl rfl (ex_move hf rfl) (fun a hf => ?_)
                      replace hf := hf.castB (t := 32) rfl (dec_f hc24)
                      replace hf := hf.castB (t := 33) rfl (dec_f hc24)
                      replace hf := hf.castB (t := 34) rfl (dec_f hc24)
                      refine stq hf rfl rfl rfl (ex_fieldAddrB fa_43_0 rfl hf rfl) (fun a hf => ?_)
                      refine stq hf rfl rfl rfl (ex_load sc_3 hf rfl (bx_cell (hs.get (i := 0) rfl) _ rfl)) (fun a hf => ?_)
                      refine stq hf rfl rfl rfl (ex_fieldAddrB fa_43_1 rfl hf rfl) (fun a hf => ?_)
                      refine stq hf rfl rfl rfl (ex_load sc_3 hf rfl (bx_cell (hs.get (i := 0) rfl) _ rfl)) (fun a hf => ?_)
                      refine stq hf rfl rfl rfl (ex_eql hf rfl rfl) (fun a hf => ?_)
                      refine stq hf rfl rfl rfl (ex_pickF hf rfl rfl) (fun a hf => ?_)
                      refine stq hf rfl rfl rfl (ex_move hf rfl) (fun a hf => ?_)
                      replace hf := hf.castB (t := 39) rfl (dec_f hc26)
                      replace hf := hf.castB (t := 40) rfl (dec_f hc26)
                      replace hf := hf.castB (t := 41) rfl (dec_f hc26)
                      refine stq hf rfl rfl rfl (ex_fieldAddrB fa_43_2 rfl hf rfl) (fun a hf => ?_)
                      refine stq hf rfl rfl rfl (ex_load sc_2 hf rfl (bx_cell (hs.get (i := 0) rfl) _ rfl)) (fun a hf => ?_)
                      refine stepF hf rfl rfl rfl (ex_call cf_39 hf rfl) (heat_inRange.calls k7 ((gd HeatLink.zero a1 y5).Conductance) 1 (hs.enter (.k .nil)) (Sr.nil _ _) hs28) (fun v w hR a hf => ?_)
                      obtain ⟨rfl, hs'⟩ := hR
                      replace hs := hs.step (.k .nil) hs'
                      clear hs'
                      refine stq hf rfl rfl rfl (ex_not hf rfl) (fun a hf => ?_)
                      refine stq hf rfl rfl rfl (ex_pickF hf rfl rfl) (fun a hf => ?_)
                      refine hK29 _ _ ?_
                      have e17 := some_eq H; subst e17
                      exact hJ17 _ _ ⟨hf.sub ⟨rfl, rfl, rfl, rfl, rfl, rfl, rfl, rfl, trivial⟩, hs⟩
          · obtain ⟨hf, hs⟩ := hJ
            replace H := HO17
            clear HO17
            refine itt H (fun hc30 H => ?_) (fun hc30 H => ?_)
            · -- x17 = true
              replace hf := hf.castB (t := 46) rfl hc30
              refine cond_T hf rfl ?_
              refine seq_reg (fun K31 hK31 => ?_)
              refine stq hf rfl rfl rfl (ex_assign hf rfl) (fun a hf => ?_)
              refine hK31 _ _ ?_
              refine wp_ret ?_
              refine hR16 _ _ ?_
              refine hR12 _ _ ?_
              refine hR11 _ _ ?_
              refine hR7 _ _ ?_
              refine hR4 _ _ ?_
              have e2 := some_eq H; subst e2; replace H := el_rt HO2
              refine hR2 _ _ ?_
              have eR := some_eq H; subst eR
              replace hs := hs.keep (.d .nil)
              exact ret1 Try.results40 hf rfl ⟨_, rfl, ⟨rfl, hs⟩⟩
            · -- not x17 = true
              replace hf := hf.castB (t := 46) rfl (bool_f hc30)
              refine cond_F hf rfl ?_
              refine wp_skip ?_
              refine hN16 _ _ ?_
              refine ck_some H (fun hc32 H => ?_)
              refine bnd H (fun s33 hs33 H => ?_)
              refine seq_reg (fun K34 hK34 => ?_)
              refine stq hf rfl rfl rfl (ex_move hf rfl) (fun a hf => ?_)
              refine stq hf rfl rfl rfl (ex_move hf rfl) (fun a hf => ?_)
              refine stq hf rfl rfl rfl (ex_slice_h sa_23 (rsl_isSl (hr.now hs (i := 0) rfl)) hc32 hf rfl rfl) (fun a hf => ?_)
              refine stq hf rfl rfl rfl (ex_makeFunc hf rfl) (fun a hf => ?_)
              refine stepF hf rfl rfl rfl (ex_call cf_44 hf rfl) (slices_ContainsFunc_api_HeatLink_api_HeatLink__validLinks_1.calls k7 ((a1.drop 0).take (y5.toNat - 0)) (⟨((gd HeatLink.zero a1 y5).A), ((gd HeatLink.zero a1 y5).B), ((gd HeatLink.zero a1 y5).Conductance)⟩ : HeatLink) (slv v1 0 y5.toNat 3) b14 (hs.enter (.k .nil)) (Sr.old hr hs (.k .nil) (i := 0) rfl (fun _ h => rsl_slv _ h (view_1 (lo := 0) hc32) (view_2 (lo := 0) hc32)) (fun _ h => slv_fs h) (Sr.own hs (.k .nil) (i := 0) rfl (fun _ h => h) (fun _ h => h) (Sr.nil _ _))) hs33) (fun v w hR a hf => ?_)
              obtain ⟨rfl, hs'⟩ := hR
              replace hs := hs.step (.k .nil) hs'
              clear hs'
              refine hK34 _ _ ?_
              refine itt H (fun hc35 H => ?_) (fun hc35 H => ?_)
              · -- s33 = true
                replace hf := hf.castB (t := 51) rfl hc35
                refine cond_T hf rfl ?_
                refine seq_reg (fun K36 hK36 => ?_)
                refine stq hf rfl rfl rfl (ex_assign hf rfl) (fun a hf => ?_)
                refine hK36 _ _ ?_
                refine wp_ret ?_
                refine hR12 _ _ ?_
                refine hR11 _ _ ?_
                refine hR7 _ _ ?_
                refine hR4 _ _ ?_
                have e2 := some_eq H; subst e2; replace H := el_rt HO2
                refine hR2 _ _ ?_
                have eR := some_eq H; subst eR
                replace hs := hs.keep (.d .nil)
                exact ret1 Try.results40 hf rfl ⟨_, rfl, ⟨rfl, hs⟩⟩
              · -- not s33 = true
                replace hf := hf.castB (t := 51) rfl (bool_f hc35)
                refine cond_F hf rfl ?_
                refine wp_skip ?_
                refine hN12 _ _ ?_
                refine hN11 _ _ ?_
                refine region_k (fun K37 hK37 => ?_)
                refine stq hf rfl rfl rfl (ex_add hf rfl rfl) (fun a hf => ?_)
                refine stq hf rfl rfl rfl (ex_move hf rfl) (fun a hf => ?_)
                refine hK37 _ _ ?_
                replace hs := hs.keep (.d .nil)
                exact hL7 k7 _ _ (Nat.lt_succ_self _) ⟨(IntKind.i64.wrap (y5 + 1)), hf.sub ⟨rfl, rfl, rfl, rfl, rfl, trivial⟩, hs, H⟩
        · -- not y5 < (a1.length : Int)
          replace hf := hf.castB (t := 10) rfl (dec_f hc10)
          refine cond_F hf rfl ?_
          refine wp_exit ?_
          refine hX9 0 _ _ ?_
          refine hX7 0 _ _ ?_
          refine hX4 _ _ ?_
          have e2 := some_eq H; subst e2
          exact hJ2 _ _ ⟨_, rfl, hf.sub trivial, hs⟩
  · obtain ⟨x2s, rfl, hf, hs⟩ := hJ
    replace H := el_go HO2
    clear HO2
    refine seq_reg (fun K38 hK38 => ?_)
    refine stq hf rfl rfl rfl (ex_assign hf rfl) (fun a hf => ?_)
    refine hK38 _ _ ?_
    refine wp_ret ?_
    have eR := some_eq H; subst eR
    exact ret1 Try.results40 hf rfl ⟨_, rfl, ⟨rfl, hs⟩⟩

set_option maxRecDepth 100000 in
theorem heat_valid.calls {M : Nat → Prop} {w0 : World} (k : Nat) (a0 : (List HeatDomain)) (a1 : (List HeatLink)) (a2 : Int) (v0 : Value) (v1 : Value) {r : Bool} (hs : St M w0 w0 []) (hr : Sr M w0 [rsl K_api_HeatDomain v0 a0, rsl K_api_HeatLink v1 a1])
    (h : heat_valid.f k a0 a1 a2 = some r) : Calls Try.prog 29 #[v0, v1, .int .i64 a2] w0 fun e w => ∃ v, e = .returned v ∧ (.bool r = v ∧ St M w0 w []) := by
  have H := (heat_valid.f.eq_1 ..).symm.trans h
  clear h
  refine enter Try.func29 rfl Try.ntmps29 rfl (fun a hf => ?_)
  refine seq_reg (fun K1 hK1 => ?_)
  refine stq hf rfl rfl rfl (ex_assign hf rfl) (fun a hf => ?_)
  refine hK1 _ _ ?_
  refine seq_n (fun Q2 hN2 hR2 hX2 => ?_)
  refine bnd H (fun x3 H3 HO3 => ?_)
  clear H
  refine seq_cut (fun a w => Fr a 77 [(0, v0), (1, v1), (31, .bool x3)] ∧ St M w0 w []) (fun Q3 hJ3 hR3 hX3 => ?_) (fun a w hJ => ?_)
  · replace H := H3
    refine itt H (fun hc4 H => ?_) (fun hc4 H => ?_)
    · -- (a0.length : Int) < 1
      refine region_k (fun K5 hK5 => ?_)
      refine stq hf rfl rfl rfl (ex_move hf rfl) (fun a hf => ?_)
      refine stq hf rfl rfl rfl (ex_lenS Try.underlying22 (rsl_isSl (hr.now hs (i := 0) rfl)) hf rfl) (fun a hf => ?_)
      refine stq hf rfl rfl rfl (ex_lss hf rfl rfl) (fun a hf => ?_)
      refine stq hf rfl rfl rfl (ex_move hf rfl) (fun a hf => ?_)
      replace hf := hf.castB (t := 14) rfl (dec_t hc4)
      replace hf := hf.castB (t := 15) rfl (dec_t hc4)
      refine stepN hf rfl rfl rfl (fun a hf => ?_)
      refine stepN hf rfl rfl rfl (fun a hf => ?_)
      refine stepN hf rfl rfl rfl (fun a hf => ?_)
      refine stq hf rfl rfl rfl (ex_pickT hf rfl rfl) (fun a hf => ?_)
      refine stq hf rfl rfl rfl (ex_move hf rfl) (fun a hf => ?_)
      refine stepN hf rfl rfl rfl (fun a hf => ?_)
      refine stepN hf rfl rfl rfl (fun a hf => ?_)
      refine stepN hf rfl rfl rfl (fun a hf => ?_)
      refine stq hf rfl rfl rfl (ex_pickT hf rfl rfl) (fun a hf => ?_)
      refine stq hf rfl rfl rfl (ex_move hf rfl) (fun a hf => ?_)
      refine stepN hf rfl rfl rfl (fun a hf => ?_)
      refine stepN hf rfl rfl rfl (fun a hf => ?_)
      refine stepN hf rfl rfl rfl (fun a hf => ?_)
      refine stepN hf rfl rfl rfl (fun a hf => ?_)
      refine stepN hf rfl rfl rfl (fun a hf => ?_)
      refine stq hf rfl rfl rfl (ex_pickT hf rfl rfl) (fun a hf => ?_)
      refine hK5 _ _ ?_
      have e3 := some_eq H; subst e3
      exact hJ3 _ _ ⟨hf.sub ⟨rfl, rfl, rfl, trivial⟩, hs⟩
    · -- not (a0.length : Int) < 1
      refine itt H (fun hc6 H => ?_) (fun hc6 H => ?_)
      · -- 16 < (a0.length : Int)
        refine region_k (fun K7 hK7 => ?_)
        refine stq hf rfl rfl rfl (ex_move hf rfl) (fun a hf => ?_)
        refine stq hf rfl rfl rfl (ex_lenS Try.underlying22 (rsl_isSl (hr.now hs (i := 0) rfl)) hf rfl) (fun a hf => ?_)
        refine stq hf rfl rfl rfl (ex_lss hf rfl rfl) (fun a hf => ?_)
        refine stq hf rfl rfl rfl (ex_move hf rfl) (fun a hf => ?_)
        replace hf := hf.castB (t := 14) rfl (dec_f hc4)
        replace hf := hf.castB (t := 15) rfl (dec_f hc4)
        refine stq hf rfl rfl rfl (ex_move hf rfl) (fun a hf => ?_)
        refine stq hf rfl rfl rfl (ex_lenS Try.underlying22 (rsl_isSl (hr.now hs (i := 0) rfl)) hf rfl) (fun a hf => ?_)
        refine stq hf rfl rfl rfl (ex_gtr hf rfl rfl) (fun a hf => ?_)
        refine stq hf rfl rfl rfl (ex_pickF hf rfl rfl) (fun a hf => ?_)
        refine stq hf rfl rfl rfl (ex_move hf rfl) (fun a hf => ?_)
        replace hf := hf.castB (t := 18) rfl (dec_t hc6)
        replace hf := hf.castB (t := 19) rfl (dec_t hc6)
        replace hf := hf.castB (t := 20) rfl (dec_t hc6)
        refine stepN hf rfl rfl rfl (fun a hf => ?_)
        refine stepN hf rfl rfl rfl (fun a hf => ?_)
        refine stepN hf rfl rfl rfl (fun a hf => ?_)
        refine stq hf rfl rfl rfl (ex_pickT hf rfl rfl) (fun a hf => ?_)
        refine stq hf rfl rfl rfl (ex_move hf rfl) (fun a hf => ?_)
        refine stepN hf rfl rfl rfl (fun a hf => ?_)
        refine stepN hf rfl rfl rfl (fun a hf => ?_)
        refine stepN hf rfl rfl rfl (fun a hf => ?_)
        refine stepN hf rfl rfl rfl (fun a hf => ?_)
        refine stepN hf rfl rfl rfl (fun a hf => ?_)
        refine stq hf rfl rfl rfl (ex_pickT hf rfl rfl) (fun a hf => ?_)
        refine hK7 _ _ ?_
        have e3 := some_eq H; subst e3
        exact hJ3 _ _ ⟨hf.sub ⟨rfl, rfl, rfl, trivial⟩, hs⟩
      · -- not 16 < (a0.length : Int)
        refine bnd H (fun s8 hs8 H => ?_)
        refine itt H (fun hc9 H => ?_) (fun hc9 H => ?_)
        · -- s8 = true
          refine bnd H (fun s10 hs10 H => ?_)
          refine region_k (fun K11 hK11 => ?_)
          refine stq hf rfl rfl rfl (ex_move hf rfl) (fun a hf => ?_)
          refine stq hf rfl rfl rfl (ex_lenS Try.underlying22 (rsl_isSl (hr.now hs (i := 0) rfl)) hf rfl) (fun a hf => ?_)
          refine stq hf rfl rfl rfl (ex_lss hf rfl rfl) (fun a hf => ?_)
          refine stq hf rfl rfl rfl (ex_move hf rfl) (fun a hf => ?_)
          replace hf := hf.castB (t := 14) rfl (dec_f hc4)
          replace hf := hf.castB (t := 15) rfl (dec_f hc4)
          refine stq hf rfl rfl rfl (ex_move hf rfl) (fun a hf => ?_)
          refine stq hf rfl rfl rfl (ex_lenS Try.underlying22 (rsl_isSl (hr.now hs (i := 0) rfl)) hf rfl) (fun a hf => ?_)
          refine stq hf rfl rfl rfl (ex_gtr hf rfl rfl) (fun a hf => ?_)
          refine stq hf rfl rfl rfl (ex_pickF hf rfl rfl) (fun a hf => ?_)
          refine stq hf rfl rfl rfl (ex_move hf rfl) (fun a hf => ?_)
          replace hf := hf.castB (t := 18) rfl (dec_f hc6)
          replace hf := hf.castB (t := 19) rfl (dec_f hc6)
          replace hf := hf.castB (t := 20) rfl (dec_f hc6)
          refine stq hf rfl rfl rfl (ex_move hf rfl) (fun a hf => ?_)
          refine stepF hf rfl rfl rfl (ex_call cf_39 hf rfl) (heat_inRange.calls k a2 (-16777216) (hs.enter .nil) (Sr.nil _ _) hs8) (fun v w hR a hf => ?_)
          obtain ⟨rfl, hs'⟩ := hR
          replace hs := hs.step .nil hs'
          clear hs'
          refine stq hf rfl rfl rfl (ex_not hf rfl) (fun a hf => ?_)
          refine stq hf rfl rfl rfl (ex_pickF hf rfl rfl) (fun a hf => ?_)
          refine stq hf rfl rfl rfl (ex_move hf rfl) (fun a hf => ?_)
          replace hf := hf.castB (t := 22) rfl hc9
          replace hf := hf.castB (t := 23) rfl (nbool_f hc9)
          replace hf := hf.castB (t := 24) rfl (nbool_f hc9)
          replace hf := hf.castB (t := 25) rfl (nbool_f hc9)
          refine stq hf rfl rfl rfl (ex_move hf rfl) (fun a hf => ?_)
          refine stq hf rfl rfl rfl (ex_lenS Try.underlying22 (rsl_isSl (hr.now hs (i := 0) rfl)) hf rfl) (fun a hf => ?_)
          refine stq hf rfl rfl rfl (ex_move hf rfl) (fun a hf => ?_)
          refine stepF hf rfl rfl rfl (ex_call cf_40 hf rfl) (heat_validLinks.calls k (a0.length : Int) a1 v1 (hs.enter .nil) (Sr.old hr hs .nil (i := 1) rfl (fun _ h => h) (fun _ h => h) (Sr.nil _ _)) hs10) (fun v w hR a hf => ?_)
          obtain ⟨rfl, hs'⟩ := hR
          replace hs := hs.step .nil hs'
          clear hs'
          refine stq hf rfl rfl rfl (ex_not hf rfl) (fun a hf => ?_)
          refine stq hf rfl rfl rfl (ex_pickF hf rfl rfl) (fun a hf => ?_)
          refine hK11 _ _ ?_
          have e3 := some_eq H; subst e3
          exact hJ3 _ _ ⟨hf.sub ⟨rfl, rfl, rfl, trivial⟩, hs⟩
        · -- not s8 = true
          refine region_k (fun K12 hK12 => ?_)
          refine stq hf rfl rfl rfl (ex_move hf rfl) (fun a hf => ?_)
          refine stq hf rfl rfl rfl (ex_lenS Try.underlying22 (rsl_isSl (hr.now hs (i := 0) rfl)) hf rfl) (fun a hf => ?_)
          refine stq hf rfl rfl rfl (ex_lss hf rfl rfl) (fun a hf => ?_)
          refine stq hf rfl rfl rfl (ex_move hf rfl) (fun a hf => ?_)
          replace hf := hf.castB (t := 14) rfl (dec_f hc4)
          replace hf := hf.castB (t := 15) rfl (dec_f hc4)
          refine stq hf rfl rfl rfl (ex_move hf rfl) (fun a hf => ?_)
          refine stq hf rfl rfl rfl (ex_lenS Try.underlying22 (rsl_isSl (hr.now hs (i := 0) rfl)) hf rfl) (fun a hf => ?_)
          refine stq hf rfl rfl rfl (ex_gtr hf rfl rfl) (fun a hf => ?_)
          refine stq hf rfl rfl rfl (ex_pickF hf rfl rfl) (fun a hf => ?_)
          refine stq hf rfl rfl rfl (ex_move hf rfl) (fun a hf => ?_)
          replace hf := hf.castB (t := 18) rfl (dec_f hc6)
          replace hf := hf.castB (t := 19) rfl (dec_f hc6)
          replace hf := hf.castB (t := 20) rfl (dec_f hc6)
          refine stq hf rfl rfl rfl (ex_move hf rfl) (fun a hf => ?_)
          refine stepF hf rfl rfl rfl (ex_call cf_39 hf rfl) (heat_inRange.calls k a2 (-16777216) (hs.enter .nil) (Sr.nil _ _) hs8) (fun v w hR a hf => ?_)
          obtain ⟨rfl, hs'⟩ := hR
          replace hs := hs.step .nil hs'
          clear hs'
          refine stq hf rfl rfl rfl (ex_not hf rfl) (fun a hf => ?_)
          refine stq hf rfl rfl rfl (ex_pickF hf rfl rfl) (fun a hf => ?_)
          refine stq hf rfl rfl rfl (ex_move hf rfl) (fun a hf => ?_)
          replace hf := hf.castB (t := 22) rfl (bool_f hc9)
          replace hf := hf.castB (t := 23) rfl (nbool_t hc9)
          replace hf := hf.castB (t := 24) rfl (nbool_t hc9)
          replace hf := hf.castB (t := 25) rfl (nbool_t hc9)
          refine stepN hf rfl rfl rfl (fun a hf => ?_)
          refine stepN hf rfl rfl rfl (fun a hf => ?_)
          refine stepN hf rfl rfl rfl (fun a hf => ?_)
          refine stepN hf rfl rfl rfl (fun a hf => ?_)
          refine stepN hf rfl rfl rfl (fun a hf => ?_)
          refine stq hf rfl rfl rfl (ex_pickT hf rfl rfl) (fun a hf => ?_)
          refine hK12 _ _ ?_
          have e3 := some_eq H; subst e3
          exact hJ3 _ _ ⟨hf.sub ⟨rfl, rfl, rfl, trivial⟩, hs⟩
  · obtain ⟨hf, hs⟩ := hJ
    replace H := HO3
    clear HO3
    refine itt H (fun hc13 H => ?_) (fun hc13 H => ?_)
    · -- x3 = true
      replace hf := hf.castB (t := 31) rfl hc13
      refine cond_T hf rfl ?_
      refine seq_reg (fun K14 hK14 => ?_)
      refine stq hf rfl rfl rfl (ex_assign hf rfl) (fun a hf => ?_)
      refine hK14 _ _ ?_
      refine wp_ret ?_
      refine hR2 _ _ ?_
      have eR := some_eq H; subst eR
      exact ret1 Try.results29 hf rfl ⟨_, rfl, ⟨rfl, hs⟩⟩
    · -- not x3 = true
      replace hf := hf.castB (t := 31) rfl (bool_f hc13)
      refine cond_F hf rfl ?_
      refine wp_skip ?_
      refine hN2 _ _ ?_
      refine bnd H (fun x15 H15 HO15 => ?_)
      clear H
      refine seq_cut (fun a w => ∃ (x15s : Unit), x15 = .go x15s ∧ Fr a 77 [] ∧ St M w0 w []) (fun Q15 hJ15 hR15 hX15 => ?_) (fun a w hJ => ?_)
      · replace H := H15
        refine seq_reg (fun K16 hK16 => ?_)
        refine stq hf rfl rfl rfl (ex_move hf rfl) (fun a hf => ?_)
        refine stq hf rfl rfl rfl (ex_lenS Try.underlying22 (rsl_isSl (hr.now hs (i := 0) rfl)) hf rfl) (fun a hf => ?_)
        refine stq hf rfl rfl rfl (ex_move hf rfl) (fun a hf => ?_)
        refine hK16 _ _ ?_
        refine block_k (fun Q17 hN17 hR17 hX17 hY17 => ?_)
        refine loop_k (fun n a w => ∃ (y18 : Int), Fr a 77 [(1, v1), (32, v0), (33, .int .i64 (a0.length : Int)), (34, .int .i64 y18)] ∧ St M w0 w [] ∧ heat_valid.l1 n a0 a1 y18 = some x15) k ?_ (fun n20 a w hI Q20 hL20 hR20 hX20 => ?_)
        · -- at the start
          exact ⟨0, hf.sub ⟨rfl, rfl, rfl, rfl, trivial⟩, hs, H⟩
        · obtain ⟨y18, hf, hs, H⟩ := hI
          cases n20 with
          | zero => exact absurd H (by rw [heat_valid.l1.eq_1]; intro h; cases h)
          | succ k20 =>
            replace H := (heat_valid.l1.eq_2 ..).symm.trans H
            refine seq_reg (fun K21 hK21 => ?_)
            refine stq hf rfl rfl rfl (ex_lss hf rfl rfl) (fun a hf => ?_)
            refine hK21 _ _ ?_
            refine seq_n (fun Q22 hN22 hR22 hX22 => ?_)
            refine itt H (fun hc23 H => ?_) (fun hc23 H => ?_)
            · -- y18 < (a0.length : Int)
              replace hf := hf.castB (t := 35) rfl (dec_t hc23)
              refine cond_T hf rfl ?_
              refine wp_skip ?_
              refine hN22 _ _ ?_
              refine bnd H (fun x24 H24 HO24 => ?_)
              clear H
              refine seq_cut (fun a w => ∃ (x24s : Unit), x24 = .go x24s ∧ Fr a 77 [(1, v1), (32, v0), (33, .int .i64 (a0.length : Int)), (34, .int .i64 y18)] ∧ St M w0 w []) (fun Q24 hJ24 hR24 hX24 => ?_) (fun a w hJ => ?_)
              · replace H := H24
                refine block_k (fun Q25 hN25 hR25 hX25 hY25 => ?_)
                refine ck_some H (fun hc26 H => ?_)
                refine seq_reg (fun K28 hK28 => ?_)
                refine stq hf rfl rfl rfl (ex_move hf rfl) (fun a hf => ?_)
                refine stq hf rfl rfl rfl (ex_indexAddr sa_22 (rsl_isSl (hr.now hs (i := 0) rfl)) hc26.1 hc26.2 hf rfl rfl) (fun a hf => ?_)
                refine stq hf rfl rfl rfl (ex_loadA (cs := [.int .i64 ((gd HeatDomain.zero a0 y18).Capacity), .int .i64 ((gd HeatDomain.zero a0 y18).Ambient)]) ag_34 hf rfl (el_cells (K := K_api_HeatDomain) (rsl_rd (hr.now hs (i := 0) rfl)) hc26.1 hc26.2 rfl)) (fun a hf => ?_)
                refine stepV hf rfl rfl rfl (er_alloc hs ti_34 (cs := [.int .i64 0, .int .i64 0]) rfl) (fun v w hR a hf => ?_)
                obtain ⟨b27, rfl, hs⟩ := hR
                refine stq hf rfl rfl rfl (ex_assign hf rfl) (fun a hf => ?_)
                refine stepS hf rfl rfl (er_storeAB (vs := [.int .i64 ((gd HeatDomain.zero a0 y18).Capacity), .int .i64 ((gd HeatDomain.zero a0 y18).Ambient)]) (cs' := [.int .i64 ((gd HeatDomain.zero a0 y18).Capacity), .int .i64 ((gd HeatDomain.zero a0 y18).Ambient)]) hs (.c .nil) sz_34 hf rfl rfl (all1 rfl (all1 rfl (all1_nil))) rfl rfl) (fun w hs => ?_)
                refine hK28 _ _ ?_
                refine seq_n (fun Q29 hN29 hR29 hX29 => ?_)
                refine bnd H (fun x30 H30 HO30 => ?_)
                clear H
                refine seq_cut (fun a w => Fr a 77 [(1, v1), (7, .int .i64 y18), (8, .pointer (some ⟨b27, 0, none⟩)), (32, v0), (33, .int .i64 (a0.length : Int)), (34, .int .i64 y18), (48, .bool x30)] ∧ St M w0 w [bx b27 34 [.int .i64 ((gd HeatDomain.zero a0 y18).Capacity), .int .i64 ((gd HeatDomain.zero a0 y18).Ambient)]]) (fun Q30 hJ30 hR30 hX30 => ?_) (fun a w hJ => ?_)
                · replace H := H30
                  refine bnd H (fun s31 hs31 H => ?_)
                  refine itt H (fun hc32 H => ?_) (fun hc32 H => ?_)
                  · -- s31 = true
                    refine bnd H (fun s33 hs33 H => ?_)
                    refine region_k (fun K34 hK34 => ?_)
                    refine stq hf rfl rfl rfl (ex_fieldAddrB fa_34_0 rfl hf rfl) (fun a hf => ?_)
                    refine stq hf rfl rfl rfl (ex_load sc_2 hf rfl (bx_cell (hs.get (i := 0) rfl) _ rfl)) (fun a hf => ?_)
                    refine stepF hf rfl rfl rfl (ex_call cf_39 hf rfl) (heat_inRange.calls k20 ((gd HeatDomain.zero a0 y18).Capacity) 1 (hs.enter (.k .nil)) (Sr.nil _ _) hs31) (fun v w hR a hf => ?_)
                    obtain ⟨rfl, hs'⟩ := hR
                    replace hs := hs.step (.k .nil) hs'
                    clear hs'
                    refine stq hf rfl rfl rfl (ex_not hf rfl) (fun a hf => ?_)
                    refine stq hf rfl rfl rfl (ex_move hf rfl) (fun a hf => ?_)
                    replace hf := hf.castB (t := 41) rfl hc32
                    replace hf := hf.castB (t := 42) rfl (nbool_f hc32)
                    replace hf := hf.castB (t := 43) rfl (nbool_f hc32)
                    refine stq hf rfl rfl rfl (ex_fieldAddrB fa_34_1 rfl hf rfl) (fun a hf => ?_)
                    refine stq hf rfl rfl rfl (ex_load sc_2 hf rfl (bx_cell (hs.get (i := 0) rfl) _ rfl)) (fun a hf => ?_)
                    refine stepF hf rfl rfl rfl (ex_call cf_39 hf rfl) (heat_inRange.calls k20 ((gd HeatDomain.zero a0 y18).Ambient) 1 (hs.enter (.k .nil)) (Sr.nil _ _) hs33) (fun v w hR a hf => ?_)
                    obtain ⟨rfl, hs'⟩ := hR
                    replace hs := hs.step (.k .nil) hs'
                    clear hs'
                    refine stq hf rfl rfl rfl (ex_not hf rfl) (fun a hf => ?_)
                    refine stq hf rfl rfl rfl (ex_pickF hf rfl rfl) (fun a hf => ?_)
                    refine hK34 _ _ ?_
                    have e30 := some_eq H; subst e30
                    exact hJ30 _ _ ⟨hf.sub ⟨rfl, rfl, rfl, rfl, rfl, rfl, rfl, trivial⟩, hs⟩
                  · -- not s31 = true
                    refine region_k (fun K35 hK35 => ?_)
                    refine stq hf rfl rfl rfl (ex_fieldAddrB fa_34_0 rfl hf rfl) (fun a hf => ?_)
                    refine stq hf rfl rfl rfl (ex_load sc_2 hf rfl (bx_cell (hs.get (i := 0) rfl) _ rfl)) (fun a hf => ?_)
                    refine stepF hf rfl rfl rfl (ex_call cf_39 hf rfl) (heat_inRange.calls k20 ((gd HeatDomain.zero a0 y18).Capacity) 1 (hs.enter (.k .nil)) (Sr.nil _ _) hs31) (fun v w hR a hf => ?_)
                    obtain ⟨rfl, hs'⟩ := hR
                    replace hs := hs.step (.k .nil) hs'
                    clear hs'
                    refine stq hf rfl rfl rfl (ex_not hf rfl) (fun a hf => ?_)
                    refine stq hf rfl rfl rfl (ex_move hf rfl) (fun a hf => ?_)
                    replace hf := hf.castB (t := 41) rfl (bool_f hc32)
                    replace hf := hf.castB (t := 42) rfl (nbool_t hc32)
                    replace hf := hf.castB (t := 43) rfl (nbool_t hc32)
                    refine stepN hf rfl rfl rfl (fun a hf => ?_)
                    refine stepN hf rfl rfl rfl (fun a hf => ?_)
                    refine stepN hf rfl rfl rfl (fun a hf => ?_)
                    refine stepN hf rfl rfl rfl (fun a hf => ?_)
                    refine stq hf rfl rfl rfl (ex_pickT hf rfl rfl) (fun a hf => ?_)
                    refine hK35 _ _ ?_
                    have e30 := some_eq H; subst e30
                    exact hJ30 _ _ ⟨hf.sub ⟨rfl, rfl, rfl, rfl, rfl, rfl, rfl, trivial⟩, hs⟩
                · obtain ⟨hf, hs⟩ := hJ
                  replace H := HO30
                  clear HO30
                  refine itt H (fun hc36 H => ?_) (fun hc36 H => ?_)
                  · -- x30 = true
                    replace hf := hf.castB (t := 48) rfl hc36
                    refine cond_T hf rfl ?_
                    refine seq_reg (fun K37 hK37 => ?_)
                    refine stq hf rfl rfl rfl (ex_assign hf rfl) (fun a hf => ?_)
                    refine hK37 _ _ ?_
                    refine wp_ret ?_
                    refine hR29 _ _ ?_
                    refine hR25 _ _ ?_
                    have e24 := some_eq H; subst e24; replace H := el_rt HO24
                    refine hR24 _ _ ?_
                    refine hR20 _ _ ?_
                    refine hR17 _ _ ?_
                    have e15 := some_eq H; subst e15; replace H := el_rt HO15
                    refine hR15 _ _ ?_
                    have eR := some_eq H; subst eR
                    replace hs := hs.keep (.d .nil)
                    exact ret1 Try.results29 hf rfl ⟨_, rfl, ⟨rfl, hs⟩⟩
                  · -- not x30 = true
                    replace hf := hf.castB (t := 48) rfl (bool_f hc36)
                    refine cond_F hf rfl ?_
                    refine wp_skip ?_
                    refine hN29 _ _ ?_
                    refine seq_reg (fun K38 hK38 => ?_)
                    refine stq hf rfl rfl rfl (ex_fieldAddrB fa_34_1 rfl hf rfl) (fun a hf => ?_)
                    refine stq hf rfl rfl rfl (ex_load sc_2 hf rfl (bx_cell (hs.get (i := 0) rfl) _ rfl)) (fun a hf => ?_)
                    refine stq hf rfl rfl rfl (ex_assign hf rfl) (fun a hf => ?_)
                    refine hK38 _ _ ?_
                    refine bnd H (fun x39 H39 HO39 => ?_)
                    clear H
                    refine seq_cut (fun a w => Fr a 77 [(1, v1), (8, .pointer (some ⟨b27, 0, none⟩)), (9, .int .i64 x39), (32, v0), (33, .int .i64 (a0.length : Int)), (34, .int .i64 y18)] ∧ St M w0 w [bx b27 34 [.int .i64 ((gd HeatDomain.zero a0 y18).Capacity), .int .i64 ((gd HeatDomain.zero a0 y18).Ambient)]]) (fun Q39 hJ39 hR39 hX39 => ?_) (fun a w hJ => ?_)
                    · replace H := H39
                      refine seq_reg (fun K40 hK40 => ?_)
                      refine stq hf rfl rfl rfl (ex_move hf rfl) (fun a hf => ?_)
                      refine stq hf rfl rfl rfl (ex_lenS Try.underlying23 (rsl_isSl (hr.now hs (i := 1) rfl)) hf rfl) (fun a hf => ?_)
                      refine stq hf rfl rfl rfl (ex_move hf rfl) (fun a hf => ?_)
                      refine hK40 _ _ ?_
                      refine block_k (fun Q41 hN41 hR41 hX41 hY41 => ?_)
                      refine loop_k (fun n a w => ∃ (y42 : Int) (y43 : Int), Fr a 77 [(1, v1), (7, .int .i64 y18), (8, .pointer (some ⟨b27, 0, none⟩)), (9, .int .i64 y42), (32, v0), (33, .int .i64 (a0.length : Int)), (34, .int .i64 y18), (51, v1), (52, .int .i64 (a1.length : Int)), (53, .int .i64 y43)] ∧ St M w0 w [bx b27 34 [.int .i64 ((gd HeatDomain.zero a0 y18).Capacity), .int .i64 ((gd HeatDomain.zero a0 y18).Ambient)]] ∧ heat_valid.l2 n a1 y18 y42 y43 = some x39) k20 ?_ (fun n45 a w hI Q45 hL45 hR45 hX45 => ?_)
                      · -- at the start
                        exact ⟨((gd HeatDomain.zero a0 y18).Ambient), 0, hf.sub ⟨rfl, rfl, rfl, rfl, rfl, rfl, rfl, rfl, rfl, rfl, trivial⟩, hs, H⟩
                      · obtain ⟨y42, y43, hf, hs, H⟩ := hI
                        cases n45 with
                        | zero => exact absurd H (by rw [heat_valid.l2.eq_1]; intro h; cases h)
                        | succ k45 =>
                          replace H := (heat_valid.l2.eq_2 ..).symm.trans H
                          refine seq_reg (fun K46 hK46 => ?_)
                          refine stq hf rfl rfl rfl (ex_lss hf rfl rfl) (fun a hf => ?_)
                          refine hK46 _ _ ?_
                          refine seq_n (fun Q47 hN47 hR47 hX47 => ?_)
                          refine itt H (fun hc48 H => ?_) (fun hc48 H => ?_)
                          · -- y43 < (a1.length : Int)
                            replace hf := hf.castB (t := 54) rfl (dec_t hc48)
                            refine cond_T hf rfl ?_
                            refine wp_skip ?_
                            refine hN47 _ _ ?_
                            refine bnd H (fun x49 H49 HO49 => ?_)
                            clear H
                            refine seq_cut (fun a w => Fr a 77 [(1, v1), (7, .int .i64 y18), (8, .pointer (some ⟨b27, 0, none⟩)), (9, .int .i64 x49), (32, v0), (33, .int .i64 (a0.length : Int)), (34, .int .i64 y18), (51, v1), (52, .int .i64 (a1.length : Int)), (53, .int .i64 y43)] ∧ St M w0 w [bx b27 34 [.int .i64 ((gd HeatDomain.zero a0 y18).Capacity), .int .i64 ((gd HeatDomain.zero a0 y18).Ambient)]]) (fun Q49 hJ49 hR49 hX49 => ?_) (fun a w hJ => ?_)
                            · replace H := H49
                              refine block_k (fun Q50 hN50 hR50 hX50 hY50 => ?_)
                              refine ck_some H (fun hc51 H => ?_)
                              refine seq_reg (fun K53 hK53 => ?_)
                              refine stq hf rfl rfl rfl (ex_indexAddr sa_23 (rsl_isSl (hr.now hs (i := 1) rfl)) hc51.1 hc51.2 hf rfl rfl) (fun a hf => ?_)
                              refine stq hf rfl rfl rfl (ex_loadA (cs := [.int .i64 ((gd HeatLink.zero a1 y43).A), .int .i64 ((gd HeatLink.zero a1 y43).B), .int .i64 ((gd HeatLink.zero a1 y43).Conductance)]) ag_43 hf rfl (el_cells (K := K_api_HeatLink) (rsl_rd (hr.now hs (i := 1) rfl)) hc51.1 hc51.2 rfl)) (fun a hf => ?_)
                              refine stepV hf rfl rfl rfl (er_alloc hs ti_43 (cs := [.int .i64 0, .int .i64 0, .int .i64 0]) rfl) (fun v w hR a hf => ?_)
                              obtain ⟨b52, rfl, hs⟩ := hR
                              refine stepS hf rfl rfl (er_storeAB (vs := [.int .i64 ((gd HeatLink.zero a1 y43).A), .int .i64 ((gd HeatLink.zero a1 y43).B), .int .i64 ((gd HeatLink.zero a1 y43).Conductance)]) (cs' := [.int .i64 ((gd HeatLink.zero a1 y43).A), .int .i64 ((gd HeatLink.zero a1 y43).B), .int .i64 ((gd HeatLink.zero a1 y43).Conductance)]) hs (.c (.k .nil)) sz_43 hf rfl rfl (all1 rfl (all1 rfl (all1 rfl (all1_nil)))) rfl rfl) (fun w hs => ?_)
                              refine hK53 _ _ ?_
                              refine bnd H (fun x54 H54 HO54 => ?_)
                              clear H
                              refine seq_cut (fun a w => Fr a 77 [(1, v1), (7, .int .i64 y18), (8, .pointer (some ⟨b27, 0, none⟩)), (9, .int .i64 y42), (11, .pointer (some ⟨b52, 0, none⟩)), (32, v0), (33, .int .i64 (a0.length : Int)), (34, .int .i64 y18), (51, v1), (52, .int .i64 (a1.length : Int)), (53, .int .i64 y43), (66, .bool x54)] ∧ St M w0 w [bx b27 34 [.int .i64 ((gd HeatDomain.zero a0 y18).Capacity), .int .i64 ((gd HeatDomain.zero a0 y18).Ambient)], bx b52 43 [.int .i64 ((gd HeatLink.zero a1 y43).A), .int .i64 ((gd HeatLink.zero a1 y43).B), .int .i64 ((gd HeatLink.zero a1 y43).Conductance)]]) (fun Q54 hJ54 hR54 hX54 => ?_) (fun a w hJ => ?_)
                              · replace H := H54
                                refine itt H (fun hc55 H => ?_) (fun hc55 H => ?_)
                                · -- ((gd HeatLink.zero a1 y43).A) = y18
                                  refine region_k (fun K56 hK56 => ?_)
                                  refine stq hf rfl rfl rfl (ex_fieldAddrB fa_43_0 rfl hf rfl) (fun a hf => ?_)
                                  refine stq hf rfl rfl rfl (ex_load sc_3 hf rfl (bx_cell (hs.get (i := 0) rfl) _ rfl)) (fun a hf => ?_)
                                  refine stq hf rfl rfl rfl (ex_move hf rfl) (fun a hf => ?_)
                                  refine stq hf rfl rfl rfl (ex_eql hf rfl rfl) (fun a hf => ?_)
                                  refine stq hf rfl rfl rfl (ex_move hf rfl) (fun a hf => ?_)
                                  replace hf := hf.castB (t := 60) rfl (dec_t hc55)
                                  replace hf := hf.castB (t := 61) rfl (dec_t hc55)
                                  refine stepN hf rfl rfl rfl (fun a hf => ?_)
                                  refine stepN hf rfl rfl rfl (fun a hf => ?_)
                                  refine stepN hf rfl rfl rfl (fun a hf => ?_)
                                  refine stepN hf rfl rfl rfl (fun a hf => ?_)
                                  refine stq hf rfl rfl rfl (ex_pickT hf rfl rfl) (fun a hf => ?_)
                                  refine hK56 _ _ ?_
                                  replace hs := hs.pick (.k (.c .nil))
                                  have e54 := some_eq H; subst e54
                                  exact hJ54 _ _ ⟨hf.sub ⟨rfl, rfl, rfl, rfl, rfl, rfl, rfl, rfl, rfl, rfl, rfl, rfl, trivial⟩, hs⟩
                                · -- not ((gd HeatLink.zero a1 y43).A) = y18
                                  refine region_k (fun K57 hK57 => ?_)
                                  refine stq hf rfl rfl rfl (ex_fieldAddrB fa_43_0 rfl hf rfl) (fun a hf => ?_)
                                  refine stq hf rfl rfl rfl (ex_load sc_3 hf rfl (bx_cell (hs.get (i := 0) rfl) _ rfl)) (fun a hf => ?_)
                                  refine stq hf rfl rfl rfl (ex_move hf rfl) (fun a hf => ?_)
                                  refine stq hf rfl rfl rfl (ex_eql hf rfl rfl) (fun a hf => ?_)
                                  refine stq hf rfl rfl rfl (ex_move hf rfl) (fun a hf => ?_)
                                  replace hf := hf.castB (t := 60) rfl (dec_f hc55)
                                  replace hf := hf.castB (t := 61) rfl (dec_f hc55)
                                  refine stq hf rfl rfl rfl (ex_fieldAddrB fa_43_1 rfl hf rfl) (fun a hf => ?_)
                                  refine stq hf rfl rfl rfl (ex_load sc_3 hf rfl (bx_cell (hs.get (i := 0) rfl) _ rfl)) (fun a hf => ?_)
                                  refine stq hf rfl rfl rfl (ex_move hf rfl) (fun a hf => ?_)
                                  refine stq hf rfl rfl rfl (ex_eql hf rfl rfl) (fun a hf => ?_)
                                  refine stq hf rfl rfl rfl (ex_pickF hf rfl rfl) (fun a hf => ?_)
                                  refine hK57 _ _ ?_
                                  replace hs := hs.pick (.k (.c .nil))
                                  have e54 := some_eq H; subst e54
                                  exact hJ54 _ _ ⟨hf.sub ⟨rfl, rfl, rfl, rfl, rfl, rfl, rfl, rfl, rfl, rfl, rfl, rfl, trivial⟩, hs⟩
                              · obtain ⟨hf, hs⟩ := hJ
                                replace H := HO54
                                clear HO54
                                refine itt H (fun hc58 H => ?_) (fun hc58 H => ?_)
                                · -- x54 = true
                                  replace hf := hf.castB (t := 66) rfl hc58
                                  refine cond_T hf rfl ?_
                                  refine region_k (fun K59 hK59 => ?_)
                                  refine stq hf rfl rfl rfl (ex_move hf rfl) (fun a hf => ?_)
                                  refine stq hf rfl rfl rfl (ex_fieldAddrB fa_43_2 rfl hf rfl) (fun a hf => ?_)
                                  refine stq hf rfl rfl rfl (ex_load sc_2 hf rfl (bx_cell (hs.get (i := 1) rfl) _ rfl)) (fun a hf => ?_)
                                  refine stq hf rfl rfl rfl (ex_add hf rfl rfl) (fun a hf => ?_)
                                  refine stq hf rfl rfl rfl (ex_assign hf rfl) (fun a hf => ?_)
                                  refine hK59 _ _ ?_
                                  refine hN50 _ _ ?_
                                  replace hs := hs.keep (.k (.d .nil))
                                  have e49 := some_eq H; subst e49
                                  exact hJ49 _ _ ⟨hf.sub ⟨rfl, rfl, rfl, rfl, rfl, rfl, rfl, rfl, rfl, rfl, trivial⟩, hs⟩
                                · -- not x54 = true
                                  replace hf := hf.castB (t := 66) rfl (bool_f hc58)
                                  refine cond_F hf rfl ?_
                                  refine wp_skip ?_
                                  refine hN50 _ _ ?_
                                  replace hs := hs.keep (.k (.d .nil))
                                  have e49 := some_eq H; subst e49
                                  exact hJ49 _ _ ⟨hf.sub ⟨rfl, rfl, rfl, rfl, rfl, rfl, rfl, rfl, rfl, rfl, trivial⟩, hs⟩
                            · obtain ⟨hf, hs⟩ := hJ
                              replace H := HO49
                              clear HO49
                              refine region_k (fun K60 hK60 => ?_)
                              refine stq hf rfl rfl rfl (ex_add hf rfl rfl) (fun a hf => ?_)
                              refine stq hf rfl rfl rfl (ex_move hf rfl) (fun a hf => ?_)
                              refine hK60 _ _ ?_
                              exact hL45 k45 _ _ (Nat.lt_succ_self _) ⟨x49, (IntKind.i64.wrap (y43 + 1)), hf.sub ⟨rfl, rfl, rfl, rfl, rfl, rfl, rfl, rfl, rfl, rfl, trivial⟩, hs, H⟩
                          · -- not y43 < (a1.length : Int)
                            replace hf := hf.castB (t := 54) rfl (dec_f hc48)
                            refine cond_F hf rfl ?_
                            refine wp_exit ?_
                            refine hX47 2 _ _ ?_
                            refine hX45 2 _ _ ?_
                            refine hX41 _ _ ?_
                            have e39 := some_eq H; subst e39
                            exact hJ39 _ _ ⟨hf.sub ⟨rfl, rfl, rfl, rfl, rfl, rfl, trivial⟩, hs⟩
                    · obtain ⟨hf, hs⟩ := hJ
                      replace H := HO39
                      clear HO39
                      refine seq_reg (fun K61 hK61 => ?_)
                      refine stq hf rfl rfl rfl (ex_fieldAddrB fa_34_0 rfl hf rfl) (fun a hf => ?_)
                      refine stq hf rfl rfl rfl (ex_load sc_2 hf rfl (bx_cell (hs.get (i := 0) rfl) _ rfl)) (fun a hf => ?_)
                      refine stq hf rfl rfl rfl (ex_move hf rfl) (fun a hf => ?_)
                      refine stq hf rfl rfl rfl (ex_lss hf rfl rfl) (fun a hf => ?_)
                      refine hK61 _ _ ?_
                      refine itt H (fun hc62 H => ?_) (fun hc62 H => ?_)
                      · -- ((gd HeatDomain.zero a0 y18).Capacity) < x39
                        replace hf := hf.castB (t := 75) rfl (dec_t hc62)
                        refine cond_T hf rfl ?_
                        refine seq_reg (fun K63 hK63 => ?_)
                        refine stq hf rfl rfl rfl (ex_assign hf rfl) (fun a hf => ?_)
                        refine hK63 _ _ ?_
                        refine wp_ret ?_
                        refine hR25 _ _ ?_
                        have e24 := some_eq H; subst e24; replace H := el_rt HO24
                        refine hR24 _ _ ?_
                        refine hR20 _ _ ?_
                        refine hR17 _ _ ?_
                        have e15 := some_eq H; subst e15; replace H := el_rt HO15
                        refine hR15 _ _ ?_
                        have eR := some_eq H; subst eR
                        replace hs := hs.keep (.d .nil)
                        exact ret1 Try.results29 hf rfl ⟨_, rfl, ⟨rfl, hs⟩⟩
                      · -- not ((gd HeatDomain.zero a0 y18).Capacity) < x39
                        replace hf := hf.castB (t := 75) rfl (dec_f hc62)
                        refine cond_F hf rfl ?_
                        refine wp_skip ?_
                        refine hN25 _ _ ?_
                        replace hs := hs.keep (.d .nil)
                        have e24 := some_eq H; subst e24
                        exact hJ24 _ _ ⟨_, rfl, hf.sub ⟨rfl, rfl, rfl, rfl, trivial⟩, hs⟩
              · obtain ⟨x24s, rfl, hf, hs⟩ := hJ
                replace H := el_go HO24
                clear HO24
                refine region_k (fun K64 hK64 => ?_)
                refine stq hf rfl rfl rfl (ex_add hf rfl rfl) (fun a hf => ?_)
                refine stq hf rfl rfl rfl (ex_move hf rfl) (fun a hf => ?_)
                refine hK64 _ _ ?_
                exact hL20 k20 _ _ (Nat.lt_succ_self _) ⟨(IntKind.i64.wrap (y18 + 1)), hf.sub ⟨rfl, rfl, rfl, rfl, trivial⟩, hs, H⟩
            · -- not y18 < (a0.length : Int)
              replace hf := hf.castB (t := 35) rfl (dec_f hc23)
              refine cond_F hf rfl ?_
              refine wp_exit ?_
              refine hX22 0 _ _ ?_
              refine hX20 0 _ _ ?_
              refine hX17 _ _ ?_
              have e15 := some_eq H; subst e15
              exact hJ15 _ _ ⟨_, rfl, hf.sub trivial, hs⟩
      · obtain ⟨x15s, rfl, hf, hs⟩ := hJ
        replace H := el_go HO15
        clear HO15
        refine seq_reg (fun K65 hK65 => ?_)
        refine stq hf rfl rfl rfl (ex_assign hf rfl) (fun a hf => ?_)
        refine hK65 _ _ ?_
        refine wp_ret ?_
        have eR := some_eq H; subst eR
        exact ret1 Try.results29 hf rfl ⟨_, rfl, ⟨rfl, hs⟩⟩

set_option maxRecDepth 100000 in
theorem slices_Clone_api_HeatDomain_api_HeatDomain.calls {M : Nat → Prop} {w0 : World} (k : Nat) (a0 : (List HeatDomain)) (v0 : Value) {r : (List HeatDomain)} (hs : St M w0 w0 []) (hr : Sr M w0 [rsl K_api_HeatDomain v0 a0])
    (h : slices_Clone_api_HeatDomain_api_HeatDomain.f k a0 = some r) : Calls Try.prog 30 #[v0] w0 fun e w => ∃ v, e = .returned v ∧ (∃ (g0 : Value), g0 = v ∧ St M w0 w [osl K_api_HeatDomain g0 r]) := by
  have H := (slices_Clone_api_HeatDomain_api_HeatDomain.f.eq_1 ..).symm.trans h
  clear h
  refine enter Try.func30 rfl Try.ntmps30 rfl (fun a hf => ?_)
  refine seq_reg (fun K1 hK1 => ?_)
  refine stq hf rfl rfl rfl (ex_assign hf rfl) (fun a hf => ?_)
  refine hK1 _ _ ?_
  refine seq_n (fun Q2 hN2 hR2 hX2 => ?_)
  refine seq_reg (fun K3 hK3 => ?_)
  refine stq hf rfl rfl rfl (ex_move hf rfl) (fun a hf => ?_)
  refine stq hf rfl rfl rfl (ex_eqnil Try.underlying22 (rsl_isSl (hr.now hs (i := 0) rfl)) hf rfl rfl) (fun a hf => ?_)
  refine hK3 _ _ ?_
  by_cases hc4 : (isNil v0) = true
  · -- nil
    have hz5 : a0 = [] := isNil_nil (rsl_isSl (hr.now hs (i := 0) rfl)) hc4
    replace H : (some ([] : List HeatDomain)) = some r := by simpa [ck, hz5] using H
    replace hf := hf.castB (t := 4) rfl hc4
    refine cond_T hf rfl ?_
    refine seq_reg (fun K6 hK6 => ?_)
    refine stq hf rfl rfl rfl (ex_assign hf rfl) (fun a hf => ?_)
    refine hK6 _ _ ?_
    refine wp_ret ?_
    refine hR2 _ _ ?_
    have eR := some_eq H; subst eR
    replace hs := hs.nilS K_api_HeatDomain
    exact ret1 Try.results30 hf rfl ⟨_, rfl, ⟨(.slice none 0 0), rfl, hs⟩⟩
  · -- not nil
    replace hf := hf.castB (t := 4) rfl (bool_f hc4)
    refine cond_F hf rfl ?_
    refine wp_skip ?_
    refine hN2 _ _ ?_
    refine ck_some H (fun hc8 H => ?_)
    refine seq_reg (fun K10 hK10 => ?_)
    refine stepV hf rfl rfl rfl (er_buildSlice (K := K_api_HeatDomain) (xs := ([] : List HeatDomain)) hs Try.underlying22 ep_34 rfl rfl hf rfl .nil rfl rfl) (fun v7 w hs a hf => ?_)
    refine stq hf rfl rfl rfl (ex_move hf rfl) (fun a hf => ?_)
    refine stepV hf rfl rfl rfl (er_append (K := K_api_HeatDomain) hs (.c .nil) (hr.now hs (i := 0) rfl) rfl Try.underlying22 ep_34 hc8 rfl hf rfl rfl) (fun v9 w hs a hf => ?_)
    refine stq hf rfl rfl rfl (ex_assign hf rfl) (fun a hf => ?_)
    refine hK10 _ _ ?_
    refine wp_ret ?_
    have eR := some_eq H; subst eR
    exact ret1 Try.results30 hf rfl ⟨_, rfl, ⟨v9, rfl, hs⟩⟩

set_option maxRecDepth 100000 in
theorem slices_Clone_api_HeatLink_api_HeatLink.calls {M : Nat → Prop} {w0 : World} (k : Nat) (a0 : (List HeatLink)) (v0 : Value) {r : (List HeatLink)} (hs : St M w0 w0 []) (hr : Sr M w0 [rsl K_api_HeatLink v0 a0])
    (h : slices_Clone_api_HeatLink_api_HeatLink.f k a0 = some r) : Calls Try.prog 31 #[v0] w0 fun e w => ∃ v, e = .returned v ∧ (∃ (g0 : Value), g0 = v ∧ St M w0 w [osl K_api_HeatLink g0 r]) := by
  have H := (slices_Clone_api_HeatLink_api_HeatLink.f.eq_1 ..).symm.trans h
  clear h
  refine enter Try.func31 rfl Try.ntmps31 rfl (fun a hf => ?_)
  refine seq_reg (fun K1 hK1 => ?_)
  refine stq hf rfl rfl rfl (ex_assign hf rfl) (fun a hf => ?_)
  refine hK1 _ _ ?_
  refine seq_n (fun Q2 hN2 hR2 hX2 => ?_)
  refine seq_reg (fun K3 hK3 => ?_)
  refine stq hf rfl rfl rfl (ex_move hf rfl) (fun a hf => ?_)
  refine stq hf rfl rfl rfl (ex_eqnil Try.underlying23 (rsl_isSl (hr.now hs (i := 0) rfl)) hf rfl rfl) (fun a hf => ?_)
  refine hK3 _ _ ?_
  by_cases hc4 : (isNil v0) = true
  · -- nil
    have hz5 : a0 = [] := isNil_nil (rsl_isSl (hr.now hs (i := 0) rfl)) hc4
    replace H : (some ([] : List HeatLink)) = some r := by simpa [ck, hz5] using H
    replace hf := hf.castB (t := 4) rfl hc4
    refine cond_T hf rfl ?_
    refine seq_reg (fun K6 hK6 => ?_)
    refine stq hf rfl rfl rfl (ex_assign hf rfl) (fun a hf => ?_)
    refine hK6 _ _ ?_
    refine wp_ret ?_
    refine hR2 _ _ ?_
    have eR := some_eq H; subst eR
    replace hs := hs.nilS K_api_HeatLink
    exact ret1 Try.results31 hf rfl ⟨_, rfl, ⟨(.slice none 0 0), rfl, hs⟩⟩
  · -- not nil
    replace hf := hf.castB (t := 4) rfl (bool_f hc4)
    refine cond_F hf rfl ?_
    refine wp_skip ?_
    refine hN2 _ _ ?_
    refine ck_some H (fun hc8 H => ?_)
    refine seq_reg (fun K10 hK10 => ?_)
    refine stepV hf rfl rfl rfl (er_buildSlice (K := K_api_HeatLink) (xs := ([] : List HeatLink)) hs Try.underlying23 ep_43 rfl rfl hf rfl .nil rfl rfl) (fun v7 w hs a hf => ?_)
    refine stq hf rfl rfl rfl (ex_move hf rfl) (fun a hf => ?_)
    refine stepV hf rfl rfl rfl (er_append (K := K_api_HeatLink) hs (.c .nil) (hr.now hs (i := 0) rfl) rfl Try.underlying23 ep_43 hc8 rfl hf rfl rfl) (fun v9 w hs a hf => ?_)
    refine stq hf rfl rfl rfl (ex_assign hf rfl) (fun a hf => ?_)
    refine hK10 _ _ ?_
    refine wp_ret ?_
    have eR := some_eq H; subst eR
    exact ret1 Try.results31 hf rfl ⟨_, rfl, ⟨v9, rfl, hs⟩⟩

set_option maxRecDepth 100000 in
theorem heat_New.calls {M : Nat → Prop} {w0 : World} (k : Nat) (a0 : (List HeatDomain)) (a1 : (List HeatLink)) (a2 : Int) (v0 : Value) (v1 : Value) {r : (Option ((List HeatDomain) × (List HeatLink) × Int × (List Int) × Int)) × Int} (hs : St M w0 w0 []) (hr : Sr M w0 [rsl K_api_HeatDomain v0 a0, rsl K_api_HeatLink v1 a1])
    (h : heat_New.f k a0 a1 a2 = some r) : Calls Try.prog 13 #[v0, v1, .int .i64 a2] w0 fun e w => ∃ v, e = .returned v ∧ ((r.1 = none ∧ .tuple #[.pointer none, .int .i64 r.2] = v ∧ St M w0 w []) ∨ (∃ c, r.1 = some c ∧ ∃ (g0 : Nat) (g1 : Value) (g2 : Value) (g3 : Value), .tuple #[.pointer (some ⟨g0, 0, none⟩), .int .i64 r.2] = v ∧ St M w0 w [bx g0 64 [g1, g2, .int .i64 c.2.2.1, g3, .int .i64 c.2.2.2.2], osl K_api_HeatDomain g1 c.1, osl K_api_HeatLink g2 c.2.1, osl K_int64 g3 c.2.2.2.1])) := by
  have H := (heat_New.f.eq_1 ..).symm.trans h
  clear h
  refine enter Try.func13 rfl Try.ntmps13 rfl (fun a hf => ?_)
  refine seq_reg (fun K1 hK1 => ?_)
  refine stq hf rfl rfl rfl (ex_assign hf rfl) (fun a hf => ?_)
  refine stq hf rfl rfl rfl (ex_assign hf rfl) (fun a hf => ?_)
  refine hK1 _ _ ?_
  refine seq_n (fun Q2 hN2 hR2 hX2 => ?_)
  refine bnd H (fun s3 hs3 H => ?_)
  refine seq_reg (fun K4 hK4 => ?_)
  refine stq hf rfl rfl rfl (ex_move hf rfl) (fun a hf => ?_)
  refine stq hf rfl rfl rfl (ex_move hf rfl) (fun a hf => ?_)
  refine stq hf rfl rfl rfl (ex_move hf rfl) (fun a hf => ?_)
  refine stepF hf rfl rfl rfl (ex_call cf_29 hf rfl) (heat_valid.calls k a0 a1 a2 v0 v1 (hs.enter .nil) (Sr.old hr hs .nil (i := 0) rfl (fun _ h => h) (fun _ h => h) (Sr.old hr hs .nil (i := 1) rfl (fun _ h => h) (fun _ h => h) (Sr.nil _ _))) hs3) (fun v w hR a hf => ?_)
  obtain ⟨rfl, hs'⟩ := hR
  replace hs := hs.step .nil hs'
  clear hs'
  refine stq hf rfl rfl rfl (ex_not hf rfl) (fun a hf => ?_)
  refine hK4 _ _ ?_
  refine itt H (fun hc5 H => ?_) (fun hc5 H => ?_)
  · -- s3 = true
    replace hf := hf.castB (t := 14) rfl hc5
    replace hf := hf.castB (t := 15) rfl (nbool_f hc5)
    refine cond_F hf rfl ?_
    refine wp_skip ?_
    refine hN2 _ _ ?_
    refine bnd H (fun s6 hs6 H => ?_)
    refine bnd H (fun s8 hs8 H => ?_)
    refine seq_reg (fun K11 hK11 => ?_)
    refine stq hf rfl rfl rfl (ex_move hf rfl) (fun a hf => ?_)
    refine stepF hf rfl rfl rfl (ex_call cf_30 hf rfl) (slices_Clone_api_HeatDomain_api_HeatDomain.calls k a0 v0 (hs.enter .nil) (Sr.old hr hs .nil (i := 0) rfl (fun _ h => h) (fun _ h => h) (Sr.nil _ _)) hs6) (fun v w hR a hf => ?_)
    obtain ⟨v7, rfl, hs'⟩ := hR
    replace hs := hs.step .nil hs'
    clear hs'
    refine stq hf rfl rfl rfl (ex_move hf rfl) (fun a hf => ?_)
    refine stepF hf rfl rfl rfl (ex_call cf_31 hf rfl) (slices_Clone_api_HeatLink_api_HeatLink.calls k a1 v1 (hs.enter (.k .nil)) (Sr.old hr hs (.k .nil) (i := 1) rfl (fun _ h => h) (fun _ h => h) (Sr.nil _ _)) hs8) (fun v w hR a hf => ?_)
    obtain ⟨v9, rfl, hs'⟩ := hR
    replace hs := hs.step (.k .nil) hs'
    clear hs'
    refine stq hf rfl rfl rfl (ex_move hf rfl) (fun a hf => ?_)
    refine stq hf rfl rfl rfl (ex_build (cs := [v7, v9, .int .i64 a2, (.slice none 0 0), .int .i64 0]) bt_64 hf rfl (.cons (CL.one (IsSl.one (rsl_isSl (osl_rsl _ (hs.get (i := 1) rfl))))) (.cons (CL.one (IsSl.one (rsl_isSl (osl_rsl _ (hs.get (i := 0) rfl))))) (.cons rfl .nil))) rfl) (fun a hf => ?_)
    refine stepV hf rfl rfl rfl (er_box (cs := [v7, v9, .int .i64 a2, (.slice none 0 0), .int .i64 0]) hs hf rfl rfl) (fun v w hR a hf => ?_)
    obtain ⟨b10, rfl, hs⟩ := hR
    refine stq hf rfl rfl rfl (ex_assign hf rfl) (fun a hf => ?_)
    refine hK11 _ _ ?_
    refine bnd H (fun x12 H12 HO12 => ?_)
    clear H
    refine seq_cut (fun a w => ∃ (v13 : Value), Fr a 44 [(8, .pointer (some ⟨b10, 0, none⟩))] ∧ St M w0 w [bx b10 64 [v7, v9, .int .i64 a2, v13, .int .i64 0], osl K_api_HeatDomain v7 s6, osl K_api_HeatLink v9 s8, osl K_int64 v13 x12]) (fun Q12 hJ12 hR12 hX12 => ?_) (fun a w hJ => ?_)
    · replace H := H12
      refine seq_reg (fun K14 hK14 => ?_)
      refine stq hf rfl rfl rfl (ex_move hf rfl) (fun a hf => ?_)
      refine stq hf rfl rfl rfl (ex_lenS Try.underlying22 (rsl_isSl (hr.now hs (i := 0) rfl)) hf rfl) (fun a hf => ?_)
      refine stq hf rfl rfl rfl (ex_move hf rfl) (fun a hf => ?_)
      refine hK14 _ _ ?_
      refine block_k (fun Q15 hN15 hR15 hX15 hY15 => ?_)
      refine loop_k (fun n a w => ∃ (y17 : (List Int)) (y18 : Int) (v16 : Value), Fr a 44 [(2, .int .i64 a2), (8, .pointer (some ⟨b10, 0, none⟩)), (23, v0), (24, .int .i64 (a0.length : Int)), (25, .int .i64 y18)] ∧ St M w0 w [bx b10 64 [v7, v9, .int .i64 a2, v16, .int .i64 0], osl K_api_HeatDomain v7 s6, osl K_api_HeatLink v9 s8, osl K_int64 v16 y17] ∧ heat_New.l1 n a0 a2 y17 y18 = some x12) k ?_ (fun n20 a w hI Q20 hL20 hR20 hX20 => ?_)
      · -- at the start
        replace hs := hs.nilS K_int64
        replace hs := hs.pick (.k (.k (.c (.k .nil))))
        replace hs := hs.pick (.k (.k (.k (.c .nil))))
        replace hs := hs.pick (.k (.k (.k (.c .nil))))
        exact ⟨[], 0, (.slice none 0 0), hf.sub ⟨rfl, rfl, rfl, rfl, rfl, trivial⟩, hs, H⟩
      · obtain ⟨y17, y18, v16, hf, hs, H⟩ := hI
        cases n20 with
        | zero => exact absurd H (by rw [heat_New.l1.eq_1]; intro h; cases h)
        | succ k20 =>
          replace H := (heat_New.l1.eq_2 ..).symm.trans H
          refine seq_reg (fun K21 hK21 => ?_)
          refine stq hf rfl rfl rfl (ex_lss hf rfl rfl) (fun a hf => ?_)
          refine hK21 _ _ ?_
          refine seq_n (fun Q22 hN22 hR22 hX22 => ?_)
          refine itt H (fun hc23 H => ?_) (fun hc23 H => ?_)
          · -- y18 < (a0.length : Int)
            replace hf := hf.castB (t := 26) rfl (dec_t hc23)
            refine cond_T hf rfl ?_
            refine wp_skip ?_
            refine hN22 _ _ ?_
            refine seq_n (fun Q24 hN24 hR24 hX24 => ?_)
            refine block_k (fun Q25 hN25 hR25 hX25 hY25 => ?_)
            refine ck_some H (fun hc26 H => ?_)
            refine seq_reg (fun K28 hK28 => ?_)
            refine stq hf rfl rfl rfl (ex_indexAddr sa_22 (rsl_isSl (hr.now hs (i := 0) rfl)) hc26.1 hc26.2 hf rfl rfl) (fun a hf => ?_)
            refine stq hf rfl rfl rfl (ex_loadA (cs := [.int .i64 ((gd HeatDomain.zero a0 y18).Capacity), .int .i64 ((gd HeatDomain.zero a0 y18).Ambient)]) ag_34 hf rfl (el_cells (K := K_api_HeatDomain) (rsl_rd (hr.now hs (i := 0) rfl)) hc26.1 hc26.2 rfl)) (fun a hf => ?_)
            refine stepV hf rfl rfl rfl (er_alloc hs ti_34 (cs := [.int .i64 0, .int .i64 0]) rfl) (fun v w hR a hf => ?_)
            obtain ⟨b27, rfl, hs⟩ := hR
            refine stepS hf rfl rfl (er_storeAB (vs := [.int .i64 ((gd HeatDomain.zero a0 y18).Capacity), .int .i64 ((gd HeatDomain.zero a0 y18).Ambient)]) (cs' := [.int .i64 ((gd HeatDomain.zero a0 y18).Capacity), .int .i64 ((gd HeatDomain.zero a0 y18).Ambient)]) hs (.c (.k (.k (.k (.k .nil))))) sz_34 hf rfl rfl (all1 rfl (all1 rfl (all1_nil))) rfl rfl) (fun w hs => ?_)
            refine hK28 _ _ ?_
            refine ck_some H (fun hc30 H => ?_)
            refine region_d fol 11 [(2, .int .i64 a2), (8, .pointer (some ⟨b10, 0, none⟩)), (10, .pointer (some ⟨b27, 0, none⟩)), (23, v0), (24, .int .i64 (a0.length : Int)), (25, .int .i64 y18)] [(0, .pointer (some ⟨b10, 0, none⟩)), (1, .pointer (some ⟨b10, 0, none⟩)), (2, .pointer (some ⟨b10, 0, none⟩)), (3, .pointer (some ⟨b10, 3, none⟩)), (4, v16), (5, .pointer (some ⟨b27, 0, none⟩)), (6, .int .i64 ((gd HeatDomain.zero a0 y18).Capacity)), (7, .int .i64 a2), (8, .int .i64 (IntKind.i64.wrap (((gd HeatDomain.zero a0 y18).Capacity) * a2)))] [9, 10] (fun w => (bx b10 64 [v7, v9, .int .i64 a2, v16, .int .i64 0]).ok w ∧ (bx b27 34 [.int .i64 ((gd HeatDomain.zero a0 y18).Capacity), .int .i64 ((gd HeatDomain.zero a0 y18).Ambient)]).ok w ∧ True) (fun w => St M w0 w [bx b27 34 [.int .i64 ((gd HeatDomain.zero a0 y18).Capacity), .int .i64 ((gd HeatDomain.zero a0 y18).Ambient)], bx b10 64 [v7, v9, .int .i64 a2, v16, .int .i64 0], osl K_api_HeatDomain v7 s6, osl K_api_HeatLink v9 s8, osl K_int64 v16 y17]) hf ⟨rfl, rfl, rfl, rfl, rfl, rfl, trivial⟩ (by kernel_rfl) (by kernel_rfl) rfl (by decide) ⟨hs.drew.get (i := 1) rfl, hs.drew.get (i := 0) rfl, trivial⟩ hs.drew (.cons (⟨_, _, rfl, rfl, rfl, rfl, fun a w hR hf => .inl ⟨wanted_yes hf rfl, ex_move hf rfl⟩⟩) (.cons (⟨_, _, rfl, rfl, rfl, rfl, fun a w hR hf => .inl ⟨wanted_yes hf rfl, ex_move hf rfl⟩⟩) (.cons (⟨_, _, rfl, rfl, rfl, rfl, fun a w hR hf => .inl ⟨wanted_yes hf rfl, ex_nilCheck hf rfl⟩⟩) (.cons (⟨_, _, rfl, rfl, rfl, rfl, fun a w hR hf => .inl ⟨wanted_yes hf rfl, ex_fieldAddrB fa_64_3 rfl hf rfl⟩⟩) (.cons (⟨_, _, rfl, rfl, rfl, rfl, fun a w hR hf => .inl ⟨wanted_yes hf rfl, ex_load sc_35 hf rfl (bx_cell (hR.1) _ rfl)⟩⟩) (.cons (⟨_, _, rfl, rfl, rfl, rfl, fun a w hR hf => .inl ⟨wanted_yes hf rfl, ex_fieldAddrB fa_34_0 rfl hf rfl⟩⟩) (.cons (⟨_, _, rfl, rfl, rfl, rfl, fun a w hR hf => .inl ⟨wanted_yes hf rfl, ex_load sc_2 hf rfl (bx_cell (hR.2.1) _ rfl)⟩⟩) (.cons (⟨_, _, rfl, rfl, rfl, rfl, fun a w hR hf => .inl ⟨wanted_yes hf rfl, ex_move hf rfl⟩⟩) (.cons (⟨_, _, rfl, rfl, rfl, rfl, fun a w hR hf => .inl ⟨wanted_yes hf rfl, ex_mul hf rfl rfl⟩⟩) (.nil)))))))))) (fun K32 hK32 => ?_)
            refine RW.one 9 (by kernel_rfl) (by kernel_rfl) rfl (fun d hd => by cases hd; rfl) [(37, .int .i64 (IntKind.i64.wrap (((gd HeatDomain.zero a0 y18).Capacity) * a2)))] ⟨rfl, trivial⟩ (fun a w hR hs hf => ⟨wanted_yes hf rfl, ?_⟩)
            refine estep_v (er_buildSlice (K := K_int64) (xs := [(IntKind.i64.wrap (((gd HeatDomain.zero a0 y18).Capacity) * a2))]) hs Try.underlying35 ep_2 rfl rfl hf rfl (.cons rfl .nil) rfl rfl) (fun v29 w hs => ?_)
            refine ⟨[], [(9, v29), (0, .pointer (some ⟨b10, 0, none⟩)), (1, .pointer (some ⟨b10, 0, none⟩)), (2, .pointer (some ⟨b10, 0, none⟩)), (3, .pointer (some ⟨b10, 3, none⟩)), (4, v16), (5, .pointer (some ⟨b27, 0, none⟩)), (6, .int .i64 ((gd HeatDomain.zero a0 y18).Capacity)), (7, .int .i64 a2), (8, .int .i64 (IntKind.i64.wrap (((gd HeatDomain.zero a0 y18).Capacity) * a2)))], [10], (fun _ => True), (fun w => St M w0 w [osl K_int64 v29 [(IntKind.i64.wrap (((gd HeatDomain.zero a0 y18).Capacity) * a2))], bx b27 34 [.int .i64 ((gd HeatDomain.zero a0 y18).Capacity), .int .i64 ((gd HeatDomain.zero a0 y18).Ambient)], bx b10 64 [v7, v9, .int .i64 a2, v16, .int .i64 0], osl K_api_HeatDomain v7 s6, osl K_api_HeatLink v9 s8, osl K_int64 v16 y17]), rfl, rfl, ⟨hs.get (i := 2) rfl, hs.get (i := 1) rfl, trivial⟩, trivial, hs, (by kernel_rfl), .nil, ?_⟩
            refine RW.one 10 (by kernel_rfl) (by kernel_rfl) rfl (fun d hd => by cases hd; rfl) [(33, v16), (38, v29)] ⟨rfl, rfl, trivial⟩ (fun a w hR hs hf => ⟨wanted_yes hf rfl, ?_⟩)
            refine estep_v (er_append (K := K_int64) hs (.k (.k (.k (.k (.k (.c .nil)))))) (osl_rsl _ (hs.get (i := 0) rfl)) rfl Try.underlying35 ep_2 hc30 rfl hf rfl rfl) (fun v31 w hs => ?_)
            refine ⟨[], [(10, v31), (9, v29), (0, .pointer (some ⟨b10, 0, none⟩)), (1, .pointer (some ⟨b10, 0, none⟩)), (2, .pointer (some ⟨b10, 0, none⟩)), (3, .pointer (some ⟨b10, 3, none⟩)), (4, v16), (5, .pointer (some ⟨b27, 0, none⟩)), (6, .int .i64 ((gd HeatDomain.zero a0 y18).Capacity)), (7, .int .i64 a2), (8, .int .i64 (IntKind.i64.wrap (((gd HeatDomain.zero a0 y18).Capacity) * a2)))], [], (fun _ => True), (fun w => St M w0 w [osl K_int64 v31 (y17 ++ [(IntKind.i64.wrap (((gd HeatDomain.zero a0 y18).Capacity) * a2))]), osl K_int64 v29 [(IntKind.i64.wrap (((gd HeatDomain.zero a0 y18).Capacity) * a2))], bx b27 34 [.int .i64 ((gd HeatDomain.zero a0 y18).Capacity), .int .i64 ((gd HeatDomain.zero a0 y18).Ambient)], bx b10 64 [v7, v9, .int .i64 a2, v16, .int .i64 0], osl K_api_HeatDomain v7 s6, osl K_api_HeatLink v9 s8]), rfl, rfl, ⟨⟨hs.get (i := 3) rfl, hs.get (i := 2) rfl, trivial⟩, trivial⟩, trivial, hs, (by kernel_rfl), .nil, ?_⟩
            refine RW.zero (by kernel_rfl) (by kernel_rfl) [(2, .int .i64 a2), (8, .pointer (some ⟨b10, 0, none⟩)), (23, v0), (24, .int .i64 (a0.length : Int)), (25, .int .i64 y18), (29, .pointer (some ⟨b10, 0, none⟩)), (39, v31)] ⟨rfl, rfl, rfl, rfl, rfl, rfl, rfl, trivial⟩ (fun a w hR hs hf => ?_)
            refine stq hf rfl rfl rfl (ex_nilCheck hf rfl) (fun a hf => ?_)
            refine stq hf rfl rfl rfl (ex_fieldAddrB fa_64_3 rfl hf rfl) (fun a hf => ?_)
            refine stepS hf rfl rfl (er_storeB hs (.k (.k (.k (.c (.k (.k .nil)))))) hf rfl rfl (IsSl.one (rsl_isSl (osl_rsl _ (hs.get (i := 0) rfl)))) sz_35 rfl) (fun w hs => ?_)
            refine hK32 _ _ ?_
            refine hN25 _ _ ?_
            refine hN24 _ _ ?_
            refine region_k (fun K33 hK33 => ?_)
            refine stq hf rfl rfl rfl (ex_add hf rfl rfl) (fun a hf => ?_)
            refine stq hf rfl rfl rfl (ex_move hf rfl) (fun a hf => ?_)
            refine hK33 _ _ ?_
            replace hs := hs.keep (.k (.k (.d (.d (.k (.k .nil))))))
            replace hs := hs.pick (.k (.c (.k (.k .nil))))
            replace hs := hs.pick (.k (.k (.k (.c .nil))))
            replace hs := hs.pick (.k (.k (.k (.c .nil))))
            replace hs := hs.pick (.k (.k (.k (.c .nil))))
            exact hL20 k20 _ _ (Nat.lt_succ_self _) ⟨(y17 ++ [(IntKind.i64.wrap (((gd HeatDomain.zero a0 y18).Capacity) * a2))]), (IntKind.i64.wrap (y18 + 1)), v31, hf.sub ⟨rfl, rfl, rfl, rfl, rfl, trivial⟩, hs, H⟩
          · -- not y18 < (a0.length : Int)
            replace hf := hf.castB (t := 26) rfl (dec_f hc23)
            refine cond_F hf rfl ?_
            refine wp_exit ?_
            refine hX22 0 _ _ ?_
            refine hX20 0 _ _ ?_
            refine hX15 _ _ ?_
            have e12 := some_eq H; subst e12
            exact hJ12 _ _ ⟨v16, hf.sub ⟨rfl, trivial⟩, hs⟩
    · obtain ⟨v13, hf, hs⟩ := hJ
      replace H := HO12
      clear HO12
      refine seq_reg (fun K34 hK34 => ?_)
      refine stq hf rfl rfl rfl (ex_move hf rfl) (fun a hf => ?_)
      refine stq hf rfl rfl rfl (ex_assign hf rfl) (fun a hf => ?_)
      refine stq hf rfl rfl rfl (ex_assign hf rfl) (fun a hf => ?_)
      refine hK34 _ _ ?_
      refine wp_ret ?_
      have eR := some_eq H; subst eR
      exact ret2 Try.results13 hf rfl rfl ⟨_, rfl, .inr ⟨_, rfl, b10, v7, v9, v13, rfl, hs⟩⟩
  · -- not s3 = true
    replace hf := hf.castB (t := 14) rfl (bool_f hc5)
    replace hf := hf.castB (t := 15) rfl (nbool_t hc5)
    refine cond_T hf rfl ?_
    refine seq_reg (fun K35 hK35 => ?_)
    refine stq hf rfl rfl rfl (ex_assign hf rfl) (fun a hf => ?_)
    refine stq hf rfl rfl rfl (ex_assign hf rfl) (fun a hf => ?_)
    refine hK35 _ _ ?_
    refine wp_ret ?_
    refine hR2 _ _ ?_
    have eR := some_eq H; subst eR
    exact ret2 Try.results13 hf rfl rfl ⟨_, rfl, .inl ⟨rfl, rfl, hs⟩⟩

set_option maxRecDepth 100000 in
theorem heat_Model_Energy.calls {M : Nat → Prop} {w0 : World} (k : Nat) (a0_domains : (List HeatDomain)) (a0_links : (List HeatLink)) (a0_ambient : Int) (a0_energy : (List Int)) (a0_released : Int) (a1 : Int) (b0 : Nat) (v0_domains : Value) (v0_links : Value) (v0_energy : Value) {r : Int} (hs : St M w0 w0 []) (hr : Sr M w0 [bx b0 64 [v0_domains, v0_links, .int .i64 a0_ambient, v0_energy, .int .i64 a0_released], rsl K_api_HeatDomain v0_domains a0_domains, rsl K_api_HeatLink v0_links a0_links, rsl K_int64 v0_energy a0_energy])
    (h : heat_Model_Energy.f k a0_domains a0_links a0_ambient a0_energy a0_released a1 = some r) : Calls Try.prog 17 #[.pointer (some ⟨b0, 0, none⟩), .int .i64 a1] w0 fun e w => ∃ v, e = .returned v ∧ (.int .i64 r = v ∧ St M w0 w []) := by
  have H := (heat_Model_Energy.f.eq_1 ..).symm.trans h
  clear h
  refine enter Try.func17 rfl Try.ntmps17 rfl (fun a hf => ?_)
  refine seq_reg (fun K1 hK1 => ?_)
  refine stq hf rfl rfl rfl (ex_assign hf rfl) (fun a hf => ?_)
  refine hK1 _ _ ?_
  refine seq_n (fun Q2 hN2 hR2 hX2 => ?_)
  refine bnd H (fun x3 H3 HO3 => ?_)
  clear H
  refine seq_cut (fun a w => Fr a 23 [(0, .pointer (some ⟨b0, 0, none⟩)), (1, .int .i64 a1), (15, .bool x3)] ∧ St M w0 w []) (fun Q3 hJ3 hR3 hX3 => ?_) (fun a w hJ => ?_)
  · replace H := H3
    refine itt H (fun hc4 H => ?_) (fun hc4 H => ?_)
    · -- a1 < 0
      refine region_k (fun K5 hK5 => ?_)
      refine stq hf rfl rfl rfl (ex_move hf rfl) (fun a hf => ?_)
      refine stq hf rfl rfl rfl (ex_lss hf rfl rfl) (fun a hf => ?_)
      refine stq hf rfl rfl rfl (ex_move hf rfl) (fun a hf => ?_)
      replace hf := hf.castB (t := 6) rfl (dec_t hc4)
      replace hf := hf.castB (t := 7) rfl (dec_t hc4)
      refine stepN hf rfl rfl rfl (fun a hf => ?_)
      refine stepN hf rfl rfl rfl (fun a hf => ?_)
      refine stepN hf rfl rfl rfl (fun a hf => ?_)
      refine stepN hf rfl rfl rfl (fun a hf => ?_)
      refine stepN hf rfl rfl rfl (fun a hf => ?_)
      refine stepN hf rfl rfl rfl (fun a hf => ?_)
      refine stepN hf rfl rfl rfl (fun a hf => ?_)
      refine stq hf rfl rfl rfl (ex_pickT hf rfl rfl) (fun a hf => ?_)
      refine hK5 _ _ ?_
      have e3 := some_eq H; subst e3
      exact hJ3 _ _ ⟨hf.sub ⟨rfl, rfl, rfl, trivial⟩, hs⟩
    · -- not a1 < 0
      refine region_k (fun K6 hK6 => ?_)
      refine stq hf rfl rfl rfl (ex_move hf rfl) (fun a hf => ?_)
      refine stq hf rfl rfl rfl (ex_lss hf rfl rfl) (fun a hf => ?_)
      refine stq hf rfl rfl rfl (ex_move hf rfl) (fun a hf => ?_)
      replace hf := hf.castB (t := 6) rfl (dec_f hc4)
      replace hf := hf.castB (t := 7) rfl (dec_f hc4)
      refine stq hf rfl rfl rfl (ex_move hf rfl) (fun a hf => ?_)
      refine stq hf rfl rfl rfl (ex_move hf rfl) (fun a hf => ?_)
      refine stq hf rfl rfl rfl (ex_nilCheck hf rfl) (fun a hf => ?_)
      refine stq hf rfl rfl rfl (ex_fieldAddrB fa_64_0 rfl hf rfl) (fun a hf => ?_)
      refine stq hf rfl rfl rfl (ex_load sc_22 hf rfl (bx_cell (hr.now hs (i := 0) rfl) _ rfl)) (fun a hf => ?_)
      refine stq hf rfl rfl rfl (ex_lenS Try.underlying22 (rsl_isSl (hr.now hs (i := 1) rfl)) hf rfl) (fun a hf => ?_)
      refine stq hf rfl rfl rfl (ex_geq hf rfl rfl) (fun a hf => ?_)
      refine stq hf rfl rfl rfl (ex_pickF hf rfl rfl) (fun a hf => ?_)
      refine hK6 _ _ ?_
      have e3 := some_eq H; subst e3
      exact hJ3 _ _ ⟨hf.sub ⟨rfl, rfl, rfl, trivial⟩, hs⟩
  · obtain ⟨hf, hs⟩ := hJ
    replace H := HO3
    clear HO3
    refine itt H (fun hc7 H => ?_) (fun hc7 H => ?_)
    · -- x3 = true
      replace hf := hf.castB (t := 15) rfl hc7
      refine cond_T hf rfl ?_
      refine seq_reg (fun K8 hK8 => ?_)
      refine stq hf rfl rfl rfl (ex_assign hf rfl) (fun a hf => ?_)
      refine hK8 _ _ ?_
      refine wp_ret ?_
      refine hR2 _ _ ?_
      have eR := some_eq H; subst eR
      exact ret1 Try.results17 hf rfl ⟨_, rfl, ⟨rfl, hs⟩⟩
    · -- not x3 = true
      replace hf := hf.castB (t := 15) rfl (bool_f hc7)
      refine cond_F hf rfl ?_
      refine wp_skip ?_
      refine hN2 _ _ ?_
      refine ck_some H (fun hc9 H => ?_)
      refine seq_reg (fun K10 hK10 => ?_)
      refine stq hf rfl rfl rfl (ex_move hf rfl) (fun a hf => ?_)
      refine stq hf rfl rfl rfl (ex_nilCheck hf rfl) (fun a hf => ?_)
      refine stq hf rfl rfl rfl (ex_fieldAddrB fa_64_3 rfl hf rfl) (fun a hf => ?_)
      refine stq hf rfl rfl rfl (ex_load sc_35 hf rfl (bx_cell (hr.now hs (i := 0) rfl) _ rfl)) (fun a hf => ?_)
      refine stq hf rfl rfl rfl (ex_move hf rfl) (fun a hf => ?_)
      refine stq hf rfl rfl rfl (ex_indexAddr sa_35 (rsl_isSl (hr.now hs (i := 3) rfl)) hc9.1 hc9.2 hf rfl rfl) (fun a hf => ?_)
      refine stq hf rfl rfl rfl (ex_load sc_2 hf rfl (el_cell (K := K_int64) (f := 0) (rsl_rd (hr.now hs (i := 3) rfl)) hc9.1 hc9.2 rfl)) (fun a hf => ?_)
      refine stq hf rfl rfl rfl (ex_assign hf rfl) (fun a hf => ?_)
      refine hK10 _ _ ?_
      refine wp_ret ?_
      have eR := some_eq H; subst eR
      exact ret1 Try.results17 hf rfl ⟨_, rfl, ⟨rfl, hs⟩⟩

set_option maxRecDepth 100000 in
theorem heat_validPower_1.calls {M : Nat → Prop} {w0 : World} (k : Nat) (a0 : Int) {r : Bool} (hs : St M w0 w0 []) (hr : Sr M w0 [])
    (h : heat_validPower_1.f k a0 = some r) : Calls Try.prog 42 #[.int .i64 a0] w0 fun e w => ∃ v, e = .returned v ∧ (.bool r = v ∧ St M w0 w []) := by
  have H := (heat_validPower_1.f.eq_1 ..).symm.trans h
  clear h
  refine enter Try.func42 rfl Try.ntmps42 rfl (fun a hf => ?_)
  refine seq_reg (fun K1 hK1 => ?_)
  refine stq hf rfl rfl rfl (ex_assign hf rfl) (fun a hf => ?_)
  refine hK1 _ _ ?_
  refine bnd H (fun s2 hs2 H => ?_)
  refine seq_reg (fun K3 hK3 => ?_)
  refine stq hf rfl rfl rfl (ex_move hf rfl) (fun a hf => ?_)
  refine stepF hf rfl rfl rfl (ex_call cf_39 hf rfl) (heat_inRange.calls k a0 0 (hs.enter .nil) (Sr.nil _ _) hs2) (fun v w hR a hf => ?_)
  obtain ⟨rfl, hs'⟩ := hR
  replace hs := hs.step .nil hs'
  clear hs'
  refine stq hf rfl rfl rfl (ex_not hf rfl) (fun a hf => ?_)
  refine stq hf rfl rfl rfl (ex_assign hf rfl) (fun a hf => ?_)
  refine hK3 _ _ ?_
  refine wp_ret ?_
  have eR := some_eq H; subst eR
  exact ret1 Try.results42 hf rfl ⟨_, rfl, ⟨rfl, hs⟩⟩

set_option maxRecDepth 100000 in
theorem slices_IndexFunc_int64_int64__validPower_1.calls {M : Nat → Prop} {w0 : World} (k : Nat) (a0 : (List Int)) (v0 : Value) {r : Int} (hs : St M w0 w0 []) (hr : Sr M w0 [rsl K_int64 v0 a0])
    (h : slices_IndexFunc_int64_int64__validPower_1.f k a0 = some r) : Calls Try.prog 47 #[v0, .func (.func 42) #[] #[]] w0 fun e w => ∃ v, e = .returned v ∧ (.int .i64 r = v ∧ St M w0 w []) := by
  have H := (slices_IndexFunc_int64_int64__validPower_1.f.eq_1 ..).symm.trans h
  clear h
  refine enter Try.func47 rfl Try.ntmps47 rfl (fun a hf => ?_)
  refine seq_reg (fun K1 hK1 => ?_)
  refine stq hf rfl rfl rfl (ex_assign hf rfl) (fun a hf => ?_)
  refine hK1 _ _ ?_
  refine bnd H (fun x2 H2 HO2 => ?_)
  clear H
  refine seq_cut (fun a w => ∃ (x2s : Unit), x2 = .go x2s ∧ Fr a 19 [] ∧ St M w0 w []) (fun Q2 hJ2 hR2 hX2 => ?_) (fun a w hJ => ?_)
  · replace H := H2
    refine seq_reg (fun K3 hK3 => ?_)
    refine stq hf rfl rfl rfl (ex_move hf rfl) (fun a hf => ?_)
    refine stq hf rfl rfl rfl (ex_lenS Try.underlying35 (rsl_isSl (hr.now hs (i := 0) rfl)) hf rfl) (fun a hf => ?_)
    refine stq hf rfl rfl rfl (ex_move hf rfl) (fun a hf => ?_)
    refine hK3 _ _ ?_
    refine block_k (fun Q4 hN4 hR4 hX4 hY4 => ?_)
    refine loop_k (fun n a w => ∃ (y5 : Int), Fr a 19 [(0, v0), (1, .func (.func 42) #[] #[]), (7, .int .i64 (a0.length : Int)), (8, .int .i64 y5)] ∧ St M w0 w [] ∧ slices_IndexFunc_int64_int64__validPower_1.l1 n a0 y5 = some x2) k ?_ (fun n7 a w hI Q7 hL7 hR7 hX7 => ?_)
    · -- at the start
      exact ⟨0, hf.sub ⟨rfl, rfl, rfl, rfl, trivial⟩, hs, H⟩
    · obtain ⟨y5, hf, hs, H⟩ := hI
      cases n7 with
      | zero => exact absurd H (by rw [slices_IndexFunc_int64_int64__validPower_1.l1.eq_1]; intro h; cases h)
      | succ k7 =>
        replace H := (slices_IndexFunc_int64_int64__validPower_1.l1.eq_2 ..).symm.trans H
        refine seq_reg (fun K8 hK8 => ?_)
        refine stq hf rfl rfl rfl (ex_lss hf rfl rfl) (fun a hf => ?_)
        refine hK8 _ _ ?_
        refine seq_n (fun Q9 hN9 hR9 hX9 => ?_)
        refine itt H (fun hc10 H => ?_) (fun hc10 H => ?_)
        · -- y5 < (a0.length : Int)
          replace hf := hf.castB (t := 9) rfl (dec_t hc10)
          refine cond_T hf rfl ?_
          refine wp_skip ?_
          refine hN9 _ _ ?_
          refine seq_n (fun Q11 hN11 hR11 hX11 => ?_)
          refine block_k (fun Q12 hN12 hR12 hX12 hY12 => ?_)
          refine seq_reg (fun K13 hK13 => ?_)
          refine stq hf rfl rfl rfl (ex_move hf rfl) (fun a hf => ?_)
          refine stq hf rfl rfl rfl (ex_assign hf rfl) (fun a hf => ?_)
          refine hK13 _ _ ?_
          refine ck_some H (fun hc14 H => ?_)
          refine bnd H (fun s15 hs15 H => ?_)
          refine seq_reg (fun K16 hK16 => ?_)
          refine stq hf rfl rfl rfl (ex_move hf rfl) (fun a hf => ?_)
          refine stq hf rfl rfl rfl (ex_move hf rfl) (fun a hf => ?_)
          refine stq hf rfl rfl rfl (ex_move hf rfl) (fun a hf => ?_)
          refine stq hf rfl rfl rfl (ex_indexAddr sa_35 (rsl_isSl (hr.now hs (i := 0) rfl)) hc14.1 hc14.2 hf rfl rfl) (fun a hf => ?_)
          refine stq hf rfl rfl rfl (ex_load sc_2 hf rfl (el_cell (K := K_int64) (f := 0) (rsl_rd (hr.now hs (i := 0) rfl)) hc14.1 hc14.2 rfl)) (fun a hf => ?_)
          refine stepF hf rfl rfl rfl (ex_callV cf_42 hf rfl rfl) (heat_validPower_1.calls k7 (gd 0 a0 y5) (hs.enter .nil) (Sr.nil _ _) hs15) (fun v w hR a hf => ?_)
          obtain ⟨rfl, hs'⟩ := hR
          replace hs := hs.step .nil hs'
          clear hs'
          refine hK16 _ _ ?_
          refine itt H (fun hc17 H => ?_) (fun hc17 H => ?_)
          · -- s15 = true
            replace hf := hf.castB (t := 16) rfl hc17
            refine cond_T hf rfl ?_
            refine seq_reg (fun K18 hK18 => ?_)
            refine stq hf rfl rfl rfl (ex_move hf rfl) (fun a hf => ?_)
            refine stq hf rfl rfl rfl (ex_assign hf rfl) (fun a hf => ?_)
            refine hK18 _ _ ?_
            refine wp_ret ?_
            refine hR12 _ _ ?_
            refine hR11 _ _ ?_
            refine hR7 _ _ ?_
            refine hR4 _ _ ?_
            have e2 := some_eq H; subst e2; replace H := el_rt HO2
            refine hR2 _ _ ?_
            have eR := some_eq H; subst eR
            exact ret1 Try.results47 hf rfl ⟨_, rfl, ⟨rfl, hs⟩⟩
          · -- not s15 = true
            replace hf := hf.castB (t := 16) rfl (bool_f hc17)
            refine cond_F hf rfl ?_
            refine wp_skip ?_
            refine hN12 _ _ ?_
            refine hN11 _ _ ?_
            refine region_k (fun K19 hK19 => ?_)
            refine stq hf rfl rfl rfl (ex_add hf rfl rfl) (fun a hf => ?_)
            refine stq hf rfl rfl rfl (ex_move hf rfl) (fun a hf => ?_)
            refine hK19 _ _ ?_
            exact hL7 k7 _ _ (Nat.lt_succ_self _) ⟨(IntKind.i64.wrap (y5 + 1)), hf.sub ⟨rfl, rfl, rfl, rfl, trivial⟩, hs, H⟩
        · -- not y5 < (a0.length : Int)
          replace hf := hf.castB (t := 9) rfl (dec_f hc10)
          refine cond_F hf rfl ?_
          refine wp_exit ?_
          refine hX9 0 _ _ ?_
          refine hX7 0 _ _ ?_
          refine hX4 _ _ ?_
          have e2 := some_eq H; subst e2
          exact hJ2 _ _ ⟨_, rfl, hf.sub trivial, hs⟩
  · obtain ⟨x2s, rfl, hf, hs⟩ := hJ
    replace H := el_go HO2
    clear HO2
    refine seq_reg (fun K20 hK20 => ?_)
    refine stq hf rfl rfl rfl (ex_assign hf rfl) (fun a hf => ?_)
    refine hK20 _ _ ?_
    refine wp_ret ?_
    have eR := some_eq H; subst eR
    exact ret1 Try.results47 hf rfl ⟨_, rfl, ⟨rfl, hs⟩⟩

set_option maxRecDepth 100000 in
theorem slices_ContainsFunc_int64_int64__validPower_1.calls {M : Nat → Prop} {w0 : World} (k : Nat) (a0 : (List Int)) (v0 : Value) {r : Bool} (hs : St M w0 w0 []) (hr : Sr M w0 [rsl K_int64 v0 a0])
    (h : slices_ContainsFunc_int64_int64__validPower_1.f k a0 = some r) : Calls Try.prog 41 #[v0, .func (.func 42) #[] #[]] w0 fun e w => ∃ v, e = .returned v ∧ (.bool r = v ∧ St M w0 w []) := by
  have H := (slices_ContainsFunc_int64_int64__validPower_1.f.eq_1 ..).symm.trans h
  clear h
  refine enter Try.func41 rfl Try.ntmps41 rfl (fun a hf => ?_)
  refine seq_reg (fun K1 hK1 => ?_)
  refine stq hf rfl rfl rfl (ex_assign hf rfl) (fun a hf => ?_)
  refine hK1 _ _ ?_
  refine bnd H (fun s2 hs2 H => ?_)
  refine seq_reg (fun K3 hK3 => ?_)
  refine stq hf rfl rfl rfl (ex_move hf rfl) (fun a hf => ?_)
  refine stq hf rfl rfl rfl (ex_move hf rfl) (fun a hf => ?_)
  refine stepF hf rfl rfl rfl (ex_call cf_47 hf rfl) (slices_IndexFunc_int64_int64__validPower_1.calls k a0 v0 (hs.enter .nil) (Sr.old hr hs .nil (i := 0) rfl (fun _ h => h) (fun _ h => h) (Sr.nil _ _)) hs2) (fun v w hR a hf => ?_)
  obtain ⟨rfl, hs'⟩ := hR
  replace hs := hs.step .nil hs'
  clear hs'
  refine stq hf rfl rfl rfl (ex_geq hf rfl rfl) (fun a hf => ?_)
  refine stq hf rfl rfl rfl (ex_assign hf rfl) (fun a hf => ?_)
  refine hK3 _ _ ?_
  refine wp_ret ?_
  have eR := some_eq H; subst eR
  exact ret1 Try.results41 hf rfl ⟨_, rfl, ⟨rfl, hs⟩⟩

set_option maxRecDepth 100000 in
theorem heat_validPower.calls {M : Nat → Prop} {w0 : World} (k : Nat) (a0 : Int) (a1 : (List Int)) (v1 : Value) {r : Bool} (hs : St M w0 w0 []) (hr : Sr M w0 [rsl K_int64 v1 a1])
    (h : heat_validPower.f k a0 a1 = some r) : Calls Try.prog 32 #[.int .i64 a0, v1] w0 fun e w => ∃ v, e = .returned v ∧ (.bool r = v ∧ St M w0 w []) := by
  have H := (heat_validPower.f.eq_1 ..).symm.trans h
  clear h
  refine enter Try.func32 rfl Try.ntmps32 rfl (fun a hf => ?_)
  refine seq_reg (fun K1 hK1 => ?_)
  refine stq hf rfl rfl rfl (ex_assign hf rfl) (fun a hf => ?_)
  refine hK1 _ _ ?_
  refine itt H (fun hc2 H => ?_) (fun hc2 H => ?_)
  · -- (a1.length : Int) = a0
    refine bnd H (fun s3 hs3 H => ?_)
    refine seq_reg (fun K4 hK4 => ?_)
    refine stq hf rfl rfl rfl (ex_move hf rfl) (fun a hf => ?_)
    refine stq hf rfl rfl rfl (ex_lenS Try.underlying35 (rsl_isSl (hr.now hs (i := 0) rfl)) hf rfl) (fun a hf => ?_)
    refine stq hf rfl rfl rfl (ex_move hf rfl) (fun a hf => ?_)
    refine stq hf rfl rfl rfl (ex_eql hf rfl rfl) (fun a hf => ?_)
    refine stq hf rfl rfl rfl (ex_move hf rfl) (fun a hf => ?_)
    replace hf := hf.castB (t := 8) rfl (dec_t hc2)
    replace hf := hf.castB (t := 9) rfl (dec_t hc2)
    refine stq hf rfl rfl rfl (ex_move hf rfl) (fun a hf => ?_)
    refine stepF hf rfl rfl rfl (ex_call cf_41 hf rfl) (slices_ContainsFunc_int64_int64__validPower_1.calls k a1 v1 (hs.enter .nil) (Sr.old hr hs .nil (i := 0) rfl (fun _ h => h) (fun _ h => h) (Sr.nil _ _)) hs3) (fun v w hR a hf => ?_)
    obtain ⟨rfl, hs'⟩ := hR
    replace hs := hs.step .nil hs'
    clear hs'
    refine stq hf rfl rfl rfl (ex_not hf rfl) (fun a hf => ?_)
    refine stq hf rfl rfl rfl (ex_pickT hf rfl rfl) (fun a hf => ?_)
    refine stq hf rfl rfl rfl (ex_assign hf rfl) (fun a hf => ?_)
    refine hK4 _ _ ?_
    refine wp_ret ?_
    have eR := some_eq H; subst eR
    exact ret1 Try.results32 hf rfl ⟨_, rfl, ⟨rfl, hs⟩⟩
  · -- not (a1.length : Int) = a0
    refine seq_reg (fun K5 hK5 => ?_)
    refine stq hf rfl rfl rfl (ex_move hf rfl) (fun a hf => ?_)
    refine stq hf rfl rfl rfl (ex_lenS Try.underlying35 (rsl_isSl (hr.now hs (i := 0) rfl)) hf rfl) (fun a hf => ?_)
    refine stq hf rfl rfl rfl (ex_move hf rfl) (fun a hf => ?_)
    refine stq hf rfl rfl rfl (ex_eql hf rfl rfl) (fun a hf => ?_)
    refine stq hf rfl rfl rfl (ex_move hf rfl) (fun a hf => ?_)
    replace hf := hf.castB (t := 8) rfl (dec_f hc2)
    replace hf := hf.castB (t := 9) rfl (dec_f hc2)
    refine stepN hf rfl rfl rfl (fun a hf => ?_)
    refine stepN hf rfl rfl rfl (fun a hf => ?_)
    refine stepN hf rfl rfl rfl (fun a hf => ?_)
    refine stq hf rfl rfl rfl (ex_pickF hf rfl rfl) (fun a hf => ?_)
    refine stq hf rfl rfl rfl (ex_assign hf rfl) (fun a hf => ?_)
    refine hK5 _ _ ?_
    refine wp_ret ?_
    have eR := some_eq H; subst eR
    exact ret1 Try.results32 hf rfl ⟨_, rfl, ⟨rfl, hs⟩⟩

set_option maxRecDepth 100000 in
theorem heat_floorDiv.calls {M : Nat → Prop} {w0 : World} (k : Nat) (a0 : Int) (a1 : Int) {r : Int} (hs : St M w0 w0 []) (hr : Sr M w0 [])
    (h : heat_floorDiv.f k a0 a1 = some r) : Calls Try.prog 43 #[.int .i64 a0, .int .i64 a1] w0 fun e w => ∃ v, e = .returned v ∧ (.int .i64 r = v ∧ St M w0 w []) := by
  have H := (heat_floorDiv.f.eq_1 ..).symm.trans h
  clear h
  refine enter Try.func43 rfl Try.ntmps43 rfl (fun a hf => ?_)
  refine seq_reg (fun K1 hK1 => ?_)
  refine stq hf rfl rfl rfl (ex_assign hf rfl) (fun a hf => ?_)
  refine hK1 _ _ ?_
  refine ck_some H (fun hc2 H => ?_)
  refine seq_reg (fun K3 hK3 => ?_)
  refine stq hf rfl rfl rfl (ex_move hf rfl) (fun a hf => ?_)
  refine stq hf rfl rfl rfl (ex_move hf rfl) (fun a hf => ?_)
  refine stq hf rfl rfl rfl (ex_quo hf rfl rfl hc2) (fun a hf => ?_)
  refine stq hf rfl rfl rfl (ex_assign hf rfl) (fun a hf => ?_)
  refine hK3 _ _ ?_
  refine bnd H (fun x4 H4 HO4 => ?_)
  clear H
  refine seq_cut (fun a w => Fr a 16 [(5, .int .i64 x4)] ∧ St M w0 w []) (fun Q4 hJ4 hR4 hX4 => ?_) (fun a w hJ => ?_)
  · replace H := H4
    refine seq_reg (fun K5 hK5 => ?_)
    refine stq hf rfl rfl rfl (ex_move hf rfl) (fun a hf => ?_)
    refine stq hf rfl rfl rfl (ex_move hf rfl) (fun a hf => ?_)
    refine stq hf rfl rfl rfl (ex_rem hf rfl rfl hc2) (fun a hf => ?_)
    refine stq hf rfl rfl rfl (ex_lss hf rfl rfl) (fun a hf => ?_)
    refine hK5 _ _ ?_
    refine itt H (fun hc6 H => ?_) (fun hc6 H => ?_)
    · -- (Int.tmod a0 a1) < 0
      replace hf := hf.castB (t := 12) rfl (dec_t hc6)
      refine cond_T hf rfl ?_
      refine region_k (fun K7 hK7 => ?_)
      refine stq hf rfl rfl rfl (ex_move hf rfl) (fun a hf => ?_)
      refine stq hf rfl rfl rfl (ex_sub hf rfl rfl) (fun a hf => ?_)
      refine stq hf rfl rfl rfl (ex_assign hf rfl) (fun a hf => ?_)
      refine hK7 _ _ ?_
      have e4 := some_eq H; subst e4
      exact hJ4 _ _ ⟨hf.sub ⟨rfl, trivial⟩, hs⟩
    · -- not (Int.tmod a0 a1) < 0
      replace hf := hf.castB (t := 12) rfl (dec_f hc6)
      refine cond_F hf rfl ?_
      refine wp_skip ?_
      have e4 := some_eq H; subst e4
      exact hJ4 _ _ ⟨hf.sub ⟨rfl, trivial⟩, hs⟩
  · obtain ⟨hf, hs⟩ := hJ
    replace H := HO4
    clear HO4
    refine seq_reg (fun K8 hK8 => ?_)
    refine stq hf rfl rfl rfl (ex_move hf rfl) (fun a hf => ?_)
    refine stq hf rfl rfl rfl (ex_assign hf rfl) (fun a hf => ?_)
    refine hK8 _ _ ?_
    refine wp_ret ?_
    have eR := some_eq H; subst eR
    exact ret1 Try.results43 hf rfl ⟨_, rfl, ⟨rfl, hs⟩⟩

set_option maxRecDepth 100000 in
theorem heat_Model_temperatures.calls {M : Nat → Prop} {w0 : World} (k : Nat) (a0_domains : (List HeatDomain)) (a0_links : (List HeatLink)) (a0_ambient : Int) (a0_energy : (List Int)) (a0_released : Int) (b0 : Nat) (v0_domains : Value) (v0_links : Value) (v0_energy : Value) {r : (List Int)} (hs : St M w0 w0 []) (hr : Sr M w0 [bx b0 64 [v0_domains, v0_links, .int .i64 a0_ambient, v0_energy, .int .i64 a0_released], rsl K_api_HeatDomain v0_domains a0_domains, rsl K_api_HeatLink v0_links a0_links, rsl K_int64 v0_energy a0_energy])
    (h : heat_Model_temperatures.f k a0_domains a0_links a0_ambient a0_energy a0_released = some r) : Calls Try.prog 33 #[.pointer (some ⟨b0, 0, none⟩)] w0 fun e w => ∃ v, e = .returned v ∧ (∃ (g0 : Value), g0 = v ∧ St M w0 w [osl K_int64 g0 r]) := by
  have H := (heat_Model_temperatures.f.eq_1 ..).symm.trans h
  clear h
  refine enter Try.func33 rfl Try.ntmps33 rfl (fun a hf => ?_)
  refine seq_reg (fun K1 hK1 => ?_)
  refine stq hf rfl rfl rfl (ex_assign hf rfl) (fun a hf => ?_)
  refine hK1 _ _ ?_
  refine seq_reg (fun K2 hK2 => ?_)
  refine stq hf rfl rfl rfl (ex_assign hf rfl) (fun a hf => ?_)
  refine hK2 _ _ ?_
  refine bnd H (fun x3 H3 HO3 => ?_)
  clear H
  refine seq_cut (fun a w => ∃ (v4 : Value), Fr a 31 [(3, v4)] ∧ St M w0 w [osl K_int64 v4 x3]) (fun Q3 hJ3 hR3 hX3 => ?_) (fun a w hJ => ?_)
  · replace H := H3
    refine seq_reg (fun K5 hK5 => ?_)
    refine stq hf rfl rfl rfl (ex_move hf rfl) (fun a hf => ?_)
    refine stq hf rfl rfl rfl (ex_nilCheck hf rfl) (fun a hf => ?_)
    refine stq hf rfl rfl rfl (ex_fieldAddrB fa_64_0 rfl hf rfl) (fun a hf => ?_)
    refine stq hf rfl rfl rfl (ex_load sc_22 hf rfl (bx_cell (hr.now hs (i := 0) rfl) _ rfl)) (fun a hf => ?_)
    refine stq hf rfl rfl rfl (ex_lenS Try.underlying22 (rsl_isSl (hr.now hs (i := 1) rfl)) hf rfl) (fun a hf => ?_)
    refine stq hf rfl rfl rfl (ex_move hf rfl) (fun a hf => ?_)
    refine hK5 _ _ ?_
    refine block_k (fun Q6 hN6 hR6 hX6 hY6 => ?_)
    refine loop_k (fun n a w => ∃ (y8 : (List Int)) (y9 : Int) (v7 : Value), Fr a 31 [(0, .pointer (some ⟨b0, 0, none⟩)), (3, v7), (9, v0_domains), (10, .int .i64 (a0_domains.length : Int)), (11, .int .i64 y9)] ∧ St M w0 w [osl K_int64 v7 y8] ∧ heat_Model_temperatures.l1 n a0_domains a0_energy y8 y9 = some x3) k ?_ (fun n11 a w hI Q11 hL11 hR11 hX11 => ?_)
    · -- at the start
      replace hs := hs.nilS K_int64
      exact ⟨[], 0, (.slice none 0 0), hf.sub ⟨rfl, rfl, rfl, rfl, rfl, trivial⟩, hs, H⟩
    · obtain ⟨y8, y9, v7, hf, hs, H⟩ := hI
      cases n11 with
      | zero => exact absurd H (by rw [heat_Model_temperatures.l1.eq_1]; intro h; cases h)
      | succ k11 =>
        replace H := (heat_Model_temperatures.l1.eq_2 ..).symm.trans H
        refine seq_reg (fun K12 hK12 => ?_)
        refine stq hf rfl rfl rfl (ex_lss hf rfl rfl) (fun a hf => ?_)
        refine hK12 _ _ ?_
        refine seq_n (fun Q13 hN13 hR13 hX13 => ?_)
        refine itt H (fun hc14 H => ?_) (fun hc14 H => ?_)
        · -- y9 < (a0_domains.length : Int)
          replace hf := hf.castB (t := 12) rfl (dec_t hc14)
          refine cond_T hf rfl ?_
          refine wp_skip ?_
          refine hN13 _ _ ?_
          refine seq_n (fun Q15 hN15 hR15 hX15 => ?_)
          refine block_k (fun Q16 hN16 hR16 hX16 hY16 => ?_)
          refine ck_some H (fun hc17 H => ?_)
          refine seq_reg (fun K19 hK19 => ?_)
          refine stq hf rfl rfl rfl (ex_move hf rfl) (fun a hf => ?_)
          refine stq hf rfl rfl rfl (ex_indexAddr sa_22 (rsl_isSl (hr.now hs (i := 1) rfl)) hc17.1 hc17.2 hf rfl rfl) (fun a hf => ?_)
          refine stq hf rfl rfl rfl (ex_loadA (cs := [.int .i64 ((gd HeatDomain.zero a0_domains y9).Capacity), .int .i64 ((gd HeatDomain.zero a0_domains y9).Ambient)]) ag_34 hf rfl (el_cells (K := K_api_HeatDomain) (rsl_rd (hr.now hs (i := 1) rfl)) hc17.1 hc17.2 rfl)) (fun a hf => ?_)
          refine stepV hf rfl rfl rfl (er_alloc hs ti_34 (cs := [.int .i64 0, .int .i64 0]) rfl) (fun v w hR a hf => ?_)
          obtain ⟨b18, rfl, hs⟩ := hR
          refine stq hf rfl rfl rfl (ex_assign hf rfl) (fun a hf => ?_)
          refine stepS hf rfl rfl (er_storeAB (vs := [.int .i64 ((gd HeatDomain.zero a0_domains y9).Capacity), .int .i64 ((gd HeatDomain.zero a0_domains y9).Ambient)]) (cs' := [.int .i64 ((gd HeatDomain.zero a0_domains y9).Capacity), .int .i64 ((gd HeatDomain.zero a0_domains y9).Ambient)]) hs (.c (.k .nil)) sz_34 hf rfl rfl (all1 rfl (all1 rfl (all1_nil))) rfl rfl) (fun w hs => ?_)
          refine hK19 _ _ ?_
          refine ck_some H (fun hc20 H => ?_)
          refine bnd H (fun s21 hs21 H => ?_)
          refine ck_some H (fun hc23 H => ?_)
          refine region_d fol 13 [(0, .pointer (some ⟨b0, 0, none⟩)), (3, v7), (4, .int .i64 y9), (5, .pointer (some ⟨b18, 0, none⟩)), (9, v0_domains), (10, .int .i64 (a0_domains.length : Int)), (11, .int .i64 y9)] [(0, v7), (1, .pointer (some ⟨b0, 0, none⟩)), (2, .pointer (some ⟨b0, 0, none⟩)), (3, .pointer (some ⟨b0, 3, none⟩)), (4, v0_energy), (5, .int .i64 y9), (6, .pointer (some (sla v0_energy (y9.toNat * 1)))), (7, .int .i64 (gd 0 a0_energy y9)), (8, .pointer (some ⟨b18, 0, none⟩)), (9, .int .i64 ((gd HeatDomain.zero a0_domains y9).Capacity))] [10, 11, 12] (fun w => (bx b0 64 [v0_domains, v0_links, .int .i64 a0_ambient, v0_energy, .int .i64 a0_released]).ok w ∧ (rsl K_int64 v0_energy a0_energy).ok w ∧ (bx b18 34 [.int .i64 ((gd HeatDomain.zero a0_domains y9).Capacity), .int .i64 ((gd HeatDomain.zero a0_domains y9).Ambient)]).ok w ∧ True) (fun w => St M w0 w [bx b18 34 [.int .i64 ((gd HeatDomain.zero a0_domains y9).Capacity), .int .i64 ((gd HeatDomain.zero a0_domains y9).Ambient)], osl K_int64 v7 y8]) hf ⟨rfl, rfl, rfl, rfl, rfl, rfl, rfl, trivial⟩ (by kernel_rfl) (by kernel_rfl) rfl (by decide) ⟨hr.now hs.drew (i := 0) rfl, hr.now hs.drew (i := 3) rfl, hs.drew.get (i := 0) rfl, trivial⟩ hs.drew (.cons (⟨_, _, rfl, rfl, rfl, rfl, fun a w hR hf => .inl ⟨wanted_yes hf rfl, ex_move hf rfl⟩⟩) (.cons (⟨_, _, rfl, rfl, rfl, rfl, fun a w hR hf => .inl ⟨wanted_yes hf rfl, ex_move hf rfl⟩⟩) (.cons (⟨_, _, rfl, rfl, rfl, rfl, fun a w hR hf => .inl ⟨wanted_yes hf rfl, ex_nilCheck hf rfl⟩⟩) (.cons (⟨_, _, rfl, rfl, rfl, rfl, fun a w hR hf => .inl ⟨wanted_yes hf rfl, ex_fieldAddrB fa_64_3 rfl hf rfl⟩⟩) (.cons (⟨_, _, rfl, rfl, rfl, rfl, fun a w hR hf => .inl ⟨wanted_yes hf rfl, ex_load sc_35 hf rfl (bx_cell (hR.1) _ rfl)⟩⟩) (.cons (⟨_, _, rfl, rfl, rfl, rfl, fun a w hR hf => .inl ⟨wanted_yes hf rfl, ex_move hf rfl⟩⟩) (.cons (⟨_, _, rfl, rfl, rfl, rfl, fun a w hR hf => .inl ⟨wanted_yes hf rfl, ex_indexAddr sa_35 (rsl_isSl hR.2.1) hc20.1 hc20.2 hf rfl rfl⟩⟩) (.cons (⟨_, _, rfl, rfl, rfl, rfl, fun a w hR hf => .inl ⟨wanted_yes hf rfl, ex_load sc_2 hf rfl (el_cell (K := K_int64) (f := 0) (rsl_rd hR.2.1) hc20.1 hc20.2 rfl)⟩⟩) (.cons (⟨_, _, rfl, rfl, rfl, rfl, fun a w hR hf => .inl ⟨wanted_yes hf rfl, ex_fieldAddrB fa_34_0 rfl hf rfl⟩⟩) (.cons (⟨_, _, rfl, rfl, rfl, rfl, fun a w hR hf => .inl ⟨wanted_yes hf rfl, ex_load sc_2 hf rfl (bx_cell (hR.2.2.1) _ rfl)⟩⟩) (.nil))))))))))) (fun K25 hK25 => ?_)
          refine RW.one 10 (by kernel_rfl) (by kernel_rfl) rfl (fun d hd => by cases hd; rfl) [(23, .int .i64 (gd 0 a0_energy y9)), (25, .int .i64 ((gd HeatDomain.zero a0_domains y9).Capacity))] ⟨rfl, rfl, trivial⟩ (fun a w hR hs hf => ⟨wanted_yes hf rfl, ?_⟩)
          refine estep_f (ex_call cf_43 hf rfl) (heat_floorDiv.calls k11 (gd 0 a0_energy y9) ((gd HeatDomain.zero a0_domains y9).Capacity) (hs.enter (.k (.k .nil))) (Sr.nil _ _) hs21) (fun v w hR => ?_)
          obtain ⟨rfl, hs'⟩ := hR
          replace hs := hs.step (.k (.k .nil)) hs'
          clear hs'
          refine ⟨[], [(10, .int .i64 s21), (0, v7), (1, .pointer (some ⟨b0, 0, none⟩)), (2, .pointer (some ⟨b0, 0, none⟩)), (3, .pointer (some ⟨b0, 3, none⟩)), (4, v0_energy), (5, .int .i64 y9), (6, .pointer (some (sla v0_energy (y9.toNat * 1)))), (7, .int .i64 (gd 0 a0_energy y9)), (8, .pointer (some ⟨b18, 0, none⟩)), (9, .int .i64 ((gd HeatDomain.zero a0_domains y9).Capacity))], [11, 12], (fun _ => True), (fun w => St M w0 w [bx b18 34 [.int .i64 ((gd HeatDomain.zero a0_domains y9).Capacity), .int .i64 ((gd HeatDomain.zero a0_domains y9).Ambient)], osl K_int64 v7 y8]), rfl, rfl, ⟨hr.now hs (i := 0) rfl, hr.now hs (i := 3) rfl, hs.get (i := 0) rfl, trivial⟩, trivial, hs, (by kernel_rfl), .nil, ?_⟩
          refine RW.one 11 (by kernel_rfl) (by kernel_rfl) rfl (fun d hd => by cases hd; rfl) [(26, .int .i64 s21)] ⟨rfl, trivial⟩ (fun a w hR hs hf => ⟨wanted_yes hf rfl, ?_⟩)
          refine estep_v (er_buildSlice (K := K_int64) (xs := [s21]) hs Try.underlying35 ep_2 rfl rfl hf rfl (.cons rfl .nil) rfl rfl) (fun v22 w hs => ?_)
          refine ⟨[], [(11, v22), (10, .int .i64 s21), (0, v7), (1, .pointer (some ⟨b0, 0, none⟩)), (2, .pointer (some ⟨b0, 0, none⟩)), (3, .pointer (some ⟨b0, 3, none⟩)), (4, v0_energy), (5, .int .i64 y9), (6, .pointer (some (sla v0_energy (y9.toNat * 1)))), (7, .int .i64 (gd 0 a0_energy y9)), (8, .pointer (some ⟨b18, 0, none⟩)), (9, .int .i64 ((gd HeatDomain.zero a0_domains y9).Capacity))], [12], (fun _ => True), (fun w => St M w0 w [osl K_int64 v22 [s21], bx b18 34 [.int .i64 ((gd HeatDomain.zero a0_domains y9).Capacity), .int .i64 ((gd HeatDomain.zero a0_domains y9).Ambient)], osl K_int64 v7 y8]), rfl, rfl, ⟨⟨hr.now hs (i := 0) rfl, hr.now hs (i := 3) rfl, hs.get (i := 1) rfl, trivial⟩, trivial⟩, trivial, hs, (by kernel_rfl), .nil, ?_⟩
          refine RW.one 12 (by kernel_rfl) (by kernel_rfl) rfl (fun d hd => by cases hd; rfl) [(16, v7), (27, v22)] ⟨rfl, rfl, trivial⟩ (fun a w hR hs hf => ⟨wanted_yes hf rfl, ?_⟩)
          refine estep_v (er_append (K := K_int64) hs (.k (.k (.c .nil))) (osl_rsl _ (hs.get (i := 0) rfl)) rfl Try.underlying35 ep_2 hc23 rfl hf rfl rfl) (fun v24 w hs => ?_)
          refine ⟨[], [(12, v24), (11, v22), (10, .int .i64 s21), (0, v7), (1, .pointer (some ⟨b0, 0, none⟩)), (2, .pointer (some ⟨b0, 0, none⟩)), (3, .pointer (some ⟨b0, 3, none⟩)), (4, v0_energy), (5, .int .i64 y9), (6, .pointer (some (sla v0_energy (y9.toNat * 1)))), (7, .int .i64 (gd 0 a0_energy y9)), (8, .pointer (some ⟨b18, 0, none⟩)), (9, .int .i64 ((gd HeatDomain.zero a0_domains y9).Capacity))], [], (fun _ => True), (fun w => St M w0 w [osl K_int64 v24 (y8 ++ [s21]), osl K_int64 v22 [s21], bx b18 34 [.int .i64 ((gd HeatDomain.zero a0_domains y9).Capacity), .int .i64 ((gd HeatDomain.zero a0_domains y9).Ambient)]]), rfl, rfl, ⟨⟨⟨hr.now hs (i := 0) rfl, hr.now hs (i := 3) rfl, hs.get (i := 2) rfl, trivial⟩, trivial⟩, trivial⟩, trivial, hs, (by kernel_rfl), .nil, ?_⟩
          refine RW.zero (by kernel_rfl) (by kernel_rfl) [(0, .pointer (some ⟨b0, 0, none⟩)), (3, v7), (9, v0_domains), (10, .int .i64 (a0_domains.length : Int)), (11, .int .i64 y9), (28, v24)] ⟨rfl, rfl, rfl, rfl, rfl, rfl, trivial⟩ (fun a w hR hs hf => ?_)
          refine stq hf rfl rfl rfl (ex_assign hf rfl) (fun a hf => ?_)
          refine hK25 _ _ ?_
          refine hN16 _ _ ?_
          refine hN15 _ _ ?_
          refine region_k (fun K26 hK26 => ?_)
          refine stq hf rfl rfl rfl (ex_add hf rfl rfl) (fun a hf => ?_)
          refine stq hf rfl rfl rfl (ex_move hf rfl) (fun a hf => ?_)
          refine hK26 _ _ ?_
          replace hs := hs.keep (.k (.d (.d .nil)))
          exact hL11 k11 _ _ (Nat.lt_succ_self _) ⟨(y8 ++ [s21]), (IntKind.i64.wrap (y9 + 1)), v24, hf.sub ⟨rfl, rfl, rfl, rfl, rfl, trivial⟩, hs, H⟩
        · -- not y9 < (a0_domains.length : Int)
          replace hf := hf.castB (t := 12) rfl (dec_f hc14)
          refine cond_F hf rfl ?_
          refine wp_exit ?_
          refine hX13 0 _ _ ?_
          refine hX11 0 _ _ ?_
          refine hX6 _ _ ?_
          have e3 := some_eq H; subst e3
          exact hJ3 _ _ ⟨v7, hf.sub ⟨rfl, trivial⟩, hs⟩
  · obtain ⟨v4, hf, hs⟩ := hJ
    replace H := HO3
    clear HO3
    refine seq_reg (fun K27 hK27 => ?_)
    refine stq hf rfl rfl rfl (ex_move hf rfl) (fun a hf => ?_)
    refine stq hf rfl rfl rfl (ex_assign hf rfl) (fun a hf => ?_)
    refine hK27 _ _ ?_
    refine wp_ret ?_
    have eR := some_eq H; subst eR
    exact ret1 Try.results33 hf rfl ⟨_, rfl, ⟨v4, rfl, hs⟩⟩

end Go.Proofs.Ytakaooegofiloaa.X
