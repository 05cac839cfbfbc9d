/- Each function of the machine comes to what its pure function says. -/
import Derived.Test.YtigadacjaglfeaaFc1
import Derived.Test.YtigadacjaglfeaaFc3
import Derived.Test.YtigadacjaglfeaaFc4
import Derived.Test.YtigadacjaglfeaaFb
namespace Go.Proofs.Ytigadacjaglfeaa.X
open Go Go.RowKit Go.Sx
set_option linter.unusedVariables false

set_option maxRecDepth 100000 in
theorem law09_awake.calls {M : Nat → Prop} {w0 : World} (k : Nat) {r : Bool} (hs : St M w0 w0 []) (hr : Sr M w0 [])
  (h : law09_awake.f k = some r) : Calls Try.prog 9 #[] w0 fun e w => ∃ v, e = .returned v ∧ (.bool r = v ∧ St M w0 w []) := by
 have H := (law09_awake.f.eq_1 ..).symm.trans h
 clear h
 refine enter Try.func9 Z Try.ntmps9 Z (fun a hf => ?_)
 refine seq_reg (fun K1 hK1 => ?_)
 refine stq hf Z Z Z (ex_assign hf Z) fun a hf => ?_
 refine hK1 _ _ ?_
 refine bnd H (fun s2 hs2 H => ?_)
 refine seq_reg (fun K13 hK13 => ?_)
 refine stepF hf Z Z Z (ex_call cf_8 hf Z) (iospace_New.calls k (hs.enter .nil) (Sr.nil _ _) hs2) (fun v w hR a hf => ?_)
 obtain ⟨b3, v4, b5, v6, b7, v8, b9, v10, b11, v12, rfl, hs'⟩ := hR
 replace hs := hs.step .nil hs'
 clear hs'
 refine stq hf Z Z Z (ex_assign hf Z) fun a hf => ?_
 refine hK13 _ _ ?_
 refine seq_n (fun Q14 hN14 hR14 hX14 => ?_)
 refine bnd H (fun s15 hs15 H => ?_)
 refine seq_reg (fun K22 hK22 => ?_)
 refine stq hf Z Z Z (ex_move hf Z) fun a hf => stq hf Z Z Z (ex_eqp Try.underlying24 hf Z Z) fun a hf => stq hf Z Z Z (ex_move hf Z) fun a hf => stq hf Z Z Z (ex_move hf Z) fun a hf => stq hf Z Z Z (ex_build (cs := [.int .u64 96, .int .u64 8]) bt_32 hf Z (.cons Z (.cons Z .nil)) Z) fun a hf => ?_
 refine stepF hf Z Z Z (ex_call cf_11 hf Z) (iospace_Bus_Map.calls k s2.1 s2.2.1 s2.2.2.1 s2.2.2.2.1 s2.2.2.2.2.1 s2.2.2.2.2.2 1 (⟨96, 8⟩ : Range) 3 b3 v4 b5 v6 b7 v8 b9 v10 b11 v12 (hs.enter (.c (.c (.c (.c (.c (.c (.c (.c (.c (.c .nil))))))))))) (Sr.nil _ _) hs15) (fun v w hR a hf => ?_)
 obtain ⟨v16, b17, v18, b19, v20, b21, rfl, hs'⟩ := hR
 replace hs := hs.step (.c (.c (.c (.c (.c (.c (.c (.c (.c (.c .nil)))))))))) hs'
 clear hs'
 refine stq hf Z Z Z (ex_neq hf Z Z) fun a hf => stq hf Z Z Z (ex_pickF hf Z Z) fun a hf => ?_
 refine hK22 _ _ ?_
 refine itt H (fun hc23 H => ?_) (fun hc23 H => ?_)
 ·
  replace hf := hf.castB (t := 15) Z (ndec_f hc23)
  refine cond_F hf Z ?_
  refine wp_skip ?_
  refine hN14 _ _ ?_
  refine bnd H (fun s24 hs24 H => ?_)
  refine seq_reg (fun K28 hK28 => ?_)
  refine stq hf Z Z Z (ex_move hf Z) fun a hf => stq hf Z Z Z (ex_build (cs := [.int .i64 1, .int .u64 96, .int .i64 1, .bool false, .int .u64 0]) bt_37 hf Z (.cons Z (.cons Z (.cons Z .nil))) Z) fun a hf => ?_
  refine stepF hf Z Z Z (ex_call cf_13 hf Z) (iospace_Bus_Access.calls k s15.1 s15.2.1 s15.2.2.1 s2.2.2.2.1 s2.2.2.2.2.1 s2.2.2.2.2.2 (⟨1, 96, 1, false, 0⟩ : Access) b3 v16 b17 v18 b19 v20 b21 v10 b11 v12 (hs.enter (.c (.c (.c (.c (.c (.c (.c (.c (.c (.c .nil))))))))))) (Sr.nil _ _) hs24) (fun v w hR a hf => ?_)
  obtain ⟨v25, b26, v27, rfl, hs'⟩ := hR
  replace hs := hs.step (.c (.c (.c (.c (.c (.c (.c (.c (.c (.c .nil)))))))))) hs'
  clear hs'
  refine stq hf Z Z Z (ex_move hf Z) fun a hf => stq hf Z Z Z (ex_extract hf Z Z) fun a hf => stq hf Z Z Z (ex_extract hf Z Z) fun a hf => stq hf Z Z Z (ex_assign hf Z) fun a hf => stq hf Z Z Z (ex_assign hf Z) fun a hf => ?_
  refine hK28 _ _ ?_
  refine bnd H (fun s29 hs29 H => ?_)
  refine seq_reg (fun K30 hK30 => ?_)
  refine stq hf Z Z Z (ex_move hf Z) fun a hf => ?_
  replace hs := hs.p3.p3.p3.p9.p9.p9.p9.p9.p9.p9
  refine stepF hf Z Z Z (ex_call cf_12 hf Z) (iospace_Bus_Enable.calls k s24.2.2.1 s24.2.2.2.1 s24.2.2.2.2.1 s2.2.2.2.1 s24.1 s24.2.1 3 true b3 v16 b17 v18 b19 v20 b21 v25 b26 v27 (hs.enter (.c (.c (.c (.c (.c (.c (.c (.c (.c (.c .nil))))))))))) (Sr.nil _ _) hs29) (fun v w hR a hf => ?_)
  obtain ⟨rfl, hs'⟩ := hR
  replace hs := hs.step (.c (.c (.c (.c (.c (.c (.c (.c (.c (.c .nil)))))))))) hs'
  clear hs'
  refine hK30 _ _ ?_
  refine bnd H (fun s31 hs31 H => ?_)
  refine seq_reg (fun K35 hK35 => ?_)
  refine stq hf Z Z Z (ex_move hf Z) fun a hf => stq hf Z Z Z (ex_build (cs := [.int .i64 1, .int .u64 96, .int .i64 1, .bool false, .int .u64 0]) bt_37 hf Z (.cons Z (.cons Z (.cons Z .nil))) Z) fun a hf => ?_
  refine stepF hf Z Z Z (ex_call cf_13 hf Z) (iospace_Bus_Access.calls k s24.2.2.1 s24.2.2.2.1 s24.2.2.2.2.1 s29.1 s24.1 s24.2.1 (⟨1, 96, 1, false, 0⟩ : Access) b3 v16 b17 v18 b19 v20 b21 v25 b26 v27 (hs.enter (.c (.c (.c (.c (.c (.c (.c (.c (.c (.c .nil))))))))))) (Sr.nil _ _) hs31) (fun v w hR a hf => ?_)
  obtain ⟨v32, b33, v34, rfl, hs'⟩ := hR
  replace hs := hs.step (.c (.c (.c (.c (.c (.c (.c (.c (.c (.c .nil)))))))))) hs'
  clear hs'
  refine stq hf Z Z Z (ex_move hf Z) fun a hf => stq hf Z Z Z (ex_extract hf Z Z) fun a hf => stq hf Z Z Z (ex_extract hf Z Z) fun a hf => stq hf Z Z Z (ex_assign hf Z) fun a hf => stq hf Z Z Z (ex_assign hf Z) fun a hf => ?_
  refine hK35 _ _ ?_
  refine bnd H (fun s36 hs36 H => ?_)
  refine seq_reg (fun K39 hK39 => ?_)
  refine stq hf Z Z Z (ex_move hf Z) fun a hf => ?_
  replace hs := hs.p3.p3.p3.p9.p9.p9.p9.p9.p9.p9
  refine stepF hf Z Z Z (ex_call cf_21 hf Z) (iospace_Bus_TakeTrace.calls k s31.2.2.1 s31.2.2.2.1 s31.2.2.2.2.1 s29.1 s31.1 s31.2.1 b3 v16 b17 v18 b19 v20 b21 v32 b33 v34 (hs.enter (.c (.c (.c (.c (.c (.c (.c (.c (.c (.c .nil))))))))))) (Sr.nil _ _) hs36) (fun v w hR a hf => ?_)
  obtain ⟨v37, v38, rfl, hs'⟩ := hR
  replace hs := hs.step (.c (.c (.c (.c (.c (.c (.c (.c (.c (.c .nil)))))))))) hs'
  clear hs'
  refine stq hf Z Z Z (ex_assign hf Z) fun a hf => ?_
  refine hK39 _ _ ?_
  refine itt H (fun hc40 H => ?_) (fun hc40 H => ?_)
  ·
   refine itt H (fun hc41 H => ?_) (fun hc41 H => ?_)
   ·
    refine itt H (fun hc42 H => ?_) (fun hc42 H => ?_)
    ·
     refine itt H (fun hc43 H => ?_) (fun hc43 H => ?_)
     ·
      refine itt H (fun hc44 H => ?_) (fun hc44 H => ?_)
      ·
       refine ck_some H (fun hc45 H => ?_)
       refine itt H (fun hc46 H => ?_) (fun hc46 H => ?_)
       ·
        refine seq_reg (fun K47 hK47 => ?_)
        refine stq hf Z Z Z (ex_move hf Z) fun a hf => stq hf Z Z Z (ex_eql hf Z Z) fun a hf => stq hf Z Z Z (ex_move hf Z) fun a hf => ?_
        replace hf := hf.castB (t := 14) Z (ndec_f hc23)
        replace hf := hf.castB (t := 33) Z (dec_t hc40)
        replace hf := hf.castB (t := 34) Z (dec_t hc40)
        refine stq hf Z Z Z (ex_move hf Z) fun a hf => stq hf Z Z Z (ex_eql hf Z Z) fun a hf => stq hf Z Z Z (ex_pickT hf Z Z) fun a hf => stq hf Z Z Z (ex_move hf Z) fun a hf => ?_
        replace hf := hf.castB (t := 36) Z (dec_t hc41)
        replace hf := hf.castB (t := 37) Z (dec_t hc41)
        replace hf := hf.castB (t := 38) Z (dec_t hc41)
        refine stq hf Z Z Z (ex_move hf Z) fun a hf => stq hf Z Z Z (ex_eql hf Z Z) fun a hf => stq hf Z Z Z (ex_pickT hf Z Z) fun a hf => stq hf Z Z Z (ex_move hf Z) fun a hf => ?_
        replace hf := hf.castB (t := 40) Z (dec_t hc42)
        replace hf := hf.castB (t := 41) Z (dec_t hc42)
        replace hf := hf.castB (t := 42) Z (dec_t hc42)
        refine stq hf Z Z Z (ex_move hf Z) fun a hf => stq hf Z Z Z (ex_eql hf Z Z) fun a hf => stq hf Z Z Z (ex_pickT hf Z Z) fun a hf => stq hf Z Z Z (ex_move hf Z) fun a hf => ?_
        replace hf := hf.castB (t := 44) Z (dec_t hc43)
        replace hf := hf.castB (t := 45) Z (dec_t hc43)
        replace hf := hf.castB (t := 46) Z (dec_t hc43)
        refine stq hf Z Z Z (ex_move hf Z) fun a hf => stq hf Z Z Z (ex_lenS Try.underlying54 (rsl_isSl (osl_rsl _ (hs.get (i := 10) Z))) hf Z) fun a hf => stq hf Z Z Z (ex_eql hf Z Z) fun a hf => stq hf Z Z Z (ex_pickT hf Z Z) fun a hf => stq hf Z Z Z (ex_move hf Z) fun a hf => ?_
        replace hf := hf.castB (t := 49) Z (dec_t hc44)
        replace hf := hf.castB (t := 50) Z (dec_t hc44)
        replace hf := hf.castB (t := 51) Z (dec_t hc44)
        refine stq hf Z Z Z (ex_move hf Z) fun a hf => stq hf Z Z Z (ex_indexAddr sa_54 (rsl_isSl (osl_rsl _ (hs.get (i := 10) Z))) hc45.1 hc45.2 hf Z Z) fun a hf => stq hf Z Z Z (ex_fieldAddrS fa_63_2 Z hf Z) fun a hf => stq hf Z Z Z (ex_load sc_4 hf Z (el_cell (K := Kt) (f := 6) (rsl_rd (osl_rsl _ (hs.get (i := 10) Z))) hc45.1 hc45.2 Z)) fun a hf => stq hf Z Z Z (ex_not hf Z) fun a hf => stq hf Z Z Z (ex_pickT hf Z Z) fun a hf => stq hf Z Z Z (ex_move hf Z) fun a hf => ?_
        replace hf := hf.castB (t := 55) Z hc46
        replace hf := hf.castB (t := 56) Z (nbool_f hc46)
        replace hf := hf.castB (t := 57) Z (nbool_f hc46)
        replace hf := hf.castB (t := 58) Z (nbool_f hc46)
        refine stepN hf Z Z Z fun a hf => stepN hf Z Z Z fun a hf => stepN hf Z Z Z fun a hf => stepN hf Z Z Z fun a hf => stq hf Z Z Z (ex_pickF hf Z Z) fun a hf => stq hf Z Z Z (ex_move hf Z) fun a hf => stepN hf Z Z Z fun a hf => stepN hf Z Z Z fun a hf => stepN hf Z Z Z fun a hf => stepN hf Z Z Z fun a hf => stepN hf Z Z Z fun a hf => stq hf Z Z Z (ex_pickF hf Z Z) fun a hf => stq hf Z Z Z (ex_assign hf Z) fun a hf => ?_
        refine hK47 _ _ ?_
        refine wp_ret ?_
        have eR := some_eq H; subst eR
        replace hs := hs.keep (.d (.d (.d (.d (.d (.d (.d (.d (.d (.d (.d .nil)))))))))))
        exact ret1 Try.results9 hf Z ⟨_, Z, ⟨Z, hs⟩⟩
       ·
        refine ck_some H (fun hc48 H => ?_)
        refine itt H (fun hc49 H => ?_) (fun hc49 H => ?_)
        ·
         refine seq_reg (fun K50 hK50 => ?_)
         refine stq hf Z Z Z (ex_move hf Z) fun a hf => stq hf Z Z Z (ex_eql hf Z Z) fun a hf => stq hf Z Z Z (ex_move hf Z) fun a hf => ?_
         replace hf := hf.castB (t := 14) Z (ndec_f hc23)
         replace hf := hf.castB (t := 33) Z (dec_t hc40)
         replace hf := hf.castB (t := 34) Z (dec_t hc40)
         refine stq hf Z Z Z (ex_move hf Z) fun a hf => stq hf Z Z Z (ex_eql hf Z Z) fun a hf => stq hf Z Z Z (ex_pickT hf Z Z) fun a hf => stq hf Z Z Z (ex_move hf Z) fun a hf => ?_
         replace hf := hf.castB (t := 36) Z (dec_t hc41)
         replace hf := hf.castB (t := 37) Z (dec_t hc41)
         replace hf := hf.castB (t := 38) Z (dec_t hc41)
         refine stq hf Z Z Z (ex_move hf Z) fun a hf => stq hf Z Z Z (ex_eql hf Z Z) fun a hf => stq hf Z Z Z (ex_pickT hf Z Z) fun a hf => stq hf Z Z Z (ex_move hf Z) fun a hf => ?_
         replace hf := hf.castB (t := 40) Z (dec_t hc42)
         replace hf := hf.castB (t := 41) Z (dec_t hc42)
         replace hf := hf.castB (t := 42) Z (dec_t hc42)
         refine stq hf Z Z Z (ex_move hf Z) fun a hf => stq hf Z Z Z (ex_eql hf Z Z) fun a hf => stq hf Z Z Z (ex_pickT hf Z Z) fun a hf => stq hf Z Z Z (ex_move hf Z) fun a hf => ?_
         replace hf := hf.castB (t := 44) Z (dec_t hc43)
         replace hf := hf.castB (t := 45) Z (dec_t hc43)
         replace hf := hf.castB (t := 46) Z (dec_t hc43)
         refine stq hf Z Z Z (ex_move hf Z) fun a hf => stq hf Z Z Z (ex_lenS Try.underlying54 (rsl_isSl (osl_rsl _ (hs.get (i := 10) Z))) hf Z) fun a hf => stq hf Z Z Z (ex_eql hf Z Z) fun a hf => stq hf Z Z Z (ex_pickT hf Z Z) fun a hf => stq hf Z Z Z (ex_move hf Z) fun a hf => ?_
         replace hf := hf.castB (t := 49) Z (dec_t hc44)
         replace hf := hf.castB (t := 50) Z (dec_t hc44)
         replace hf := hf.castB (t := 51) Z (dec_t hc44)
         refine stq hf Z Z Z (ex_move hf Z) fun a hf => stq hf Z Z Z (ex_indexAddr sa_54 (rsl_isSl (osl_rsl _ (hs.get (i := 10) Z))) hc45.1 hc45.2 hf Z Z) fun a hf => stq hf Z Z Z (ex_fieldAddrS fa_63_2 Z hf Z) fun a hf => stq hf Z Z Z (ex_load sc_4 hf Z (el_cell (K := Kt) (f := 6) (rsl_rd (osl_rsl _ (hs.get (i := 10) Z))) hc45.1 hc45.2 Z)) fun a hf => stq hf Z Z Z (ex_not hf Z) fun a hf => stq hf Z Z Z (ex_pickT hf Z Z) fun a hf => stq hf Z Z Z (ex_move hf Z) fun a hf => ?_
         replace hf := hf.castB (t := 55) Z (bool_f hc46)
         replace hf := hf.castB (t := 56) Z (nbool_t hc46)
         replace hf := hf.castB (t := 57) Z (nbool_t hc46)
         replace hf := hf.castB (t := 58) Z (nbool_t hc46)
         refine stq hf Z Z Z (ex_move hf Z) fun a hf => stq hf Z Z Z (ex_indexAddr sa_54 (rsl_isSl (osl_rsl _ (hs.get (i := 10) Z))) hc48.1 hc48.2 hf Z Z) fun a hf => stq hf Z Z Z (ex_fieldAddrS fa_63_2 Z hf Z) fun a hf => stq hf Z Z Z (ex_load sc_4 hf Z (el_cell (K := Kt) (f := 6) (rsl_rd (osl_rsl _ (hs.get (i := 10) Z))) hc48.1 hc48.2 Z)) fun a hf => stq hf Z Z Z (ex_pickT hf Z Z) fun a hf => stq hf Z Z Z (ex_move hf Z) fun a hf => ?_
         replace hf := hf.castB (t := 62) Z hc49
         replace hf := hf.castB (t := 63) Z hc49
         replace hf := hf.castB (t := 64) Z hc49
         refine stq hf Z Z Z (ex_move hf Z) fun a hf => stq hf Z Z Z (ex_indexAddr sa_54 (rsl_isSl (osl_rsl _ (hs.get (i := 10) Z))) hc48.1 hc48.2 hf Z Z) fun a hf => stq hf Z Z Z (ex_fieldAddrS fa_63_1 Z hf Z) fun a hf => stq hf Z Z Z (ex_load sc_3 hf Z (el_cell (K := Kt) (f := 5) (rsl_rd (osl_rsl _ (hs.get (i := 10) Z))) hc48.1 hc48.2 Z)) fun a hf => stq hf Z Z Z (ex_eql hf Z Z) fun a hf => stq hf Z Z Z (ex_pickT hf Z Z) fun a hf => stq hf Z Z Z (ex_assign hf Z) fun a hf => ?_
         refine hK50 _ _ ?_
         refine wp_ret ?_
         have eR := some_eq H; subst eR
         replace hs := hs.keep (.d (.d (.d (.d (.d (.d (.d (.d (.d (.d (.d .nil)))))))))))
         exact ret1 Try.results9 hf Z ⟨_, Z, ⟨Z, hs⟩⟩
        ·
         refine seq_reg (fun K51 hK51 => ?_)
         refine stq hf Z Z Z (ex_move hf Z) fun a hf => stq hf Z Z Z (ex_eql hf Z Z) fun a hf => stq hf Z Z Z (ex_move hf Z) fun a hf => ?_
         replace hf := hf.castB (t := 14) Z (ndec_f hc23)
         replace hf := hf.castB (t := 33) Z (dec_t hc40)
         replace hf := hf.castB (t := 34) Z (dec_t hc40)
         refine stq hf Z Z Z (ex_move hf Z) fun a hf => stq hf Z Z Z (ex_eql hf Z Z) fun a hf => stq hf Z Z Z (ex_pickT hf Z Z) fun a hf => stq hf Z Z Z (ex_move hf Z) fun a hf => ?_
         replace hf := hf.castB (t := 36) Z (dec_t hc41)
         replace hf := hf.castB (t := 37) Z (dec_t hc41)
         replace hf := hf.castB (t := 38) Z (dec_t hc41)
         refine stq hf Z Z Z (ex_move hf Z) fun a hf => stq hf Z Z Z (ex_eql hf Z Z) fun a hf => stq hf Z Z Z (ex_pickT hf Z Z) fun a hf => stq hf Z Z Z (ex_move hf Z) fun a hf => ?_
         replace hf := hf.castB (t := 40) Z (dec_t hc42)
         replace hf := hf.castB (t := 41) Z (dec_t hc42)
         replace hf := hf.castB (t := 42) Z (dec_t hc42)
         refine stq hf Z Z Z (ex_move hf Z) fun a hf => stq hf Z Z Z (ex_eql hf Z Z) fun a hf => stq hf Z Z Z (ex_pickT hf Z Z) fun a hf => stq hf Z Z Z (ex_move hf Z) fun a hf => ?_
         replace hf := hf.castB (t := 44) Z (dec_t hc43)
         replace hf := hf.castB (t := 45) Z (dec_t hc43)
         replace hf := hf.castB (t := 46) Z (dec_t hc43)
         refine stq hf Z Z Z (ex_move hf Z) fun a hf => stq hf Z Z Z (ex_lenS Try.underlying54 (rsl_isSl (osl_rsl _ (hs.get (i := 10) Z))) hf Z) fun a hf => stq hf Z Z Z (ex_eql hf Z Z) fun a hf => stq hf Z Z Z (ex_pickT hf Z Z) fun a hf => stq hf Z Z Z (ex_move hf Z) fun a hf => ?_
         replace hf := hf.castB (t := 49) Z (dec_t hc44)
         replace hf := hf.castB (t := 50) Z (dec_t hc44)
         replace hf := hf.castB (t := 51) Z (dec_t hc44)
         refine stq hf Z Z Z (ex_move hf Z) fun a hf => stq hf Z Z Z (ex_indexAddr sa_54 (rsl_isSl (osl_rsl _ (hs.get (i := 10) Z))) hc45.1 hc45.2 hf Z Z) fun a hf => stq hf Z Z Z (ex_fieldAddrS fa_63_2 Z hf Z) fun a hf => stq hf Z Z Z (ex_load sc_4 hf Z (el_cell (K := Kt) (f := 6) (rsl_rd (osl_rsl _ (hs.get (i := 10) Z))) hc45.1 hc45.2 Z)) fun a hf => stq hf Z Z Z (ex_not hf Z) fun a hf => stq hf Z Z Z (ex_pickT hf Z Z) fun a hf => stq hf Z Z Z (ex_move hf Z) fun a hf => ?_
         replace hf := hf.castB (t := 55) Z (bool_f hc46)
         replace hf := hf.castB (t := 56) Z (nbool_t hc46)
         replace hf := hf.castB (t := 57) Z (nbool_t hc46)
         replace hf := hf.castB (t := 58) Z (nbool_t hc46)
         refine stq hf Z Z Z (ex_move hf Z) fun a hf => stq hf Z Z Z (ex_indexAddr sa_54 (rsl_isSl (osl_rsl _ (hs.get (i := 10) Z))) hc48.1 hc48.2 hf Z Z) fun a hf => stq hf Z Z Z (ex_fieldAddrS fa_63_2 Z hf Z) fun a hf => stq hf Z Z Z (ex_load sc_4 hf Z (el_cell (K := Kt) (f := 6) (rsl_rd (osl_rsl _ (hs.get (i := 10) Z))) hc48.1 hc48.2 Z)) fun a hf => stq hf Z Z Z (ex_pickT hf Z Z) fun a hf => stq hf Z Z Z (ex_move hf Z) fun a hf => ?_
         replace hf := hf.castB (t := 62) Z (bool_f hc49)
         replace hf := hf.castB (t := 63) Z (bool_f hc49)
         replace hf := hf.castB (t := 64) Z (bool_f hc49)
         refine stepN hf Z Z Z fun a hf => stepN hf Z Z Z fun a hf => stepN hf Z Z Z fun a hf => stepN hf Z Z Z fun a hf => stepN hf Z Z Z fun a hf => stq hf Z Z Z (ex_pickF hf Z Z) fun a hf => stq hf Z Z Z (ex_assign hf Z) fun a hf => ?_
         refine hK51 _ _ ?_
         refine wp_ret ?_
         have eR := some_eq H; subst eR
         replace hs := hs.keep (.d (.d (.d (.d (.d (.d (.d (.d (.d (.d (.d .nil)))))))))))
         exact ret1 Try.results9 hf Z ⟨_, Z, ⟨Z, hs⟩⟩
      ·
       refine seq_reg (fun K52 hK52 => ?_)
       refine stq hf Z Z Z (ex_move hf Z) fun a hf => stq hf Z Z Z (ex_eql hf Z Z) fun a hf => stq hf Z Z Z (ex_move hf Z) fun a hf => ?_
       replace hf := hf.castB (t := 14) Z (ndec_f hc23)
       replace hf := hf.castB (t := 33) Z (dec_t hc40)
       replace hf := hf.castB (t := 34) Z (dec_t hc40)
       refine stq hf Z Z Z (ex_move hf Z) fun a hf => stq hf Z Z Z (ex_eql hf Z Z) fun a hf => stq hf Z Z Z (ex_pickT hf Z Z) fun a hf => stq hf Z Z Z (ex_move hf Z) fun a hf => ?_
       replace hf := hf.castB (t := 36) Z (dec_t hc41)
       replace hf := hf.castB (t := 37) Z (dec_t hc41)
       replace hf := hf.castB (t := 38) Z (dec_t hc41)
       refine stq hf Z Z Z (ex_move hf Z) fun a hf => stq hf Z Z Z (ex_eql hf Z Z) fun a hf => stq hf Z Z Z (ex_pickT hf Z Z) fun a hf => stq hf Z Z Z (ex_move hf Z) fun a hf => ?_
       replace hf := hf.castB (t := 40) Z (dec_t hc42)
       replace hf := hf.castB (t := 41) Z (dec_t hc42)
       replace hf := hf.castB (t := 42) Z (dec_t hc42)
       refine stq hf Z Z Z (ex_move hf Z) fun a hf => stq hf Z Z Z (ex_eql hf Z Z) fun a hf => stq hf Z Z Z (ex_pickT hf Z Z) fun a hf => stq hf Z Z Z (ex_move hf Z) fun a hf => ?_
       replace hf := hf.castB (t := 44) Z (dec_t hc43)
       replace hf := hf.castB (t := 45) Z (dec_t hc43)
       replace hf := hf.castB (t := 46) Z (dec_t hc43)
       refine stq hf Z Z Z (ex_move hf Z) fun a hf => stq hf Z Z Z (ex_lenS Try.underlying54 (rsl_isSl (osl_rsl _ (hs.get (i := 10) Z))) hf Z) fun a hf => stq hf Z Z Z (ex_eql hf Z Z) fun a hf => stq hf Z Z Z (ex_pickT hf Z Z) fun a hf => stq hf Z Z Z (ex_move hf Z) fun a hf => ?_
       replace hf := hf.castB (t := 49) Z (dec_f hc44)
       replace hf := hf.castB (t := 50) Z (dec_f hc44)
       replace hf := hf.castB (t := 51) Z (dec_f hc44)
       refine stepN hf Z Z Z fun a hf => stepN hf Z Z Z fun a hf => stepN hf Z Z Z fun a hf => stepN hf Z Z Z fun a hf => stepN hf Z Z Z fun a hf => stq hf Z Z Z (ex_pickF hf Z Z) fun a hf => stq hf Z Z Z (ex_move hf Z) fun a hf => stepN hf Z Z Z fun a hf => stepN hf Z Z Z fun a hf => stepN hf Z Z Z fun a hf => stepN hf Z Z Z fun a hf => stq hf Z Z Z (ex_pickF hf Z Z) fun a hf => stq hf Z Z Z (ex_move hf Z) fun a hf => stepN hf Z Z Z fun a hf => stepN hf Z Z Z fun a hf => stepN hf Z Z Z fun a hf => stepN hf Z Z Z fun a hf => stepN hf Z Z Z fun a hf => stq hf Z Z Z (ex_pickF hf Z Z) fun a hf => stq hf Z Z Z (ex_assign hf Z) fun a hf => ?_
       refine hK52 _ _ ?_
       refine wp_ret ?_
       have eR := some_eq H; subst eR
       replace hs := hs.keep (.d (.d (.d (.d (.d (.d (.d (.d (.d (.d (.d .nil)))))))))))
       exact ret1 Try.results9 hf Z ⟨_, Z, ⟨Z, hs⟩⟩
     ·
      refine seq_reg (fun K53 hK53 => ?_)
      refine stq hf Z Z Z (ex_move hf Z) fun a hf => stq hf Z Z Z (ex_eql hf Z Z) fun a hf => stq hf Z Z Z (ex_move hf Z) fun a hf => ?_
      replace hf := hf.castB (t := 14) Z (ndec_f hc23)
      replace hf := hf.castB (t := 33) Z (dec_t hc40)
      replace hf := hf.castB (t := 34) Z (dec_t hc40)
      refine stq hf Z Z Z (ex_move hf Z) fun a hf => stq hf Z Z Z (ex_eql hf Z Z) fun a hf => stq hf Z Z Z (ex_pickT hf Z Z) fun a hf => stq hf Z Z Z (ex_move hf Z) fun a hf => ?_
      replace hf := hf.castB (t := 36) Z (dec_t hc41)
      replace hf := hf.castB (t := 37) Z (dec_t hc41)
      replace hf := hf.castB (t := 38) Z (dec_t hc41)
      refine stq hf Z Z Z (ex_move hf Z) fun a hf => stq hf Z Z Z (ex_eql hf Z Z) fun a hf => stq hf Z Z Z (ex_pickT hf Z Z) fun a hf => stq hf Z Z Z (ex_move hf Z) fun a hf => ?_
      replace hf := hf.castB (t := 40) Z (dec_t hc42)
      replace hf := hf.castB (t := 41) Z (dec_t hc42)
      replace hf := hf.castB (t := 42) Z (dec_t hc42)
      refine stq hf Z Z Z (ex_move hf Z) fun a hf => stq hf Z Z Z (ex_eql hf Z Z) fun a hf => stq hf Z Z Z (ex_pickT hf Z Z) fun a hf => stq hf Z Z Z (ex_move hf Z) fun a hf => ?_
      replace hf := hf.castB (t := 44) Z (dec_f hc43)
      replace hf := hf.castB (t := 45) Z (dec_f hc43)
      replace hf := hf.castB (t := 46) Z (dec_f hc43)
      refine stepN hf Z Z Z fun a hf => stepN hf Z Z Z fun a hf => stepN hf Z Z Z fun a hf => stq hf Z Z Z (ex_pickF hf Z Z) fun a hf => stq hf Z Z Z (ex_move hf Z) fun a hf => stepN hf Z Z Z fun a hf => stepN hf Z Z Z fun a hf => stepN hf Z Z Z fun a hf => stepN hf Z Z Z fun a hf => stepN hf Z Z Z fun a hf => stq hf Z Z Z (ex_pickF hf Z Z) fun a hf => stq hf Z Z Z (ex_move hf Z) fun a hf => stepN hf Z Z Z fun a hf => stepN hf Z Z Z fun a hf => stepN hf Z Z Z fun a hf => stepN hf Z Z Z fun a hf => stq hf Z Z Z (ex_pickF hf Z Z) fun a hf => stq hf Z Z Z (ex_move hf Z) fun a hf => stepN hf Z Z Z fun a hf => stepN hf Z Z Z fun a hf => stepN hf Z Z Z fun a hf => stepN hf Z Z Z fun a hf => stepN hf Z Z Z fun a hf => stq hf Z Z Z (ex_pickF hf Z Z) fun a hf => stq hf Z Z Z (ex_assign hf Z) fun a hf => ?_
      refine hK53 _ _ ?_
      refine wp_ret ?_
      have eR := some_eq H; subst eR
      replace hs := hs.keep (.d (.d (.d (.d (.d (.d (.d (.d (.d (.d (.d .nil)))))))))))
      exact ret1 Try.results9 hf Z ⟨_, Z, ⟨Z, hs⟩⟩
    ·
     refine seq_reg (fun K54 hK54 => ?_)
     refine stq hf Z Z Z (ex_move hf Z) fun a hf => stq hf Z Z Z (ex_eql hf Z Z) fun a hf => stq hf Z Z Z (ex_move hf Z) fun a hf => ?_
     replace hf := hf.castB (t := 14) Z (ndec_f hc23)
     replace hf := hf.castB (t := 33) Z (dec_t hc40)
     replace hf := hf.castB (t := 34) Z (dec_t hc40)
     refine stq hf Z Z Z (ex_move hf Z) fun a hf => stq hf Z Z Z (ex_eql hf Z Z) fun a hf => stq hf Z Z Z (ex_pickT hf Z Z) fun a hf => stq hf Z Z Z (ex_move hf Z) fun a hf => ?_
     replace hf := hf.castB (t := 36) Z (dec_t hc41)
     replace hf := hf.castB (t := 37) Z (dec_t hc41)
     replace hf := hf.castB (t := 38) Z (dec_t hc41)
     refine stq hf Z Z Z (ex_move hf Z) fun a hf => stq hf Z Z Z (ex_eql hf Z Z) fun a hf => stq hf Z Z Z (ex_pickT hf Z Z) fun a hf => stq hf Z Z Z (ex_move hf Z) fun a hf => ?_
     replace hf := hf.castB (t := 40) Z (dec_f hc42)
     replace hf := hf.castB (t := 41) Z (dec_f hc42)
     replace hf := hf.castB (t := 42) Z (dec_f hc42)
     refine stepN hf Z Z Z fun a hf => stepN hf Z Z Z fun a hf => stq hf Z Z Z (ex_pickF hf Z Z) fun a hf => stq hf Z Z Z (ex_move hf Z) fun a hf => stepN hf Z Z Z fun a hf => stepN hf Z Z Z fun a hf => stepN hf Z Z Z fun a hf => stq hf Z Z Z (ex_pickF hf Z Z) fun a hf => stq hf Z Z Z (ex_move hf Z) fun a hf => stepN hf Z Z Z fun a hf => stepN hf Z Z Z fun a hf => stepN hf Z Z Z fun a hf => stepN hf Z Z Z fun a hf => stepN hf Z Z Z fun a hf => stq hf Z Z Z (ex_pickF hf Z Z) fun a hf => stq hf Z Z Z (ex_move hf Z) fun a hf => stepN hf Z Z Z fun a hf => stepN hf Z Z Z fun a hf => stepN hf Z Z Z fun a hf => stepN hf Z Z Z fun a hf => stq hf Z Z Z (ex_pickF hf Z Z) fun a hf => stq hf Z Z Z (ex_move hf Z) fun a hf => stepN hf Z Z Z fun a hf => stepN hf Z Z Z fun a hf => stepN hf Z Z Z fun a hf => stepN hf Z Z Z fun a hf => stepN hf Z Z Z fun a hf => stq hf Z Z Z (ex_pickF hf Z Z) fun a hf => stq hf Z Z Z (ex_assign hf Z) fun a hf => ?_
     refine hK54 _ _ ?_
     refine wp_ret ?_
     have eR := some_eq H; subst eR
     replace hs := hs.keep (.d (.d (.d (.d (.d (.d (.d (.d (.d (.d (.d .nil)))))))))))
     exact ret1 Try.results9 hf Z ⟨_, Z, ⟨Z, hs⟩⟩
   ·
    refine seq_reg (fun K55 hK55 => ?_)
    refine stq hf Z Z Z (ex_move hf Z) fun a hf => stq hf Z Z Z (ex_eql hf Z Z) fun a hf => stq hf Z Z Z (ex_move hf Z) fun a hf => ?_
    replace hf := hf.castB (t := 14) Z (ndec_f hc23)
    replace hf := hf.castB (t := 33) Z (dec_t hc40)
    replace hf := hf.castB (t := 34) Z (dec_t hc40)
    refine stq hf Z Z Z (ex_move hf Z) fun a hf => stq hf Z Z Z (ex_eql hf Z Z) fun a hf => stq hf Z Z Z (ex_pickT hf Z Z) fun a hf => stq hf Z Z Z (ex_move hf Z) fun a hf => ?_
    replace hf := hf.castB (t := 36) Z (dec_f hc41)
    replace hf := hf.castB (t := 37) Z (dec_f hc41)
    replace hf := hf.castB (t := 38) Z (dec_f hc41)
    refine stepN hf Z Z Z fun a hf => stepN hf Z Z Z fun a hf => stq hf Z Z Z (ex_pickF hf Z Z) fun a hf => stq hf Z Z Z (ex_move hf Z) fun a hf => stepN hf Z Z Z fun a hf => stepN hf Z Z Z fun a hf => stq hf Z Z Z (ex_pickF hf Z Z) fun a hf => stq hf Z Z Z (ex_move hf Z) fun a hf => stepN hf Z Z Z fun a hf => stepN hf Z Z Z fun a hf => stepN hf Z Z Z fun a hf => stq hf Z Z Z (ex_pickF hf Z Z) fun a hf => stq hf Z Z Z (ex_move hf Z) fun a hf => stepN hf Z Z Z fun a hf => stepN hf Z Z Z fun a hf => stepN hf Z Z Z fun a hf => stepN hf Z Z Z fun a hf => stepN hf Z Z Z fun a hf => stq hf Z Z Z (ex_pickF hf Z Z) fun a hf => stq hf Z Z Z (ex_move hf Z) fun a hf => stepN hf Z Z Z fun a hf => stepN hf Z Z Z fun a hf => stepN hf Z Z Z fun a hf => stepN hf Z Z Z fun a hf => stq hf Z Z Z (ex_pickF hf Z Z) fun a hf => stq hf Z Z Z (ex_move hf Z) fun a hf => stepN hf Z Z Z fun a hf => stepN hf Z Z Z fun a hf => stepN hf Z Z Z fun a hf => stepN hf Z Z Z fun a hf => stepN hf Z Z Z fun a hf => stq hf Z Z Z (ex_pickF hf Z Z) fun a hf => stq hf Z Z Z (ex_assign hf Z) fun a hf => ?_
    refine hK55 _ _ ?_
    refine wp_ret ?_
    have eR := some_eq H; subst eR
    replace hs := hs.keep (.d (.d (.d (.d (.d (.d (.d (.d (.d (.d (.d .nil)))))))))))
    exact ret1 Try.results9 hf Z ⟨_, Z, ⟨Z, hs⟩⟩
  ·
   refine seq_reg (fun K56 hK56 => ?_)
   refine stq hf Z Z Z (ex_move hf Z) fun a hf => stq hf Z Z Z (ex_eql hf Z Z) fun a hf => stq hf Z Z Z (ex_move hf Z) fun a hf => ?_
   replace hf := hf.castB (t := 14) Z (ndec_f hc23)
   replace hf := hf.castB (t := 33) Z (dec_f hc40)
   replace hf := hf.castB (t := 34) Z (dec_f hc40)
   refine stepN hf Z Z Z fun a hf => stepN hf Z Z Z fun a hf => stq hf Z Z Z (ex_pickF hf Z Z) fun a hf => stq hf Z Z Z (ex_move hf Z) fun a hf => stepN hf Z Z Z fun a hf => stepN hf Z Z Z fun a hf => stq hf Z Z Z (ex_pickF hf Z Z) fun a hf => stq hf Z Z Z (ex_move hf Z) fun a hf => stepN hf Z Z Z fun a hf => stepN hf Z Z Z fun a hf => stq hf Z Z Z (ex_pickF hf Z Z) fun a hf => stq hf Z Z Z (ex_move hf Z) fun a hf => stepN hf Z Z Z fun a hf => stepN hf Z Z Z fun a hf => stepN hf Z Z Z fun a hf => stq hf Z Z Z (ex_pickF hf Z Z) fun a hf => stq hf Z Z Z (ex_move hf Z) fun a hf => stepN hf Z Z Z fun a hf => stepN hf Z Z Z fun a hf => stepN hf Z Z Z fun a hf => stepN hf Z Z Z fun a hf => stepN hf Z Z Z fun a hf => stq hf Z Z Z (ex_pickF hf Z Z) fun a hf => stq hf Z Z Z (ex_move hf Z) fun a hf => stepN hf Z Z Z fun a hf => stepN hf Z Z Z fun a hf => stepN hf Z Z Z fun a hf => stepN hf Z Z Z fun a hf => stq hf Z Z Z (ex_pickF hf Z Z) fun a hf => stq hf Z Z Z (ex_move hf Z) fun a hf => stepN hf Z Z Z fun a hf => stepN hf Z Z Z fun a hf => stepN hf Z Z Z fun a hf => stepN hf Z Z Z fun a hf => stepN hf Z Z Z fun a hf => stq hf Z Z Z (ex_pickF hf Z Z) fun a hf => stq hf Z Z Z (ex_assign hf Z) fun a hf => ?_
   refine hK56 _ _ ?_
   refine wp_ret ?_
   have eR := some_eq H; subst eR
   replace hs := hs.keep (.d (.d (.d (.d (.d (.d (.d (.d (.d (.d (.d .nil)))))))))))
   exact ret1 Try.results9 hf Z ⟨_, Z, ⟨Z, hs⟩⟩
 ·
  replace hf := hf.castB (t := 15) Z (ndec_t hc23)
  refine cond_T hf Z ?_
  refine seq_reg (fun K57 hK57 => ?_)
  refine stq hf Z Z Z (ex_assign hf Z) fun a hf => ?_
  refine hK57 _ _ ?_
  refine wp_ret ?_
  refine hR14 _ _ ?_
  have eR := some_eq H; subst eR
  replace hs := hs.keep (.d (.d (.d (.d (.d (.d (.d (.d (.d (.d .nil))))))))))
  exact ret1 Try.results9 hf Z ⟨_, Z, ⟨Z, hs⟩⟩

end Go.Proofs.Ytigadacjaglfeaa.X
