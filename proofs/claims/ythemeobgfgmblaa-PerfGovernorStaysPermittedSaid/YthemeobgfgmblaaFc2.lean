/- Each function of the machine comes to what its pure function says. -/
import Derived.Test.YthemeobgfgmblaaFc1
import Derived.Test.YthemeobgfgmblaaFb
namespace Go.Proofs.Ythemeobgfgmblaa.X
open Go Go.RowKit Go.Sx
set_option linter.unusedVariables false

set_option maxRecDepth 100000 in
theorem law36_awake.calls {M : Nat → Prop} {w0 : World} (k : Nat) {r : Bool} (hs : St M w0 w0 []) (hr : Sr M w0 [])
    (h : law36_awake.f k = some r) : Calls Try.prog 12 #[] w0 fun e w => ∃ v, e = .returned v ∧ (.bool r = v ∧ St M w0 w []) := by
  have H := (law36_awake.f.eq_1 ..).symm.trans h
  clear h
  refine enter Try.func12 rfl Try.ntmps12 rfl (fun a hf => ?_)
  refine seq_reg (fun K1 hK1 => ?_)
  refine stq hf rfl rfl rfl (ex_assign hf rfl) (fun a hf => ?_)
  refine hK1 _ _ ?_
  refine seq_reg (fun K3 hK3 => ?_)
  refine stq hf rfl rfl rfl (ex_build (cs := [.int .u64 100, .int .u64 900, .int .u64 10]) bt_25 hf rfl (.cons rfl (.cons rfl (.cons rfl .nil))) rfl) (fun a hf => ?_)
  refine stq hf rfl rfl rfl (ex_build (cs := [.int .u64 200, .int .u64 1000, .int .u64 25]) bt_25 hf rfl (.cons rfl (.cons rfl (.cons rfl .nil))) rfl) (fun a hf => ?_)
  refine stepV hf rfl rfl rfl (er_buildSlice (K := K_api_OperatingPoint) (xs := [(⟨100, 900, 10⟩ : OperatingPoint), (⟨200, 1000, 25⟩ : OperatingPoint)]) hs Try.underlying22 ep_25 rfl rfl hf rfl (.cons rfl (.cons rfl .nil)) rfl rfl) (fun v2 w hs a hf => ?_)
  refine stq hf rfl rfl rfl (ex_assign hf rfl) (fun a hf => ?_)
  refine hK3 _ _ ?_
  refine bnd H (fun s4 hs4 H => ?_)
  refine seq_reg (fun K6 hK6 => ?_)
  refine stq hf rfl rfl rfl (ex_move hf rfl) (fun a hf => ?_)
  refine stepF hf rfl rfl rfl (ex_call cf_19 hf rfl) (perf_Transition.calls k [(⟨100, 900, 10⟩ : OperatingPoint), (⟨200, 1000, 25⟩ : OperatingPoint)] 0 1 v2 (hs.enter (.k .nil)) (Sr.own hs (.k .nil) (i := 0) rfl osl_rsl (fun _ h => h.1) (Sr.nil _ _)) hs4) (fun v w hR a hf => ?_)
  obtain ⟨v5, rfl, hs'⟩ := hR
  replace hs := hs.step (.k .nil) hs'
  clear hs'
  refine stq hf rfl rfl rfl (ex_move hf rfl) (fun a hf => ?_)
  refine stq hf rfl rfl rfl (ex_extract hf rfl rfl) (fun a hf => ?_)
  refine stq hf rfl rfl rfl (ex_extract hf rfl rfl) (fun a hf => ?_)
  refine stq hf rfl rfl rfl (ex_assign hf rfl) (fun a hf => ?_)
  refine stq hf rfl rfl rfl (ex_assign hf rfl) (fun a hf => ?_)
  refine hK6 _ _ ?_
  refine bnd H (fun s7 hs7 H => ?_)
  refine seq_reg (fun K9 hK9 => ?_)
  refine stq hf rfl rfl rfl (ex_move hf rfl) (fun a hf => ?_)
  refine stepF hf rfl rfl rfl (ex_call cf_19 hf rfl) (perf_Transition.calls k [(⟨100, 900, 10⟩ : OperatingPoint), (⟨200, 1000, 25⟩ : OperatingPoint)] 1 0 v2 (hs.enter (.k (.k .nil))) (Sr.own hs (.k (.k .nil)) (i := 1) rfl osl_rsl (fun _ h => h.1) (Sr.nil _ _)) hs7) (fun v w hR a hf => ?_)
  obtain ⟨v8, rfl, hs'⟩ := hR
  replace hs := hs.step (.k (.k .nil)) hs'
  clear hs'
  refine stq hf rfl rfl rfl (ex_move hf rfl) (fun a hf => ?_)
  refine stq hf rfl rfl rfl (ex_extract hf rfl rfl) (fun a hf => ?_)
  refine stq hf rfl rfl rfl (ex_extract hf rfl rfl) (fun a hf => ?_)
  refine stq hf rfl rfl rfl (ex_assign hf rfl) (fun a hf => ?_)
  refine stq hf rfl rfl rfl (ex_assign hf rfl) (fun a hf => ?_)
  refine hK9 _ _ ?_
  refine bnd H (fun s10 hs10 H => ?_)
  refine seq_reg (fun K11 hK11 => ?_)
  refine stq hf rfl rfl rfl (ex_move hf rfl) (fun a hf => ?_)
  refine stepF hf rfl rfl rfl (ex_call cf_15 hf rfl) (perf_Find.calls k [(⟨100, 900, 10⟩ : OperatingPoint), (⟨200, 1000, 25⟩ : OperatingPoint)] 101 v2 (hs.enter (.k (.k (.k .nil)))) (Sr.own hs (.k (.k (.k .nil))) (i := 2) rfl osl_rsl (fun _ h => h.1) (Sr.nil _ _)) hs10) (fun v w hR a hf => ?_)
  obtain ⟨rfl, hs'⟩ := hR
  replace hs := hs.step (.k (.k (.k .nil))) hs'
  clear hs'
  refine stq hf rfl rfl rfl (ex_move hf rfl) (fun a hf => ?_)
  refine stq hf rfl rfl rfl (ex_extract hf rfl rfl) (fun a hf => ?_)
  refine stq hf rfl rfl rfl (ex_extract hf rfl rfl) (fun a hf => ?_)
  refine stq hf rfl rfl rfl (ex_assign hf rfl) (fun a hf => ?_)
  refine stq hf rfl rfl rfl (ex_assign hf rfl) (fun a hf => ?_)
  refine hK11 _ _ ?_
  refine itt H (fun hc12 H => ?_) (fun hc12 H => ?_)
  · -- s4.2 = 0
    refine itt H (fun hc13 H => ?_) (fun hc13 H => ?_)
    · -- s7.2 = 0
      refine itt H (fun hc14 H => ?_) (fun hc14 H => ?_)
      · -- s10.2 = 0
        refine itt H (fun hc15 H => ?_) (fun hc15 H => ?_)
        · -- s10.1 = 1
          refine bnd H (fun s17 hs17 H => ?_)
          refine itt H (fun hc18 H => ?_) (fun hc18 H => ?_)
          · -- s17 = true
            refine bnd H (fun s20 hs20 H => ?_)
            refine itt H (fun hc21 H => ?_) (fun hc21 H => ?_)
            · -- s20 = true
              refine bnd H (fun s22 hs22 H => ?_)
              refine itt H (fun hc23 H => ?_) (fun hc23 H => ?_)
              · -- s22 = 1
                refine bnd H (fun s24 hs24 H => ?_)
                refine seq_reg (fun K25 hK25 => ?_)
                refine stq hf rfl rfl rfl (ex_move hf rfl) (fun a hf => ?_)
                refine stq hf rfl rfl rfl (ex_eql hf rfl rfl) (fun a hf => ?_)
                refine stq hf rfl rfl rfl (ex_move hf rfl) (fun a hf => ?_)
                replace hf := hf.castB (t := 27) rfl (dec_t hc12)
                replace hf := hf.castB (t := 28) rfl (dec_t hc12)
                refine stq hf rfl rfl rfl (ex_move hf rfl) (fun a hf => ?_)
                refine stq hf rfl rfl rfl (ex_eql hf rfl rfl) (fun a hf => ?_)
                refine stq hf rfl rfl rfl (ex_pickT hf rfl rfl) (fun a hf => ?_)
                refine stq hf rfl rfl rfl (ex_move hf rfl) (fun a hf => ?_)
                replace hf := hf.castB (t := 30) rfl (dec_t hc13)
                replace hf := hf.castB (t := 31) rfl (dec_t hc13)
                replace hf := hf.castB (t := 32) rfl (dec_t hc13)
                refine stq hf rfl rfl rfl (ex_move hf rfl) (fun a hf => ?_)
                refine stq hf rfl rfl rfl (ex_eql hf rfl rfl) (fun a hf => ?_)
                refine stq hf rfl rfl rfl (ex_pickT hf rfl rfl) (fun a hf => ?_)
                refine stq hf rfl rfl rfl (ex_move hf rfl) (fun a hf => ?_)
                replace hf := hf.castB (t := 34) rfl (dec_t hc14)
                replace hf := hf.castB (t := 35) rfl (dec_t hc14)
                replace hf := hf.castB (t := 36) rfl (dec_t hc14)
                refine stq hf rfl rfl rfl (ex_move hf rfl) (fun a hf => ?_)
                refine stq hf rfl rfl rfl (ex_eql hf rfl rfl) (fun a hf => ?_)
                refine stq hf rfl rfl rfl (ex_pickT hf rfl rfl) (fun a hf => ?_)
                refine stq hf rfl rfl rfl (ex_move hf rfl) (fun a hf => ?_)
                replace hf := hf.castB (t := 38) rfl (dec_t hc15)
                replace hf := hf.castB (t := 39) rfl (dec_t hc15)
                replace hf := hf.castB (t := 40) rfl (dec_t hc15)
                refine stq hf rfl rfl rfl (ex_move hf rfl) (fun a hf => ?_)
                refine stq hf rfl rfl rfl (ex_build (cs := [.bool true, .int .u64 1000]) bt_40 hf rfl (.cons rfl (.cons rfl .nil)) rfl) (fun a hf => ?_)
                refine stq hf rfl rfl rfl (ex_build (cs := [.bool false, .int .u64 200]) bt_40 hf rfl (.cons rfl .nil) rfl) (fun a hf => ?_)
                refine stepV hf rfl rfl rfl (er_buildSlice (K := K_api_PerfOp) (xs := [(⟨true, 1000⟩ : PerfOp), (⟨false, 200⟩ : PerfOp)]) hs Try.underlying35 ep_40 rfl rfl hf rfl (.cons rfl (.cons rfl .nil)) rfl rfl) (fun v16 w hs a hf => ?_)
                refine stepF hf rfl rfl rfl (ex_call cf_21 hf rfl) (help_Equal_api_PerfOp.calls k s4.1 [(⟨true, 1000⟩ : PerfOp), (⟨false, 200⟩ : PerfOp)] v5 v16 (hs.enter (.k (.k (.k (.k .nil))))) (Sr.own hs (.k (.k (.k (.k .nil)))) (i := 2) rfl osl_rsl (fun _ h => h.1) (Sr.own hs (.k (.k (.k (.k .nil)))) (i := 0) rfl osl_rsl (fun _ h => h.1) (Sr.nil _ _))) hs17) (fun v w hR a hf => ?_)
                obtain ⟨rfl, hs'⟩ := hR
                replace hs := hs.step (.k (.k (.k (.k .nil)))) hs'
                clear hs'
                refine stq hf rfl rfl rfl (ex_pickT hf rfl rfl) (fun a hf => ?_)
                refine stq hf rfl rfl rfl (ex_move hf rfl) (fun a hf => ?_)
                replace hf := hf.castB (t := 45) rfl hc18
                replace hf := hf.castB (t := 46) rfl hc18
                replace hf := hf.castB (t := 47) rfl hc18
                refine stq hf rfl rfl rfl (ex_move hf rfl) (fun a hf => ?_)
                refine stq hf rfl rfl rfl (ex_build (cs := [.bool false, .int .u64 100]) bt_40 hf rfl (.cons rfl .nil) rfl) (fun a hf => ?_)
                refine stq hf rfl rfl rfl (ex_build (cs := [.bool true, .int .u64 900]) bt_40 hf rfl (.cons rfl (.cons rfl .nil)) rfl) (fun a hf => ?_)
                refine stepV hf rfl rfl rfl (er_buildSlice (K := K_api_PerfOp) (xs := [(⟨false, 100⟩ : PerfOp), (⟨true, 900⟩ : PerfOp)]) hs Try.underlying35 ep_40 rfl rfl hf rfl (.cons rfl (.cons rfl .nil)) rfl rfl) (fun v19 w hs a hf => ?_)
                refine stepF hf rfl rfl rfl (ex_call cf_21 hf rfl) (help_Equal_api_PerfOp.calls k s7.1 [(⟨false, 100⟩ : PerfOp), (⟨true, 900⟩ : PerfOp)] v8 v19 (hs.enter (.k (.k (.k (.k (.k .nil)))))) (Sr.own hs (.k (.k (.k (.k (.k .nil))))) (i := 2) rfl osl_rsl (fun _ h => h.1) (Sr.own hs (.k (.k (.k (.k (.k .nil))))) (i := 0) rfl osl_rsl (fun _ h => h.1) (Sr.nil _ _))) hs20) (fun v w hR a hf => ?_)
                obtain ⟨rfl, hs'⟩ := hR
                replace hs := hs.step (.k (.k (.k (.k (.k .nil))))) hs'
                clear hs'
                refine stq hf rfl rfl rfl (ex_pickT hf rfl rfl) (fun a hf => ?_)
                refine stq hf rfl rfl rfl (ex_move hf rfl) (fun a hf => ?_)
                replace hf := hf.castB (t := 52) rfl hc21
                replace hf := hf.castB (t := 53) rfl hc21
                replace hf := hf.castB (t := 54) rfl hc21
                refine stepF hf rfl rfl rfl (ex_call cf_17 hf rfl) (perf_Check.calls k [] (.slice none 0 0) (hs.enter (.k (.k (.k (.k (.k .nil)))))) (Sr.free (nil_rsl _ _) nil_fs (Sr.nil _ _)) hs22) (fun v w hR a hf => ?_)
                obtain ⟨rfl, hs'⟩ := hR
                replace hs := hs.step (.k (.k (.k (.k (.k .nil))))) hs'
                clear hs'
                refine stq hf rfl rfl rfl (ex_eql hf rfl rfl) (fun a hf => ?_)
                refine stq hf rfl rfl rfl (ex_pickT hf rfl rfl) (fun a hf => ?_)
                refine stq hf rfl rfl rfl (ex_move hf rfl) (fun a hf => ?_)
                replace hf := hf.castB (t := 56) rfl (dec_t hc23)
                replace hf := hf.castB (t := 57) rfl (dec_t hc23)
                replace hf := hf.castB (t := 58) rfl (dec_t hc23)
                refine stq hf rfl rfl rfl (ex_move hf rfl) (fun a hf => ?_)
                refine stq hf rfl rfl rfl (ex_move hf rfl) (fun a hf => ?_)
                refine stepF hf rfl rfl rfl (ex_call cf_22 hf rfl) (perf_Safe.calls k [(⟨100, 900, 10⟩ : OperatingPoint), (⟨200, 1000, 25⟩ : OperatingPoint)] 0 s4.1 v2 v5 (hs.enter (.k (.k (.k (.k (.k .nil)))))) (Sr.own hs (.k (.k (.k (.k (.k .nil))))) (i := 4) rfl osl_rsl (fun _ h => h.1) (Sr.own hs (.k (.k (.k (.k (.k .nil))))) (i := 3) rfl osl_rsl (fun _ h => h.1) (Sr.nil _ _))) hs24) (fun v w hR a hf => ?_)
                obtain ⟨rfl, hs'⟩ := hR
                replace hs := hs.step (.k (.k (.k (.k (.k .nil))))) hs'
                clear hs'
                refine stq hf rfl rfl rfl (ex_pickT hf rfl rfl) (fun a hf => ?_)
                refine stq hf rfl rfl rfl (ex_assign hf rfl) (fun a hf => ?_)
                refine hK25 _ _ ?_
                refine wp_ret ?_
                have eR := some_eq H; subst eR
                replace hs := hs.keep (.d (.d (.d (.d (.d .nil)))))
                exact ret1 Try.results12 hf rfl ⟨_, rfl, ⟨rfl, hs⟩⟩
              · -- not s22 = 1
                refine seq_reg (fun K26 hK26 => ?_)
                refine stq hf rfl rfl rfl (ex_move hf rfl) (fun a hf => ?_)
                refine stq hf rfl rfl rfl (ex_eql hf rfl rfl) (fun a hf => ?_)
                refine stq hf rfl rfl rfl (ex_move hf rfl) (fun a hf => ?_)
                replace hf := hf.castB (t := 27) rfl (dec_t hc12)
                replace hf := hf.castB (t := 28) rfl (dec_t hc12)
                refine stq hf rfl rfl rfl (ex_move hf rfl) (fun a hf => ?_)
                refine stq hf rfl rfl rfl (ex_eql hf rfl rfl) (fun a hf => ?_)
                refine stq hf rfl rfl rfl (ex_pickT hf rfl rfl) (fun a hf => ?_)
                refine stq hf rfl rfl rfl (ex_move hf rfl) (fun a hf => ?_)
                replace hf := hf.castB (t := 30) rfl (dec_t hc13)
                replace hf := hf.castB (t := 31) rfl (dec_t hc13)
                replace hf := hf.castB (t := 32) rfl (dec_t hc13)
                refine stq hf rfl rfl rfl (ex_move hf rfl) (fun a hf => ?_)
                refine stq hf rfl rfl rfl (ex_eql hf rfl rfl) (fun a hf => ?_)
                refine stq hf rfl rfl rfl (ex_pickT hf rfl rfl) (fun a hf => ?_)
                refine stq hf rfl rfl rfl (ex_move hf rfl) (fun a hf => ?_)
                replace hf := hf.castB (t := 34) rfl (dec_t hc14)
                replace hf := hf.castB (t := 35) rfl (dec_t hc14)
                replace hf := hf.castB (t := 36) rfl (dec_t hc14)
                refine stq hf rfl rfl rfl (ex_move hf rfl) (fun a hf => ?_)
                refine stq hf rfl rfl rfl (ex_eql hf rfl rfl) (fun a hf => ?_)
                refine stq hf rfl rfl rfl (ex_pickT hf rfl rfl) (fun a hf => ?_)
                refine stq hf rfl rfl rfl (ex_move hf rfl) (fun a hf => ?_)
                replace hf := hf.castB (t := 38) rfl (dec_t hc15)
                replace hf := hf.castB (t := 39) rfl (dec_t hc15)
                replace hf := hf.castB (t := 40) rfl (dec_t hc15)
                refine stq hf rfl rfl rfl (ex_move hf rfl) (fun a hf => ?_)
                refine stq hf rfl rfl rfl (ex_build (cs := [.bool true, .int .u64 1000]) bt_40 hf rfl (.cons rfl (.cons rfl .nil)) rfl) (fun a hf => ?_)
                refine stq hf rfl rfl rfl (ex_build (cs := [.bool false, .int .u64 200]) bt_40 hf rfl (.cons rfl .nil) rfl) (fun a hf => ?_)
                refine stepV hf rfl rfl rfl (er_buildSlice (K := K_api_PerfOp) (xs := [(⟨true, 1000⟩ : PerfOp), (⟨false, 200⟩ : PerfOp)]) hs Try.underlying35 ep_40 rfl rfl hf rfl (.cons rfl (.cons rfl .nil)) rfl rfl) (fun v16 w hs a hf => ?_)
                refine stepF hf rfl rfl rfl (ex_call cf_21 hf rfl) (help_Equal_api_PerfOp.calls k s4.1 [(⟨true, 1000⟩ : PerfOp), (⟨false, 200⟩ : PerfOp)] v5 v16 (hs.enter (.k (.k (.k (.k .nil))))) (Sr.own hs (.k (.k (.k (.k .nil)))) (i := 2) rfl osl_rsl (fun _ h => h.1) (Sr.own hs (.k (.k (.k (.k .nil)))) (i := 0) rfl osl_rsl (fun _ h => h.1) (Sr.nil _ _))) hs17) (fun v w hR a hf => ?_)
                obtain ⟨rfl, hs'⟩ := hR
                replace hs := hs.step (.k (.k (.k (.k .nil)))) hs'
                clear hs'
                refine stq hf rfl rfl rfl (ex_pickT hf rfl rfl) (fun a hf => ?_)
                refine stq hf rfl rfl rfl (ex_move hf rfl) (fun a hf => ?_)
                replace hf := hf.castB (t := 45) rfl hc18
                replace hf := hf.castB (t := 46) rfl hc18
                replace hf := hf.castB (t := 47) rfl hc18
                refine stq hf rfl rfl rfl (ex_move hf rfl) (fun a hf => ?_)
                refine stq hf rfl rfl rfl (ex_build (cs := [.bool false, .int .u64 100]) bt_40 hf rfl (.cons rfl .nil) rfl) (fun a hf => ?_)
                refine stq hf rfl rfl rfl (ex_build (cs := [.bool true, .int .u64 900]) bt_40 hf rfl (.cons rfl (.cons rfl .nil)) rfl) (fun a hf => ?_)
                refine stepV hf rfl rfl rfl (er_buildSlice (K := K_api_PerfOp) (xs := [(⟨false, 100⟩ : PerfOp), (⟨true, 900⟩ : PerfOp)]) hs Try.underlying35 ep_40 rfl rfl hf rfl (.cons rfl (.cons rfl .nil)) rfl rfl) (fun v19 w hs a hf => ?_)
                refine stepF hf rfl rfl rfl (ex_call cf_21 hf rfl) (help_Equal_api_PerfOp.calls k s7.1 [(⟨false, 100⟩ : PerfOp), (⟨true, 900⟩ : PerfOp)] v8 v19 (hs.enter (.k (.k (.k (.k (.k .nil)))))) (Sr.own hs (.k (.k (.k (.k (.k .nil))))) (i := 2) rfl osl_rsl (fun _ h => h.1) (Sr.own hs (.k (.k (.k (.k (.k .nil))))) (i := 0) rfl osl_rsl (fun _ h => h.1) (Sr.nil _ _))) hs20) (fun v w hR a hf => ?_)
                obtain ⟨rfl, hs'⟩ := hR
                replace hs := hs.step (.k (.k (.k (.k (.k .nil))))) hs'
                clear hs'
                refine stq hf rfl rfl rfl (ex_pickT hf rfl rfl) (fun a hf => ?_)
                refine stq hf rfl rfl rfl (ex_move hf rfl) (fun a hf => ?_)
                replace hf := hf.castB (t := 52) rfl hc21
                replace hf := hf.castB (t := 53) rfl hc21
                replace hf := hf.castB (t := 54) rfl hc21
                refine stepF hf rfl rfl rfl (ex_call cf_17 hf rfl) (perf_Check.calls k [] (.slice none 0 0) (hs.enter (.k (.k (.k (.k (.k .nil)))))) (Sr.free (nil_rsl _ _) nil_fs (Sr.nil _ _)) hs22) (fun v w hR a hf => ?_)
                obtain ⟨rfl, hs'⟩ := hR
                replace hs := hs.step (.k (.k (.k (.k (.k .nil))))) hs'
                clear hs'
                refine stq hf rfl rfl rfl (ex_eql hf rfl rfl) (fun a hf => ?_)
                refine stq hf rfl rfl rfl (ex_pickT hf rfl rfl) (fun a hf => ?_)
                refine stq hf rfl rfl rfl (ex_move hf rfl) (fun a hf => ?_)
                replace hf := hf.castB (t := 56) rfl (dec_f hc23)
                replace hf := hf.castB (t := 57) rfl (dec_f hc23)
                replace hf := hf.castB (t := 58) rfl (dec_f hc23)
                refine stepN hf rfl rfl rfl (fun a hf => ?_)
                refine stepN hf rfl rfl rfl (fun a hf => ?_)
                refine stepN hf rfl rfl rfl (fun a hf => ?_)
                refine stq hf rfl rfl rfl (ex_pickF hf rfl rfl) (fun a hf => ?_)
                refine stq hf rfl rfl rfl (ex_assign hf rfl) (fun a hf => ?_)
                refine hK26 _ _ ?_
                refine wp_ret ?_
                have eR := some_eq H; subst eR
                replace hs := hs.keep (.d (.d (.d (.d (.d .nil)))))
                exact ret1 Try.results12 hf rfl ⟨_, rfl, ⟨rfl, hs⟩⟩
            · -- not s20 = true
              refine seq_reg (fun K27 hK27 => ?_)
              refine stq hf rfl rfl rfl (ex_move hf rfl) (fun a hf => ?_)
              refine stq hf rfl rfl rfl (ex_eql hf rfl rfl) (fun a hf => ?_)
              refine stq hf rfl rfl rfl (ex_move hf rfl) (fun a hf => ?_)
              replace hf := hf.castB (t := 27) rfl (dec_t hc12)
              replace hf := hf.castB (t := 28) rfl (dec_t hc12)
              refine stq hf rfl rfl rfl (ex_move hf rfl) (fun a hf => ?_)
              refine stq hf rfl rfl rfl (ex_eql hf rfl rfl) (fun a hf => ?_)
              refine stq hf rfl rfl rfl (ex_pickT hf rfl rfl) (fun a hf => ?_)
              refine stq hf rfl rfl rfl (ex_move hf rfl) (fun a hf => ?_)
              replace hf := hf.castB (t := 30) rfl (dec_t hc13)
              replace hf := hf.castB (t := 31) rfl (dec_t hc13)
              replace hf := hf.castB (t := 32) rfl (dec_t hc13)
              refine stq hf rfl rfl rfl (ex_move hf rfl) (fun a hf => ?_)
              refine stq hf rfl rfl rfl (ex_eql hf rfl rfl) (fun a hf => ?_)
              refine stq hf rfl rfl rfl (ex_pickT hf rfl rfl) (fun a hf => ?_)
              refine stq hf rfl rfl rfl (ex_move hf rfl) (fun a hf => ?_)
              replace hf := hf.castB (t := 34) rfl (dec_t hc14)
              replace hf := hf.castB (t := 35) rfl (dec_t hc14)
              replace hf := hf.castB (t := 36) rfl (dec_t hc14)
              refine stq hf rfl rfl rfl (ex_move hf rfl) (fun a hf => ?_)
              refine stq hf rfl rfl rfl (ex_eql hf rfl rfl) (fun a hf => ?_)
              refine stq hf rfl rfl rfl (ex_pickT hf rfl rfl) (fun a hf => ?_)
              refine stq hf rfl rfl rfl (ex_move hf rfl) (fun a hf => ?_)
              replace hf := hf.castB (t := 38) rfl (dec_t hc15)
              replace hf := hf.castB (t := 39) rfl (dec_t hc15)
              replace hf := hf.castB (t := 40) rfl (dec_t hc15)
              refine stq hf rfl rfl rfl (ex_move hf rfl) (fun a hf => ?_)
              refine stq hf rfl rfl rfl (ex_build (cs := [.bool true, .int .u64 1000]) bt_40 hf rfl (.cons rfl (.cons rfl .nil)) rfl) (fun a hf => ?_)
              refine stq hf rfl rfl rfl (ex_build (cs := [.bool false, .int .u64 200]) bt_40 hf rfl (.cons rfl .nil) rfl) (fun a hf => ?_)
              refine stepV hf rfl rfl rfl (er_buildSlice (K := K_api_PerfOp) (xs := [(⟨true, 1000⟩ : PerfOp), (⟨false, 200⟩ : PerfOp)]) hs Try.underlying35 ep_40 rfl rfl hf rfl (.cons rfl (.cons rfl .nil)) rfl rfl) (fun v16 w hs a hf => ?_)
              refine stepF hf rfl rfl rfl (ex_call cf_21 hf rfl) (help_Equal_api_PerfOp.calls k s4.1 [(⟨true, 1000⟩ : PerfOp), (⟨false, 200⟩ : PerfOp)] v5 v16 (hs.enter (.k (.k (.k (.k .nil))))) (Sr.own hs (.k (.k (.k (.k .nil)))) (i := 2) rfl osl_rsl (fun _ h => h.1) (Sr.own hs (.k (.k (.k (.k .nil)))) (i := 0) rfl osl_rsl (fun _ h => h.1) (Sr.nil _ _))) hs17) (fun v w hR a hf => ?_)
              obtain ⟨rfl, hs'⟩ := hR
              replace hs := hs.step (.k (.k (.k (.k .nil)))) hs'
              clear hs'
              refine stq hf rfl rfl rfl (ex_pickT hf rfl rfl) (fun a hf => ?_)
              refine stq hf rfl rfl rfl (ex_move hf rfl) (fun a hf => ?_)
              replace hf := hf.castB (t := 45) rfl hc18
              replace hf := hf.castB (t := 46) rfl hc18
              replace hf := hf.castB (t := 47) rfl hc18
              refine stq hf rfl rfl rfl (ex_move hf rfl) (fun a hf => ?_)
              refine stq hf rfl rfl rfl (ex_build (cs := [.bool false, .int .u64 100]) bt_40 hf rfl (.cons rfl .nil) rfl) (fun a hf => ?_)
              refine stq hf rfl rfl rfl (ex_build (cs := [.bool true, .int .u64 900]) bt_40 hf rfl (.cons rfl (.cons rfl .nil)) rfl) (fun a hf => ?_)
              refine stepV hf rfl rfl rfl (er_buildSlice (K := K_api_PerfOp) (xs := [(⟨false, 100⟩ : PerfOp), (⟨true, 900⟩ : PerfOp)]) hs Try.underlying35 ep_40 rfl rfl hf rfl (.cons rfl (.cons rfl .nil)) rfl rfl) (fun v19 w hs a hf => ?_)
              refine stepF hf rfl rfl rfl (ex_call cf_21 hf rfl) (help_Equal_api_PerfOp.calls k s7.1 [(⟨false, 100⟩ : PerfOp), (⟨true, 900⟩ : PerfOp)] v8 v19 (hs.enter (.k (.k (.k (.k (.k .nil)))))) (Sr.own hs (.k (.k (.k (.k (.k .nil))))) (i := 2) rfl osl_rsl (fun _ h => h.1) (Sr.own hs (.k (.k (.k (.k (.k .nil))))) (i := 0) rfl osl_rsl (fun _ h => h.1) (Sr.nil _ _))) hs20) (fun v w hR a hf => ?_)
              obtain ⟨rfl, hs'⟩ := hR
              replace hs := hs.step (.k (.k (.k (.k (.k .nil))))) hs'
              clear hs'
              refine stq hf rfl rfl rfl (ex_pickT hf rfl rfl) (fun a hf => ?_)
              refine stq hf rfl rfl rfl (ex_move hf rfl) (fun a hf => ?_)
              replace hf := hf.castB (t := 52) rfl (bool_f hc21)
              replace hf := hf.castB (t := 53) rfl (bool_f hc21)
              replace hf := hf.castB (t := 54) rfl (bool_f hc21)
              refine stepN hf rfl rfl rfl (fun a hf => ?_)
              refine stepN hf rfl rfl rfl (fun a hf => ?_)
              refine stq hf rfl rfl rfl (ex_pickF hf rfl rfl) (fun a hf => ?_)
              refine stq hf rfl rfl rfl (ex_move hf rfl) (fun a hf => ?_)
              refine stepN hf rfl rfl rfl (fun a hf => ?_)
              refine stepN hf rfl rfl rfl (fun a hf => ?_)
              refine stepN hf rfl rfl rfl (fun a hf => ?_)
              refine stq hf rfl rfl rfl (ex_pickF hf rfl rfl) (fun a hf => ?_)
              refine stq hf rfl rfl rfl (ex_assign hf rfl) (fun a hf => ?_)
              refine hK27 _ _ ?_
              refine wp_ret ?_
              have eR := some_eq H; subst eR
              replace hs := hs.keep (.d (.d (.d (.d (.d .nil)))))
              exact ret1 Try.results12 hf rfl ⟨_, rfl, ⟨rfl, hs⟩⟩
          · -- not s17 = true
            refine seq_reg (fun K28 hK28 => ?_)
            refine stq hf rfl rfl rfl (ex_move hf rfl) (fun a hf => ?_)
            refine stq hf rfl rfl rfl (ex_eql hf rfl rfl) (fun a hf => ?_)
            refine stq hf rfl rfl rfl (ex_move hf rfl) (fun a hf => ?_)
            replace hf := hf.castB (t := 27) rfl (dec_t hc12)
            replace hf := hf.castB (t := 28) rfl (dec_t hc12)
            refine stq hf rfl rfl rfl (ex_move hf rfl) (fun a hf => ?_)
            refine stq hf rfl rfl rfl (ex_eql hf rfl rfl) (fun a hf => ?_)
            refine stq hf rfl rfl rfl (ex_pickT hf rfl rfl) (fun a hf => ?_)
            refine stq hf rfl rfl rfl (ex_move hf rfl) (fun a hf => ?_)
            replace hf := hf.castB (t := 30) rfl (dec_t hc13)
            replace hf := hf.castB (t := 31) rfl (dec_t hc13)
            replace hf := hf.castB (t := 32) rfl (dec_t hc13)
            refine stq hf rfl rfl rfl (ex_move hf rfl) (fun a hf => ?_)
            refine stq hf rfl rfl rfl (ex_eql hf rfl rfl) (fun a hf => ?_)
            refine stq hf rfl rfl rfl (ex_pickT hf rfl rfl) (fun a hf => ?_)
            refine stq hf rfl rfl rfl (ex_move hf rfl) (fun a hf => ?_)
            replace hf := hf.castB (t := 34) rfl (dec_t hc14)
            replace hf := hf.castB (t := 35) rfl (dec_t hc14)
            replace hf := hf.castB (t := 36) rfl (dec_t hc14)
            refine stq hf rfl rfl rfl (ex_move hf rfl) (fun a hf => ?_)
            refine stq hf rfl rfl rfl (ex_eql hf rfl rfl) (fun a hf => ?_)
            refine stq hf rfl rfl rfl (ex_pickT hf rfl rfl) (fun a hf => ?_)
            refine stq hf rfl rfl rfl (ex_move hf rfl) (fun a hf => ?_)
            replace hf := hf.castB (t := 38) rfl (dec_t hc15)
            replace hf := hf.castB (t := 39) rfl (dec_t hc15)
            replace hf := hf.castB (t := 40) rfl (dec_t hc15)
            refine stq hf rfl rfl rfl (ex_move hf rfl) (fun a hf => ?_)
            refine stq hf rfl rfl rfl (ex_build (cs := [.bool true, .int .u64 1000]) bt_40 hf rfl (.cons rfl (.cons rfl .nil)) rfl) (fun a hf => ?_)
            refine stq hf rfl rfl rfl (ex_build (cs := [.bool false, .int .u64 200]) bt_40 hf rfl (.cons rfl .nil) rfl) (fun a hf => ?_)
            refine stepV hf rfl rfl rfl (er_buildSlice (K := K_api_PerfOp) (xs := [(⟨true, 1000⟩ : PerfOp), (⟨false, 200⟩ : PerfOp)]) hs Try.underlying35 ep_40 rfl rfl hf rfl (.cons rfl (.cons rfl .nil)) rfl rfl) (fun v16 w hs a hf => ?_)
            refine stepF hf rfl rfl rfl (ex_call cf_21 hf rfl) (help_Equal_api_PerfOp.calls k s4.1 [(⟨true, 1000⟩ : PerfOp), (⟨false, 200⟩ : PerfOp)] v5 v16 (hs.enter (.k (.k (.k (.k .nil))))) (Sr.own hs (.k (.k (.k (.k .nil)))) (i := 2) rfl osl_rsl (fun _ h => h.1) (Sr.own hs (.k (.k (.k (.k .nil)))) (i := 0) rfl osl_rsl (fun _ h => h.1) (Sr.nil _ _))) hs17) (fun v w hR a hf => ?_)
            obtain ⟨rfl, hs'⟩ := hR
            replace hs := hs.step (.k (.k (.k (.k .nil)))) hs'
            clear hs'
            refine stq hf rfl rfl rfl (ex_pickT hf rfl rfl) (fun a hf => ?_)
            refine stq hf rfl rfl rfl (ex_move hf rfl) (fun a hf => ?_)
            replace hf := hf.castB (t := 45) rfl (bool_f hc18)
            replace hf := hf.castB (t := 46) rfl (bool_f hc18)
            replace hf := hf.castB (t := 47) rfl (bool_f hc18)
            refine stepN hf rfl rfl rfl (fun a hf => ?_)
            refine stepN hf rfl rfl rfl (fun a hf => ?_)
            refine stepN hf rfl rfl rfl (fun a hf => ?_)
            refine stepN hf rfl rfl rfl (fun a hf => ?_)
            refine stepN hf rfl rfl rfl (fun a hf => ?_)
            refine stq hf rfl rfl rfl (ex_pickF hf rfl rfl) (fun a hf => ?_)
            refine stq hf rfl rfl rfl (ex_move hf rfl) (fun a hf => ?_)
            refine stepN hf rfl rfl rfl (fun a hf => ?_)
            refine stepN hf rfl rfl rfl (fun a hf => ?_)
            refine stq hf rfl rfl rfl (ex_pickF hf rfl rfl) (fun a hf => ?_)
            refine stq hf rfl rfl rfl (ex_move hf rfl) (fun a hf => ?_)
            refine stepN hf rfl rfl rfl (fun a hf => ?_)
            refine stepN hf rfl rfl rfl (fun a hf => ?_)
            refine stepN hf rfl rfl rfl (fun a hf => ?_)
            refine stq hf rfl rfl rfl (ex_pickF hf rfl rfl) (fun a hf => ?_)
            refine stq hf rfl rfl rfl (ex_assign hf rfl) (fun a hf => ?_)
            refine hK28 _ _ ?_
            refine wp_ret ?_
            have eR := some_eq H; subst eR
            replace hs := hs.keep (.d (.d (.d (.d .nil))))
            exact ret1 Try.results12 hf rfl ⟨_, rfl, ⟨rfl, hs⟩⟩
        · -- not s10.1 = 1
          refine seq_reg (fun K29 hK29 => ?_)
          refine stq hf rfl rfl rfl (ex_move hf rfl) (fun a hf => ?_)
          refine stq hf rfl rfl rfl (ex_eql hf rfl rfl) (fun a hf => ?_)
          refine stq hf rfl rfl rfl (ex_move hf rfl) (fun a hf => ?_)
          replace hf := hf.castB (t := 27) rfl (dec_t hc12)
          replace hf := hf.castB (t := 28) rfl (dec_t hc12)
          refine stq hf rfl rfl rfl (ex_move hf rfl) (fun a hf => ?_)
          refine stq hf rfl rfl rfl (ex_eql hf rfl rfl) (fun a hf => ?_)
          refine stq hf rfl rfl rfl (ex_pickT hf rfl rfl) (fun a hf => ?_)
          refine stq hf rfl rfl rfl (ex_move hf rfl) (fun a hf => ?_)
          replace hf := hf.castB (t := 30) rfl (dec_t hc13)
          replace hf := hf.castB (t := 31) rfl (dec_t hc13)
          replace hf := hf.castB (t := 32) rfl (dec_t hc13)
          refine stq hf rfl rfl rfl (ex_move hf rfl) (fun a hf => ?_)
          refine stq hf rfl rfl rfl (ex_eql hf rfl rfl) (fun a hf => ?_)
          refine stq hf rfl rfl rfl (ex_pickT hf rfl rfl) (fun a hf => ?_)
          refine stq hf rfl rfl rfl (ex_move hf rfl) (fun a hf => ?_)
          replace hf := hf.castB (t := 34) rfl (dec_t hc14)
          replace hf := hf.castB (t := 35) rfl (dec_t hc14)
          replace hf := hf.castB (t := 36) rfl (dec_t hc14)
          refine stq hf rfl rfl rfl (ex_move hf rfl) (fun a hf => ?_)
          refine stq hf rfl rfl rfl (ex_eql hf rfl rfl) (fun a hf => ?_)
          refine stq hf rfl rfl rfl (ex_pickT hf rfl rfl) (fun a hf => ?_)
          refine stq hf rfl rfl rfl (ex_move hf rfl) (fun a hf => ?_)
          replace hf := hf.castB (t := 38) rfl (dec_f hc15)
          replace hf := hf.castB (t := 39) rfl (dec_f hc15)
          replace hf := hf.castB (t := 40) rfl (dec_f hc15)
          refine stepN hf rfl rfl rfl (fun a hf => ?_)
          refine stepN hf rfl rfl rfl (fun a hf => ?_)
          refine stepN hf rfl rfl rfl (fun a hf => ?_)
          refine stepN hf rfl rfl rfl (fun a hf => ?_)
          refine stepN hf rfl rfl rfl (fun a hf => ?_)
          refine stq hf rfl rfl rfl (ex_pickF hf rfl rfl) (fun a hf => ?_)
          refine stq hf rfl rfl rfl (ex_move hf rfl) (fun a hf => ?_)
          refine stepN hf rfl rfl rfl (fun a hf => ?_)
          refine stepN hf rfl rfl rfl (fun a hf => ?_)
          refine stepN hf rfl rfl rfl (fun a hf => ?_)
          refine stepN hf rfl rfl rfl (fun a hf => ?_)
          refine stepN hf rfl rfl rfl (fun a hf => ?_)
          refine stq hf rfl rfl rfl (ex_pickF hf rfl rfl) (fun a hf => ?_)
          refine stq hf rfl rfl rfl (ex_move hf rfl) (fun a hf => ?_)
          refine stepN hf rfl rfl rfl (fun a hf => ?_)
          refine stepN hf rfl rfl rfl (fun a hf => ?_)
          refine stq hf rfl rfl rfl (ex_pickF hf rfl rfl) (fun a hf => ?_)
          refine stq hf rfl rfl rfl (ex_move hf rfl) (fun a hf => ?_)
          refine stepN hf rfl rfl rfl (fun a hf => ?_)
          refine stepN hf rfl rfl rfl (fun a hf => ?_)
          refine stepN hf rfl rfl rfl (fun a hf => ?_)
          refine stq hf rfl rfl rfl (ex_pickF hf rfl rfl) (fun a hf => ?_)
          refine stq hf rfl rfl rfl (ex_assign hf rfl) (fun a hf => ?_)
          refine hK29 _ _ ?_
          refine wp_ret ?_
          have eR := some_eq H; subst eR
          replace hs := hs.keep (.d (.d (.d .nil)))
          exact ret1 Try.results12 hf rfl ⟨_, rfl, ⟨rfl, hs⟩⟩
      · -- not s10.2 = 0
        refine seq_reg (fun K30 hK30 => ?_)
        refine stq hf rfl rfl rfl (ex_move hf rfl) (fun a hf => ?_)
        refine stq hf rfl rfl rfl (ex_eql hf rfl rfl) (fun a hf => ?_)
        refine stq hf rfl rfl rfl (ex_move hf rfl) (fun a hf => ?_)
        replace hf := hf.castB (t := 27) rfl (dec_t hc12)
        replace hf := hf.castB (t := 28) rfl (dec_t hc12)
        refine stq hf rfl rfl rfl (ex_move hf rfl) (fun a hf => ?_)
        refine stq hf rfl rfl rfl (ex_eql hf rfl rfl) (fun a hf => ?_)
        refine stq hf rfl rfl rfl (ex_pickT hf rfl rfl) (fun a hf => ?_)
        refine stq hf rfl rfl rfl (ex_move hf rfl) (fun a hf => ?_)
        replace hf := hf.castB (t := 30) rfl (dec_t hc13)
        replace hf := hf.castB (t := 31) rfl (dec_t hc13)
        replace hf := hf.castB (t := 32) rfl (dec_t hc13)
        refine stq hf rfl rfl rfl (ex_move hf rfl) (fun a hf => ?_)
        refine stq hf rfl rfl rfl (ex_eql hf rfl rfl) (fun a hf => ?_)
        refine stq hf rfl rfl rfl (ex_pickT hf rfl rfl) (fun a hf => ?_)
        refine stq hf rfl rfl rfl (ex_move hf rfl) (fun a hf => ?_)
        replace hf := hf.castB (t := 34) rfl (dec_f hc14)
        replace hf := hf.castB (t := 35) rfl (dec_f hc14)
        replace hf := hf.castB (t := 36) rfl (dec_f hc14)
        refine stepN hf rfl rfl rfl (fun a hf => ?_)
        refine stepN hf rfl rfl rfl (fun a hf => ?_)
        refine stq hf rfl rfl rfl (ex_pickF hf rfl rfl) (fun a hf => ?_)
        refine stq hf rfl rfl rfl (ex_move hf rfl) (fun a hf => ?_)
        refine stepN hf rfl rfl rfl (fun a hf => ?_)
        refine stepN hf rfl rfl rfl (fun a hf => ?_)
        refine stepN hf rfl rfl rfl (fun a hf => ?_)
        refine stepN hf rfl rfl rfl (fun a hf => ?_)
        refine stepN hf rfl rfl rfl (fun a hf => ?_)
        refine stq hf rfl rfl rfl (ex_pickF hf rfl rfl) (fun a hf => ?_)
        refine stq hf rfl rfl rfl (ex_move hf rfl) (fun a hf => ?_)
        refine stepN hf rfl rfl rfl (fun a hf => ?_)
        refine stepN hf rfl rfl rfl (fun a hf => ?_)
        refine stepN hf rfl rfl rfl (fun a hf => ?_)
        refine stepN hf rfl rfl rfl (fun a hf => ?_)
        refine stepN hf rfl rfl rfl (fun a hf => ?_)
        refine stq hf rfl rfl rfl (ex_pickF hf rfl rfl) (fun a hf => ?_)
        refine stq hf rfl rfl rfl (ex_move hf rfl) (fun a hf => ?_)
        refine stepN hf rfl rfl rfl (fun a hf => ?_)
        refine stepN hf rfl rfl rfl (fun a hf => ?_)
        refine stq hf rfl rfl rfl (ex_pickF hf rfl rfl) (fun a hf => ?_)
        refine stq hf rfl rfl rfl (ex_move hf rfl) (fun a hf => ?_)
        refine stepN hf rfl rfl rfl (fun a hf => ?_)
        refine stepN hf rfl rfl rfl (fun a hf => ?_)
        refine stepN hf rfl rfl rfl (fun a hf => ?_)
        refine stq hf rfl rfl rfl (ex_pickF hf rfl rfl) (fun a hf => ?_)
        refine stq hf rfl rfl rfl (ex_assign hf rfl) (fun a hf => ?_)
        refine hK30 _ _ ?_
        refine wp_ret ?_
        have eR := some_eq H; subst eR
        replace hs := hs.keep (.d (.d (.d .nil)))
        exact ret1 Try.results12 hf rfl ⟨_, rfl, ⟨rfl, hs⟩⟩
    · -- not s7.2 = 0
      refine seq_reg (fun K31 hK31 => ?_)
      refine stq hf rfl rfl rfl (ex_move hf rfl) (fun a hf => ?_)
      refine stq hf rfl rfl rfl (ex_eql hf rfl rfl) (fun a hf => ?_)
      refine stq hf rfl rfl rfl (ex_move hf rfl) (fun a hf => ?_)
      replace hf := hf.castB (t := 27) rfl (dec_t hc12)
      replace hf := hf.castB (t := 28) rfl (dec_t hc12)
      refine stq hf rfl rfl rfl (ex_move hf rfl) (fun a hf => ?_)
      refine stq hf rfl rfl rfl (ex_eql hf rfl rfl) (fun a hf => ?_)
      refine stq hf rfl rfl rfl (ex_pickT hf rfl rfl) (fun a hf => ?_)
      refine stq hf rfl rfl rfl (ex_move hf rfl) (fun a hf => ?_)
      replace hf := hf.castB (t := 30) rfl (dec_f hc13)
      replace hf := hf.castB (t := 31) rfl (dec_f hc13)
      replace hf := hf.castB (t := 32) rfl (dec_f hc13)
      refine stepN hf rfl rfl rfl (fun a hf => ?_)
      refine stepN hf rfl rfl rfl (fun a hf => ?_)
      refine stq hf rfl rfl rfl (ex_pickF hf rfl rfl) (fun a hf => ?_)
      refine stq hf rfl rfl rfl (ex_move hf rfl) (fun a hf => ?_)
      refine stepN hf rfl rfl rfl (fun a hf => ?_)
      refine stepN hf rfl rfl rfl (fun a hf => ?_)
      refine stq hf rfl rfl rfl (ex_pickF hf rfl rfl) (fun a hf => ?_)
      refine stq hf rfl rfl rfl (ex_move hf rfl) (fun a hf => ?_)
      refine stepN hf rfl rfl rfl (fun a hf => ?_)
      refine stepN hf rfl rfl rfl (fun a hf => ?_)
      refine stepN hf rfl rfl rfl (fun a hf => ?_)
      refine stepN hf rfl rfl rfl (fun a hf => ?_)
      refine stepN hf rfl rfl rfl (fun a hf => ?_)
      refine stq hf rfl rfl rfl (ex_pickF hf rfl rfl) (fun a hf => ?_)
      refine stq hf rfl rfl rfl (ex_move hf rfl) (fun a hf => ?_)
      refine stepN hf rfl rfl rfl (fun a hf => ?_)
      refine stepN hf rfl rfl rfl (fun a hf => ?_)
      refine stepN hf rfl rfl rfl (fun a hf => ?_)
      refine stepN hf rfl rfl rfl (fun a hf => ?_)
      refine stepN hf rfl rfl rfl (fun a hf => ?_)
      refine stq hf rfl rfl rfl (ex_pickF hf rfl rfl) (fun a hf => ?_)
      refine stq hf rfl rfl rfl (ex_move hf rfl) (fun a hf => ?_)
      refine stepN hf rfl rfl rfl (fun a hf => ?_)
      refine stepN hf rfl rfl rfl (fun a hf => ?_)
      refine stq hf rfl rfl rfl (ex_pickF hf rfl rfl) (fun a hf => ?_)
      refine stq hf rfl rfl rfl (ex_move hf rfl) (fun a hf => ?_)
      refine stepN hf rfl rfl rfl (fun a hf => ?_)
      refine stepN hf rfl rfl rfl (fun a hf => ?_)
      refine stepN hf rfl rfl rfl (fun a hf => ?_)
      refine stq hf rfl rfl rfl (ex_pickF hf rfl rfl) (fun a hf => ?_)
      refine stq hf rfl rfl rfl (ex_assign hf rfl) (fun a hf => ?_)
      refine hK31 _ _ ?_
      refine wp_ret ?_
      have eR := some_eq H; subst eR
      replace hs := hs.keep (.d (.d (.d .nil)))
      exact ret1 Try.results12 hf rfl ⟨_, rfl, ⟨rfl, hs⟩⟩
  · -- not s4.2 = 0
    refine seq_reg (fun K32 hK32 => ?_)
    refine stq hf rfl rfl rfl (ex_move hf rfl) (fun a hf => ?_)
    refine stq hf rfl rfl rfl (ex_eql hf rfl rfl) (fun a hf => ?_)
    refine stq hf rfl rfl rfl (ex_move hf rfl) (fun a hf => ?_)
    replace hf := hf.castB (t := 27) rfl (dec_f hc12)
    replace hf := hf.castB (t := 28) rfl (dec_f hc12)
    refine stepN hf rfl rfl rfl (fun a hf => ?_)
    refine stepN hf rfl rfl rfl (fun a hf => ?_)
    refine stq hf rfl rfl rfl (ex_pickF hf rfl rfl) (fun a hf => ?_)
    refine stq hf rfl rfl rfl (ex_move hf rfl) (fun a hf => ?_)
    refine stepN hf rfl rfl rfl (fun a hf => ?_)
    refine stepN hf rfl rfl rfl (fun a hf => ?_)
    refine stq hf rfl rfl rfl (ex_pickF hf rfl rfl) (fun a hf => ?_)
    refine stq hf rfl rfl rfl (ex_move hf rfl) (fun a hf => ?_)
    refine stepN hf rfl rfl rfl (fun a hf => ?_)
    refine stepN hf rfl rfl rfl (fun a hf => ?_)
    refine stq hf rfl rfl rfl (ex_pickF hf rfl rfl) (fun a hf => ?_)
    refine stq hf rfl rfl rfl (ex_move hf rfl) (fun a hf => ?_)
    refine stepN hf rfl rfl rfl (fun a hf => ?_)
    refine stepN hf rfl rfl rfl (fun a hf => ?_)
    refine stepN hf rfl rfl rfl (fun a hf => ?_)
    refine stepN hf rfl rfl rfl (fun a hf => ?_)
    refine stepN hf rfl rfl rfl (fun a hf => ?_)
    refine stq hf rfl rfl rfl (ex_pickF hf rfl rfl) (fun a hf => ?_)
    refine stq hf rfl rfl rfl (ex_move hf rfl) (fun a hf => ?_)
    refine stepN hf rfl rfl rfl (fun a hf => ?_)
    refine stepN hf rfl rfl rfl (fun a hf => ?_)
    refine stepN hf rfl rfl rfl (fun a hf => ?_)
    refine stepN hf rfl rfl rfl (fun a hf => ?_)
    refine stepN hf rfl rfl rfl (fun a hf => ?_)
    refine stq hf rfl rfl rfl (ex_pickF hf rfl rfl) (fun a hf => ?_)
    refine stq hf rfl rfl rfl (ex_move hf rfl) (fun a hf => ?_)
    refine stepN hf rfl rfl rfl (fun a hf => ?_)
    refine stepN hf rfl rfl rfl (fun a hf => ?_)
    refine stq hf rfl rfl rfl (ex_pickF hf rfl rfl) (fun a hf => ?_)
    refine stq hf rfl rfl rfl (ex_move hf rfl) (fun a hf => ?_)
    refine stepN hf rfl rfl rfl (fun a hf => ?_)
    refine stepN hf rfl rfl rfl (fun a hf => ?_)
    refine stepN hf rfl rfl rfl (fun a hf => ?_)
    refine stq hf rfl rfl rfl (ex_pickF hf rfl rfl) (fun a hf => ?_)
    refine stq hf rfl rfl rfl (ex_assign hf rfl) (fun a hf => ?_)
    refine hK32 _ _ ?_
    refine wp_ret ?_
    have eR := some_eq H; subst eR
    replace hs := hs.keep (.d (.d (.d .nil)))
    exact ret1 Try.results12 hf rfl ⟨_, rfl, ⟨rfl, hs⟩⟩

set_option maxRecDepth 100000 in
theorem law36_Table.calls {M : Nat → Prop} {w0 : World} (k : Nat) (a0 : (List OperatingPoint)) (v0 : Value) {r : (List OperatingPoint)} (hs : St M w0 w0 []) (hr : Sr M w0 [rsl K_api_OperatingPoint v0 a0])
    (h : law36_Table.f k a0 = some r) : Calls Try.prog 13 #[v0] w0 fun e w => ∃ v, e = .returned v ∧ (∃ (g0 : Value), g0 = v ∧ St M w0 w [osl K_api_OperatingPoint g0 r]) := by
  have H := (law36_Table.f.eq_1 ..).symm.trans h
  clear h
  refine enter Try.func13 rfl Try.ntmps13 rfl (fun a hf => ?_)
  refine seq_reg (fun K1 hK1 => ?_)
  refine stq hf rfl rfl rfl (ex_assign hf rfl) (fun a hf => ?_)
  refine hK1 _ _ ?_
  refine seq_reg (fun K3 hK3 => ?_)
  refine stq hf rfl rfl rfl (ex_build (cs := [.int .u64 1, .int .u64 5, .int .u64 0]) bt_25 hf rfl (.cons rfl (.cons rfl .nil)) rfl) (fun a hf => ?_)
  refine stepV hf rfl rfl rfl (er_buildSlice (K := K_api_OperatingPoint) (xs := [(⟨1, 5, 0⟩ : OperatingPoint)]) hs Try.underlying22 ep_25 rfl rfl hf rfl (.cons rfl .nil) rfl rfl) (fun v2 w hs a hf => ?_)
  refine stq hf rfl rfl rfl (ex_assign hf rfl) (fun a hf => ?_)
  refine hK3 _ _ ?_
  refine bnd H (fun x4 H4 HO4 => ?_)
  clear H
  refine seq_cut (fun a w => Fr a 81 [(0, v0), (3, v2)] ∧ St M w0 w [osl K_api_OperatingPoint v2 x4]) (fun Q4 hJ4 hR4 hX4 => ?_) (fun a w hJ => ?_)
  · replace H := H4
    refine seq_reg (fun K5 hK5 => ?_)
    refine stq hf rfl rfl rfl (ex_move hf rfl) (fun a hf => ?_)
    refine stq hf rfl rfl rfl (ex_lenS Try.underlying22 (rsl_isSl (hr.now hs (i := 0) rfl)) hf rfl) (fun a hf => ?_)
    refine stq hf rfl rfl rfl (ex_gtr hf rfl rfl) (fun a hf => ?_)
    refine hK5 _ _ ?_
    refine itt H (fun hc6 H => ?_) (fun hc6 H => ?_)
    · -- 0 < (a0.length : Int)
      replace hf := hf.castB (t := 10) rfl (dec_t hc6)
      refine cond_T hf rfl ?_
      refine ck_some H (fun hc7 H => ?_)
      refine ck_some H (fun hc8 H => ?_)
      refine region_d fol 18 [(0, v0), (3, v2)] [(0, v2), (1, v0), (2, .pointer (some (sla v0 ((0 : Int).toNat * 3)))), (3, .pointer (some (sla v0 ((0 : Int).toNat * 3 + 0)))), (4, .int .u64 ((gd OperatingPoint.zero a0 0).Frequency)), (5, .int .u64 (Int.tmod ((gd OperatingPoint.zero a0 0).Frequency) 100)), (6, .int .u64 (IntKind.u64.wrap (1 + (Int.tmod ((gd OperatingPoint.zero a0 0).Frequency) 100)))), (7, v0), (8, .pointer (some (sla v0 ((0 : Int).toNat * 3)))), (9, .pointer (some (sla v0 ((0 : Int).toNat * 3 + 1)))), (10, .int .u64 ((gd OperatingPoint.zero a0 0).Voltage)), (11, .int .u64 (Int.tmod ((gd OperatingPoint.zero a0 0).Voltage) 100)), (12, v0), (13, .pointer (some (sla v0 ((0 : Int).toNat * 3)))), (14, .pointer (some (sla v0 ((0 : Int).toNat * 3 + 2)))), (15, .int .u64 ((gd OperatingPoint.zero a0 0).Power)), (16, .int .u64 (Int.tmod ((gd OperatingPoint.zero a0 0).Power) 100)), (17, .agg #[.int .u64 (IntKind.u64.wrap (1 + (Int.tmod ((gd OperatingPoint.zero a0 0).Frequency) 100))), .int .u64 (Int.tmod ((gd OperatingPoint.zero a0 0).Voltage) 100), .int .u64 (Int.tmod ((gd OperatingPoint.zero a0 0).Power) 100)])] [] (fun w => (rsl K_api_OperatingPoint v0 a0).ok w ∧ True) (fun w => St M w0 w [osl K_api_OperatingPoint v2 [(⟨1, 5, 0⟩ : OperatingPoint)]]) hf ⟨rfl, rfl, trivial⟩ (by kernel_rfl) (by kernel_rfl) rfl (by decide) ⟨hr.now hs.drew (i := 0) rfl, trivial⟩ hs.drew (.cons (⟨_, _, rfl, rfl, rfl, rfl, fun a w hR hf => .inl ⟨wanted_yes hf rfl, ex_move hf rfl⟩⟩) (.cons (⟨_, _, rfl, rfl, rfl, rfl, fun a w hR hf => .inl ⟨wanted_yes hf rfl, ex_move hf rfl⟩⟩) (.cons (⟨_, _, rfl, rfl, rfl, rfl, fun a w hR hf => .inl ⟨wanted_yes hf rfl, ex_indexAddr sa_22 (rsl_isSl hR.1) hc7.1 hc7.2 hf rfl rfl⟩⟩) (.cons (⟨_, _, rfl, rfl, rfl, rfl, fun a w hR hf => .inl ⟨wanted_yes hf rfl, ex_fieldAddrS fa_25_0 rfl hf rfl⟩⟩) (.cons (⟨_, _, rfl, rfl, rfl, rfl, fun a w hR hf => .inl ⟨wanted_yes hf rfl, ex_load sc_23 hf rfl (el_cell (K := K_api_OperatingPoint) (f := 0) (rsl_rd hR.1) hc7.1 hc7.2 rfl)⟩⟩) (.cons (⟨_, _, rfl, rfl, rfl, rfl, fun a w hR hf => .inl ⟨wanted_yes hf rfl, ex_rem hf rfl rfl (by decide)⟩⟩) (.cons (⟨_, _, rfl, rfl, rfl, rfl, fun a w hR hf => .inl ⟨wanted_yes hf rfl, ex_add hf rfl rfl⟩⟩) (.cons (⟨_, _, rfl, rfl, rfl, rfl, fun a w hR hf => .inl ⟨wanted_yes hf rfl, ex_move hf rfl⟩⟩) (.cons (⟨_, _, rfl, rfl, rfl, rfl, fun a w hR hf => .inl ⟨wanted_yes hf rfl, ex_indexAddr sa_22 (rsl_isSl hR.1) hc7.1 hc7.2 hf rfl rfl⟩⟩) (.cons (⟨_, _, rfl, rfl, rfl, rfl, fun a w hR hf => .inl ⟨wanted_yes hf rfl, ex_fieldAddrS fa_25_1 rfl hf rfl⟩⟩) (.cons (⟨_, _, rfl, rfl, rfl, rfl, fun a w hR hf => .inl ⟨wanted_yes hf rfl, ex_load sc_23 hf rfl (el_cell (K := K_api_OperatingPoint) (f := 1) (rsl_rd hR.1) hc7.1 hc7.2 rfl)⟩⟩) (.cons (⟨_, _, rfl, rfl, rfl, rfl, fun a w hR hf => .inl ⟨wanted_yes hf rfl, ex_rem hf rfl rfl (by decide)⟩⟩) (.cons (⟨_, _, rfl, rfl, rfl, rfl, fun a w hR hf => .inl ⟨wanted_yes hf rfl, ex_move hf rfl⟩⟩) (.cons (⟨_, _, rfl, rfl, rfl, rfl, fun a w hR hf => .inl ⟨wanted_yes hf rfl, ex_indexAddr sa_22 (rsl_isSl hR.1) hc7.1 hc7.2 hf rfl rfl⟩⟩) (.cons (⟨_, _, rfl, rfl, rfl, rfl, fun a w hR hf => .inl ⟨wanted_yes hf rfl, ex_fieldAddrS fa_25_2 rfl hf rfl⟩⟩) (.cons (⟨_, _, rfl, rfl, rfl, rfl, fun a w hR hf => .inl ⟨wanted_yes hf rfl, ex_load sc_23 hf rfl (el_cell (K := K_api_OperatingPoint) (f := 2) (rsl_rd hR.1) hc7.1 hc7.2 rfl)⟩⟩) (.cons (⟨_, _, rfl, rfl, rfl, rfl, fun a w hR hf => .inl ⟨wanted_yes hf rfl, ex_rem hf rfl rfl (by decide)⟩⟩) (.cons (⟨_, _, rfl, rfl, rfl, rfl, fun a w hR hf => .inl ⟨wanted_yes hf rfl, ex_build (cs := [.int .u64 (IntKind.u64.wrap (1 + (Int.tmod ((gd OperatingPoint.zero a0 0).Frequency) 100))), .int .u64 (Int.tmod ((gd OperatingPoint.zero a0 0).Voltage) 100), .int .u64 (Int.tmod ((gd OperatingPoint.zero a0 0).Power) 100)]) bt_25 hf rfl (.cons rfl (.cons rfl (.cons rfl .nil))) rfl⟩⟩) (.nil))))))))))))))))))) (fun K9 hK9 => ?_)
      refine RW.zero (by kernel_rfl) (by kernel_rfl) [(0, v0), (3, v2), (11, v2), (28, .agg #[.int .u64 (IntKind.u64.wrap (1 + (Int.tmod ((gd OperatingPoint.zero a0 0).Frequency) 100))), .int .u64 (Int.tmod ((gd OperatingPoint.zero a0 0).Voltage) 100), .int .u64 (Int.tmod ((gd OperatingPoint.zero a0 0).Power) 100)])] ⟨rfl, rfl, rfl, rfl, trivial⟩ (fun a w hR hs hf => ?_)
      refine stq hf rfl rfl rfl (ex_indexAddr sa_22 (rsl_isSl (osl_rsl _ (hs.get (i := 0) rfl))) hc8.1 hc8.2 hf rfl rfl) (fun a hf => ?_)
      refine stepS hf rfl rfl (er_storeX (K := K_api_OperatingPoint) (x' := (⟨(IntKind.u64.wrap (1 + (Int.tmod ((gd OperatingPoint.zero a0 0).Frequency) 100))), (Int.tmod ((gd OperatingPoint.zero a0 0).Voltage) 100), (Int.tmod ((gd OperatingPoint.zero a0 0).Power) 100)⟩ : OperatingPoint)) (vs := [.int .u64 (IntKind.u64.wrap (1 + (Int.tmod ((gd OperatingPoint.zero a0 0).Frequency) 100))), .int .u64 (Int.tmod ((gd OperatingPoint.zero a0 0).Voltage) 100), .int .u64 (Int.tmod ((gd OperatingPoint.zero a0 0).Power) 100)]) hs (.c .nil) hc8.1 hc8.2 hf rfl rfl sz_25 rfl) (fun w hs => ?_)
      refine hK9 _ _ ?_
      have e4 := some_eq H; subst e4
      exact hJ4 _ _ ⟨hf.sub ⟨rfl, rfl, trivial⟩, hs⟩
    · -- not 0 < (a0.length : Int)
      replace hf := hf.castB (t := 10) rfl (dec_f hc6)
      refine cond_F hf rfl ?_
      refine wp_skip ?_
      have e4 := some_eq H; subst e4
      exact hJ4 _ _ ⟨hf.sub ⟨rfl, rfl, trivial⟩, hs⟩
  · obtain ⟨hf, hs⟩ := hJ
    replace H := HO4
    clear HO4
    refine bnd H (fun x10 H10 HO10 => ?_)
    clear H
    refine seq_cut (fun a w => ∃ (v11 : Value), Fr a 81 [(3, v11)] ∧ St M w0 w [osl K_api_OperatingPoint v11 x10]) (fun Q10 hJ10 hR10 hX10 => ?_) (fun a w hJ => ?_)
    · replace H := H10
      refine seq_reg (fun K12 hK12 => ?_)
      refine stq hf rfl rfl rfl (ex_assign hf rfl) (fun a hf => ?_)
      refine hK12 _ _ ?_
      refine block_k (fun Q13 hN13 hR13 hX13 hY13 => ?_)
      refine loop_k (fun n a w => ∃ (y15 : (List OperatingPoint)) (y16 : Int) (v14 : Value), Fr a 81 [(0, v0), (3, v14), (4, .int .i64 y16)] ∧ St M w0 w [osl K_api_OperatingPoint v14 y15] ∧ law36_Table.l1 n a0 y15 y16 = some x10) k ?_ (fun n18 a w hI Q18 hL18 hR18 hX18 => ?_)
      · -- at the start
        exact ⟨x4, 1, v2, hf.sub ⟨rfl, rfl, rfl, trivial⟩, hs, H⟩
      · obtain ⟨y15, y16, v14, hf, hs, H⟩ := hI
        cases n18 with
        | zero => exact absurd H (by rw [law36_Table.l1.eq_1]; intro h; cases h)
        | succ k18 =>
          replace H := (law36_Table.l1.eq_2 ..).symm.trans H
          refine seq_n (fun Q19 hN19 hR19 hX19 => ?_)
          refine bnd H (fun x20 H20 HO20 => ?_)
          clear H
          refine seq_cut (fun a w => Fr a 81 [(0, v0), (3, v14), (4, .int .i64 y16), (37, .bool x20)] ∧ St M w0 w [osl K_api_OperatingPoint v14 y15]) (fun Q20 hJ20 hR20 hX20 => ?_) (fun a w hJ => ?_)
          · replace H := H20
            refine itt H (fun hc21 H => ?_) (fun hc21 H => ?_)
            · -- y16 < (a0.length : Int)
              refine region_k (fun K22 hK22 => ?_)
              refine stq hf rfl rfl rfl (ex_move hf rfl) (fun a hf => ?_)
              refine stq hf rfl rfl rfl (ex_move hf rfl) (fun a hf => ?_)
              refine stq hf rfl rfl rfl (ex_lenS Try.underlying22 (rsl_isSl (hr.now hs (i := 0) rfl)) hf rfl) (fun a hf => ?_)
              refine stq hf rfl rfl rfl (ex_lss hf rfl rfl) (fun a hf => ?_)
              refine stq hf rfl rfl rfl (ex_move hf rfl) (fun a hf => ?_)
              replace hf := hf.castB (t := 33) rfl (dec_t hc21)
              replace hf := hf.castB (t := 34) rfl (dec_t hc21)
              refine stq hf rfl rfl rfl (ex_move hf rfl) (fun a hf => ?_)
              refine stq hf rfl rfl rfl (ex_lss hf rfl rfl) (fun a hf => ?_)
              refine stq hf rfl rfl rfl (ex_pickT hf rfl rfl) (fun a hf => ?_)
              refine hK22 _ _ ?_
              have e20 := some_eq H; subst e20
              exact hJ20 _ _ ⟨hf.sub ⟨rfl, rfl, rfl, rfl, trivial⟩, hs⟩
            · -- not y16 < (a0.length : Int)
              refine region_k (fun K23 hK23 => ?_)
              refine stq hf rfl rfl rfl (ex_move hf rfl) (fun a hf => ?_)
              refine stq hf rfl rfl rfl (ex_move hf rfl) (fun a hf => ?_)
              refine stq hf rfl rfl rfl (ex_lenS Try.underlying22 (rsl_isSl (hr.now hs (i := 0) rfl)) hf rfl) (fun a hf => ?_)
              refine stq hf rfl rfl rfl (ex_lss hf rfl rfl) (fun a hf => ?_)
              refine stq hf rfl rfl rfl (ex_move hf rfl) (fun a hf => ?_)
              replace hf := hf.castB (t := 33) rfl (dec_f hc21)
              replace hf := hf.castB (t := 34) rfl (dec_f hc21)
              refine stepN hf rfl rfl rfl (fun a hf => ?_)
              refine stepN hf rfl rfl rfl (fun a hf => ?_)
              refine stq hf rfl rfl rfl (ex_pickF hf rfl rfl) (fun a hf => ?_)
              refine hK23 _ _ ?_
              have e20 := some_eq H; subst e20
              exact hJ20 _ _ ⟨hf.sub ⟨rfl, rfl, rfl, rfl, trivial⟩, hs⟩
          · obtain ⟨hf, hs⟩ := hJ
            replace H := HO20
            clear HO20
            refine itt H (fun hc24 H => ?_) (fun hc24 H => ?_)
            · -- x20 = true
              replace hf := hf.castB (t := 37) rfl hc24
              refine cond_T hf rfl ?_
              refine wp_skip ?_
              refine hN19 _ _ ?_
              refine seq_n (fun Q25 hN25 hR25 hX25 => ?_)
              refine block_k (fun Q26 hN26 hR26 hX26 hY26 => ?_)
              refine ck_some H (fun hc27 H => ?_)
              refine seq_reg (fun K29 hK29 => ?_)
              refine stq hf rfl rfl rfl (ex_move hf rfl) (fun a hf => ?_)
              refine stq hf rfl rfl rfl (ex_move hf rfl) (fun a hf => ?_)
              refine stq hf rfl rfl rfl (ex_sub hf rfl rfl) (fun a hf => ?_)
              refine stq hf rfl rfl rfl (ex_indexAddr sa_22 (rsl_isSl (osl_rsl _ (hs.get (i := 0) rfl))) hc27.1 hc27.2 hf rfl rfl) (fun a hf => ?_)
              refine stq hf rfl rfl rfl (ex_loadA (cs := [.int .u64 ((gd OperatingPoint.zero y15 (IntKind.i64.wrap (y16 - 1))).Frequency), .int .u64 ((gd OperatingPoint.zero y15 (IntKind.i64.wrap (y16 - 1))).Voltage), .int .u64 ((gd OperatingPoint.zero y15 (IntKind.i64.wrap (y16 - 1))).Power)]) ag_25 hf rfl (el_cells (K := K_api_OperatingPoint) (rsl_rd (osl_rsl _ (hs.get (i := 0) rfl))) hc27.1 hc27.2 rfl)) (fun a hf => ?_)
              refine stepV hf rfl rfl rfl (er_alloc hs ti_25 (cs := [.int .u64 0, .int .u64 0, .int .u64 0]) rfl) (fun v w hR a hf => ?_)
              obtain ⟨b28, rfl, hs⟩ := hR
              refine stepS hf rfl rfl (er_storeAB (vs := [.int .u64 ((gd OperatingPoint.zero y15 (IntKind.i64.wrap (y16 - 1))).Frequency), .int .u64 ((gd OperatingPoint.zero y15 (IntKind.i64.wrap (y16 - 1))).Voltage), .int .u64 ((gd OperatingPoint.zero y15 (IntKind.i64.wrap (y16 - 1))).Power)]) (cs' := [.int .u64 ((gd OperatingPoint.zero y15 (IntKind.i64.wrap (y16 - 1))).Frequency), .int .u64 ((gd OperatingPoint.zero y15 (IntKind.i64.wrap (y16 - 1))).Voltage), .int .u64 ((gd OperatingPoint.zero y15 (IntKind.i64.wrap (y16 - 1))).Power)]) hs (.c (.k .nil)) sz_25 hf rfl rfl (all1 rfl (all1 rfl (all1 rfl (all1_nil)))) rfl rfl) (fun w hs => ?_)
              refine hK29 _ _ ?_
              refine seq_n (fun Q30 hN30 hR30 hX30 => ?_)
              refine ck_some H (fun hc31 H => ?_)
              refine region_d fol 10 [(0, v0), (3, v14), (4, .int .i64 y16), (5, .pointer (some ⟨b28, 0, none⟩))] [(0, .pointer (some ⟨b28, 0, none⟩)), (1, .int .u64 ((gd OperatingPoint.zero y15 (IntKind.i64.wrap (y16 - 1))).Frequency)), (2, .int .u64 (IntKind.u64.wrap (((gd OperatingPoint.zero y15 (IntKind.i64.wrap (y16 - 1))).Frequency) + 1))), (3, v0), (4, .int .i64 y16), (5, .pointer (some (sla v0 (y16.toNat * 3)))), (6, .pointer (some (sla v0 (y16.toNat * 3 + 0)))), (7, .int .u64 ((gd OperatingPoint.zero a0 y16).Frequency)), (8, .int .u64 (Int.tmod ((gd OperatingPoint.zero a0 y16).Frequency) 100)), (9, .int .u64 (IntKind.u64.wrap ((IntKind.u64.wrap (((gd OperatingPoint.zero y15 (IntKind.i64.wrap (y16 - 1))).Frequency) + 1)) + (Int.tmod ((gd OperatingPoint.zero a0 y16).Frequency) 100))))] [] (fun w => (bx b28 25 [.int .u64 ((gd OperatingPoint.zero y15 (IntKind.i64.wrap (y16 - 1))).Frequency), .int .u64 ((gd OperatingPoint.zero y15 (IntKind.i64.wrap (y16 - 1))).Voltage), .int .u64 ((gd OperatingPoint.zero y15 (IntKind.i64.wrap (y16 - 1))).Power)]).ok w ∧ (rsl K_api_OperatingPoint v0 a0).ok w ∧ True) (fun w => St M w0 w [bx b28 25 [.int .u64 ((gd OperatingPoint.zero y15 (IntKind.i64.wrap (y16 - 1))).Frequency), .int .u64 ((gd OperatingPoint.zero y15 (IntKind.i64.wrap (y16 - 1))).Voltage), .int .u64 ((gd OperatingPoint.zero y15 (IntKind.i64.wrap (y16 - 1))).Power)], osl K_api_OperatingPoint v14 y15]) hf ⟨rfl, rfl, rfl, rfl, trivial⟩ (by kernel_rfl) (by kernel_rfl) rfl (by decide) ⟨hs.drew.get (i := 0) rfl, hr.now hs.drew (i := 0) rfl, trivial⟩ hs.drew (.cons (⟨_, _, rfl, rfl, rfl, rfl, fun a w hR hf => .inl ⟨wanted_yes hf rfl, ex_fieldAddrB fa_25_0 rfl hf rfl⟩⟩) (.cons (⟨_, _, rfl, rfl, rfl, rfl, fun a w hR hf => .inl ⟨wanted_yes hf rfl, ex_load sc_23 hf rfl (bx_cell (hR.1) _ rfl)⟩⟩) (.cons (⟨_, _, rfl, rfl, rfl, rfl, fun a w hR hf => .inl ⟨wanted_yes hf rfl, ex_add hf rfl rfl⟩⟩) (.cons (⟨_, _, rfl, rfl, rfl, rfl, fun a w hR hf => .inl ⟨wanted_yes hf rfl, ex_move hf rfl⟩⟩) (.cons (⟨_, _, rfl, rfl, rfl, rfl, fun a w hR hf => .inl ⟨wanted_yes hf rfl, ex_move hf rfl⟩⟩) (.cons (⟨_, _, rfl, rfl, rfl, rfl, fun a w hR hf => .inl ⟨wanted_yes hf rfl, ex_indexAddr sa_22 (rsl_isSl hR.2.1) hc31.1 hc31.2 hf rfl rfl⟩⟩) (.cons (⟨_, _, rfl, rfl, rfl, rfl, fun a w hR hf => .inl ⟨wanted_yes hf rfl, ex_fieldAddrS fa_25_0 rfl hf rfl⟩⟩) (.cons (⟨_, _, rfl, rfl, rfl, rfl, fun a w hR hf => .inl ⟨wanted_yes hf rfl, ex_load sc_23 hf rfl (el_cell (K := K_api_OperatingPoint) (f := 0) (rsl_rd hR.2.1) hc31.1 hc31.2 rfl)⟩⟩) (.cons (⟨_, _, rfl, rfl, rfl, rfl, fun a w hR hf => .inl ⟨wanted_yes hf rfl, ex_rem hf rfl rfl (by decide)⟩⟩) (.cons (⟨_, _, rfl, rfl, rfl, rfl, fun a w hR hf => .inl ⟨wanted_yes hf rfl, ex_add hf rfl rfl⟩⟩) (.nil))))))))))) (fun K32 hK32 => ?_)
              refine RW.zero (by kernel_rfl) (by kernel_rfl) [(0, v0), (3, v14), (4, .int .i64 y16), (5, .pointer (some ⟨b28, 0, none⟩)), (54, .int .u64 (IntKind.u64.wrap ((IntKind.u64.wrap (((gd OperatingPoint.zero y15 (IntKind.i64.wrap (y16 - 1))).Frequency) + 1)) + (Int.tmod ((gd OperatingPoint.zero a0 y16).Frequency) 100))))] ⟨rfl, rfl, rfl, rfl, rfl, trivial⟩ (fun a w hR hs hf => ?_)
              refine stq hf rfl rfl rfl (ex_fieldAddrB fa_25_0 rfl hf rfl) (fun a hf => ?_)
              refine stepS hf rfl rfl (er_storeB hs (.c (.k .nil)) hf rfl rfl rfl sz_23 rfl) (fun w hs => ?_)
              refine hK32 _ _ ?_
              refine hN30 _ _ ?_
              refine seq_n (fun Q33 hN33 hR33 hX33 => ?_)
              refine region_d fol 9 [(0, v0), (3, v14), (4, .int .i64 y16), (5, .pointer (some ⟨b28, 0, none⟩))] [(0, .pointer (some ⟨b28, 1, none⟩)), (1, .int .u64 ((gd OperatingPoint.zero y15 (IntKind.i64.wrap (y16 - 1))).Voltage)), (2, v0), (3, .int .i64 y16), (4, .pointer (some (sla v0 (y16.toNat * 3)))), (5, .pointer (some (sla v0 (y16.toNat * 3 + 1)))), (6, .int .u64 ((gd OperatingPoint.zero a0 y16).Voltage)), (7, .int .u64 (Int.tmod ((gd OperatingPoint.zero a0 y16).Voltage) 4)), (8, .int .u64 (IntKind.u64.wrap (((gd OperatingPoint.zero y15 (IntKind.i64.wrap (y16 - 1))).Voltage) + (Int.tmod ((gd OperatingPoint.zero a0 y16).Voltage) 4))))] [] (fun w => (bx b28 25 [.int .u64 (IntKind.u64.wrap ((IntKind.u64.wrap (((gd OperatingPoint.zero y15 (IntKind.i64.wrap (y16 - 1))).Frequency) + 1)) + (Int.tmod ((gd OperatingPoint.zero a0 y16).Frequency) 100))), .int .u64 ((gd OperatingPoint.zero y15 (IntKind.i64.wrap (y16 - 1))).Voltage), .int .u64 ((gd OperatingPoint.zero y15 (IntKind.i64.wrap (y16 - 1))).Power)]).ok w ∧ (rsl K_api_OperatingPoint v0 a0).ok w ∧ True) (fun w => St M w0 w [bx b28 25 [.int .u64 (IntKind.u64.wrap ((IntKind.u64.wrap (((gd OperatingPoint.zero y15 (IntKind.i64.wrap (y16 - 1))).Frequency) + 1)) + (Int.tmod ((gd OperatingPoint.zero a0 y16).Frequency) 100))), .int .u64 ((gd OperatingPoint.zero y15 (IntKind.i64.wrap (y16 - 1))).Voltage), .int .u64 ((gd OperatingPoint.zero y15 (IntKind.i64.wrap (y16 - 1))).Power)], osl K_api_OperatingPoint v14 y15]) hf ⟨rfl, rfl, rfl, rfl, trivial⟩ (by kernel_rfl) (by kernel_rfl) rfl (by decide) ⟨hs.drew.get (i := 0) rfl, hr.now hs.drew (i := 0) rfl, trivial⟩ hs.drew (.cons (⟨_, _, rfl, rfl, rfl, rfl, fun a w hR hf => .inl ⟨wanted_yes hf rfl, ex_fieldAddrB fa_25_1 rfl hf rfl⟩⟩) (.cons (⟨_, _, rfl, rfl, rfl, rfl, fun a w hR hf => .inl ⟨wanted_yes hf rfl, ex_load sc_23 hf rfl (bx_cell (hR.1) _ rfl)⟩⟩) (.cons (⟨_, _, rfl, rfl, rfl, rfl, fun a w hR hf => .inl ⟨wanted_yes hf rfl, ex_move hf rfl⟩⟩) (.cons (⟨_, _, rfl, rfl, rfl, rfl, fun a w hR hf => .inl ⟨wanted_yes hf rfl, ex_move hf rfl⟩⟩) (.cons (⟨_, _, rfl, rfl, rfl, rfl, fun a w hR hf => .inl ⟨wanted_yes hf rfl, ex_indexAddr sa_22 (rsl_isSl hR.2.1) hc31.1 hc31.2 hf rfl rfl⟩⟩) (.cons (⟨_, _, rfl, rfl, rfl, rfl, fun a w hR hf => .inl ⟨wanted_yes hf rfl, ex_fieldAddrS fa_25_1 rfl hf rfl⟩⟩) (.cons (⟨_, _, rfl, rfl, rfl, rfl, fun a w hR hf => .inl ⟨wanted_yes hf rfl, ex_load sc_23 hf rfl (el_cell (K := K_api_OperatingPoint) (f := 1) (rsl_rd hR.2.1) hc31.1 hc31.2 rfl)⟩⟩) (.cons (⟨_, _, rfl, rfl, rfl, rfl, fun a w hR hf => .inl ⟨wanted_yes hf rfl, ex_rem hf rfl rfl (by decide)⟩⟩) (.cons (⟨_, _, rfl, rfl, rfl, rfl, fun a w hR hf => .inl ⟨wanted_yes hf rfl, ex_add hf rfl rfl⟩⟩) (.nil)))))))))) (fun K34 hK34 => ?_)
              refine RW.zero (by kernel_rfl) (by kernel_rfl) [(0, v0), (3, v14), (4, .int .i64 y16), (5, .pointer (some ⟨b28, 0, none⟩)), (64, .int .u64 (IntKind.u64.wrap (((gd OperatingPoint.zero y15 (IntKind.i64.wrap (y16 - 1))).Voltage) + (Int.tmod ((gd OperatingPoint.zero a0 y16).Voltage) 4))))] ⟨rfl, rfl, rfl, rfl, rfl, trivial⟩ (fun a w hR hs hf => ?_)
              refine stq hf rfl rfl rfl (ex_fieldAddrB fa_25_1 rfl hf rfl) (fun a hf => ?_)
              refine stepS hf rfl rfl (er_storeB hs (.c (.k .nil)) hf rfl rfl rfl sz_23 rfl) (fun w hs => ?_)
              refine hK34 _ _ ?_
              refine hN33 _ _ ?_
              refine seq_n (fun Q35 hN35 hR35 hX35 => ?_)
              refine region_d fol 9 [(0, v0), (3, v14), (4, .int .i64 y16), (5, .pointer (some ⟨b28, 0, none⟩))] [(0, .pointer (some ⟨b28, 2, none⟩)), (1, .int .u64 ((gd OperatingPoint.zero y15 (IntKind.i64.wrap (y16 - 1))).Power)), (2, v0), (3, .int .i64 y16), (4, .pointer (some (sla v0 (y16.toNat * 3)))), (5, .pointer (some (sla v0 (y16.toNat * 3 + 2)))), (6, .int .u64 ((gd OperatingPoint.zero a0 y16).Power)), (7, .int .u64 (Int.tmod ((gd OperatingPoint.zero a0 y16).Power) 30)), (8, .int .u64 (IntKind.u64.wrap (((gd OperatingPoint.zero y15 (IntKind.i64.wrap (y16 - 1))).Power) + (Int.tmod ((gd OperatingPoint.zero a0 y16).Power) 30))))] [] (fun w => (bx b28 25 [.int .u64 (IntKind.u64.wrap ((IntKind.u64.wrap (((gd OperatingPoint.zero y15 (IntKind.i64.wrap (y16 - 1))).Frequency) + 1)) + (Int.tmod ((gd OperatingPoint.zero a0 y16).Frequency) 100))), .int .u64 (IntKind.u64.wrap (((gd OperatingPoint.zero y15 (IntKind.i64.wrap (y16 - 1))).Voltage) + (Int.tmod ((gd OperatingPoint.zero a0 y16).Voltage) 4))), .int .u64 ((gd OperatingPoint.zero y15 (IntKind.i64.wrap (y16 - 1))).Power)]).ok w ∧ (rsl K_api_OperatingPoint v0 a0).ok w ∧ True) (fun w => St M w0 w [bx b28 25 [.int .u64 (IntKind.u64.wrap ((IntKind.u64.wrap (((gd OperatingPoint.zero y15 (IntKind.i64.wrap (y16 - 1))).Frequency) + 1)) + (Int.tmod ((gd OperatingPoint.zero a0 y16).Frequency) 100))), .int .u64 (IntKind.u64.wrap (((gd OperatingPoint.zero y15 (IntKind.i64.wrap (y16 - 1))).Voltage) + (Int.tmod ((gd OperatingPoint.zero a0 y16).Voltage) 4))), .int .u64 ((gd OperatingPoint.zero y15 (IntKind.i64.wrap (y16 - 1))).Power)], osl K_api_OperatingPoint v14 y15]) hf ⟨rfl, rfl, rfl, rfl, trivial⟩ (by kernel_rfl) (by kernel_rfl) rfl (by decide) ⟨hs.drew.get (i := 0) rfl, hr.now hs.drew (i := 0) rfl, trivial⟩ hs.drew (.cons (⟨_, _, rfl, rfl, rfl, rfl, fun a w hR hf => .inl ⟨wanted_yes hf rfl, ex_fieldAddrB fa_25_2 rfl hf rfl⟩⟩) (.cons (⟨_, _, rfl, rfl, rfl, rfl, fun a w hR hf => .inl ⟨wanted_yes hf rfl, ex_load sc_23 hf rfl (bx_cell (hR.1) _ rfl)⟩⟩) (.cons (⟨_, _, rfl, rfl, rfl, rfl, fun a w hR hf => .inl ⟨wanted_yes hf rfl, ex_move hf rfl⟩⟩) (.cons (⟨_, _, rfl, rfl, rfl, rfl, fun a w hR hf => .inl ⟨wanted_yes hf rfl, ex_move hf rfl⟩⟩) (.cons (⟨_, _, rfl, rfl, rfl, rfl, fun a w hR hf => .inl ⟨wanted_yes hf rfl, ex_indexAddr sa_22 (rsl_isSl hR.2.1) hc31.1 hc31.2 hf rfl rfl⟩⟩) (.cons (⟨_, _, rfl, rfl, rfl, rfl, fun a w hR hf => .inl ⟨wanted_yes hf rfl, ex_fieldAddrS fa_25_2 rfl hf rfl⟩⟩) (.cons (⟨_, _, rfl, rfl, rfl, rfl, fun a w hR hf => .inl ⟨wanted_yes hf rfl, ex_load sc_23 hf rfl (el_cell (K := K_api_OperatingPoint) (f := 2) (rsl_rd hR.2.1) hc31.1 hc31.2 rfl)⟩⟩) (.cons (⟨_, _, rfl, rfl, rfl, rfl, fun a w hR hf => .inl ⟨wanted_yes hf rfl, ex_rem hf rfl rfl (by decide)⟩⟩) (.cons (⟨_, _, rfl, rfl, rfl, rfl, fun a w hR hf => .inl ⟨wanted_yes hf rfl, ex_add hf rfl rfl⟩⟩) (.nil)))))))))) (fun K36 hK36 => ?_)
              refine RW.zero (by kernel_rfl) (by kernel_rfl) [(0, v0), (3, v14), (4, .int .i64 y16), (5, .pointer (some ⟨b28, 0, none⟩)), (74, .int .u64 (IntKind.u64.wrap (((gd OperatingPoint.zero y15 (IntKind.i64.wrap (y16 - 1))).Power) + (Int.tmod ((gd OperatingPoint.zero a0 y16).Power) 30))))] ⟨rfl, rfl, rfl, rfl, rfl, trivial⟩ (fun a w hR hs hf => ?_)
              refine stq hf rfl rfl rfl (ex_fieldAddrB fa_25_2 rfl hf rfl) (fun a hf => ?_)
              refine stepS hf rfl rfl (er_storeB hs (.c (.k .nil)) hf rfl rfl rfl sz_23 rfl) (fun w hs => ?_)
              refine hK36 _ _ ?_
              refine hN35 _ _ ?_
              refine ck_some H (fun hc38 H => ?_)
              refine region_k (fun K40 hK40 => ?_)
              refine stq hf rfl rfl rfl (ex_move hf rfl) (fun a hf => ?_)
              refine stq hf rfl rfl rfl (ex_loadA (cs := [.int .u64 (IntKind.u64.wrap ((IntKind.u64.wrap (((gd OperatingPoint.zero y15 (IntKind.i64.wrap (y16 - 1))).Frequency) + 1)) + (Int.tmod ((gd OperatingPoint.zero a0 y16).Frequency) 100))), .int .u64 (IntKind.u64.wrap (((gd OperatingPoint.zero y15 (IntKind.i64.wrap (y16 - 1))).Voltage) + (Int.tmod ((gd OperatingPoint.zero a0 y16).Voltage) 4))), .int .u64 (IntKind.u64.wrap (((gd OperatingPoint.zero y15 (IntKind.i64.wrap (y16 - 1))).Power) + (Int.tmod ((gd OperatingPoint.zero a0 y16).Power) 30)))]) ag_25 hf rfl (bx_cells (hs.get (i := 0) rfl) rfl)) (fun a hf => ?_)
              refine stepV hf rfl rfl rfl (er_buildSlice (K := K_api_OperatingPoint) (xs := [(⟨(IntKind.u64.wrap ((IntKind.u64.wrap (((gd OperatingPoint.zero y15 (IntKind.i64.wrap (y16 - 1))).Frequency) + 1)) + (Int.tmod ((gd OperatingPoint.zero a0 y16).Frequency) 100))), (IntKind.u64.wrap (((gd OperatingPoint.zero y15 (IntKind.i64.wrap (y16 - 1))).Voltage) + (Int.tmod ((gd OperatingPoint.zero a0 y16).Voltage) 4))), (IntKind.u64.wrap (((gd OperatingPoint.zero y15 (IntKind.i64.wrap (y16 - 1))).Power) + (Int.tmod ((gd OperatingPoint.zero a0 y16).Power) 30)))⟩ : OperatingPoint)]) hs Try.underlying22 ep_25 rfl rfl hf rfl (.cons rfl .nil) rfl rfl) (fun v37 w hs a hf => ?_)
              refine stepV hf rfl rfl rfl (er_append (K := K_api_OperatingPoint) hs (.k (.k (.c .nil))) (osl_rsl _ (hs.get (i := 0) rfl)) rfl Try.underlying22 ep_25 hc38 rfl hf rfl rfl) (fun v39 w hs a hf => ?_)
              refine stq hf rfl rfl rfl (ex_assign hf rfl) (fun a hf => ?_)
              refine hK40 _ _ ?_
              refine hN26 _ _ ?_
              refine hN25 _ _ ?_
              refine region_k (fun K41 hK41 => ?_)
              refine stq hf rfl rfl rfl (ex_move hf rfl) (fun a hf => ?_)
              refine stq hf rfl rfl rfl (ex_add hf rfl rfl) (fun a hf => ?_)
              refine stq hf rfl rfl rfl (ex_assign hf rfl) (fun a hf => ?_)
              refine hK41 _ _ ?_
              replace hs := hs.keep (.k (.d (.d .nil)))
              exact hL18 k18 _ _ (Nat.lt_succ_self _) ⟨(y15 ++ [(⟨(IntKind.u64.wrap ((IntKind.u64.wrap (((gd OperatingPoint.zero y15 (IntKind.i64.wrap (y16 - 1))).Frequency) + 1)) + (Int.tmod ((gd OperatingPoint.zero a0 y16).Frequency) 100))), (IntKind.u64.wrap (((gd OperatingPoint.zero y15 (IntKind.i64.wrap (y16 - 1))).Voltage) + (Int.tmod ((gd OperatingPoint.zero a0 y16).Voltage) 4))), (IntKind.u64.wrap (((gd OperatingPoint.zero y15 (IntKind.i64.wrap (y16 - 1))).Power) + (Int.tmod ((gd OperatingPoint.zero a0 y16).Power) 30)))⟩ : OperatingPoint)]), (IntKind.i64.wrap (y16 + 1)), v39, hf.sub ⟨rfl, rfl, rfl, trivial⟩, hs, H⟩
            · -- not x20 = true
              replace hf := hf.castB (t := 37) rfl (bool_f hc24)
              refine cond_F hf rfl ?_
              refine wp_exit ?_
              refine hX19 0 _ _ ?_
              refine hX18 0 _ _ ?_
              refine hX13 _ _ ?_
              have e10 := some_eq H; subst e10
              exact hJ10 _ _ ⟨v14, hf.sub ⟨rfl, trivial⟩, hs⟩
    · obtain ⟨v11, hf, hs⟩ := hJ
      replace H := HO10
      clear HO10
      refine seq_reg (fun K42 hK42 => ?_)
      refine stq hf rfl rfl rfl (ex_move hf rfl) (fun a hf => ?_)
      refine stq hf rfl rfl rfl (ex_assign hf rfl) (fun a hf => ?_)
      refine hK42 _ _ ?_
      refine wp_ret ?_
      have eR := some_eq H; subst eR
      exact ret1 Try.results13 hf rfl ⟨_, rfl, ⟨v11, rfl, hs⟩⟩

set_option maxRecDepth 100000 in
theorem help_Mod.calls {M : Nat → Prop} {w0 : World} (k : Nat) (a0 : Int) (a1 : Int) {r : Int} (hs : St M w0 w0 []) (hr : Sr M w0 [])
    (h : help_Mod.f k a0 a1 = some r) : Calls Try.prog 14 #[.int .i64 a0, .int .i64 a1] w0 fun e w => ∃ v, e = .returned v ∧ (.int .i64 r = v ∧ St M w0 w []) := by
  have H := (help_Mod.f.eq_1 ..).symm.trans h
  clear h
  refine enter Try.func14 rfl Try.ntmps14 rfl (fun a hf => ?_)
  refine seq_reg (fun K1 hK1 => ?_)
  refine stq hf rfl rfl rfl (ex_assign hf rfl) (fun a hf => ?_)
  refine hK1 _ _ ?_
  refine ck_some H (fun hc2 H => ?_)
  refine seq_reg (fun K3 hK3 => ?_)
  refine stq hf rfl rfl rfl (ex_move hf rfl) (fun a hf => ?_)
  refine stq hf rfl rfl rfl (ex_conv Try.underlying3 Try.underlying60 hf rfl) (fun a hf => ?_)
  refine stq hf rfl rfl rfl (ex_move hf rfl) (fun a hf => ?_)
  refine stq hf rfl rfl rfl (ex_conv Try.underlying3 Try.underlying60 hf rfl) (fun a hf => ?_)
  refine stq hf rfl rfl rfl (ex_rem hf rfl rfl hc2) (fun a hf => ?_)
  refine stq hf rfl rfl rfl (ex_conv Try.underlying60 Try.underlying3 hf rfl) (fun a hf => ?_)
  refine stq hf rfl rfl rfl (ex_assign hf rfl) (fun a hf => ?_)
  refine hK3 _ _ ?_
  refine wp_ret ?_
  have eR := some_eq H; subst eR
  exact ret1 Try.results14 hf rfl ⟨_, rfl, ⟨rfl, hs⟩⟩

set_option maxRecDepth 100000 in
theorem ref36_Check.calls {M : Nat → Prop} {w0 : World} (k : Nat) (a0 : (List OperatingPoint)) (v0 : Value) {r : Int} (hs : St M w0 w0 []) (hr : Sr M w0 [rsl K_api_OperatingPoint v0 a0])
    (h : ref36_Check.f k a0 = some r) : Calls Try.prog 18 #[v0] w0 fun e w => ∃ v, e = .returned v ∧ (.int .i64 r = v ∧ St M w0 w []) := by
  have H := (ref36_Check.f.eq_1 ..).symm.trans h
  clear h
  refine enter Try.func18 rfl Try.ntmps18 rfl (fun a hf => ?_)
  refine seq_reg (fun K1 hK1 => ?_)
  refine stq hf rfl rfl rfl (ex_assign hf rfl) (fun a hf => ?_)
  refine hK1 _ _ ?_
  refine seq_n (fun Q2 hN2 hR2 hX2 => ?_)
  refine bnd H (fun x3 H3 HO3 => ?_)
  clear H
  refine seq_cut (fun a w => Fr a 76 [(0, v0), (12, .bool x3)] ∧ St M w0 w []) (fun Q3 hJ3 hR3 hX3 => ?_) (fun a w hJ => ?_)
  · replace H := H3
    refine itt H (fun hc4 H => ?_) (fun hc4 H => ?_)
    · -- (a0.length : Int) < 1
      refine region_k (fun K5 hK5 => ?_)
      refine stq hf rfl rfl rfl (ex_move hf rfl) (fun a hf => ?_)
      refine stq hf rfl rfl rfl (ex_lenS Try.underlying22 (rsl_isSl (hr.now hs (i := 0) rfl)) hf rfl) (fun a hf => ?_)
      refine stq hf rfl rfl rfl (ex_lss hf rfl rfl) (fun a hf => ?_)
      refine stq hf rfl rfl rfl (ex_move hf rfl) (fun a hf => ?_)
      replace hf := hf.castB (t := 7) rfl (dec_t hc4)
      replace hf := hf.castB (t := 8) rfl (dec_t hc4)
      refine stepN hf rfl rfl rfl (fun a hf => ?_)
      refine stepN hf rfl rfl rfl (fun a hf => ?_)
      refine stepN hf rfl rfl rfl (fun a hf => ?_)
      refine stq hf rfl rfl rfl (ex_pickT hf rfl rfl) (fun a hf => ?_)
      refine hK5 _ _ ?_
      have e3 := some_eq H; subst e3
      exact hJ3 _ _ ⟨hf.sub ⟨rfl, rfl, trivial⟩, hs⟩
    · -- not (a0.length : Int) < 1
      refine region_k (fun K6 hK6 => ?_)
      refine stq hf rfl rfl rfl (ex_move hf rfl) (fun a hf => ?_)
      refine stq hf rfl rfl rfl (ex_lenS Try.underlying22 (rsl_isSl (hr.now hs (i := 0) rfl)) hf rfl) (fun a hf => ?_)
      refine stq hf rfl rfl rfl (ex_lss hf rfl rfl) (fun a hf => ?_)
      refine stq hf rfl rfl rfl (ex_move hf rfl) (fun a hf => ?_)
      replace hf := hf.castB (t := 7) rfl (dec_f hc4)
      replace hf := hf.castB (t := 8) rfl (dec_f hc4)
      refine stq hf rfl rfl rfl (ex_move hf rfl) (fun a hf => ?_)
      refine stq hf rfl rfl rfl (ex_lenS Try.underlying22 (rsl_isSl (hr.now hs (i := 0) rfl)) hf rfl) (fun a hf => ?_)
      refine stq hf rfl rfl rfl (ex_gtr hf rfl rfl) (fun a hf => ?_)
      refine stq hf rfl rfl rfl (ex_pickF hf rfl rfl) (fun a hf => ?_)
      refine hK6 _ _ ?_
      have e3 := some_eq H; subst e3
      exact hJ3 _ _ ⟨hf.sub ⟨rfl, rfl, trivial⟩, hs⟩
  · obtain ⟨hf, hs⟩ := hJ
    replace H := HO3
    clear HO3
    refine itt H (fun hc7 H => ?_) (fun hc7 H => ?_)
    · -- x3 = true
      replace hf := hf.castB (t := 12) rfl hc7
      refine cond_T hf rfl ?_
      refine seq_reg (fun K8 hK8 => ?_)
      refine stq hf rfl rfl rfl (ex_assign hf rfl) (fun a hf => ?_)
      refine hK8 _ _ ?_
      refine wp_ret ?_
      refine hR2 _ _ ?_
      have eR := some_eq H; subst eR
      exact ret1 Try.results18 hf rfl ⟨_, rfl, ⟨rfl, hs⟩⟩
    · -- not x3 = true
      replace hf := hf.castB (t := 12) rfl (bool_f hc7)
      refine cond_F hf rfl ?_
      refine wp_skip ?_
      refine hN2 _ _ ?_
      refine bnd H (fun x9 H9 HO9 => ?_)
      clear H
      refine seq_cut (fun a w => ∃ (x9s : Unit), x9 = .go x9s ∧ Fr a 76 [] ∧ St M w0 w []) (fun Q9 hJ9 hR9 hX9 => ?_) (fun a w hJ => ?_)
      · replace H := H9
        refine seq_reg (fun K10 hK10 => ?_)
        refine stq hf rfl rfl rfl (ex_assign hf rfl) (fun a hf => ?_)
        refine hK10 _ _ ?_
        refine block_k (fun Q11 hN11 hR11 hX11 hY11 => ?_)
        refine loop_k (fun n a w => ∃ (y12 : Int), Fr a 76 [(0, v0), (3, .int .i64 y12)] ∧ St M w0 w [] ∧ ref36_Check.l1 n a0 y12 = some x9) k ?_ (fun n14 a w hI Q14 hL14 hR14 hX14 => ?_)
        · -- at the start
          exact ⟨0, hf.sub ⟨rfl, rfl, trivial⟩, hs, H⟩
        · obtain ⟨y12, hf, hs, H⟩ := hI
          cases n14 with
          | zero => exact absurd H (by rw [ref36_Check.l1.eq_1]; intro h; cases h)
          | succ k14 =>
            replace H := (ref36_Check.l1.eq_2 ..).symm.trans H
            refine seq_n (fun Q15 hN15 hR15 hX15 => ?_)
            refine seq_reg (fun K16 hK16 => ?_)
            refine stq hf rfl rfl rfl (ex_move hf rfl) (fun a hf => ?_)
            refine stq hf rfl rfl rfl (ex_move hf rfl) (fun a hf => ?_)
            refine stq hf rfl rfl rfl (ex_lenS Try.underlying22 (rsl_isSl (hr.now hs (i := 0) rfl)) hf rfl) (fun a hf => ?_)
            refine stq hf rfl rfl rfl (ex_lss hf rfl rfl) (fun a hf => ?_)
            refine hK16 _ _ ?_
            refine itt H (fun hc17 H => ?_) (fun hc17 H => ?_)
            · -- y12 < (a0.length : Int)
              replace hf := hf.castB (t := 16) rfl (dec_t hc17)
              refine cond_T hf rfl ?_
              refine wp_skip ?_
              refine hN15 _ _ ?_
              refine seq_n (fun Q18 hN18 hR18 hX18 => ?_)
              refine block_k (fun Q19 hN19 hR19 hX19 hY19 => ?_)
              refine ck_some H (fun hc20 H => ?_)
              refine seq_reg (fun K22 hK22 => ?_)
              refine stq hf rfl rfl rfl (ex_move hf rfl) (fun a hf => ?_)
              refine stq hf rfl rfl rfl (ex_move hf rfl) (fun a hf => ?_)
              refine stq hf rfl rfl rfl (ex_indexAddr sa_22 (rsl_isSl (hr.now hs (i := 0) rfl)) hc20.1 hc20.2 hf rfl rfl) (fun a hf => ?_)
              refine stq hf rfl rfl rfl (ex_loadA (cs := [.int .u64 ((gd OperatingPoint.zero a0 y12).Frequency), .int .u64 ((gd OperatingPoint.zero a0 y12).Voltage), .int .u64 ((gd OperatingPoint.zero a0 y12).Power)]) ag_25 hf rfl (el_cells (K := K_api_OperatingPoint) (rsl_rd (hr.now hs (i := 0) rfl)) hc20.1 hc20.2 rfl)) (fun a hf => ?_)
              refine stepV hf rfl rfl rfl (er_alloc hs ti_25 (cs := [.int .u64 0, .int .u64 0, .int .u64 0]) rfl) (fun v w hR a hf => ?_)
              obtain ⟨b21, rfl, hs⟩ := hR
              refine stepS hf rfl rfl (er_storeAB (vs := [.int .u64 ((gd OperatingPoint.zero a0 y12).Frequency), .int .u64 ((gd OperatingPoint.zero a0 y12).Voltage), .int .u64 ((gd OperatingPoint.zero a0 y12).Power)]) (cs' := [.int .u64 ((gd OperatingPoint.zero a0 y12).Frequency), .int .u64 ((gd OperatingPoint.zero a0 y12).Voltage), .int .u64 ((gd OperatingPoint.zero a0 y12).Power)]) hs (.c .nil) sz_25 hf rfl rfl (all1 rfl (all1 rfl (all1 rfl (all1_nil)))) rfl rfl) (fun w hs => ?_)
              refine hK22 _ _ ?_
              refine seq_n (fun Q23 hN23 hR23 hX23 => ?_)
              refine bnd H (fun x24 H24 HO24 => ?_)
              clear H
              refine seq_cut (fun a w => Fr a 76 [(0, v0), (3, .int .i64 y12), (4, .pointer (some ⟨b21, 0, none⟩)), (40, .bool x24)] ∧ St M w0 w [bx b21 25 [.int .u64 ((gd OperatingPoint.zero a0 y12).Frequency), .int .u64 ((gd OperatingPoint.zero a0 y12).Voltage), .int .u64 ((gd OperatingPoint.zero a0 y12).Power)]]) (fun Q24 hJ24 hR24 hX24 => ?_) (fun a w hJ => ?_)
              · replace H := H24
                refine itt H (fun hc25 H => ?_) (fun hc25 H => ?_)
                · -- ((gd OperatingPoint.zero a0 y12).Frequency) < 1
                  refine region_k (fun K26 hK26 => ?_)
                  refine stq hf rfl rfl rfl (ex_fieldAddrB fa_25_0 rfl hf rfl) (fun a hf => ?_)
                  refine stq hf rfl rfl rfl (ex_load sc_23 hf rfl (bx_cell (hs.get (i := 0) rfl) _ rfl)) (fun a hf => ?_)
                  refine stq hf rfl rfl rfl (ex_lss hf rfl rfl) (fun a hf => ?_)
                  refine stq hf rfl rfl rfl (ex_move hf rfl) (fun a hf => ?_)
                  replace hf := hf.castB (t := 25) rfl (dec_t hc25)
                  replace hf := hf.castB (t := 26) rfl (dec_t hc25)
                  refine stepN hf rfl rfl rfl (fun a hf => ?_)
                  refine stepN hf rfl rfl rfl (fun a hf => ?_)
                  refine stepN hf rfl rfl rfl (fun a hf => ?_)
                  refine stq hf rfl rfl rfl (ex_pickT hf rfl rfl) (fun a hf => ?_)
                  refine stq hf rfl rfl rfl (ex_move hf rfl) (fun a hf => ?_)
                  refine stepN hf rfl rfl rfl (fun a hf => ?_)
                  refine stepN hf rfl rfl rfl (fun a hf => ?_)
                  refine stepN hf rfl rfl rfl (fun a hf => ?_)
                  refine stq hf rfl rfl rfl (ex_pickT hf rfl rfl) (fun a hf => ?_)
                  refine stq hf rfl rfl rfl (ex_move hf rfl) (fun a hf => ?_)
                  refine stepN hf rfl rfl rfl (fun a hf => ?_)
                  refine stepN hf rfl rfl rfl (fun a hf => ?_)
                  refine stepN hf rfl rfl rfl (fun a hf => ?_)
                  refine stq hf rfl rfl rfl (ex_pickT hf rfl rfl) (fun a hf => ?_)
                  refine hK26 _ _ ?_
                  have e24 := some_eq H; subst e24
                  exact hJ24 _ _ ⟨hf.sub ⟨rfl, rfl, rfl, rfl, trivial⟩, hs⟩
                · -- not ((gd OperatingPoint.zero a0 y12).Frequency) < 1
                  refine itt H (fun hc27 H => ?_) (fun hc27 H => ?_)
                  · -- 1099511627776 < ((gd OperatingPoint.zero a0 y12).Frequency)
                    refine region_k (fun K28 hK28 => ?_)
                    refine stq hf rfl rfl rfl (ex_fieldAddrB fa_25_0 rfl hf rfl) (fun a hf => ?_)
                    refine stq hf rfl rfl rfl (ex_load sc_23 hf rfl (bx_cell (hs.get (i := 0) rfl) _ rfl)) (fun a hf => ?_)
                    refine stq hf rfl rfl rfl (ex_lss hf rfl rfl) (fun a hf => ?_)
                    refine stq hf rfl rfl rfl (ex_move hf rfl) (fun a hf => ?_)
                    replace hf := hf.castB (t := 25) rfl (dec_f hc25)
                    replace hf := hf.castB (t := 26) rfl (dec_f hc25)
                    refine stq hf rfl rfl rfl (ex_fieldAddrB fa_25_0 rfl hf rfl) (fun a hf => ?_)
                    refine stq hf rfl rfl rfl (ex_load sc_23 hf rfl (bx_cell (hs.get (i := 0) rfl) _ rfl)) (fun a hf => ?_)
                    refine stq hf rfl rfl rfl (ex_gtr hf rfl rfl) (fun a hf => ?_)
                    refine stq hf rfl rfl rfl (ex_pickF hf rfl rfl) (fun a hf => ?_)
                    refine stq hf rfl rfl rfl (ex_move hf rfl) (fun a hf => ?_)
                    replace hf := hf.castB (t := 29) rfl (dec_t hc27)
                    replace hf := hf.castB (t := 30) rfl (dec_t hc27)
                    replace hf := hf.castB (t := 31) rfl (dec_t hc27)
                    refine stepN hf rfl rfl rfl (fun a hf => ?_)
                    refine stepN hf rfl rfl rfl (fun a hf => ?_)
                    refine stepN hf rfl rfl rfl (fun a hf => ?_)
                    refine stq hf rfl rfl rfl (ex_pickT hf rfl rfl) (fun a hf => ?_)
                    refine stq hf rfl rfl rfl (ex_move hf rfl) (fun a hf => ?_)
                    refine stepN hf rfl rfl rfl (fun a hf => ?_)
                    refine stepN hf rfl rfl rfl (fun a hf => ?_)
                    refine stepN hf rfl rfl rfl (fun a hf => ?_)
                    refine stq hf rfl rfl rfl (ex_pickT hf rfl rfl) (fun a hf => ?_)
                    refine hK28 _ _ ?_
                    have e24 := some_eq H; subst e24
                    exact hJ24 _ _ ⟨hf.sub ⟨rfl, rfl, rfl, rfl, trivial⟩, hs⟩
                  · -- not 1099511627776 < ((gd OperatingPoint.zero a0 y12).Frequency)
                    refine itt H (fun hc29 H => ?_) (fun hc29 H => ?_)
                    · -- 1099511627776 < ((gd OperatingPoint.zero a0 y12).Voltage)
                      refine region_k (fun K30 hK30 => ?_)
                      refine stq hf rfl rfl rfl (ex_fieldAddrB fa_25_0 rfl hf rfl) (fun a hf => ?_)
                      refine stq hf rfl rfl rfl (ex_load sc_23 hf rfl (bx_cell (hs.get (i := 0) rfl) _ rfl)) (fun a hf => ?_)
                      refine stq hf rfl rfl rfl (ex_lss hf rfl rfl) (fun a hf => ?_)
                      refine stq hf rfl rfl rfl (ex_move hf rfl) (fun a hf => ?_)
                      replace hf := hf.castB (t := 25) rfl (dec_f hc25)
                      replace hf := hf.castB (t := 26) rfl (dec_f hc25)
                      refine stq hf rfl rfl rfl (ex_fieldAddrB fa_25_0 rfl hf rfl) (fun a hf => ?_)
                      refine stq hf rfl rfl rfl (ex_load sc_23 hf rfl (bx_cell (hs.get (i := 0) rfl) _ rfl)) (fun a hf => ?_)
                      refine stq hf rfl rfl rfl (ex_gtr hf rfl rfl) (fun a hf => ?_)
                      refine stq hf rfl rfl rfl (ex_pickF hf rfl rfl) (fun a hf => ?_)
                      refine stq hf rfl rfl rfl (ex_move hf rfl) (fun a hf => ?_)
                      replace hf := hf.castB (t := 29) rfl (dec_f hc27)
                      replace hf := hf.castB (t := 30) rfl (dec_f hc27)
                      replace hf := hf.castB (t := 31) rfl (dec_f hc27)
                      refine stq hf rfl rfl rfl (ex_fieldAddrB fa_25_1 rfl hf rfl) (fun a hf => ?_)
                      refine stq hf rfl rfl rfl (ex_load sc_23 hf rfl (bx_cell (hs.get (i := 0) rfl) _ rfl)) (fun a hf => ?_)
                      refine stq hf rfl rfl rfl (ex_gtr hf rfl rfl) (fun a hf => ?_)
                      refine stq hf rfl rfl rfl (ex_pickF hf rfl rfl) (fun a hf => ?_)
                      refine stq hf rfl rfl rfl (ex_move hf rfl) (fun a hf => ?_)
                      replace hf := hf.castB (t := 34) rfl (dec_t hc29)
                      replace hf := hf.castB (t := 35) rfl (dec_t hc29)
                      replace hf := hf.castB (t := 36) rfl (dec_t hc29)
                      refine stepN hf rfl rfl rfl (fun a hf => ?_)
                      refine stepN hf rfl rfl rfl (fun a hf => ?_)
                      refine stepN hf rfl rfl rfl (fun a hf => ?_)
                      refine stq hf rfl rfl rfl (ex_pickT hf rfl rfl) (fun a hf => ?_)
                      refine hK30 _ _ ?_
                      have e24 := some_eq H; subst e24
                      exact hJ24 _ _ ⟨hf.sub ⟨rfl, rfl, rfl, rfl, trivial⟩, hs⟩
                    · -- not 1099511627776 < ((gd OperatingPoint.zero a0 y12).Voltage)
                      refine region_k (fun K31 hK31 => ?_)
                      refine stq hf rfl rfl rfl (ex_fieldAddrB fa_25_0 rfl hf rfl) (fun a hf => ?_)
                      refine stq hf rfl rfl rfl (ex_load sc_23 hf rfl (bx_cell (hs.get (i := 0) rfl) _ rfl)) (fun a hf => ?_)
                      refine stq hf rfl rfl rfl (ex_lss hf rfl rfl) (fun a hf => ?_)
                      refine stq hf rfl rfl rfl (ex_move hf rfl) (fun a hf => ?_)
                      replace hf := hf.castB (t := 25) rfl (dec_f hc25)
                      replace hf := hf.castB (t := 26) rfl (dec_f hc25)
                      refine stq hf rfl rfl rfl (ex_fieldAddrB fa_25_0 rfl hf rfl) (fun a hf => ?_)
                      refine stq hf rfl rfl rfl (ex_load sc_23 hf rfl (bx_cell (hs.get (i := 0) rfl) _ rfl)) (fun a hf => ?_)
                      refine stq hf rfl rfl rfl (ex_gtr hf rfl rfl) (fun a hf => ?_)
                      refine stq hf rfl rfl rfl (ex_pickF hf rfl rfl) (fun a hf => ?_)
                      refine stq hf rfl rfl rfl (ex_move hf rfl) (fun a hf => ?_)
                      replace hf := hf.castB (t := 29) rfl (dec_f hc27)
                      replace hf := hf.castB (t := 30) rfl (dec_f hc27)
                      replace hf := hf.castB (t := 31) rfl (dec_f hc27)
                      refine stq hf rfl rfl rfl (ex_fieldAddrB fa_25_1 rfl hf rfl) (fun a hf => ?_)
                      refine stq hf rfl rfl rfl (ex_load sc_23 hf rfl (bx_cell (hs.get (i := 0) rfl) _ rfl)) (fun a hf => ?_)
                      refine stq hf rfl rfl rfl (ex_gtr hf rfl rfl) (fun a hf => ?_)
                      refine stq hf rfl rfl rfl (ex_pickF hf rfl rfl) (fun a hf => ?_)
                      refine stq hf rfl rfl rfl (ex_move hf rfl) (fun a hf => ?_)
                      replace hf := hf.castB (t := 34) rfl (dec_f hc29)
                      replace hf := hf.castB (t := 35) rfl (dec_f hc29)
                      replace hf := hf.castB (t := 36) rfl (dec_f hc29)
                      refine stq hf rfl rfl rfl (ex_fieldAddrB fa_25_2 rfl hf rfl) (fun a hf => ?_)
                      refine stq hf rfl rfl rfl (ex_load sc_23 hf rfl (bx_cell (hs.get (i := 0) rfl) _ rfl)) (fun a hf => ?_)
                      refine stq hf rfl rfl rfl (ex_gtr hf rfl rfl) (fun a hf => ?_)
                      refine stq hf rfl rfl rfl (ex_pickF hf rfl rfl) (fun a hf => ?_)
                      refine hK31 _ _ ?_
                      have e24 := some_eq H; subst e24
                      exact hJ24 _ _ ⟨hf.sub ⟨rfl, rfl, rfl, rfl, trivial⟩, hs⟩
              · obtain ⟨hf, hs⟩ := hJ
                replace H := HO24
                clear HO24
                refine itt H (fun hc32 H => ?_) (fun hc32 H => ?_)
                · -- x24 = true
                  replace hf := hf.castB (t := 40) rfl hc32
                  refine cond_T hf rfl ?_
                  refine seq_reg (fun K33 hK33 => ?_)
                  refine stq hf rfl rfl rfl (ex_assign hf rfl) (fun a hf => ?_)
                  refine hK33 _ _ ?_
                  refine wp_ret ?_
                  refine hR23 _ _ ?_
                  refine hR19 _ _ ?_
                  refine hR18 _ _ ?_
                  refine hR14 _ _ ?_
                  refine hR11 _ _ ?_
                  have e9 := some_eq H; subst e9; replace H := el_rt HO9
                  refine hR9 _ _ ?_
                  have eR := some_eq H; subst eR
                  replace hs := hs.keep (.d .nil)
                  exact ret1 Try.results18 hf rfl ⟨_, rfl, ⟨rfl, hs⟩⟩
                · -- not x24 = true
                  replace hf := hf.castB (t := 40) rfl (bool_f hc32)
                  refine cond_F hf rfl ?_
                  refine wp_skip ?_
                  refine hN23 _ _ ?_
                  refine bnd H (fun x34 H34 HO34 => ?_)
                  clear H
                  refine seq_cut (fun a w => Fr a 76 [(0, v0), (3, .int .i64 y12), (75, .bool x34)] ∧ St M w0 w []) (fun Q34 hJ34 hR34 hX34 => ?_) (fun a w hJ => ?_)
                  · replace H := H34
                    refine itt H (fun hc35 H => ?_) (fun hc35 H => ?_)
                    · -- 0 < y12
                      refine ck_some H (fun hc36 H => ?_)
                      refine itt H (fun hc37 H => ?_) (fun hc37 H => ?_)
                      · -- ((gd OperatingPoint.zero a0 y12).Frequency) ≤ ((gd Operating
                        refine region_d fol 35 [(0, v0), (3, .int .i64 y12), (4, .pointer (some ⟨b21, 0, none⟩))] [(0, .int .i64 y12), (1, .bool true), (2, .bool true), (3, .pointer (some ⟨b21, 0, none⟩)), (4, .int .u64 ((gd OperatingPoint.zero a0 y12).Frequency)), (5, v0), (6, .int .i64 y12), (7, .int .i64 (IntKind.i64.wrap (y12 - 1))), (8, .pointer (some (sla v0 ((IntKind.i64.wrap (y12 - 1)).toNat * 3)))), (9, .pointer (some (sla v0 ((IntKind.i64.wrap (y12 - 1)).toNat * 3 + 0)))), (10, .int .u64 ((gd OperatingPoint.zero a0 (IntKind.i64.wrap (y12 - 1))).Frequency)), (11, .bool true), (12, .bool true), (13, undef), (14, undef), (15, undef), (16, undef), (17, undef), (18, undef), (19, undef), (20, undef), (21, undef), (22, .bool true), (23, .bool true), (24, undef), (25, undef), (26, undef), (27, undef), (28, undef), (29, undef), (30, undef), (31, undef), (32, undef), (33, .bool true), (34, .bool true)] [] (fun w => (bx b21 25 [.int .u64 ((gd OperatingPoint.zero a0 y12).Frequency), .int .u64 ((gd OperatingPoint.zero a0 y12).Voltage), .int .u64 ((gd OperatingPoint.zero a0 y12).Power)]).ok w ∧ (rsl K_api_OperatingPoint v0 a0).ok w ∧ True) (fun w => St M w0 w [bx b21 25 [.int .u64 ((gd OperatingPoint.zero a0 y12).Frequency), .int .u64 ((gd OperatingPoint.zero a0 y12).Voltage), .int .u64 ((gd OperatingPoint.zero a0 y12).Power)]]) hf ⟨rfl, rfl, rfl, trivial⟩ (by kernel_rfl) (by kernel_rfl) rfl (by decide) ⟨hs.drew.get (i := 0) rfl, hr.now hs.drew (i := 0) rfl, trivial⟩ hs.drew (.cons (⟨_, _, rfl, rfl, rfl, rfl, fun a w hR hf => .inl ⟨wanted_yes hf rfl, ex_move hf rfl⟩⟩) (.cons (⟨_, _, rfl, rfl, rfl, rfl, fun a w hR hf => .inl ⟨wanted_yes hf rfl, ex_castB (ex_gtr hf rfl rfl) (dec_t hc35)⟩⟩) (.cons (⟨_, _, rfl, rfl, rfl, rfl, fun a w hR hf => .inl ⟨wanted_yes hf rfl, ex_move hf rfl⟩⟩) (.cons (⟨_, _, rfl, rfl, rfl, rfl, fun a w hR hf => .inl ⟨wanted_yes hf rfl, ex_fieldAddrB fa_25_0 rfl hf rfl⟩⟩) (.cons (⟨_, _, rfl, rfl, rfl, rfl, fun a w hR hf => .inl ⟨wanted_yes hf rfl, ex_load sc_23 hf rfl (bx_cell (hR.1) _ rfl)⟩⟩) (.cons (⟨_, _, rfl, rfl, rfl, rfl, fun a w hR hf => .inl ⟨wanted_yes hf rfl, ex_move hf rfl⟩⟩) (.cons (⟨_, _, rfl, rfl, rfl, rfl, fun a w hR hf => .inl ⟨wanted_yes hf rfl, ex_move hf rfl⟩⟩) (.cons (⟨_, _, rfl, rfl, rfl, rfl, fun a w hR hf => .inl ⟨wanted_yes hf rfl, ex_sub hf rfl rfl⟩⟩) (.cons (⟨_, _, rfl, rfl, rfl, rfl, fun a w hR hf => .inl ⟨wanted_yes hf rfl, ex_indexAddr sa_22 (rsl_isSl hR.2.1) hc36.1 hc36.2 hf rfl rfl⟩⟩) (.cons (⟨_, _, rfl, rfl, rfl, rfl, fun a w hR hf => .inl ⟨wanted_yes hf rfl, ex_fieldAddrS fa_25_0 rfl hf rfl⟩⟩) (.cons (⟨_, _, rfl, rfl, rfl, rfl, fun a w hR hf => .inl ⟨wanted_yes hf rfl, ex_load sc_23 hf rfl (el_cell (K := K_api_OperatingPoint) (f := 0) (rsl_rd hR.2.1) hc36.1 hc36.2 rfl)⟩⟩) (.cons (⟨_, _, rfl, rfl, rfl, rfl, fun a w hR hf => .inl ⟨wanted_yes hf rfl, ex_castB (ex_leq hf rfl rfl) (dec_t hc37)⟩⟩) (.cons (⟨_, _, rfl, rfl, rfl, rfl, fun a w hR hf => .inl ⟨wanted_yes hf rfl, ex_move hf rfl⟩⟩) (.cons (⟨_, _, rfl, rfl, rfl, rfl, fun a w hR hf => .inr ⟨wanted_no hf rfl, rfl⟩⟩) (.cons (⟨_, _, rfl, rfl, rfl, rfl, fun a w hR hf => .inr ⟨wanted_no hf rfl, rfl⟩⟩) (.cons (⟨_, _, rfl, rfl, rfl, rfl, fun a w hR hf => .inr ⟨wanted_no hf rfl, rfl⟩⟩) (.cons (⟨_, _, rfl, rfl, rfl, rfl, fun a w hR hf => .inr ⟨wanted_no hf rfl, rfl⟩⟩) (.cons (⟨_, _, rfl, rfl, rfl, rfl, fun a w hR hf => .inr ⟨wanted_no hf rfl, rfl⟩⟩) (.cons (⟨_, _, rfl, rfl, rfl, rfl, fun a w hR hf => .inr ⟨wanted_no hf rfl, rfl⟩⟩) (.cons (⟨_, _, rfl, rfl, rfl, rfl, fun a w hR hf => .inr ⟨wanted_no hf rfl, rfl⟩⟩) (.cons (⟨_, _, rfl, rfl, rfl, rfl, fun a w hR hf => .inr ⟨wanted_no hf rfl, rfl⟩⟩) (.cons (⟨_, _, rfl, rfl, rfl, rfl, fun a w hR hf => .inr ⟨wanted_no hf rfl, rfl⟩⟩) (.cons (⟨_, _, rfl, rfl, rfl, rfl, fun a w hR hf => .inl ⟨wanted_yes hf rfl, ex_pickT hf rfl rfl⟩⟩) (.cons (⟨_, _, rfl, rfl, rfl, rfl, fun a w hR hf => .inl ⟨wanted_yes hf rfl, ex_move hf rfl⟩⟩) (.cons (⟨_, _, rfl, rfl, rfl, rfl, fun a w hR hf => .inr ⟨wanted_no hf rfl, rfl⟩⟩) (.cons (⟨_, _, rfl, rfl, rfl, rfl, fun a w hR hf => .inr ⟨wanted_no hf rfl, rfl⟩⟩) (.cons (⟨_, _, rfl, rfl, rfl, rfl, fun a w hR hf => .inr ⟨wanted_no hf rfl, rfl⟩⟩) (.cons (⟨_, _, rfl, rfl, rfl, rfl, fun a w hR hf => .inr ⟨wanted_no hf rfl, rfl⟩⟩) (.cons (⟨_, _, rfl, rfl, rfl, rfl, fun a w hR hf => .inr ⟨wanted_no hf rfl, rfl⟩⟩) (.cons (⟨_, _, rfl, rfl, rfl, rfl, fun a w hR hf => .inr ⟨wanted_no hf rfl, rfl⟩⟩) (.cons (⟨_, _, rfl, rfl, rfl, rfl, fun a w hR hf => .inr ⟨wanted_no hf rfl, rfl⟩⟩) (.cons (⟨_, _, rfl, rfl, rfl, rfl, fun a w hR hf => .inr ⟨wanted_no hf rfl, rfl⟩⟩) (.cons (⟨_, _, rfl, rfl, rfl, rfl, fun a w hR hf => .inr ⟨wanted_no hf rfl, rfl⟩⟩) (.cons (⟨_, _, rfl, rfl, rfl, rfl, fun a w hR hf => .inl ⟨wanted_yes hf rfl, ex_pickT hf rfl rfl⟩⟩) (.cons (⟨_, _, rfl, rfl, rfl, rfl, fun a w hR hf => .inl ⟨wanted_yes hf rfl, ex_pickT hf rfl rfl⟩⟩) (.nil)))))))))))))))))))))))))))))))))))) (fun K38 hK38 => ?_)
                        refine RW.zero (by kernel_rfl) (by kernel_rfl) [(0, v0), (3, .int .i64 y12), (75, .bool true)] ⟨rfl, rfl, rfl, trivial⟩ (fun a w hR hs hf => ?_)
                        refine hK38 _ _ ?_
                        replace hs := hs.keep (.d .nil)
                        have e34 := some_eq H; subst e34
                        exact hJ34 _ _ ⟨hf.sub ⟨rfl, rfl, rfl, trivial⟩, hs⟩
                      · -- not ((gd OperatingPoint.zero a0 y12).Frequency) ≤ ((gd Operating
                        refine itt H (fun hc39 H => ?_) (fun hc39 H => ?_)
                        · -- ((gd OperatingPoint.zero a0 y12).Voltage) < ((gd OperatingPo
                          refine region_d fol 35 [(0, v0), (3, .int .i64 y12), (4, .pointer (some ⟨b21, 0, none⟩))] [(0, .int .i64 y12), (1, .bool true), (2, .bool true), (3, .pointer (some ⟨b21, 0, none⟩)), (4, .int .u64 ((gd OperatingPoint.zero a0 y12).Frequency)), (5, v0), (6, .int .i64 y12), (7, .int .i64 (IntKind.i64.wrap (y12 - 1))), (8, .pointer (some (sla v0 ((IntKind.i64.wrap (y12 - 1)).toNat * 3)))), (9, .pointer (some (sla v0 ((IntKind.i64.wrap (y12 - 1)).toNat * 3 + 0)))), (10, .int .u64 ((gd OperatingPoint.zero a0 (IntKind.i64.wrap (y12 - 1))).Frequency)), (11, .bool false), (12, .bool false), (13, .pointer (some ⟨b21, 1, none⟩)), (14, .int .u64 ((gd OperatingPoint.zero a0 y12).Voltage)), (15, v0), (16, .int .i64 y12), (17, .int .i64 (IntKind.i64.wrap (y12 - 1))), (18, .pointer (some (sla v0 ((IntKind.i64.wrap (y12 - 1)).toNat * 3)))), (19, .pointer (some (sla v0 ((IntKind.i64.wrap (y12 - 1)).toNat * 3 + 1)))), (20, .int .u64 ((gd OperatingPoint.zero a0 (IntKind.i64.wrap (y12 - 1))).Voltage)), (21, .bool true), (22, .bool true), (23, .bool true), (24, undef), (25, undef), (26, undef), (27, undef), (28, undef), (29, undef), (30, undef), (31, undef), (32, undef), (33, .bool true), (34, .bool true)] [] (fun w => (bx b21 25 [.int .u64 ((gd OperatingPoint.zero a0 y12).Frequency), .int .u64 ((gd OperatingPoint.zero a0 y12).Voltage), .int .u64 ((gd OperatingPoint.zero a0 y12).Power)]).ok w ∧ (rsl K_api_OperatingPoint v0 a0).ok w ∧ True) (fun w => St M w0 w [bx b21 25 [.int .u64 ((gd OperatingPoint.zero a0 y12).Frequency), .int .u64 ((gd OperatingPoint.zero a0 y12).Voltage), .int .u64 ((gd OperatingPoint.zero a0 y12).Power)]]) hf ⟨rfl, rfl, rfl, trivial⟩ (by kernel_rfl) (by kernel_rfl) rfl (by decide) ⟨hs.drew.get (i := 0) rfl, hr.now hs.drew (i := 0) rfl, trivial⟩ hs.drew (.cons (⟨_, _, rfl, rfl, rfl, rfl, fun a w hR hf => .inl ⟨wanted_yes hf rfl, ex_move hf rfl⟩⟩) (.cons (⟨_, _, rfl, rfl, rfl, rfl, fun a w hR hf => .inl ⟨wanted_yes hf rfl, ex_castB (ex_gtr hf rfl rfl) (dec_t hc35)⟩⟩) (.cons (⟨_, _, rfl, rfl, rfl, rfl, fun a w hR hf => .inl ⟨wanted_yes hf rfl, ex_move hf rfl⟩⟩) (.cons (⟨_, _, rfl, rfl, rfl, rfl, fun a w hR hf => .inl ⟨wanted_yes hf rfl, ex_fieldAddrB fa_25_0 rfl hf rfl⟩⟩) (.cons (⟨_, _, rfl, rfl, rfl, rfl, fun a w hR hf => .inl ⟨wanted_yes hf rfl, ex_load sc_23 hf rfl (bx_cell (hR.1) _ rfl)⟩⟩) (.cons (⟨_, _, rfl, rfl, rfl, rfl, fun a w hR hf => .inl ⟨wanted_yes hf rfl, ex_move hf rfl⟩⟩) (.cons (⟨_, _, rfl, rfl, rfl, rfl, fun a w hR hf => .inl ⟨wanted_yes hf rfl, ex_move hf rfl⟩⟩) (.cons (⟨_, _, rfl, rfl, rfl, rfl, fun a w hR hf => .inl ⟨wanted_yes hf rfl, ex_sub hf rfl rfl⟩⟩) (.cons (⟨_, _, rfl, rfl, rfl, rfl, fun a w hR hf => .inl ⟨wanted_yes hf rfl, ex_indexAddr sa_22 (rsl_isSl hR.2.1) hc36.1 hc36.2 hf rfl rfl⟩⟩) (.cons (⟨_, _, rfl, rfl, rfl, rfl, fun a w hR hf => .inl ⟨wanted_yes hf rfl, ex_fieldAddrS fa_25_0 rfl hf rfl⟩⟩) (.cons (⟨_, _, rfl, rfl, rfl, rfl, fun a w hR hf => .inl ⟨wanted_yes hf rfl, ex_load sc_23 hf rfl (el_cell (K := K_api_OperatingPoint) (f := 0) (rsl_rd hR.2.1) hc36.1 hc36.2 rfl)⟩⟩) (.cons (⟨_, _, rfl, rfl, rfl, rfl, fun a w hR hf => .inl ⟨wanted_yes hf rfl, ex_castB (ex_leq hf rfl rfl) (dec_f hc37)⟩⟩) (.cons (⟨_, _, rfl, rfl, rfl, rfl, fun a w hR hf => .inl ⟨wanted_yes hf rfl, ex_move hf rfl⟩⟩) (.cons (⟨_, _, rfl, rfl, rfl, rfl, fun a w hR hf => .inl ⟨wanted_yes hf rfl, ex_fieldAddrB fa_25_1 rfl hf rfl⟩⟩) (.cons (⟨_, _, rfl, rfl, rfl, rfl, fun a w hR hf => .inl ⟨wanted_yes hf rfl, ex_load sc_23 hf rfl (bx_cell (hR.1) _ rfl)⟩⟩) (.cons (⟨_, _, rfl, rfl, rfl, rfl, fun a w hR hf => .inl ⟨wanted_yes hf rfl, ex_move hf rfl⟩⟩) (.cons (⟨_, _, rfl, rfl, rfl, rfl, fun a w hR hf => .inl ⟨wanted_yes hf rfl, ex_move hf rfl⟩⟩) (.cons (⟨_, _, rfl, rfl, rfl, rfl, fun a w hR hf => .inl ⟨wanted_yes hf rfl, ex_sub hf rfl rfl⟩⟩) (.cons (⟨_, _, rfl, rfl, rfl, rfl, fun a w hR hf => .inl ⟨wanted_yes hf rfl, ex_indexAddr sa_22 (rsl_isSl hR.2.1) hc36.1 hc36.2 hf rfl rfl⟩⟩) (.cons (⟨_, _, rfl, rfl, rfl, rfl, fun a w hR hf => .inl ⟨wanted_yes hf rfl, ex_fieldAddrS fa_25_1 rfl hf rfl⟩⟩) (.cons (⟨_, _, rfl, rfl, rfl, rfl, fun a w hR hf => .inl ⟨wanted_yes hf rfl, ex_load sc_23 hf rfl (el_cell (K := K_api_OperatingPoint) (f := 1) (rsl_rd hR.2.1) hc36.1 hc36.2 rfl)⟩⟩) (.cons (⟨_, _, rfl, rfl, rfl, rfl, fun a w hR hf => .inl ⟨wanted_yes hf rfl, ex_castB (ex_lss hf rfl rfl) (dec_t hc39)⟩⟩) (.cons (⟨_, _, rfl, rfl, rfl, rfl, fun a w hR hf => .inl ⟨wanted_yes hf rfl, ex_pickF hf rfl rfl⟩⟩) (.cons (⟨_, _, rfl, rfl, rfl, rfl, fun a w hR hf => .inl ⟨wanted_yes hf rfl, ex_move hf rfl⟩⟩) (.cons (⟨_, _, rfl, rfl, rfl, rfl, fun a w hR hf => .inr ⟨wanted_no hf rfl, rfl⟩⟩) (.cons (⟨_, _, rfl, rfl, rfl, rfl, fun a w hR hf => .inr ⟨wanted_no hf rfl, rfl⟩⟩) (.cons (⟨_, _, rfl, rfl, rfl, rfl, fun a w hR hf => .inr ⟨wanted_no hf rfl, rfl⟩⟩) (.cons (⟨_, _, rfl, rfl, rfl, rfl, fun a w hR hf => .inr ⟨wanted_no hf rfl, rfl⟩⟩) (.cons (⟨_, _, rfl, rfl, rfl, rfl, fun a w hR hf => .inr ⟨wanted_no hf rfl, rfl⟩⟩) (.cons (⟨_, _, rfl, rfl, rfl, rfl, fun a w hR hf => .inr ⟨wanted_no hf rfl, rfl⟩⟩) (.cons (⟨_, _, rfl, rfl, rfl, rfl, fun a w hR hf => .inr ⟨wanted_no hf rfl, rfl⟩⟩) (.cons (⟨_, _, rfl, rfl, rfl, rfl, fun a w hR hf => .inr ⟨wanted_no hf rfl, rfl⟩⟩) (.cons (⟨_, _, rfl, rfl, rfl, rfl, fun a w hR hf => .inr ⟨wanted_no hf rfl, rfl⟩⟩) (.cons (⟨_, _, rfl, rfl, rfl, rfl, fun a w hR hf => .inl ⟨wanted_yes hf rfl, ex_pickT hf rfl rfl⟩⟩) (.cons (⟨_, _, rfl, rfl, rfl, rfl, fun a w hR hf => .inl ⟨wanted_yes hf rfl, ex_pickT hf rfl rfl⟩⟩) (.nil)))))))))))))))))))))))))))))))))))) (fun K40 hK40 => ?_)
                          refine RW.zero (by kernel_rfl) (by kernel_rfl) [(0, v0), (3, .int .i64 y12), (75, .bool true)] ⟨rfl, rfl, rfl, trivial⟩ (fun a w hR hs hf => ?_)
                          refine hK40 _ _ ?_
                          replace hs := hs.keep (.d .nil)
                          have e34 := some_eq H; subst e34
                          exact hJ34 _ _ ⟨hf.sub ⟨rfl, rfl, rfl, trivial⟩, hs⟩
                        · -- not ((gd OperatingPoint.zero a0 y12).Voltage) < ((gd OperatingPo
                          refine region_d fol 35 [(0, v0), (3, .int .i64 y12), (4, .pointer (some ⟨b21, 0, none⟩))] [(0, .int .i64 y12), (1, .bool true), (2, .bool true), (3, .pointer (some ⟨b21, 0, none⟩)), (4, .int .u64 ((gd OperatingPoint.zero a0 y12).Frequency)), (5, v0), (6, .int .i64 y12), (7, .int .i64 (IntKind.i64.wrap (y12 - 1))), (8, .pointer (some (sla v0 ((IntKind.i64.wrap (y12 - 1)).toNat * 3)))), (9, .pointer (some (sla v0 ((IntKind.i64.wrap (y12 - 1)).toNat * 3 + 0)))), (10, .int .u64 ((gd OperatingPoint.zero a0 (IntKind.i64.wrap (y12 - 1))).Frequency)), (11, .bool false), (12, .bool false), (13, .pointer (some ⟨b21, 1, none⟩)), (14, .int .u64 ((gd OperatingPoint.zero a0 y12).Voltage)), (15, v0), (16, .int .i64 y12), (17, .int .i64 (IntKind.i64.wrap (y12 - 1))), (18, .pointer (some (sla v0 ((IntKind.i64.wrap (y12 - 1)).toNat * 3)))), (19, .pointer (some (sla v0 ((IntKind.i64.wrap (y12 - 1)).toNat * 3 + 1)))), (20, .int .u64 ((gd OperatingPoint.zero a0 (IntKind.i64.wrap (y12 - 1))).Voltage)), (21, .bool false), (22, .bool false), (23, .bool false), (24, .pointer (some ⟨b21, 2, none⟩)), (25, .int .u64 ((gd OperatingPoint.zero a0 y12).Power)), (26, v0), (27, .int .i64 y12), (28, .int .i64 (IntKind.i64.wrap (y12 - 1))), (29, .pointer (some (sla v0 ((IntKind.i64.wrap (y12 - 1)).toNat * 3)))), (30, .pointer (some (sla v0 ((IntKind.i64.wrap (y12 - 1)).toNat * 3 + 2)))), (31, .int .u64 ((gd OperatingPoint.zero a0 (IntKind.i64.wrap (y12 - 1))).Power)), (32, .bool (decide (((gd OperatingPoint.zero a0 y12).Power) < ((gd OperatingPoint.zero a0 (IntKind.i64.wrap (y12 - 1))).Power)))), (33, .bool (decide (((gd OperatingPoint.zero a0 y12).Power) < ((gd OperatingPoint.zero a0 (IntKind.i64.wrap (y12 - 1))).Power)))), (34, .bool (decide (((gd OperatingPoint.zero a0 y12).Power) < ((gd OperatingPoint.zero a0 (IntKind.i64.wrap (y12 - 1))).Power))))] [] (fun w => (bx b21 25 [.int .u64 ((gd OperatingPoint.zero a0 y12).Frequency), .int .u64 ((gd OperatingPoint.zero a0 y12).Voltage), .int .u64 ((gd OperatingPoint.zero a0 y12).Power)]).ok w ∧ (rsl K_api_OperatingPoint v0 a0).ok w ∧ True) (fun w => St M w0 w [bx b21 25 [.int .u64 ((gd OperatingPoint.zero a0 y12).Frequency), .int .u64 ((gd OperatingPoint.zero a0 y12).Voltage), .int .u64 ((gd OperatingPoint.zero a0 y12).Power)]]) hf ⟨rfl, rfl, rfl, trivial⟩ (by kernel_rfl) (by kernel_rfl) rfl (by decide) ⟨hs.drew.get (i := 0) rfl, hr.now hs.drew (i := 0) rfl, trivial⟩ hs.drew (.cons (⟨_, _, rfl, rfl, rfl, rfl, fun a w hR hf => .inl ⟨wanted_yes hf rfl, ex_move hf rfl⟩⟩) (.cons (⟨_, _, rfl, rfl, rfl, rfl, fun a w hR hf => .inl ⟨wanted_yes hf rfl, ex_castB (ex_gtr hf rfl rfl) (dec_t hc35)⟩⟩) (.cons (⟨_, _, rfl, rfl, rfl, rfl, fun a w hR hf => .inl ⟨wanted_yes hf rfl, ex_move hf rfl⟩⟩) (.cons (⟨_, _, rfl, rfl, rfl, rfl, fun a w hR hf => .inl ⟨wanted_yes hf rfl, ex_fieldAddrB fa_25_0 rfl hf rfl⟩⟩) (.cons (⟨_, _, rfl, rfl, rfl, rfl, fun a w hR hf => .inl ⟨wanted_yes hf rfl, ex_load sc_23 hf rfl (bx_cell (hR.1) _ rfl)⟩⟩) (.cons (⟨_, _, rfl, rfl, rfl, rfl, fun a w hR hf => .inl ⟨wanted_yes hf rfl, ex_move hf rfl⟩⟩) (.cons (⟨_, _, rfl, rfl, rfl, rfl, fun a w hR hf => .inl ⟨wanted_yes hf rfl, ex_move hf rfl⟩⟩) (.cons (⟨_, _, rfl, rfl, rfl, rfl, fun a w hR hf => .inl ⟨wanted_yes hf rfl, ex_sub hf rfl rfl⟩⟩) (.cons (⟨_, _, rfl, rfl, rfl, rfl, fun a w hR hf => .inl ⟨wanted_yes hf rfl, ex_indexAddr sa_22 (rsl_isSl hR.2.1) hc36.1 hc36.2 hf rfl rfl⟩⟩) (.cons (⟨_, _, rfl, rfl, rfl, rfl, fun a w hR hf => .inl ⟨wanted_yes hf rfl, ex_fieldAddrS fa_25_0 rfl hf rfl⟩⟩) (.cons (⟨_, _, rfl, rfl, rfl, rfl, fun a w hR hf => .inl ⟨wanted_yes hf rfl, ex_load sc_23 hf rfl (el_cell (K := K_api_OperatingPoint) (f := 0) (rsl_rd hR.2.1) hc36.1 hc36.2 rfl)⟩⟩) (.cons (⟨_, _, rfl, rfl, rfl, rfl, fun a w hR hf => .inl ⟨wanted_yes hf rfl, ex_castB (ex_leq hf rfl rfl) (dec_f hc37)⟩⟩) (.cons (⟨_, _, rfl, rfl, rfl, rfl, fun a w hR hf => .inl ⟨wanted_yes hf rfl, ex_move hf rfl⟩⟩) (.cons (⟨_, _, rfl, rfl, rfl, rfl, fun a w hR hf => .inl ⟨wanted_yes hf rfl, ex_fieldAddrB fa_25_1 rfl hf rfl⟩⟩) (.cons (⟨_, _, rfl, rfl, rfl, rfl, fun a w hR hf => .inl ⟨wanted_yes hf rfl, ex_load sc_23 hf rfl (bx_cell (hR.1) _ rfl)⟩⟩) (.cons (⟨_, _, rfl, rfl, rfl, rfl, fun a w hR hf => .inl ⟨wanted_yes hf rfl, ex_move hf rfl⟩⟩) (.cons (⟨_, _, rfl, rfl, rfl, rfl, fun a w hR hf => .inl ⟨wanted_yes hf rfl, ex_move hf rfl⟩⟩) (.cons (⟨_, _, rfl, rfl, rfl, rfl, fun a w hR hf => .inl ⟨wanted_yes hf rfl, ex_sub hf rfl rfl⟩⟩) (.cons (⟨_, _, rfl, rfl, rfl, rfl, fun a w hR hf => .inl ⟨wanted_yes hf rfl, ex_indexAddr sa_22 (rsl_isSl hR.2.1) hc36.1 hc36.2 hf rfl rfl⟩⟩) (.cons (⟨_, _, rfl, rfl, rfl, rfl, fun a w hR hf => .inl ⟨wanted_yes hf rfl, ex_fieldAddrS fa_25_1 rfl hf rfl⟩⟩) (.cons (⟨_, _, rfl, rfl, rfl, rfl, fun a w hR hf => .inl ⟨wanted_yes hf rfl, ex_load sc_23 hf rfl (el_cell (K := K_api_OperatingPoint) (f := 1) (rsl_rd hR.2.1) hc36.1 hc36.2 rfl)⟩⟩) (.cons (⟨_, _, rfl, rfl, rfl, rfl, fun a w hR hf => .inl ⟨wanted_yes hf rfl, ex_castB (ex_lss hf rfl rfl) (dec_f hc39)⟩⟩) (.cons (⟨_, _, rfl, rfl, rfl, rfl, fun a w hR hf => .inl ⟨wanted_yes hf rfl, ex_pickF hf rfl rfl⟩⟩) (.cons (⟨_, _, rfl, rfl, rfl, rfl, fun a w hR hf => .inl ⟨wanted_yes hf rfl, ex_move hf rfl⟩⟩) (.cons (⟨_, _, rfl, rfl, rfl, rfl, fun a w hR hf => .inl ⟨wanted_yes hf rfl, ex_fieldAddrB fa_25_2 rfl hf rfl⟩⟩) (.cons (⟨_, _, rfl, rfl, rfl, rfl, fun a w hR hf => .inl ⟨wanted_yes hf rfl, ex_load sc_23 hf rfl (bx_cell (hR.1) _ rfl)⟩⟩) (.cons (⟨_, _, rfl, rfl, rfl, rfl, fun a w hR hf => .inl ⟨wanted_yes hf rfl, ex_move hf rfl⟩⟩) (.cons (⟨_, _, rfl, rfl, rfl, rfl, fun a w hR hf => .inl ⟨wanted_yes hf rfl, ex_move hf rfl⟩⟩) (.cons (⟨_, _, rfl, rfl, rfl, rfl, fun a w hR hf => .inl ⟨wanted_yes hf rfl, ex_sub hf rfl rfl⟩⟩) (.cons (⟨_, _, rfl, rfl, rfl, rfl, fun a w hR hf => .inl ⟨wanted_yes hf rfl, ex_indexAddr sa_22 (rsl_isSl hR.2.1) hc36.1 hc36.2 hf rfl rfl⟩⟩) (.cons (⟨_, _, rfl, rfl, rfl, rfl, fun a w hR hf => .inl ⟨wanted_yes hf rfl, ex_fieldAddrS fa_25_2 rfl hf rfl⟩⟩) (.cons (⟨_, _, rfl, rfl, rfl, rfl, fun a w hR hf => .inl ⟨wanted_yes hf rfl, ex_load sc_23 hf rfl (el_cell (K := K_api_OperatingPoint) (f := 2) (rsl_rd hR.2.1) hc36.1 hc36.2 rfl)⟩⟩) (.cons (⟨_, _, rfl, rfl, rfl, rfl, fun a w hR hf => .inl ⟨wanted_yes hf rfl, ex_lss hf rfl rfl⟩⟩) (.cons (⟨_, _, rfl, rfl, rfl, rfl, fun a w hR hf => .inl ⟨wanted_yes hf rfl, ex_pickF hf rfl rfl⟩⟩) (.cons (⟨_, _, rfl, rfl, rfl, rfl, fun a w hR hf => .inl ⟨wanted_yes hf rfl, ex_pickT hf rfl rfl⟩⟩) (.nil)))))))))))))))))))))))))))))))))))) (fun K41 hK41 => ?_)
                          refine RW.zero (by kernel_rfl) (by kernel_rfl) [(0, v0), (3, .int .i64 y12), (75, .bool (decide (((gd OperatingPoint.zero a0 y12).Power) < ((gd OperatingPoint.zero a0 (IntKind.i64.wrap (y12 - 1))).Power))))] ⟨rfl, rfl, rfl, trivial⟩ (fun a w hR hs hf => ?_)
                          refine hK41 _ _ ?_
                          replace hs := hs.keep (.d .nil)
                          have e34 := some_eq H; subst e34
                          exact hJ34 _ _ ⟨hf.sub ⟨rfl, rfl, rfl, trivial⟩, hs⟩
                    · -- not 0 < y12
                      refine region_d fol 35 [(0, v0), (3, .int .i64 y12), (4, .pointer (some ⟨b21, 0, none⟩))] [(0, .int .i64 y12), (1, .bool false), (2, .bool false), (3, undef), (4, undef), (5, undef), (6, undef), (7, undef), (8, undef), (9, undef), (10, undef), (11, undef), (12, undef), (13, undef), (14, undef), (15, undef), (16, undef), (17, undef), (18, undef), (19, undef), (20, undef), (21, undef), (22, undef), (23, undef), (24, undef), (25, undef), (26, undef), (27, undef), (28, undef), (29, undef), (30, undef), (31, undef), (32, undef), (33, undef), (34, .bool false)] [] (fun w => (bx b21 25 [.int .u64 ((gd OperatingPoint.zero a0 y12).Frequency), .int .u64 ((gd OperatingPoint.zero a0 y12).Voltage), .int .u64 ((gd OperatingPoint.zero a0 y12).Power)]).ok w ∧ (rsl K_api_OperatingPoint v0 a0).ok w ∧ True) (fun w => St M w0 w [bx b21 25 [.int .u64 ((gd OperatingPoint.zero a0 y12).Frequency), .int .u64 ((gd OperatingPoint.zero a0 y12).Voltage), .int .u64 ((gd OperatingPoint.zero a0 y12).Power)]]) hf ⟨rfl, rfl, rfl, trivial⟩ (by kernel_rfl) (by kernel_rfl) rfl (by decide) ⟨hs.drew.get (i := 0) rfl, hr.now hs.drew (i := 0) rfl, trivial⟩ hs.drew (.cons (⟨_, _, rfl, rfl, rfl, rfl, fun a w hR hf => .inl ⟨wanted_yes hf rfl, ex_move hf rfl⟩⟩) (.cons (⟨_, _, rfl, rfl, rfl, rfl, fun a w hR hf => .inl ⟨wanted_yes hf rfl, ex_castB (ex_gtr hf rfl rfl) (dec_f hc35)⟩⟩) (.cons (⟨_, _, rfl, rfl, rfl, rfl, fun a w hR hf => .inl ⟨wanted_yes hf rfl, ex_move hf rfl⟩⟩) (.cons (⟨_, _, rfl, rfl, rfl, rfl, fun a w hR hf => .inr ⟨wanted_no hf rfl, rfl⟩⟩) (.cons (⟨_, _, rfl, rfl, rfl, rfl, fun a w hR hf => .inr ⟨wanted_no hf rfl, rfl⟩⟩) (.cons (⟨_, _, rfl, rfl, rfl, rfl, fun a w hR hf => .inr ⟨wanted_no hf rfl, rfl⟩⟩) (.cons (⟨_, _, rfl, rfl, rfl, rfl, fun a w hR hf => .inr ⟨wanted_no hf rfl, rfl⟩⟩) (.cons (⟨_, _, rfl, rfl, rfl, rfl, fun a w hR hf => .inr ⟨wanted_no hf rfl, rfl⟩⟩) (.cons (⟨_, _, rfl, rfl, rfl, rfl, fun a w hR hf => .inr ⟨wanted_no hf rfl, rfl⟩⟩) (.cons (⟨_, _, rfl, rfl, rfl, rfl, fun a w hR hf => .inr ⟨wanted_no hf rfl, rfl⟩⟩) (.cons (⟨_, _, rfl, rfl, rfl, rfl, fun a w hR hf => .inr ⟨wanted_no hf rfl, rfl⟩⟩) (.cons (⟨_, _, rfl, rfl, rfl, rfl, fun a w hR hf => .inr ⟨wanted_no hf rfl, rfl⟩⟩) (.cons (⟨_, _, rfl, rfl, rfl, rfl, fun a w hR hf => .inr ⟨wanted_no hf rfl, rfl⟩⟩) (.cons (⟨_, _, rfl, rfl, rfl, rfl, fun a w hR hf => .inr ⟨wanted_no hf rfl, rfl⟩⟩) (.cons (⟨_, _, rfl, rfl, rfl, rfl, fun a w hR hf => .inr ⟨wanted_no hf rfl, rfl⟩⟩) (.cons (⟨_, _, rfl, rfl, rfl, rfl, fun a w hR hf => .inr ⟨wanted_no hf rfl, rfl⟩⟩) (.cons (⟨_, _, rfl, rfl, rfl, rfl, fun a w hR hf => .inr ⟨wanted_no hf rfl, rfl⟩⟩) (.cons (⟨_, _, rfl, rfl, rfl, rfl, fun a w hR hf => .inr ⟨wanted_no hf rfl, rfl⟩⟩) (.cons (⟨_, _, rfl, rfl, rfl, rfl, fun a w hR hf => .inr ⟨wanted_no hf rfl, rfl⟩⟩) (.cons (⟨_, _, rfl, rfl, rfl, rfl, fun a w hR hf => .inr ⟨wanted_no hf rfl, rfl⟩⟩) (.cons (⟨_, _, rfl, rfl, rfl, rfl, fun a w hR hf => .inr ⟨wanted_no hf rfl, rfl⟩⟩) (.cons (⟨_, _, rfl, rfl, rfl, rfl, fun a w hR hf => .inr ⟨wanted_no hf rfl, rfl⟩⟩) (.cons (⟨_, _, rfl, rfl, rfl, rfl, fun a w hR hf => .inr ⟨wanted_no hf rfl, rfl⟩⟩) (.cons (⟨_, _, rfl, rfl, rfl, rfl, fun a w hR hf => .inr ⟨wanted_no hf rfl, rfl⟩⟩) (.cons (⟨_, _, rfl, rfl, rfl, rfl, fun a w hR hf => .inr ⟨wanted_no hf rfl, rfl⟩⟩) (.cons (⟨_, _, rfl, rfl, rfl, rfl, fun a w hR hf => .inr ⟨wanted_no hf rfl, rfl⟩⟩) (.cons (⟨_, _, rfl, rfl, rfl, rfl, fun a w hR hf => .inr ⟨wanted_no hf rfl, rfl⟩⟩) (.cons (⟨_, _, rfl, rfl, rfl, rfl, fun a w hR hf => .inr ⟨wanted_no hf rfl, rfl⟩⟩) (.cons (⟨_, _, rfl, rfl, rfl, rfl, fun a w hR hf => .inr ⟨wanted_no hf rfl, rfl⟩⟩) (.cons (⟨_, _, rfl, rfl, rfl, rfl, fun a w hR hf => .inr ⟨wanted_no hf rfl, rfl⟩⟩) (.cons (⟨_, _, rfl, rfl, rfl, rfl, fun a w hR hf => .inr ⟨wanted_no hf rfl, rfl⟩⟩) (.cons (⟨_, _, rfl, rfl, rfl, rfl, fun a w hR hf => .inr ⟨wanted_no hf rfl, rfl⟩⟩) (.cons (⟨_, _, rfl, rfl, rfl, rfl, fun a w hR hf => .inr ⟨wanted_no hf rfl, rfl⟩⟩) (.cons (⟨_, _, rfl, rfl, rfl, rfl, fun a w hR hf => .inr ⟨wanted_no hf rfl, rfl⟩⟩) (.cons (⟨_, _, rfl, rfl, rfl, rfl, fun a w hR hf => .inl ⟨wanted_yes hf rfl, ex_pickF hf rfl rfl⟩⟩) (.nil)))))))))))))))))))))))))))))))))))) (fun K42 hK42 => ?_)
                      refine RW.zero (by kernel_rfl) (by kernel_rfl) [(0, v0), (3, .int .i64 y12), (75, .bool false)] ⟨rfl, rfl, rfl, trivial⟩ (fun a w hR hs hf => ?_)
                      refine hK42 _ _ ?_
                      replace hs := hs.keep (.d .nil)
                      have e34 := some_eq H; subst e34
                      exact hJ34 _ _ ⟨hf.sub ⟨rfl, rfl, rfl, trivial⟩, hs⟩
                  · obtain ⟨hf, hs⟩ := hJ
                    replace H := HO34
                    clear HO34
                    refine itt H (fun hc43 H => ?_) (fun hc43 H => ?_)
                    · -- x34 = true
                      replace hf := hf.castB (t := 75) rfl hc43
                      refine cond_T hf rfl ?_
                      refine seq_reg (fun K44 hK44 => ?_)
                      refine stq hf rfl rfl rfl (ex_assign hf rfl) (fun a hf => ?_)
                      refine hK44 _ _ ?_
                      refine wp_ret ?_
                      refine hR19 _ _ ?_
                      refine hR18 _ _ ?_
                      refine hR14 _ _ ?_
                      refine hR11 _ _ ?_
                      have e9 := some_eq H; subst e9; replace H := el_rt HO9
                      refine hR9 _ _ ?_
                      have eR := some_eq H; subst eR
                      exact ret1 Try.results18 hf rfl ⟨_, rfl, ⟨rfl, hs⟩⟩
                    · -- not x34 = true
                      replace hf := hf.castB (t := 75) rfl (bool_f hc43)
                      refine cond_F hf rfl ?_
                      refine wp_skip ?_
                      refine hN19 _ _ ?_
                      refine hN18 _ _ ?_
                      refine region_k (fun K45 hK45 => ?_)
                      refine stq hf rfl rfl rfl (ex_move hf rfl) (fun a hf => ?_)
                      refine stq hf rfl rfl rfl (ex_add hf rfl rfl) (fun a hf => ?_)
                      refine stq hf rfl rfl rfl (ex_assign hf rfl) (fun a hf => ?_)
                      refine hK45 _ _ ?_
                      exact hL14 k14 _ _ (Nat.lt_succ_self _) ⟨(IntKind.i64.wrap (y12 + 1)), hf.sub ⟨rfl, rfl, trivial⟩, hs, H⟩
            · -- not y12 < (a0.length : Int)
              replace hf := hf.castB (t := 16) rfl (dec_f hc17)
              refine cond_F hf rfl ?_
              refine wp_exit ?_
              refine hX15 0 _ _ ?_
              refine hX14 0 _ _ ?_
              refine hX11 _ _ ?_
              have e9 := some_eq H; subst e9
              exact hJ9 _ _ ⟨_, rfl, hf.sub trivial, hs⟩
      · obtain ⟨x9s, rfl, hf, hs⟩ := hJ
        replace H := el_go HO9
        clear HO9
        refine seq_reg (fun K46 hK46 => ?_)
        refine stq hf rfl rfl rfl (ex_assign hf rfl) (fun a hf => ?_)
        refine hK46 _ _ ?_
        refine wp_ret ?_
        have eR := some_eq H; subst eR
        exact ret1 Try.results18 hf rfl ⟨_, rfl, ⟨rfl, hs⟩⟩

set_option maxRecDepth 100000 in
theorem ref36_Find.calls {M : Nat → Prop} {w0 : World} (k : Nat) (a0 : (List OperatingPoint)) (a1 : Int) (v0 : Value) {r : Int × Int} (hs : St M w0 w0 []) (hr : Sr M w0 [rsl K_api_OperatingPoint v0 a0])
    (h : ref36_Find.f k a0 a1 = some r) : Calls Try.prog 16 #[v0, .int .u64 a1] w0 fun e w => ∃ v, e = .returned v ∧ (.tuple #[.int .i64 r.1, .int .i64 r.2] = v ∧ St M w0 w []) := by
  have H := (ref36_Find.f.eq_1 ..).symm.trans h
  clear h
  refine enter Try.func16 rfl Try.ntmps16 rfl (fun a hf => ?_)
  refine seq_reg (fun K1 hK1 => ?_)
  refine stq hf rfl rfl rfl (ex_assign hf rfl) (fun a hf => ?_)
  refine stq hf rfl rfl rfl (ex_assign hf rfl) (fun a hf => ?_)
  refine hK1 _ _ ?_
  refine seq_n (fun Q2 hN2 hR2 hX2 => ?_)
  refine bnd H (fun s3 hs3 H => ?_)
  refine seq_reg (fun K4 hK4 => ?_)
  refine stq hf rfl rfl rfl (ex_move hf rfl) (fun a hf => ?_)
  refine stepF hf rfl rfl rfl (ex_call cf_18 hf rfl) (ref36_Check.calls k a0 v0 (hs.enter .nil) (Sr.old hr hs .nil (i := 0) rfl (fun _ h => h) (fun _ h => h) (Sr.nil _ _)) hs3) (fun v w hR a hf => ?_)
  obtain ⟨rfl, hs'⟩ := hR
  replace hs := hs.step .nil hs'
  clear hs'
  refine stq hf rfl rfl rfl (ex_assign hf rfl) (fun a hf => ?_)
  refine hK4 _ _ ?_
  refine seq_reg (fun K5 hK5 => ?_)
  refine stq hf rfl rfl rfl (ex_move hf rfl) (fun a hf => ?_)
  refine stq hf rfl rfl rfl (ex_neq hf rfl rfl) (fun a hf => ?_)
  refine hK5 _ _ ?_
  refine itt H (fun hc6 H => ?_) (fun hc6 H => ?_)
  · -- s3 = 0
    replace hf := hf.castB (t := 11) rfl (ndec_f hc6)
    refine cond_F hf rfl ?_
    refine wp_skip ?_
    refine hN2 _ _ ?_
    refine bnd H (fun x7 H7 HO7 => ?_)
    clear H
    refine seq_cut (fun a w => ∃ (x7s : Unit), x7 = .go x7s ∧ Fr a 27 [] ∧ St M w0 w []) (fun Q7 hJ7 hR7 hX7 => ?_) (fun a w hJ => ?_)
    · replace H := H7
      refine seq_reg (fun K8 hK8 => ?_)
      refine stq hf rfl rfl rfl (ex_assign hf rfl) (fun a hf => ?_)
      refine hK8 _ _ ?_
      refine block_k (fun Q9 hN9 hR9 hX9 hY9 => ?_)
      refine loop_k (fun n a w => ∃ (y10 : Int), Fr a 27 [(0, v0), (1, .int .u64 a1), (7, .int .i64 y10)] ∧ St M w0 w [] ∧ ref36_Find.l1 n a0 a1 y10 = some x7) k ?_ (fun n12 a w hI Q12 hL12 hR12 hX12 => ?_)
      · -- at the start
        exact ⟨0, hf.sub ⟨rfl, rfl, rfl, trivial⟩, hs, H⟩
      · obtain ⟨y10, hf, hs, H⟩ := hI
        cases n12 with
        | zero => exact absurd H (by rw [ref36_Find.l1.eq_1]; intro h; cases h)
        | succ k12 =>
          replace H := (ref36_Find.l1.eq_2 ..).symm.trans H
          refine seq_n (fun Q13 hN13 hR13 hX13 => ?_)
          refine seq_reg (fun K14 hK14 => ?_)
          refine stq hf rfl rfl rfl (ex_move hf rfl) (fun a hf => ?_)
          refine stq hf rfl rfl rfl (ex_move hf rfl) (fun a hf => ?_)
          refine stq hf rfl rfl rfl (ex_lenS Try.underlying22 (rsl_isSl (hr.now hs (i := 0) rfl)) hf rfl) (fun a hf => ?_)
          refine stq hf rfl rfl rfl (ex_lss hf rfl rfl) (fun a hf => ?_)
          refine hK14 _ _ ?_
          refine itt H (fun hc15 H => ?_) (fun hc15 H => ?_)
          · -- y10 < (a0.length : Int)
            replace hf := hf.castB (t := 16) rfl (dec_t hc15)
            refine cond_T hf rfl ?_
            refine wp_skip ?_
            refine hN13 _ _ ?_
            refine seq_n (fun Q16 hN16 hR16 hX16 => ?_)
            refine block_k (fun Q17 hN17 hR17 hX17 hY17 => ?_)
            refine ck_some H (fun hc18 H => ?_)
            refine seq_reg (fun K19 hK19 => ?_)
            refine stq hf rfl rfl rfl (ex_move hf rfl) (fun a hf => ?_)
            refine stq hf rfl rfl rfl (ex_move hf rfl) (fun a hf => ?_)
            refine stq hf rfl rfl rfl (ex_indexAddr sa_22 (rsl_isSl (hr.now hs (i := 0) rfl)) hc18.1 hc18.2 hf rfl rfl) (fun a hf => ?_)
            refine stq hf rfl rfl rfl (ex_fieldAddrS fa_25_0 rfl hf rfl) (fun a hf => ?_)
            refine stq hf rfl rfl rfl (ex_load sc_23 hf rfl (el_cell (K := K_api_OperatingPoint) (f := 0) (rsl_rd (hr.now hs (i := 0) rfl)) hc18.1 hc18.2 rfl)) (fun a hf => ?_)
            refine stq hf rfl rfl rfl (ex_move hf rfl) (fun a hf => ?_)
            refine stq hf rfl rfl rfl (ex_geq hf rfl rfl) (fun a hf => ?_)
            refine hK19 _ _ ?_
            refine itt H (fun hc20 H => ?_) (fun hc20 H => ?_)
            · -- a1 ≤ ((gd OperatingPoint.zero a0 y10).Frequency)
              replace hf := hf.castB (t := 25) rfl (dec_t hc20)
              refine cond_T hf rfl ?_
              refine seq_reg (fun K21 hK21 => ?_)
              refine stq hf rfl rfl rfl (ex_move hf rfl) (fun a hf => ?_)
              refine stq hf rfl rfl rfl (ex_assign hf rfl) (fun a hf => ?_)
              refine stq hf rfl rfl rfl (ex_assign hf rfl) (fun a hf => ?_)
              refine hK21 _ _ ?_
              refine wp_ret ?_
              refine hR17 _ _ ?_
              refine hR16 _ _ ?_
              refine hR12 _ _ ?_
              refine hR9 _ _ ?_
              have e7 := some_eq H; subst e7; replace H := el_rt HO7
              refine hR7 _ _ ?_
              have eR := some_eq H; subst eR
              exact ret2 Try.results16 hf rfl rfl ⟨_, rfl, ⟨rfl, hs⟩⟩
            · -- not a1 ≤ ((gd OperatingPoint.zero a0 y10).Frequency)
              replace hf := hf.castB (t := 25) rfl (dec_f hc20)
              refine cond_F hf rfl ?_
              refine wp_skip ?_
              refine hN17 _ _ ?_
              refine hN16 _ _ ?_
              refine region_k (fun K22 hK22 => ?_)
              refine stq hf rfl rfl rfl (ex_move hf rfl) (fun a hf => ?_)
              refine stq hf rfl rfl rfl (ex_add hf rfl rfl) (fun a hf => ?_)
              refine stq hf rfl rfl rfl (ex_assign hf rfl) (fun a hf => ?_)
              refine hK22 _ _ ?_
              exact hL12 k12 _ _ (Nat.lt_succ_self _) ⟨(IntKind.i64.wrap (y10 + 1)), hf.sub ⟨rfl, rfl, rfl, trivial⟩, hs, H⟩
          · -- not y10 < (a0.length : Int)
            replace hf := hf.castB (t := 16) rfl (dec_f hc15)
            refine cond_F hf rfl ?_
            refine wp_exit ?_
            refine hX13 0 _ _ ?_
            refine hX12 0 _ _ ?_
            refine hX9 _ _ ?_
            have e7 := some_eq H; subst e7
            exact hJ7 _ _ ⟨_, rfl, hf.sub trivial, hs⟩
    · obtain ⟨x7s, rfl, hf, hs⟩ := hJ
      replace H := el_go HO7
      clear HO7
      refine seq_reg (fun K23 hK23 => ?_)
      refine stq hf rfl rfl rfl (ex_assign hf rfl) (fun a hf => ?_)
      refine stq hf rfl rfl rfl (ex_assign hf rfl) (fun a hf => ?_)
      refine hK23 _ _ ?_
      refine wp_ret ?_
      have eR := some_eq H; subst eR
      exact ret2 Try.results16 hf rfl rfl ⟨_, rfl, ⟨rfl, hs⟩⟩
  · -- not s3 = 0
    replace hf := hf.castB (t := 11) rfl (ndec_t hc6)
    refine cond_T hf rfl ?_
    refine seq_reg (fun K24 hK24 => ?_)
    refine stq hf rfl rfl rfl (ex_move hf rfl) (fun a hf => ?_)
    refine stq hf rfl rfl rfl (ex_assign hf rfl) (fun a hf => ?_)
    refine stq hf rfl rfl rfl (ex_assign hf rfl) (fun a hf => ?_)
    refine hK24 _ _ ?_
    refine wp_ret ?_
    refine hR2 _ _ ?_
    have eR := some_eq H; subst eR
    exact ret2 Try.results16 hf rfl rfl ⟨_, rfl, ⟨rfl, hs⟩⟩

set_option maxRecDepth 100000 in
theorem ref36_Transition.calls {M : Nat → Prop} {w0 : World} (k : Nat) (a0 : (List OperatingPoint)) (a1 : Int) (a2 : Int) (v0 : Value) {r : (List PerfOp) × Int} (hs : St M w0 w0 []) (hr : Sr M w0 [rsl K_api_OperatingPoint v0 a0])
    (h : ref36_Transition.f k a0 a1 a2 = some r) : Calls Try.prog 20 #[v0, .int .i64 a1, .int .i64 a2] w0 fun e w => ∃ v, e = .returned v ∧ (∃ (g0 : Value), .tuple #[g0, .int .i64 r.2] = v ∧ St M w0 w [osl K_api_PerfOp g0 r.1]) := by
  have H := (ref36_Transition.f.eq_1 ..).symm.trans h
  clear h
  refine enter Try.func20 rfl Try.ntmps20 rfl (fun a hf => ?_)
  refine seq_reg (fun K1 hK1 => ?_)
  refine stq hf rfl rfl rfl (ex_assign hf rfl) (fun a hf => ?_)
  refine stq hf rfl rfl rfl (ex_assign hf rfl) (fun a hf => ?_)
  refine hK1 _ _ ?_
  refine seq_n (fun Q2 hN2 hR2 hX2 => ?_)
  refine bnd H (fun s3 hs3 H => ?_)
  refine seq_reg (fun K4 hK4 => ?_)
  refine stq hf rfl rfl rfl (ex_move hf rfl) (fun a hf => ?_)
  refine stepF hf rfl rfl rfl (ex_call cf_18 hf rfl) (ref36_Check.calls k a0 v0 (hs.enter .nil) (Sr.old hr hs .nil (i := 0) rfl (fun _ h => h) (fun _ h => h) (Sr.nil _ _)) hs3) (fun v w hR a hf => ?_)
  obtain ⟨rfl, hs'⟩ := hR
  replace hs := hs.step .nil hs'
  clear hs'
  refine stq hf rfl rfl rfl (ex_assign hf rfl) (fun a hf => ?_)
  refine hK4 _ _ ?_
  refine seq_reg (fun K5 hK5 => ?_)
  refine stq hf rfl rfl rfl (ex_move hf rfl) (fun a hf => ?_)
  refine stq hf rfl rfl rfl (ex_neq hf rfl rfl) (fun a hf => ?_)
  refine hK5 _ _ ?_
  refine itt H (fun hc6 H => ?_) (fun hc6 H => ?_)
  · -- s3 = 0
    replace hf := hf.castB (t := 14) rfl (ndec_f hc6)
    refine cond_F hf rfl ?_
    refine wp_skip ?_
    refine hN2 _ _ ?_
    refine seq_n (fun Q7 hN7 hR7 hX7 => ?_)
    refine bnd H (fun x8 H8 HO8 => ?_)
    clear H
    refine seq_cut (fun a w => Fr a 71 [(0, v0), (1, .int .i64 a1), (2, .int .i64 a2), (33, .bool x8)] ∧ St M w0 w []) (fun Q8 hJ8 hR8 hX8 => ?_) (fun a w hJ => ?_)
    · replace H := H8
      refine itt H (fun hc9 H => ?_) (fun hc9 H => ?_)
      · -- a1 < 0
        refine region_k (fun K10 hK10 => ?_)
        refine stq hf rfl rfl rfl (ex_move hf rfl) (fun a hf => ?_)
        refine stq hf rfl rfl rfl (ex_lss hf rfl rfl) (fun a hf => ?_)
        refine stq hf rfl rfl rfl (ex_move hf rfl) (fun a hf => ?_)
        replace hf := hf.castB (t := 17) rfl (dec_t hc9)
        replace hf := hf.castB (t := 18) rfl (dec_t hc9)
        refine stepN hf rfl rfl rfl (fun a hf => ?_)
        refine stepN hf rfl rfl rfl (fun a hf => ?_)
        refine stepN hf rfl rfl rfl (fun a hf => ?_)
        refine stepN hf rfl rfl rfl (fun a hf => ?_)
        refine stq hf rfl rfl rfl (ex_pickT hf rfl rfl) (fun a hf => ?_)
        refine stq hf rfl rfl rfl (ex_move hf rfl) (fun a hf => ?_)
        refine stepN hf rfl rfl rfl (fun a hf => ?_)
        refine stepN hf rfl rfl rfl (fun a hf => ?_)
        refine stq hf rfl rfl rfl (ex_pickT hf rfl rfl) (fun a hf => ?_)
        refine stq hf rfl rfl rfl (ex_move hf rfl) (fun a hf => ?_)
        refine stepN hf rfl rfl rfl (fun a hf => ?_)
        refine stepN hf rfl rfl rfl (fun a hf => ?_)
        refine stepN hf rfl rfl rfl (fun a hf => ?_)
        refine stepN hf rfl rfl rfl (fun a hf => ?_)
        refine stq hf rfl rfl rfl (ex_pickT hf rfl rfl) (fun a hf => ?_)
        refine hK10 _ _ ?_
        have e8 := some_eq H; subst e8
        exact hJ8 _ _ ⟨hf.sub ⟨rfl, rfl, rfl, rfl, trivial⟩, hs⟩
      · -- not a1 < 0
        refine itt H (fun hc11 H => ?_) (fun hc11 H => ?_)
        · -- (a0.length : Int) ≤ a1
          refine region_k (fun K12 hK12 => ?_)
          refine stq hf rfl rfl rfl (ex_move hf rfl) (fun a hf => ?_)
          refine stq hf rfl rfl rfl (ex_lss hf rfl rfl) (fun a hf => ?_)
          refine stq hf rfl rfl rfl (ex_move hf rfl) (fun a hf => ?_)
          replace hf := hf.castB (t := 17) rfl (dec_f hc9)
          replace hf := hf.castB (t := 18) rfl (dec_f hc9)
          refine stq hf rfl rfl rfl (ex_move hf rfl) (fun a hf => ?_)
          refine stq hf rfl rfl rfl (ex_move hf rfl) (fun a hf => ?_)
          refine stq hf rfl rfl rfl (ex_lenS Try.underlying22 (rsl_isSl (hr.now hs (i := 0) rfl)) hf rfl) (fun a hf => ?_)
          refine stq hf rfl rfl rfl (ex_geq hf rfl rfl) (fun a hf => ?_)
          refine stq hf rfl rfl rfl (ex_pickF hf rfl rfl) (fun a hf => ?_)
          refine stq hf rfl rfl rfl (ex_move hf rfl) (fun a hf => ?_)
          replace hf := hf.castB (t := 22) rfl (dec_t hc11)
          replace hf := hf.castB (t := 23) rfl (dec_t hc11)
          replace hf := hf.castB (t := 24) rfl (dec_t hc11)
          refine stepN hf rfl rfl rfl (fun a hf => ?_)
          refine stepN hf rfl rfl rfl (fun a hf => ?_)
          refine stq hf rfl rfl rfl (ex_pickT hf rfl rfl) (fun a hf => ?_)
          refine stq hf rfl rfl rfl (ex_move hf rfl) (fun a hf => ?_)
          refine stepN hf rfl rfl rfl (fun a hf => ?_)
          refine stepN hf rfl rfl rfl (fun a hf => ?_)
          refine stepN hf rfl rfl rfl (fun a hf => ?_)
          refine stepN hf rfl rfl rfl (fun a hf => ?_)
          refine stq hf rfl rfl rfl (ex_pickT hf rfl rfl) (fun a hf => ?_)
          refine hK12 _ _ ?_
          have e8 := some_eq H; subst e8
          exact hJ8 _ _ ⟨hf.sub ⟨rfl, rfl, rfl, rfl, trivial⟩, hs⟩
        · -- not (a0.length : Int) ≤ a1
          refine itt H (fun hc13 H => ?_) (fun hc13 H => ?_)
          · -- a2 < 0
            refine region_k (fun K14 hK14 => ?_)
            refine stq hf rfl rfl rfl (ex_move hf rfl) (fun a hf => ?_)
            refine stq hf rfl rfl rfl (ex_lss hf rfl rfl) (fun a hf => ?_)
            refine stq hf rfl rfl rfl (ex_move hf rfl) (fun a hf => ?_)
            replace hf := hf.castB (t := 17) rfl (dec_f hc9)
            replace hf := hf.castB (t := 18) rfl (dec_f hc9)
            refine stq hf rfl rfl rfl (ex_move hf rfl) (fun a hf => ?_)
            refine stq hf rfl rfl rfl (ex_move hf rfl) (fun a hf => ?_)
            refine stq hf rfl rfl rfl (ex_lenS Try.underlying22 (rsl_isSl (hr.now hs (i := 0) rfl)) hf rfl) (fun a hf => ?_)
            refine stq hf rfl rfl rfl (ex_geq hf rfl rfl) (fun a hf => ?_)
            refine stq hf rfl rfl rfl (ex_pickF hf rfl rfl) (fun a hf => ?_)
            refine stq hf rfl rfl rfl (ex_move hf rfl) (fun a hf => ?_)
            replace hf := hf.castB (t := 22) rfl (dec_f hc11)
            replace hf := hf.castB (t := 23) rfl (dec_f hc11)
            replace hf := hf.castB (t := 24) rfl (dec_f hc11)
            refine stq hf rfl rfl rfl (ex_move hf rfl) (fun a hf => ?_)
            refine stq hf rfl rfl rfl (ex_lss hf rfl rfl) (fun a hf => ?_)
            refine stq hf rfl rfl rfl (ex_pickF hf rfl rfl) (fun a hf => ?_)
            refine stq hf rfl rfl rfl (ex_move hf rfl) (fun a hf => ?_)
            replace hf := hf.castB (t := 26) rfl (dec_t hc13)
            replace hf := hf.castB (t := 27) rfl (dec_t hc13)
            replace hf := hf.castB (t := 28) rfl (dec_t hc13)
            refine stepN hf rfl rfl rfl (fun a hf => ?_)
            refine stepN hf rfl rfl rfl (fun a hf => ?_)
            refine stepN hf rfl rfl rfl (fun a hf => ?_)
            refine stepN hf rfl rfl rfl (fun a hf => ?_)
            refine stq hf rfl rfl rfl (ex_pickT hf rfl rfl) (fun a hf => ?_)
            refine hK14 _ _ ?_
            have e8 := some_eq H; subst e8
            exact hJ8 _ _ ⟨hf.sub ⟨rfl, rfl, rfl, rfl, trivial⟩, hs⟩
          · -- not a2 < 0
            refine region_k (fun K15 hK15 => ?_)
            refine stq hf rfl rfl rfl (ex_move hf rfl) (fun a hf => ?_)
            refine stq hf rfl rfl rfl (ex_lss hf rfl rfl) (fun a hf => ?_)
            refine stq hf rfl rfl rfl (ex_move hf rfl) (fun a hf => ?_)
            replace hf := hf.castB (t := 17) rfl (dec_f hc9)
            replace hf := hf.castB (t := 18) rfl (dec_f hc9)
            refine stq hf rfl rfl rfl (ex_move hf rfl) (fun a hf => ?_)
            refine stq hf rfl rfl rfl (ex_move hf rfl) (fun a hf => ?_)
            refine stq hf rfl rfl rfl (ex_lenS Try.underlying22 (rsl_isSl (hr.now hs (i := 0) rfl)) hf rfl) (fun a hf => ?_)
            refine stq hf rfl rfl rfl (ex_geq hf rfl rfl) (fun a hf => ?_)
            refine stq hf rfl rfl rfl (ex_pickF hf rfl rfl) (fun a hf => ?_)
            refine stq hf rfl rfl rfl (ex_move hf rfl) (fun a hf => ?_)
            replace hf := hf.castB (t := 22) rfl (dec_f hc11)
            replace hf := hf.castB (t := 23) rfl (dec_f hc11)
            replace hf := hf.castB (t := 24) rfl (dec_f hc11)
            refine stq hf rfl rfl rfl (ex_move hf rfl) (fun a hf => ?_)
            refine stq hf rfl rfl rfl (ex_lss hf rfl rfl) (fun a hf => ?_)
            refine stq hf rfl rfl rfl (ex_pickF hf rfl rfl) (fun a hf => ?_)
            refine stq hf rfl rfl rfl (ex_move hf rfl) (fun a hf => ?_)
            replace hf := hf.castB (t := 26) rfl (dec_f hc13)
            replace hf := hf.castB (t := 27) rfl (dec_f hc13)
            replace hf := hf.castB (t := 28) rfl (dec_f hc13)
            refine stq hf rfl rfl rfl (ex_move hf rfl) (fun a hf => ?_)
            refine stq hf rfl rfl rfl (ex_move hf rfl) (fun a hf => ?_)
            refine stq hf rfl rfl rfl (ex_lenS Try.underlying22 (rsl_isSl (hr.now hs (i := 0) rfl)) hf rfl) (fun a hf => ?_)
            refine stq hf rfl rfl rfl (ex_geq hf rfl rfl) (fun a hf => ?_)
            refine stq hf rfl rfl rfl (ex_pickF hf rfl rfl) (fun a hf => ?_)
            refine hK15 _ _ ?_
            have e8 := some_eq H; subst e8
            exact hJ8 _ _ ⟨hf.sub ⟨rfl, rfl, rfl, rfl, trivial⟩, hs⟩
    · obtain ⟨hf, hs⟩ := hJ
      replace H := HO8
      clear HO8
      refine itt H (fun hc16 H => ?_) (fun hc16 H => ?_)
      · -- x8 = true
        replace hf := hf.castB (t := 33) rfl hc16
        refine cond_T hf rfl ?_
        refine seq_reg (fun K17 hK17 => ?_)
        refine stq hf rfl rfl rfl (ex_assign hf rfl) (fun a hf => ?_)
        refine stq hf rfl rfl rfl (ex_assign hf rfl) (fun a hf => ?_)
        refine hK17 _ _ ?_
        refine wp_ret ?_
        refine hR7 _ _ ?_
        have eR := some_eq H; subst eR
        replace hs := hs.nilS K_api_PerfOp
        exact ret2 Try.results20 hf rfl rfl ⟨_, rfl, ⟨(.slice none 0 0), rfl, hs⟩⟩
      · -- not x8 = true
        replace hf := hf.castB (t := 33) rfl (bool_f hc16)
        refine cond_F hf rfl ?_
        refine wp_skip ?_
        refine hN7 _ _ ?_
        refine seq_n (fun Q18 hN18 hR18 hX18 => ?_)
        refine seq_reg (fun K19 hK19 => ?_)
        refine stq hf rfl rfl rfl (ex_move hf rfl) (fun a hf => ?_)
        refine stq hf rfl rfl rfl (ex_move hf rfl) (fun a hf => ?_)
        refine stq hf rfl rfl rfl (ex_eql hf rfl rfl) (fun a hf => ?_)
        refine hK19 _ _ ?_
        refine itt H (fun hc20 H => ?_) (fun hc20 H => ?_)
        · -- a1 = a2
          replace hf := hf.castB (t := 36) rfl (dec_t hc20)
          refine cond_T hf rfl ?_
          refine seq_reg (fun K21 hK21 => ?_)
          refine stq hf rfl rfl rfl (ex_assign hf rfl) (fun a hf => ?_)
          refine stq hf rfl rfl rfl (ex_assign hf rfl) (fun a hf => ?_)
          refine hK21 _ _ ?_
          refine wp_ret ?_
          refine hR18 _ _ ?_
          have eR := some_eq H; subst eR
          replace hs := hs.nilS K_api_PerfOp
          exact ret2 Try.results20 hf rfl rfl ⟨_, rfl, ⟨(.slice none 0 0), rfl, hs⟩⟩
        · -- not a1 = a2
          replace hf := hf.castB (t := 36) rfl (dec_f hc20)
          refine cond_F hf rfl ?_
          refine wp_skip ?_
          refine hN18 _ _ ?_
          refine ck_some H (fun hc22 H => ?_)
          refine seq_reg (fun K24 hK24 => ?_)
          refine stq hf rfl rfl rfl (ex_move hf rfl) (fun a hf => ?_)
          refine stq hf rfl rfl rfl (ex_move hf rfl) (fun a hf => ?_)
          refine stq hf rfl rfl rfl (ex_indexAddr sa_22 (rsl_isSl (hr.now hs (i := 0) rfl)) hc22.1 hc22.2 hf rfl rfl) (fun a hf => ?_)
          refine stq hf rfl rfl rfl (ex_fieldAddrS fa_25_1 rfl hf rfl) (fun a hf => ?_)
          refine stq hf rfl rfl rfl (ex_load sc_23 hf rfl (el_cell (K := K_api_OperatingPoint) (f := 1) (rsl_rd (hr.now hs (i := 0) rfl)) hc22.1 hc22.2 rfl)) (fun a hf => ?_)
          refine stq hf rfl rfl rfl (ex_build (cs := [.bool true, .int .u64 ((gd OperatingPoint.zero a0 a2).Voltage)]) bt_40 hf rfl (.cons rfl (.cons rfl .nil)) rfl) (fun a hf => ?_)
          refine stepV hf rfl rfl rfl (er_alloc hs ti_40 (cs := [.bool false, .int .u64 0]) rfl) (fun v w hR a hf => ?_)
          obtain ⟨b23, rfl, hs⟩ := hR
          refine stepS hf rfl rfl (er_storeAB (vs := [.bool true, .int .u64 ((gd OperatingPoint.zero a0 a2).Voltage)]) (cs' := [.bool true, .int .u64 ((gd OperatingPoint.zero a0 a2).Voltage)]) hs (.c .nil) sz_40 hf rfl rfl (all1 rfl (all1 rfl (all1_nil))) rfl rfl) (fun w hs => ?_)
          refine hK24 _ _ ?_
          refine seq_reg (fun K26 hK26 => ?_)
          refine stq hf rfl rfl rfl (ex_move hf rfl) (fun a hf => ?_)
          refine stq hf rfl rfl rfl (ex_move hf rfl) (fun a hf => ?_)
          refine stq hf rfl rfl rfl (ex_indexAddr sa_22 (rsl_isSl (hr.now hs (i := 0) rfl)) hc22.1 hc22.2 hf rfl rfl) (fun a hf => ?_)
          refine stq hf rfl rfl rfl (ex_fieldAddrS fa_25_0 rfl hf rfl) (fun a hf => ?_)
          refine stq hf rfl rfl rfl (ex_load sc_23 hf rfl (el_cell (K := K_api_OperatingPoint) (f := 0) (rsl_rd (hr.now hs (i := 0) rfl)) hc22.1 hc22.2 rfl)) (fun a hf => ?_)
          refine stq hf rfl rfl rfl (ex_build (cs := [.bool false, .int .u64 ((gd OperatingPoint.zero a0 a2).Frequency)]) bt_40 hf rfl (.cons rfl .nil) rfl) (fun a hf => ?_)
          refine stepV hf rfl rfl rfl (er_alloc hs ti_40 (cs := [.bool false, .int .u64 0]) rfl) (fun v w hR a hf => ?_)
          obtain ⟨b25, rfl, hs⟩ := hR
          refine stepS hf rfl rfl (er_storeAB (vs := [.bool false, .int .u64 ((gd OperatingPoint.zero a0 a2).Frequency)]) (cs' := [.bool false, .int .u64 ((gd OperatingPoint.zero a0 a2).Frequency)]) hs (.c (.k .nil)) sz_40 hf rfl rfl (all1 rfl (all1 rfl (all1_nil))) rfl rfl) (fun w hs => ?_)
          refine hK26 _ _ ?_
          refine seq_n (fun Q27 hN27 hR27 hX27 => ?_)
          refine seq_n (fun Q28 hN28 hR28 hX28 => ?_)
          refine ck_some H (fun hc29 H => ?_)
          refine region_d fol 11 [(0, v0), (1, .int .i64 a1), (2, .int .i64 a2), (9, .pointer (some ⟨b23, 0, none⟩)), (10, .pointer (some ⟨b25, 0, none⟩))] [(0, v0), (1, .int .i64 a1), (2, .pointer (some (sla v0 (a1.toNat * 3)))), (3, .pointer (some (sla v0 (a1.toNat * 3 + 1)))), (4, .int .u64 ((gd OperatingPoint.zero a0 a1).Voltage)), (5, v0), (6, .int .i64 a2), (7, .pointer (some (sla v0 (a2.toNat * 3)))), (8, .pointer (some (sla v0 (a2.toNat * 3 + 1)))), (9, .int .u64 ((gd OperatingPoint.zero a0 a2).Voltage)), (10, .bool (decide (((gd OperatingPoint.zero a0 a1).Voltage) = ((gd OperatingPoint.zero a0 a2).Voltage))))] [] (fun w => (rsl K_api_OperatingPoint v0 a0).ok w ∧ True) (fun w => St M w0 w [bx b25 40 [.bool false, .int .u64 ((gd OperatingPoint.zero a0 a2).Frequency)], bx b23 40 [.bool true, .int .u64 ((gd OperatingPoint.zero a0 a2).Voltage)]]) hf ⟨rfl, rfl, rfl, rfl, rfl, trivial⟩ (by kernel_rfl) (by kernel_rfl) rfl (by decide) ⟨hr.now hs.drew (i := 0) rfl, trivial⟩ hs.drew (.cons (⟨_, _, rfl, rfl, rfl, rfl, fun a w hR hf => .inl ⟨wanted_yes hf rfl, ex_move hf rfl⟩⟩) (.cons (⟨_, _, rfl, rfl, rfl, rfl, fun a w hR hf => .inl ⟨wanted_yes hf rfl, ex_move hf rfl⟩⟩) (.cons (⟨_, _, rfl, rfl, rfl, rfl, fun a w hR hf => .inl ⟨wanted_yes hf rfl, ex_indexAddr sa_22 (rsl_isSl hR.1) hc29.1 hc29.2 hf rfl rfl⟩⟩) (.cons (⟨_, _, rfl, rfl, rfl, rfl, fun a w hR hf => .inl ⟨wanted_yes hf rfl, ex_fieldAddrS fa_25_1 rfl hf rfl⟩⟩) (.cons (⟨_, _, rfl, rfl, rfl, rfl, fun a w hR hf => .inl ⟨wanted_yes hf rfl, ex_load sc_23 hf rfl (el_cell (K := K_api_OperatingPoint) (f := 1) (rsl_rd hR.1) hc29.1 hc29.2 rfl)⟩⟩) (.cons (⟨_, _, rfl, rfl, rfl, rfl, fun a w hR hf => .inl ⟨wanted_yes hf rfl, ex_move hf rfl⟩⟩) (.cons (⟨_, _, rfl, rfl, rfl, rfl, fun a w hR hf => .inl ⟨wanted_yes hf rfl, ex_move hf rfl⟩⟩) (.cons (⟨_, _, rfl, rfl, rfl, rfl, fun a w hR hf => .inl ⟨wanted_yes hf rfl, ex_indexAddr sa_22 (rsl_isSl hR.1) hc22.1 hc22.2 hf rfl rfl⟩⟩) (.cons (⟨_, _, rfl, rfl, rfl, rfl, fun a w hR hf => .inl ⟨wanted_yes hf rfl, ex_fieldAddrS fa_25_1 rfl hf rfl⟩⟩) (.cons (⟨_, _, rfl, rfl, rfl, rfl, fun a w hR hf => .inl ⟨wanted_yes hf rfl, ex_load sc_23 hf rfl (el_cell (K := K_api_OperatingPoint) (f := 1) (rsl_rd hR.1) hc22.1 hc22.2 rfl)⟩⟩) (.cons (⟨_, _, rfl, rfl, rfl, rfl, fun a w hR hf => .inl ⟨wanted_yes hf rfl, ex_eql hf rfl rfl⟩⟩) (.nil)))))))))))) (fun K30 hK30 => ?_)
          refine RW.zero (by kernel_rfl) (by kernel_rfl) [(1, .int .i64 a1), (2, .int .i64 a2), (9, .pointer (some ⟨b23, 0, none⟩)), (10, .pointer (some ⟨b25, 0, none⟩)), (59, .bool (decide (((gd OperatingPoint.zero a0 a1).Voltage) = ((gd OperatingPoint.zero a0 a2).Voltage))))] ⟨rfl, rfl, rfl, rfl, rfl, trivial⟩ (fun a w hR hs hf => ?_)
          refine hK30 _ _ ?_
          refine hN28 _ _ ?_
          refine itt H (fun hc31 H => ?_) (fun hc31 H => ?_)
          · -- ((gd OperatingPoint.zero a0 a1).Voltage) = ((gd OperatingPoi
            replace hf := hf.castB (t := 59) rfl (dec_t hc31)
            refine cond_T hf rfl ?_
            refine seq_reg (fun K33 hK33 => ?_)
            refine stq hf rfl rfl rfl (ex_loadA (cs := [.bool false, .int .u64 ((gd OperatingPoint.zero a0 a2).Frequency)]) ag_40 hf rfl (bx_cells (hs.get (i := 0) rfl) rfl)) (fun a hf => ?_)
            refine stepV hf rfl rfl rfl (er_buildSlice (K := K_api_PerfOp) (xs := [(⟨false, ((gd OperatingPoint.zero a0 a2).Frequency)⟩ : PerfOp)]) hs Try.underlying35 ep_40 rfl rfl hf rfl (.cons rfl .nil) rfl rfl) (fun v32 w hs a hf => ?_)
            refine stq hf rfl rfl rfl (ex_assign hf rfl) (fun a hf => ?_)
            refine stq hf rfl rfl rfl (ex_assign hf rfl) (fun a hf => ?_)
            refine hK33 _ _ ?_
            refine wp_ret ?_
            refine hR27 _ _ ?_
            have eR := some_eq H; subst eR
            replace hs := hs.keep (.k (.d (.d .nil)))
            exact ret2 Try.results20 hf rfl rfl ⟨_, rfl, ⟨v32, rfl, hs⟩⟩
          · -- not ((gd OperatingPoint.zero a0 a1).Voltage) = ((gd OperatingPoi
            replace hf := hf.castB (t := 59) rfl (dec_f hc31)
            refine cond_F hf rfl ?_
            refine wp_skip ?_
            refine hN27 _ _ ?_
            refine seq_n (fun Q34 hN34 hR34 hX34 => ?_)
            refine seq_reg (fun K35 hK35 => ?_)
            refine stq hf rfl rfl rfl (ex_move hf rfl) (fun a hf => ?_)
            refine stq hf rfl rfl rfl (ex_move hf rfl) (fun a hf => ?_)
            refine stq hf rfl rfl rfl (ex_gtr hf rfl rfl) (fun a hf => ?_)
            refine hK35 _ _ ?_
            refine itt H (fun hc36 H => ?_) (fun hc36 H => ?_)
            · -- a1 < a2
              replace hf := hf.castB (t := 64) rfl (dec_t hc36)
              refine cond_T hf rfl ?_
              refine seq_reg (fun K38 hK38 => ?_)
              refine stq hf rfl rfl rfl (ex_loadA (cs := [.bool true, .int .u64 ((gd OperatingPoint.zero a0 a2).Voltage)]) ag_40 hf rfl (bx_cells (hs.get (i := 1) rfl) rfl)) (fun a hf => ?_)
              refine stq hf rfl rfl rfl (ex_loadA (cs := [.bool false, .int .u64 ((gd OperatingPoint.zero a0 a2).Frequency)]) ag_40 hf rfl (bx_cells (hs.get (i := 0) rfl) rfl)) (fun a hf => ?_)
              refine stepV hf rfl rfl rfl (er_buildSlice (K := K_api_PerfOp) (xs := [(⟨true, ((gd OperatingPoint.zero a0 a2).Voltage)⟩ : PerfOp), (⟨false, ((gd OperatingPoint.zero a0 a2).Frequency)⟩ : PerfOp)]) hs Try.underlying35 ep_40 rfl rfl hf rfl (.cons rfl (.cons rfl .nil)) rfl rfl) (fun v37 w hs a hf => ?_)
              refine stq hf rfl rfl rfl (ex_assign hf rfl) (fun a hf => ?_)
              refine stq hf rfl rfl rfl (ex_assign hf rfl) (fun a hf => ?_)
              refine hK38 _ _ ?_
              refine wp_ret ?_
              refine hR34 _ _ ?_
              have eR := some_eq H; subst eR
              replace hs := hs.keep (.k (.d (.d .nil)))
              exact ret2 Try.results20 hf rfl rfl ⟨_, rfl, ⟨v37, rfl, hs⟩⟩
            · -- not a1 < a2
              replace hf := hf.castB (t := 64) rfl (dec_f hc36)
              refine cond_F hf rfl ?_
              refine wp_skip ?_
              refine hN34 _ _ ?_
              refine seq_reg (fun K40 hK40 => ?_)
              refine stq hf rfl rfl rfl (ex_loadA (cs := [.bool false, .int .u64 ((gd OperatingPoint.zero a0 a2).Frequency)]) ag_40 hf rfl (bx_cells (hs.get (i := 0) rfl) rfl)) (fun a hf => ?_)
              refine stq hf rfl rfl rfl (ex_loadA (cs := [.bool true, .int .u64 ((gd OperatingPoint.zero a0 a2).Voltage)]) ag_40 hf rfl (bx_cells (hs.get (i := 1) rfl) rfl)) (fun a hf => ?_)
              refine stepV hf rfl rfl rfl (er_buildSlice (K := K_api_PerfOp) (xs := [(⟨false, ((gd OperatingPoint.zero a0 a2).Frequency)⟩ : PerfOp), (⟨true, ((gd OperatingPoint.zero a0 a2).Voltage)⟩ : PerfOp)]) hs Try.underlying35 ep_40 rfl rfl hf rfl (.cons rfl (.cons rfl .nil)) rfl rfl) (fun v39 w hs a hf => ?_)
              refine stq hf rfl rfl rfl (ex_assign hf rfl) (fun a hf => ?_)
              refine stq hf rfl rfl rfl (ex_assign hf rfl) (fun a hf => ?_)
              refine hK40 _ _ ?_
              refine wp_ret ?_
              have eR := some_eq H; subst eR
              replace hs := hs.keep (.k (.d (.d .nil)))
              exact ret2 Try.results20 hf rfl rfl ⟨_, rfl, ⟨v39, rfl, hs⟩⟩
  · -- not s3 = 0
    replace hf := hf.castB (t := 14) rfl (ndec_t hc6)
    refine cond_T hf rfl ?_
    refine seq_reg (fun K41 hK41 => ?_)
    refine stq hf rfl rfl rfl (ex_move hf rfl) (fun a hf => ?_)
    refine stq hf rfl rfl rfl (ex_assign hf rfl) (fun a hf => ?_)
    refine stq hf rfl rfl rfl (ex_assign hf rfl) (fun a hf => ?_)
    refine hK41 _ _ ?_
    refine wp_ret ?_
    refine hR2 _ _ ?_
    have eR := some_eq H; subst eR
    replace hs := hs.nilS K_api_PerfOp
    exact ret2 Try.results20 hf rfl rfl ⟨_, rfl, ⟨(.slice none 0 0), rfl, hs⟩⟩

end Go.Proofs.Ythemeobgfgmblaa.X
