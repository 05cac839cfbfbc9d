/- Each function of the machine comes to what its pure function says. -/
import Derived.Test.YtannodkbindlbaaFc1
import Derived.Test.YtannodkbindlbaaFb
namespace Go.Proofs.Ytannodkbindlbaa.X
open Go Go.RowKit Go.Sx
set_option linter.unusedVariables false

set_option maxRecDepth 100000 in
theorem law39_awake.calls {M : Nat → Prop} {w0 : World} (k : Nat) {r : Bool} (hs : St M w0 w0 []) (hr : Sr M w0 [])
    (h : law39_awake.f k = some r) : Calls Try.prog 9 #[] w0 fun e w => ∃ v, e = .returned v ∧ (.bool r = v ∧ St M w0 w []) := by
  have H := (law39_awake.f.eq_1 ..).symm.trans h
  clear h
  refine enter Try.func9 rfl Try.ntmps9 rfl (fun a hf => ?_)
  refine seq_reg (fun K1 hK1 => ?_)
  refine stq hf rfl rfl rfl (ex_assign hf rfl) (fun a hf => ?_)
  refine hK1 _ _ ?_
  refine bnd H (fun s3 hs3 H => ?_)
  refine seq_reg (fun K5 hK5 => ?_)
  refine stq hf rfl rfl rfl (ex_build (cs := [.int .u64 9, .int .u64 0, .int .u64 9]) bt_69 hf rfl (.cons rfl (.cons rfl .nil)) rfl) (fun a hf => ?_)
  refine stq hf rfl rfl rfl (ex_build (cs := [.int .u64 1, .int .u64 0, .int .u64 9]) bt_69 hf rfl (.cons rfl (.cons rfl .nil)) rfl) (fun a hf => ?_)
  refine stq hf rfl rfl rfl (ex_build (cs := [.int .u64 9, .int .u64 2, .int .u64 9]) bt_69 hf rfl (.cons rfl (.cons rfl (.cons rfl .nil))) rfl) (fun a hf => ?_)
  refine stepV hf rfl rfl rfl (er_buildSlice (K := K_api_Actor) (xs := [(⟨9, 0, 9⟩ : Actor), (⟨1, 0, 9⟩ : Actor), (⟨9, 2, 9⟩ : Actor)]) hs Try.underlying60 ep_69 rfl rfl hf rfl (.cons rfl (.cons rfl (.cons rfl .nil))) rfl rfl) (fun v2 w hs a hf => ?_)
  refine stepF hf rfl rfl rfl (ex_call cf_22 hf rfl) (thermal_Allocate.calls k 10 [(⟨9, 0, 9⟩ : Actor), (⟨1, 0, 9⟩ : Actor), (⟨9, 2, 9⟩ : Actor)] v2 (hs.enter (.k .nil)) (Sr.own hs (.k .nil) (i := 0) rfl osl_rsl (fun _ h => h.1) (Sr.nil _ _)) hs3) (fun v w hR a hf => ?_)
  obtain ⟨v4, rfl, hs'⟩ := hR
  replace hs := hs.step (.k .nil) hs'
  clear hs'
  refine stq hf rfl rfl rfl (ex_move hf rfl) (fun a hf => ?_)
  refine stq hf rfl rfl rfl (ex_extract hf rfl rfl) (fun a hf => ?_)
  refine stq hf rfl rfl rfl (ex_extract hf rfl rfl) (fun a hf => ?_)
  refine stq hf rfl rfl rfl (ex_assign hf rfl) (fun a hf => ?_)
  refine stq hf rfl rfl rfl (ex_assign hf rfl) (fun a hf => ?_)
  refine hK5 _ _ ?_
  refine seq_n (fun Q6 hN6 hR6 hX6 => ?_)
  refine bnd H (fun s8 hs8 H => ?_)
  cases hps8 : s8.1 with
  | none =>
    replace H := elim_n hps8 H
    refine region_k (fun K10 hK10 => ?_)
    refine stq hf rfl rfl rfl (ex_build (cs := [.int .i64 2, .int .i64 50, .int .i64 5]) bt_55 hf rfl (.cons rfl (.cons rfl (.cons rfl .nil))) rfl) (fun a hf => ?_)
    refine stepV hf rfl rfl rfl (er_buildSlice (K := K_api_Trip) (xs := [(⟨2, 50, 5⟩ : Trip)]) hs Try.underlying56 ep_55 rfl rfl hf rfl (.cons rfl .nil) rfl rfl) (fun v7 w hs a hf => ?_)
    refine stepF hf rfl rfl rfl (ex_call cf_19 hf rfl) (thermal_NewZone.calls k [(⟨2, 50, 5⟩ : Trip)] 3 v7 (hs.enter (.k (.k (.k .nil)))) (Sr.own hs (.k (.k (.k .nil))) (i := 0) rfl osl_rsl (fun _ h => h.1) (Sr.nil _ _)) hs8) (fun v w hR a hf => ?_)
    obtain ⟨_, rfl, hs'⟩ | ⟨_, hc', _⟩ := hR
    case inr => rw [hps8] at hc'; cases hc'
    replace hs := hs.step (.k (.k (.k .nil))) hs'
    clear hs'
    refine stq hf rfl rfl rfl (ex_move hf rfl) (fun a hf => ?_)
    refine stq hf rfl rfl rfl (ex_extract hf rfl rfl) (fun a hf => ?_)
    refine stq hf rfl rfl rfl (ex_extract hf rfl rfl) (fun a hf => ?_)
    refine stq hf rfl rfl rfl (ex_assign hf rfl) (fun a hf => ?_)
    refine stq hf rfl rfl rfl (ex_assign hf rfl) (fun a hf => ?_)
    refine hK10 _ _ ?_
    refine hN6 _ _ ?_
    refine seq_n (fun Q11 hN11 hR11 hX11 => ?_)
    refine bnd H (fun x12 H12 HO12 => ?_)
    clear H
    refine seq_cut (fun a w => Fr a 90 [(3, .pointer none), (43, .bool true)] ∧ St M w0 w []) (fun Q12 hJ12 hR12 hX12 => ?_) (fun a w hJ => ?_)
    · replace H := H12
      refine itt H (fun hc13 H => ?_) (fun hc13 H => ?_)
      · -- s3.2 = 0
        refine itt H (fun hc14 H => ?_) (fun hc14 H => ?_)
        · -- s8.2 = 0
          refine region_k (fun K15 hK15 => ?_)
          refine stq hf rfl rfl rfl (ex_move hf rfl) (fun a hf => ?_)
          refine stq hf rfl rfl rfl (ex_neq hf rfl rfl) (fun a hf => ?_)
          refine stq hf rfl rfl rfl (ex_move hf rfl) (fun a hf => ?_)
          replace hf := hf.castB (t := 29) rfl (ndec_f hc13)
          replace hf := hf.castB (t := 30) rfl (ndec_f hc13)
          refine stq hf rfl rfl rfl (ex_move hf rfl) (fun a hf => ?_)
          refine stq hf rfl rfl rfl (ex_neq hf rfl rfl) (fun a hf => ?_)
          refine stq hf rfl rfl rfl (ex_pickF hf rfl rfl) (fun a hf => ?_)
          refine stq hf rfl rfl rfl (ex_move hf rfl) (fun a hf => ?_)
          replace hf := hf.castB (t := 32) rfl (ndec_f hc14)
          replace hf := hf.castB (t := 33) rfl (ndec_f hc14)
          replace hf := hf.castB (t := 34) rfl (ndec_f hc14)
          refine stq hf rfl rfl rfl (ex_move hf rfl) (fun a hf => ?_)
          refine stq hf rfl rfl rfl (ex_eqp Try.underlying51 hf rfl rfl) (fun a hf => ?_)
          refine stq hf rfl rfl rfl (ex_pickF hf rfl rfl) (fun a hf => ?_)
          refine stq hf rfl rfl rfl (ex_move hf rfl) (fun a hf => ?_)
          refine stepN hf rfl rfl rfl (fun a hf => ?_)
          refine stepN hf rfl rfl rfl (fun a hf => ?_)
          refine stepN hf rfl rfl rfl (fun a hf => ?_)
          refine stepN hf rfl rfl rfl (fun a hf => ?_)
          refine stq hf rfl rfl rfl (ex_pickT hf rfl rfl) (fun a hf => ?_)
          refine hK15 _ _ ?_
          replace hs := hs.keep (.d (.d (.d .nil)))
          have e12 := some_eq H; subst e12
          exact hJ12 _ _ ⟨hf.sub ⟨rfl, rfl, trivial⟩, hs⟩
        · -- not s8.2 = 0
          refine region_k (fun K16 hK16 => ?_)
          refine stq hf rfl rfl rfl (ex_move hf rfl) (fun a hf => ?_)
          refine stq hf rfl rfl rfl (ex_neq hf rfl rfl) (fun a hf => ?_)
          refine stq hf rfl rfl rfl (ex_move hf rfl) (fun a hf => ?_)
          replace hf := hf.castB (t := 29) rfl (ndec_f hc13)
          replace hf := hf.castB (t := 30) rfl (ndec_f hc13)
          refine stq hf rfl rfl rfl (ex_move hf rfl) (fun a hf => ?_)
          refine stq hf rfl rfl rfl (ex_neq hf rfl rfl) (fun a hf => ?_)
          refine stq hf rfl rfl rfl (ex_pickF hf rfl rfl) (fun a hf => ?_)
          refine stq hf rfl rfl rfl (ex_move hf rfl) (fun a hf => ?_)
          replace hf := hf.castB (t := 32) rfl (ndec_t hc14)
          replace hf := hf.castB (t := 33) rfl (ndec_t hc14)
          replace hf := hf.castB (t := 34) rfl (ndec_t hc14)
          refine stepN hf rfl rfl rfl (fun a hf => ?_)
          refine stepN hf rfl rfl rfl (fun a hf => ?_)
          refine stq hf rfl rfl rfl (ex_pickT hf rfl rfl) (fun a hf => ?_)
          refine stq hf rfl rfl rfl (ex_move hf rfl) (fun a hf => ?_)
          refine stepN hf rfl rfl rfl (fun a hf => ?_)
          refine stepN hf rfl rfl rfl (fun a hf => ?_)
          refine stepN hf rfl rfl rfl (fun a hf => ?_)
          refine stepN hf rfl rfl rfl (fun a hf => ?_)
          refine stq hf rfl rfl rfl (ex_pickT hf rfl rfl) (fun a hf => ?_)
          refine hK16 _ _ ?_
          replace hs := hs.keep (.d (.d (.d .nil)))
          have e12 := some_eq H; subst e12
          exact hJ12 _ _ ⟨hf.sub ⟨rfl, rfl, trivial⟩, hs⟩
      · -- not s3.2 = 0
        refine region_k (fun K17 hK17 => ?_)
        refine stq hf rfl rfl rfl (ex_move hf rfl) (fun a hf => ?_)
        refine stq hf rfl rfl rfl (ex_neq hf rfl rfl) (fun a hf => ?_)
        refine stq hf rfl rfl rfl (ex_move hf rfl) (fun a hf => ?_)
        replace hf := hf.castB (t := 29) rfl (ndec_t hc13)
        replace hf := hf.castB (t := 30) rfl (ndec_t hc13)
        refine stepN hf rfl rfl rfl (fun a hf => ?_)
        refine stepN hf rfl rfl rfl (fun a hf => ?_)
        refine stq hf rfl rfl rfl (ex_pickT hf rfl rfl) (fun a hf => ?_)
        refine stq hf rfl rfl rfl (ex_move hf rfl) (fun a hf => ?_)
        refine stepN hf rfl rfl rfl (fun a hf => ?_)
        refine stepN hf rfl rfl rfl (fun a hf => ?_)
        refine stq hf rfl rfl rfl (ex_pickT hf rfl rfl) (fun a hf => ?_)
        refine stq hf rfl rfl rfl (ex_move hf rfl) (fun a hf => ?_)
        refine stepN hf rfl rfl rfl (fun a hf => ?_)
        refine stepN hf rfl rfl rfl (fun a hf => ?_)
        refine stepN hf rfl rfl rfl (fun a hf => ?_)
        refine stepN hf rfl rfl rfl (fun a hf => ?_)
        refine stq hf rfl rfl rfl (ex_pickT hf rfl rfl) (fun a hf => ?_)
        refine hK17 _ _ ?_
        replace hs := hs.keep (.d (.d (.d .nil)))
        have e12 := some_eq H; subst e12
        exact hJ12 _ _ ⟨hf.sub ⟨rfl, rfl, trivial⟩, hs⟩
    · obtain ⟨hf, hs⟩ := hJ
      replace H := HO12
      clear HO12
      refine cond_T hf rfl ?_
      refine seq_reg (fun K18 hK18 => ?_)
      refine stq hf rfl rfl rfl (ex_assign hf rfl) (fun a hf => ?_)
      refine hK18 _ _ ?_
      refine wp_ret ?_
      refine hR11 _ _ ?_
      have eR := some_eq H; subst eR
      exact ret1 Try.results9 hf rfl ⟨_, rfl, ⟨rfl, hs⟩⟩
  | some c9 =>
    replace H := elim_s hps8 H
    refine region_k (fun K22 hK22 => ?_)
    refine stq hf rfl rfl rfl (ex_build (cs := [.int .i64 2, .int .i64 50, .int .i64 5]) bt_55 hf rfl (.cons rfl (.cons rfl (.cons rfl .nil))) rfl) (fun a hf => ?_)
    refine stepV hf rfl rfl rfl (er_buildSlice (K := K_api_Trip) (xs := [(⟨2, 50, 5⟩ : Trip)]) hs Try.underlying56 ep_55 rfl rfl hf rfl (.cons rfl .nil) rfl rfl) (fun v7 w hs a hf => ?_)
    refine stepF hf rfl rfl rfl (ex_call cf_19 hf rfl) (thermal_NewZone.calls k [(⟨2, 50, 5⟩ : Trip)] 3 v7 (hs.enter (.k (.k (.k .nil)))) (Sr.own hs (.k (.k (.k .nil))) (i := 0) rfl osl_rsl (fun _ h => h.1) (Sr.nil _ _)) hs8) (fun v w hR a hf => ?_)
    obtain ⟨hc', _⟩ | ⟨cc, hc', b19, v20, v21, rfl, hs'⟩ := hR
    case inl => rw [hps8] at hc'; cases hc'
    obtain rfl : c9 = cc := by rw [hps8] at hc'; exact Option.some.inj hc'
    replace hs := hs.step (.k (.k (.k .nil))) hs'
    clear hs'
    refine stq hf rfl rfl rfl (ex_move hf rfl) (fun a hf => ?_)
    refine stq hf rfl rfl rfl (ex_extract hf rfl rfl) (fun a hf => ?_)
    refine stq hf rfl rfl rfl (ex_extract hf rfl rfl) (fun a hf => ?_)
    refine stq hf rfl rfl rfl (ex_assign hf rfl) (fun a hf => ?_)
    refine stq hf rfl rfl rfl (ex_assign hf rfl) (fun a hf => ?_)
    refine hK22 _ _ ?_
    refine hN6 _ _ ?_
    refine seq_n (fun Q23 hN23 hR23 hX23 => ?_)
    refine bnd H (fun x24 H24 HO24 => ?_)
    clear H
    refine seq_cut (fun a w => Fr a 90 [(3, .pointer (some ⟨b19, 0, none⟩)), (43, .bool x24)] ∧ St M w0 w [bx b19 95 [v20, v21, .int .i64 c9.2.2.1, .int .i64 c9.2.2.2], osl K_api_Trip v20 c9.1, osl K_bool v21 c9.2.1]) (fun Q24 hJ24 hR24 hX24 => ?_) (fun a w hJ => ?_)
    · replace H := H24
      refine itt H (fun hc25 H => ?_) (fun hc25 H => ?_)
      · -- s3.2 = 0
        refine itt H (fun hc26 H => ?_) (fun hc26 H => ?_)
        · -- s8.2 = 0
          refine bnd H (fun s28 hs28 H => ?_)
          refine region_k (fun K29 hK29 => ?_)
          refine stq hf rfl rfl rfl (ex_move hf rfl) (fun a hf => ?_)
          refine stq hf rfl rfl rfl (ex_neq hf rfl rfl) (fun a hf => ?_)
          refine stq hf rfl rfl rfl (ex_move hf rfl) (fun a hf => ?_)
          replace hf := hf.castB (t := 29) rfl (ndec_f hc25)
          replace hf := hf.castB (t := 30) rfl (ndec_f hc25)
          refine stq hf rfl rfl rfl (ex_move hf rfl) (fun a hf => ?_)
          refine stq hf rfl rfl rfl (ex_neq hf rfl rfl) (fun a hf => ?_)
          refine stq hf rfl rfl rfl (ex_pickF hf rfl rfl) (fun a hf => ?_)
          refine stq hf rfl rfl rfl (ex_move hf rfl) (fun a hf => ?_)
          replace hf := hf.castB (t := 32) rfl (ndec_f hc26)
          replace hf := hf.castB (t := 33) rfl (ndec_f hc26)
          replace hf := hf.castB (t := 34) rfl (ndec_f hc26)
          refine stq hf rfl rfl rfl (ex_move hf rfl) (fun a hf => ?_)
          refine stq hf rfl rfl rfl (ex_eqp Try.underlying51 hf rfl rfl) (fun a hf => ?_)
          refine stq hf rfl rfl rfl (ex_pickF hf rfl rfl) (fun a hf => ?_)
          refine stq hf rfl rfl rfl (ex_move hf rfl) (fun a hf => ?_)
          refine stq hf rfl rfl rfl (ex_move hf rfl) (fun a hf => ?_)
          refine stepV hf rfl rfl rfl (er_buildSlice (K := K_uint64) (xs := [5, 1, 4]) hs Try.underlying62 ep_23 rfl rfl hf rfl (.cons rfl (.cons rfl (.cons rfl .nil))) rfl rfl) (fun v27 w hs a hf => ?_)
          refine stepF hf rfl rfl rfl (ex_call cf_26 hf rfl) (help_Equal_uint64.calls k s3.1 [5, 1, 4] v4 v27 (hs.enter (.k (.k (.k (.k (.k (.k (.k .nil)))))))) (Sr.own hs (.k (.k (.k (.k (.k (.k (.k .nil))))))) (i := 5) rfl osl_rsl (fun _ h => h.1) (Sr.own hs (.k (.k (.k (.k (.k (.k (.k .nil))))))) (i := 0) rfl osl_rsl (fun _ h => h.1) (Sr.nil _ _))) hs28) (fun v w hR a hf => ?_)
          obtain ⟨rfl, hs'⟩ := hR
          replace hs := hs.step (.k (.k (.k (.k (.k (.k (.k .nil))))))) hs'
          clear hs'
          refine stq hf rfl rfl rfl (ex_not hf rfl) (fun a hf => ?_)
          refine stq hf rfl rfl rfl (ex_pickF hf rfl rfl) (fun a hf => ?_)
          refine hK29 _ _ ?_
          replace hs := hs.keep (.d (.k (.k (.k (.d (.d (.d .nil)))))))
          have e24 := some_eq H; subst e24
          exact hJ24 _ _ ⟨hf.sub ⟨rfl, rfl, trivial⟩, hs⟩
        · -- not s8.2 = 0
          refine region_k (fun K30 hK30 => ?_)
          refine stq hf rfl rfl rfl (ex_move hf rfl) (fun a hf => ?_)
          refine stq hf rfl rfl rfl (ex_neq hf rfl rfl) (fun a hf => ?_)
          refine stq hf rfl rfl rfl (ex_move hf rfl) (fun a hf => ?_)
          replace hf := hf.castB (t := 29) rfl (ndec_f hc25)
          replace hf := hf.castB (t := 30) rfl (ndec_f hc25)
          refine stq hf rfl rfl rfl (ex_move hf rfl) (fun a hf => ?_)
          refine stq hf rfl rfl rfl (ex_neq hf rfl rfl) (fun a hf => ?_)
          refine stq hf rfl rfl rfl (ex_pickF hf rfl rfl) (fun a hf => ?_)
          refine stq hf rfl rfl rfl (ex_move hf rfl) (fun a hf => ?_)
          replace hf := hf.castB (t := 32) rfl (ndec_t hc26)
          replace hf := hf.castB (t := 33) rfl (ndec_t hc26)
          replace hf := hf.castB (t := 34) rfl (ndec_t hc26)
          refine stepN hf rfl rfl rfl (fun a hf => ?_)
          refine stepN hf rfl rfl rfl (fun a hf => ?_)
          refine stq hf rfl rfl rfl (ex_pickT hf rfl rfl) (fun a hf => ?_)
          refine stq hf rfl rfl rfl (ex_move hf rfl) (fun a hf => ?_)
          refine stepN hf rfl rfl rfl (fun a hf => ?_)
          refine stepN hf rfl rfl rfl (fun a hf => ?_)
          refine stepN hf rfl rfl rfl (fun a hf => ?_)
          refine stepN hf rfl rfl rfl (fun a hf => ?_)
          refine stq hf rfl rfl rfl (ex_pickT hf rfl rfl) (fun a hf => ?_)
          refine hK30 _ _ ?_
          replace hs := hs.keep (.k (.k (.k (.d (.d (.d .nil))))))
          have e24 := some_eq H; subst e24
          exact hJ24 _ _ ⟨hf.sub ⟨rfl, rfl, trivial⟩, hs⟩
      · -- not s3.2 = 0
        refine region_k (fun K31 hK31 => ?_)
        refine stq hf rfl rfl rfl (ex_move hf rfl) (fun a hf => ?_)
        refine stq hf rfl rfl rfl (ex_neq hf rfl rfl) (fun a hf => ?_)
        refine stq hf rfl rfl rfl (ex_move hf rfl) (fun a hf => ?_)
        replace hf := hf.castB (t := 29) rfl (ndec_t hc25)
        replace hf := hf.castB (t := 30) rfl (ndec_t hc25)
        refine stepN hf rfl rfl rfl (fun a hf => ?_)
        refine stepN hf rfl rfl rfl (fun a hf => ?_)
        refine stq hf rfl rfl rfl (ex_pickT hf rfl rfl) (fun a hf => ?_)
        refine stq hf rfl rfl rfl (ex_move hf rfl) (fun a hf => ?_)
        refine stepN hf rfl rfl rfl (fun a hf => ?_)
        refine stepN hf rfl rfl rfl (fun a hf => ?_)
        refine stq hf rfl rfl rfl (ex_pickT hf rfl rfl) (fun a hf => ?_)
        refine stq hf rfl rfl rfl (ex_move hf rfl) (fun a hf => ?_)
        refine stepN hf rfl rfl rfl (fun a hf => ?_)
        refine stepN hf rfl rfl rfl (fun a hf => ?_)
        refine stepN hf rfl rfl rfl (fun a hf => ?_)
        refine stepN hf rfl rfl rfl (fun a hf => ?_)
        refine stq hf rfl rfl rfl (ex_pickT hf rfl rfl) (fun a hf => ?_)
        refine hK31 _ _ ?_
        replace hs := hs.keep (.k (.k (.k (.d (.d (.d .nil))))))
        have e24 := some_eq H; subst e24
        exact hJ24 _ _ ⟨hf.sub ⟨rfl, rfl, trivial⟩, hs⟩
    · obtain ⟨hf, hs⟩ := hJ
      replace H := HO24
      clear HO24
      refine itt H (fun hc32 H => ?_) (fun hc32 H => ?_)
      · -- x24 = true
        replace hf := hf.castB (t := 43) rfl hc32
        refine cond_T hf rfl ?_
        refine seq_reg (fun K33 hK33 => ?_)
        refine stq hf rfl rfl rfl (ex_assign hf rfl) (fun a hf => ?_)
        refine hK33 _ _ ?_
        refine wp_ret ?_
        refine hR23 _ _ ?_
        have eR := some_eq H; subst eR
        replace hs := hs.keep (.d (.d (.d .nil)))
        exact ret1 Try.results9 hf rfl ⟨_, rfl, ⟨rfl, hs⟩⟩
      · -- not x24 = true
        replace hf := hf.castB (t := 43) rfl (bool_f hc32)
        refine cond_F hf rfl ?_
        refine wp_skip ?_
        refine hN23 _ _ ?_
        refine bnd H (fun s34 hs34 H => ?_)
        refine seq_reg (fun K36 hK36 => ?_)
        refine stq hf rfl rfl rfl (ex_move hf rfl) (fun a hf => ?_)
        refine stepF hf rfl rfl rfl (ex_call cf_20 hf rfl) (thermal_Zone_Update.calls k c9.1 c9.2.1 c9.2.2.1 c9.2.2.2 50 b19 v20 v21 (hs.enter (.c (.k (.c .nil)))) (Sr.own hs (.c (.k (.c .nil))) (i := 0) rfl osl_rsl (fun _ h => h.1) (Sr.nil _ _)) hs34) (fun v w hR a hf => ?_)
        obtain ⟨v35, rfl, hs'⟩ := hR
        replace hs := hs.step (.c (.k (.c .nil))) hs'
        clear hs'
        refine stq hf rfl rfl rfl (ex_move hf rfl) (fun a hf => ?_)
        refine stq hf rfl rfl rfl (ex_extract hf rfl rfl) (fun a hf => ?_)
        refine stq hf rfl rfl rfl (ex_extract hf rfl rfl) (fun a hf => ?_)
        refine stq hf rfl rfl rfl (ex_extract hf rfl rfl) (fun a hf => ?_)
        refine stq hf rfl rfl rfl (ex_assign hf rfl) (fun a hf => ?_)
        refine stq hf rfl rfl rfl (ex_assign hf rfl) (fun a hf => ?_)
        refine stq hf rfl rfl rfl (ex_assign hf rfl) (fun a hf => ?_)
        refine hK36 _ _ ?_
        refine bnd H (fun s37 hs37 H => ?_)
        refine seq_reg (fun K39 hK39 => ?_)
        refine stq hf rfl rfl rfl (ex_move hf rfl) (fun a hf => ?_)
        refine stepF hf rfl rfl rfl (ex_call cf_20 hf rfl) (thermal_Zone_Update.calls k c9.1 s34.2.1 c9.2.2.1 s34.1 45 b19 v20 v35 (hs.enter (.c (.c (.k .nil)))) (Sr.own hs (.c (.c (.k .nil))) (i := 0) rfl osl_rsl (fun _ h => h.1) (Sr.nil _ _)) hs37) (fun v w hR a hf => ?_)
        obtain ⟨v38, rfl, hs'⟩ := hR
        replace hs := hs.step (.c (.c (.k .nil))) hs'
        clear hs'
        refine stq hf rfl rfl rfl (ex_move hf rfl) (fun a hf => ?_)
        refine stq hf rfl rfl rfl (ex_extract hf rfl rfl) (fun a hf => ?_)
        refine stq hf rfl rfl rfl (ex_extract hf rfl rfl) (fun a hf => ?_)
        refine stq hf rfl rfl rfl (ex_extract hf rfl rfl) (fun a hf => ?_)
        refine stq hf rfl rfl rfl (ex_assign hf rfl) (fun a hf => ?_)
        refine stq hf rfl rfl rfl (ex_assign hf rfl) (fun a hf => ?_)
        refine stq hf rfl rfl rfl (ex_assign hf rfl) (fun a hf => ?_)
        refine hK39 _ _ ?_
        refine bnd H (fun s40 hs40 H => ?_)
        refine seq_reg (fun K42 hK42 => ?_)
        refine stq hf rfl rfl rfl (ex_move hf rfl) (fun a hf => ?_)
        refine stepF hf rfl rfl rfl (ex_call cf_20 hf rfl) (thermal_Zone_Update.calls k c9.1 s37.2.1 c9.2.2.1 s37.1 44 b19 v20 v38 (hs.enter (.c (.c (.k .nil)))) (Sr.own hs (.c (.c (.k .nil))) (i := 0) rfl osl_rsl (fun _ h => h.1) (Sr.nil _ _)) hs40) (fun v w hR a hf => ?_)
        obtain ⟨v41, rfl, hs'⟩ := hR
        replace hs := hs.step (.c (.c (.k .nil))) hs'
        clear hs'
        refine stq hf rfl rfl rfl (ex_move hf rfl) (fun a hf => ?_)
        refine stq hf rfl rfl rfl (ex_extract hf rfl rfl) (fun a hf => ?_)
        refine stq hf rfl rfl rfl (ex_extract hf rfl rfl) (fun a hf => ?_)
        refine stq hf rfl rfl rfl (ex_extract hf rfl rfl) (fun a hf => ?_)
        refine stq hf rfl rfl rfl (ex_assign hf rfl) (fun a hf => ?_)
        refine stq hf rfl rfl rfl (ex_assign hf rfl) (fun a hf => ?_)
        refine stq hf rfl rfl rfl (ex_assign hf rfl) (fun a hf => ?_)
        refine hK42 _ _ ?_
        refine itt H (fun hc43 H => ?_) (fun hc43 H => ?_)
        · -- s34.2.2.2.2 = 0
          refine itt H (fun hc44 H => ?_) (fun hc44 H => ?_)
          · -- s37.2.2.2.2 = 0
            refine itt H (fun hc45 H => ?_) (fun hc45 H => ?_)
            · -- s40.2.2.2.2 = 0
              refine itt H (fun hc46 H => ?_) (fun hc46 H => ?_)
              · -- s34.2.2.1 = 1
                refine itt H (fun hc47 H => ?_) (fun hc47 H => ?_)
                · -- s37.2.2.1 = 2
                  refine itt H (fun hc48 H => ?_) (fun hc48 H => ?_)
                  · -- s40.2.2.1 = 1
                    refine bnd H (fun s50 hs50 H => ?_)
                    refine seq_reg (fun K51 hK51 => ?_)
                    refine stq hf rfl rfl rfl (ex_move hf rfl) (fun a hf => ?_)
                    refine stq hf rfl rfl rfl (ex_eql hf rfl rfl) (fun a hf => ?_)
                    refine stq hf rfl rfl rfl (ex_move hf rfl) (fun a hf => ?_)
                    replace hf := hf.castB (t := 63) rfl (dec_t hc43)
                    replace hf := hf.castB (t := 64) rfl (dec_t hc43)
                    refine stq hf rfl rfl rfl (ex_move hf rfl) (fun a hf => ?_)
                    refine stq hf rfl rfl rfl (ex_eql hf rfl rfl) (fun a hf => ?_)
                    refine stq hf rfl rfl rfl (ex_pickT hf rfl rfl) (fun a hf => ?_)
                    refine stq hf rfl rfl rfl (ex_move hf rfl) (fun a hf => ?_)
                    replace hf := hf.castB (t := 66) rfl (dec_t hc44)
                    replace hf := hf.castB (t := 67) rfl (dec_t hc44)
                    replace hf := hf.castB (t := 68) rfl (dec_t hc44)
                    refine stq hf rfl rfl rfl (ex_move hf rfl) (fun a hf => ?_)
                    refine stq hf rfl rfl rfl (ex_eql hf rfl rfl) (fun a hf => ?_)
                    refine stq hf rfl rfl rfl (ex_pickT hf rfl rfl) (fun a hf => ?_)
                    refine stq hf rfl rfl rfl (ex_move hf rfl) (fun a hf => ?_)
                    replace hf := hf.castB (t := 70) rfl (dec_t hc45)
                    replace hf := hf.castB (t := 71) rfl (dec_t hc45)
                    replace hf := hf.castB (t := 72) rfl (dec_t hc45)
                    refine stq hf rfl rfl rfl (ex_move hf rfl) (fun a hf => ?_)
                    refine stq hf rfl rfl rfl (ex_eql hf rfl rfl) (fun a hf => ?_)
                    refine stq hf rfl rfl rfl (ex_pickT hf rfl rfl) (fun a hf => ?_)
                    refine stq hf rfl rfl rfl (ex_move hf rfl) (fun a hf => ?_)
                    replace hf := hf.castB (t := 74) rfl (dec_t hc46)
                    replace hf := hf.castB (t := 75) rfl (dec_t hc46)
                    replace hf := hf.castB (t := 76) rfl (dec_t hc46)
                    refine stq hf rfl rfl rfl (ex_move hf rfl) (fun a hf => ?_)
                    refine stq hf rfl rfl rfl (ex_eql hf rfl rfl) (fun a hf => ?_)
                    refine stq hf rfl rfl rfl (ex_pickT hf rfl rfl) (fun a hf => ?_)
                    refine stq hf rfl rfl rfl (ex_move hf rfl) (fun a hf => ?_)
                    replace hf := hf.castB (t := 78) rfl (dec_t hc47)
                    replace hf := hf.castB (t := 79) rfl (dec_t hc47)
                    replace hf := hf.castB (t := 80) rfl (dec_t hc47)
                    refine stq hf rfl rfl rfl (ex_move hf rfl) (fun a hf => ?_)
                    refine stq hf rfl rfl rfl (ex_eql hf rfl rfl) (fun a hf => ?_)
                    refine stq hf rfl rfl rfl (ex_pickT hf rfl rfl) (fun a hf => ?_)
                    refine stq hf rfl rfl rfl (ex_move hf rfl) (fun a hf => ?_)
                    replace hf := hf.castB (t := 82) rfl (dec_t hc48)
                    replace hf := hf.castB (t := 83) rfl (dec_t hc48)
                    replace hf := hf.castB (t := 84) rfl (dec_t hc48)
                    refine stq hf rfl rfl rfl (ex_build (cs := [.int .i64 0, .int .i64 0, .int .i64 0]) bt_55 hf rfl .nil rfl) (fun a hf => ?_)
                    refine stepV hf rfl rfl rfl (er_buildSlice (K := K_api_Trip) (xs := [(⟨0, 0, 0⟩ : Trip)]) hs Try.underlying56 ep_55 rfl rfl hf rfl (.cons rfl .nil) rfl rfl) (fun v49 w hs a hf => ?_)
                    refine stepF hf rfl rfl rfl (ex_call cf_27 hf rfl) (thermal_CheckTrips.calls k [(⟨0, 0, 0⟩ : Trip)] v49 (hs.enter (.k (.k (.k (.k .nil))))) (Sr.own hs (.k (.k (.k (.k .nil)))) (i := 0) rfl osl_rsl (fun _ h => h.1) (Sr.nil _ _)) hs50) (fun v w hR a hf => ?_)
                    obtain ⟨rfl, hs'⟩ := hR
                    replace hs := hs.step (.k (.k (.k (.k .nil)))) hs'
                    clear hs'
                    refine stq hf rfl rfl rfl (ex_eql hf rfl rfl) (fun a hf => ?_)
                    refine stq hf rfl rfl rfl (ex_pickT hf rfl rfl) (fun a hf => ?_)
                    refine stq hf rfl rfl rfl (ex_assign hf rfl) (fun a hf => ?_)
                    refine hK51 _ _ ?_
                    refine wp_ret ?_
                    have eR := some_eq H; subst eR
                    replace hs := hs.keep (.d (.d (.d (.d .nil))))
                    exact ret1 Try.results9 hf rfl ⟨_, rfl, ⟨rfl, hs⟩⟩
                  · -- not s40.2.2.1 = 1
                    refine seq_reg (fun K52 hK52 => ?_)
                    refine stq hf rfl rfl rfl (ex_move hf rfl) (fun a hf => ?_)
                    refine stq hf rfl rfl rfl (ex_eql hf rfl rfl) (fun a hf => ?_)
                    refine stq hf rfl rfl rfl (ex_move hf rfl) (fun a hf => ?_)
                    replace hf := hf.castB (t := 63) rfl (dec_t hc43)
                    replace hf := hf.castB (t := 64) rfl (dec_t hc43)
                    refine stq hf rfl rfl rfl (ex_move hf rfl) (fun a hf => ?_)
                    refine stq hf rfl rfl rfl (ex_eql hf rfl rfl) (fun a hf => ?_)
                    refine stq hf rfl rfl rfl (ex_pickT hf rfl rfl) (fun a hf => ?_)
                    refine stq hf rfl rfl rfl (ex_move hf rfl) (fun a hf => ?_)
                    replace hf := hf.castB (t := 66) rfl (dec_t hc44)
                    replace hf := hf.castB (t := 67) rfl (dec_t hc44)
                    replace hf := hf.castB (t := 68) rfl (dec_t hc44)
                    refine stq hf rfl rfl rfl (ex_move hf rfl) (fun a hf => ?_)
                    refine stq hf rfl rfl rfl (ex_eql hf rfl rfl) (fun a hf => ?_)
                    refine stq hf rfl rfl rfl (ex_pickT hf rfl rfl) (fun a hf => ?_)
                    refine stq hf rfl rfl rfl (ex_move hf rfl) (fun a hf => ?_)
                    replace hf := hf.castB (t := 70) rfl (dec_t hc45)
                    replace hf := hf.castB (t := 71) rfl (dec_t hc45)
                    replace hf := hf.castB (t := 72) rfl (dec_t hc45)
                    refine stq hf rfl rfl rfl (ex_move hf rfl) (fun a hf => ?_)
                    refine stq hf rfl rfl rfl (ex_eql hf rfl rfl) (fun a hf => ?_)
                    refine stq hf rfl rfl rfl (ex_pickT hf rfl rfl) (fun a hf => ?_)
                    refine stq hf rfl rfl rfl (ex_move hf rfl) (fun a hf => ?_)
                    replace hf := hf.castB (t := 74) rfl (dec_t hc46)
                    replace hf := hf.castB (t := 75) rfl (dec_t hc46)
                    replace hf := hf.castB (t := 76) rfl (dec_t hc46)
                    refine stq hf rfl rfl rfl (ex_move hf rfl) (fun a hf => ?_)
                    refine stq hf rfl rfl rfl (ex_eql hf rfl rfl) (fun a hf => ?_)
                    refine stq hf rfl rfl rfl (ex_pickT hf rfl rfl) (fun a hf => ?_)
                    refine stq hf rfl rfl rfl (ex_move hf rfl) (fun a hf => ?_)
                    replace hf := hf.castB (t := 78) rfl (dec_t hc47)
                    replace hf := hf.castB (t := 79) rfl (dec_t hc47)
                    replace hf := hf.castB (t := 80) rfl (dec_t hc47)
                    refine stq hf rfl rfl rfl (ex_move hf rfl) (fun a hf => ?_)
                    refine stq hf rfl rfl rfl (ex_eql hf rfl rfl) (fun a hf => ?_)
                    refine stq hf rfl rfl rfl (ex_pickT hf rfl rfl) (fun a hf => ?_)
                    refine stq hf rfl rfl rfl (ex_move hf rfl) (fun a hf => ?_)
                    replace hf := hf.castB (t := 82) rfl (dec_f hc48)
                    replace hf := hf.castB (t := 83) rfl (dec_f hc48)
                    replace hf := hf.castB (t := 84) rfl (dec_f hc48)
                    refine stepN hf rfl rfl rfl (fun a hf => ?_)
                    refine stepN hf rfl rfl rfl (fun a hf => ?_)
                    refine stepN hf rfl rfl rfl (fun a hf => ?_)
                    refine stepN hf rfl rfl rfl (fun a hf => ?_)
                    refine stq hf rfl rfl rfl (ex_pickF hf rfl rfl) (fun a hf => ?_)
                    refine stq hf rfl rfl rfl (ex_assign hf rfl) (fun a hf => ?_)
                    refine hK52 _ _ ?_
                    refine wp_ret ?_
                    have eR := some_eq H; subst eR
                    replace hs := hs.keep (.d (.d (.d .nil)))
                    exact ret1 Try.results9 hf rfl ⟨_, rfl, ⟨rfl, hs⟩⟩
                · -- not s37.2.2.1 = 2
                  refine seq_reg (fun K53 hK53 => ?_)
                  refine stq hf rfl rfl rfl (ex_move hf rfl) (fun a hf => ?_)
                  refine stq hf rfl rfl rfl (ex_eql hf rfl rfl) (fun a hf => ?_)
                  refine stq hf rfl rfl rfl (ex_move hf rfl) (fun a hf => ?_)
                  replace hf := hf.castB (t := 63) rfl (dec_t hc43)
                  replace hf := hf.castB (t := 64) rfl (dec_t hc43)
                  refine stq hf rfl rfl rfl (ex_move hf rfl) (fun a hf => ?_)
                  refine stq hf rfl rfl rfl (ex_eql hf rfl rfl) (fun a hf => ?_)
                  refine stq hf rfl rfl rfl (ex_pickT hf rfl rfl) (fun a hf => ?_)
                  refine stq hf rfl rfl rfl (ex_move hf rfl) (fun a hf => ?_)
                  replace hf := hf.castB (t := 66) rfl (dec_t hc44)
                  replace hf := hf.castB (t := 67) rfl (dec_t hc44)
                  replace hf := hf.castB (t := 68) rfl (dec_t hc44)
                  refine stq hf rfl rfl rfl (ex_move hf rfl) (fun a hf => ?_)
                  refine stq hf rfl rfl rfl (ex_eql hf rfl rfl) (fun a hf => ?_)
                  refine stq hf rfl rfl rfl (ex_pickT hf rfl rfl) (fun a hf => ?_)
                  refine stq hf rfl rfl rfl (ex_move hf rfl) (fun a hf => ?_)
                  replace hf := hf.castB (t := 70) rfl (dec_t hc45)
                  replace hf := hf.castB (t := 71) rfl (dec_t hc45)
                  replace hf := hf.castB (t := 72) rfl (dec_t hc45)
                  refine stq hf rfl rfl rfl (ex_move hf rfl) (fun a hf => ?_)
                  refine stq hf rfl rfl rfl (ex_eql hf rfl rfl) (fun a hf => ?_)
                  refine stq hf rfl rfl rfl (ex_pickT hf rfl rfl) (fun a hf => ?_)
                  refine stq hf rfl rfl rfl (ex_move hf rfl) (fun a hf => ?_)
                  replace hf := hf.castB (t := 74) rfl (dec_t hc46)
                  replace hf := hf.castB (t := 75) rfl (dec_t hc46)
                  replace hf := hf.castB (t := 76) rfl (dec_t hc46)
                  refine stq hf rfl rfl rfl (ex_move hf rfl) (fun a hf => ?_)
                  refine stq hf rfl rfl rfl (ex_eql hf rfl rfl) (fun a hf => ?_)
                  refine stq hf rfl rfl rfl (ex_pickT hf rfl rfl) (fun a hf => ?_)
                  refine stq hf rfl rfl rfl (ex_move hf rfl) (fun a hf => ?_)
                  replace hf := hf.castB (t := 78) rfl (dec_f hc47)
                  replace hf := hf.castB (t := 79) rfl (dec_f hc47)
                  replace hf := hf.castB (t := 80) rfl (dec_f hc47)
                  refine stepN hf rfl rfl rfl (fun a hf => ?_)
                  refine stepN hf rfl rfl rfl (fun a hf => ?_)
                  refine stq hf rfl rfl rfl (ex_pickF hf rfl rfl) (fun a hf => ?_)
                  refine stq hf rfl rfl rfl (ex_move hf rfl) (fun a hf => ?_)
                  refine stepN hf rfl rfl rfl (fun a hf => ?_)
                  refine stepN hf rfl rfl rfl (fun a hf => ?_)
                  refine stepN hf rfl rfl rfl (fun a hf => ?_)
                  refine stepN hf rfl rfl rfl (fun a hf => ?_)
                  refine stq hf rfl rfl rfl (ex_pickF hf rfl rfl) (fun a hf => ?_)
                  refine stq hf rfl rfl rfl (ex_assign hf rfl) (fun a hf => ?_)
                  refine hK53 _ _ ?_
                  refine wp_ret ?_
                  have eR := some_eq H; subst eR
                  replace hs := hs.keep (.d (.d (.d .nil)))
                  exact ret1 Try.results9 hf rfl ⟨_, rfl, ⟨rfl, hs⟩⟩
              · -- not s34.2.2.1 = 1
                refine seq_reg (fun K54 hK54 => ?_)
                refine stq hf rfl rfl rfl (ex_move hf rfl) (fun a hf => ?_)
                refine stq hf rfl rfl rfl (ex_eql hf rfl rfl) (fun a hf => ?_)
                refine stq hf rfl rfl rfl (ex_move hf rfl) (fun a hf => ?_)
                replace hf := hf.castB (t := 63) rfl (dec_t hc43)
                replace hf := hf.castB (t := 64) rfl (dec_t hc43)
                refine stq hf rfl rfl rfl (ex_move hf rfl) (fun a hf => ?_)
                refine stq hf rfl rfl rfl (ex_eql hf rfl rfl) (fun a hf => ?_)
                refine stq hf rfl rfl rfl (ex_pickT hf rfl rfl) (fun a hf => ?_)
                refine stq hf rfl rfl rfl (ex_move hf rfl) (fun a hf => ?_)
                replace hf := hf.castB (t := 66) rfl (dec_t hc44)
                replace hf := hf.castB (t := 67) rfl (dec_t hc44)
                replace hf := hf.castB (t := 68) rfl (dec_t hc44)
                refine stq hf rfl rfl rfl (ex_move hf rfl) (fun a hf => ?_)
                refine stq hf rfl rfl rfl (ex_eql hf rfl rfl) (fun a hf => ?_)
                refine stq hf rfl rfl rfl (ex_pickT hf rfl rfl) (fun a hf => ?_)
                refine stq hf rfl rfl rfl (ex_move hf rfl) (fun a hf => ?_)
                replace hf := hf.castB (t := 70) rfl (dec_t hc45)
                replace hf := hf.castB (t := 71) rfl (dec_t hc45)
                replace hf := hf.castB (t := 72) rfl (dec_t hc45)
                refine stq hf rfl rfl rfl (ex_move hf rfl) (fun a hf => ?_)
                refine stq hf rfl rfl rfl (ex_eql hf rfl rfl) (fun a hf => ?_)
                refine stq hf rfl rfl rfl (ex_pickT hf rfl rfl) (fun a hf => ?_)
                refine stq hf rfl rfl rfl (ex_move hf rfl) (fun a hf => ?_)
                replace hf := hf.castB (t := 74) rfl (dec_f hc46)
                replace hf := hf.castB (t := 75) rfl (dec_f hc46)
                replace hf := hf.castB (t := 76) rfl (dec_f hc46)
                refine stepN hf rfl rfl rfl (fun a hf => ?_)
                refine stepN hf rfl rfl rfl (fun a hf => ?_)
                refine stq hf rfl rfl rfl (ex_pickF hf rfl rfl) (fun a hf => ?_)
                refine stq hf rfl rfl rfl (ex_move hf rfl) (fun a hf => ?_)
                refine stepN hf rfl rfl rfl (fun a hf => ?_)
                refine stepN hf rfl rfl rfl (fun a hf => ?_)
                refine stq hf rfl rfl rfl (ex_pickF hf rfl rfl) (fun a hf => ?_)
                refine stq hf rfl rfl rfl (ex_move hf rfl) (fun a hf => ?_)
                refine stepN hf rfl rfl rfl (fun a hf => ?_)
                refine stepN hf rfl rfl rfl (fun a hf => ?_)
                refine stepN hf rfl rfl rfl (fun a hf => ?_)
                refine stepN hf rfl rfl rfl (fun a hf => ?_)
                refine stq hf rfl rfl rfl (ex_pickF hf rfl rfl) (fun a hf => ?_)
                refine stq hf rfl rfl rfl (ex_assign hf rfl) (fun a hf => ?_)
                refine hK54 _ _ ?_
                refine wp_ret ?_
                have eR := some_eq H; subst eR
                replace hs := hs.keep (.d (.d (.d .nil)))
                exact ret1 Try.results9 hf rfl ⟨_, rfl, ⟨rfl, hs⟩⟩
            · -- not s40.2.2.2.2 = 0
              refine seq_reg (fun K55 hK55 => ?_)
              refine stq hf rfl rfl rfl (ex_move hf rfl) (fun a hf => ?_)
              refine stq hf rfl rfl rfl (ex_eql hf rfl rfl) (fun a hf => ?_)
              refine stq hf rfl rfl rfl (ex_move hf rfl) (fun a hf => ?_)
              replace hf := hf.castB (t := 63) rfl (dec_t hc43)
              replace hf := hf.castB (t := 64) rfl (dec_t hc43)
              refine stq hf rfl rfl rfl (ex_move hf rfl) (fun a hf => ?_)
              refine stq hf rfl rfl rfl (ex_eql hf rfl rfl) (fun a hf => ?_)
              refine stq hf rfl rfl rfl (ex_pickT hf rfl rfl) (fun a hf => ?_)
              refine stq hf rfl rfl rfl (ex_move hf rfl) (fun a hf => ?_)
              replace hf := hf.castB (t := 66) rfl (dec_t hc44)
              replace hf := hf.castB (t := 67) rfl (dec_t hc44)
              replace hf := hf.castB (t := 68) rfl (dec_t hc44)
              refine stq hf rfl rfl rfl (ex_move hf rfl) (fun a hf => ?_)
              refine stq hf rfl rfl rfl (ex_eql hf rfl rfl) (fun a hf => ?_)
              refine stq hf rfl rfl rfl (ex_pickT hf rfl rfl) (fun a hf => ?_)
              refine stq hf rfl rfl rfl (ex_move hf rfl) (fun a hf => ?_)
              replace hf := hf.castB (t := 70) rfl (dec_f hc45)
              replace hf := hf.castB (t := 71) rfl (dec_f hc45)
              replace hf := hf.castB (t := 72) rfl (dec_f hc45)
              refine stepN hf rfl rfl rfl (fun a hf => ?_)
              refine stepN hf rfl rfl rfl (fun a hf => ?_)
              refine stq hf rfl rfl rfl (ex_pickF hf rfl rfl) (fun a hf => ?_)
              refine stq hf rfl rfl rfl (ex_move hf rfl) (fun a hf => ?_)
              refine stepN hf rfl rfl rfl (fun a hf => ?_)
              refine stepN hf rfl rfl rfl (fun a hf => ?_)
              refine stq hf rfl rfl rfl (ex_pickF hf rfl rfl) (fun a hf => ?_)
              refine stq hf rfl rfl rfl (ex_move hf rfl) (fun a hf => ?_)
              refine stepN hf rfl rfl rfl (fun a hf => ?_)
              refine stepN hf rfl rfl rfl (fun a hf => ?_)
              refine stq hf rfl rfl rfl (ex_pickF hf rfl rfl) (fun a hf => ?_)
              refine stq hf rfl rfl rfl (ex_move hf rfl) (fun a hf => ?_)
              refine stepN hf rfl rfl rfl (fun a hf => ?_)
              refine stepN hf rfl rfl rfl (fun a hf => ?_)
              refine stepN hf rfl rfl rfl (fun a hf => ?_)
              refine stepN hf rfl rfl rfl (fun a hf => ?_)
              refine stq hf rfl rfl rfl (ex_pickF hf rfl rfl) (fun a hf => ?_)
              refine stq hf rfl rfl rfl (ex_assign hf rfl) (fun a hf => ?_)
              refine hK55 _ _ ?_
              refine wp_ret ?_
              have eR := some_eq H; subst eR
              replace hs := hs.keep (.d (.d (.d .nil)))
              exact ret1 Try.results9 hf rfl ⟨_, rfl, ⟨rfl, hs⟩⟩
          · -- not s37.2.2.2.2 = 0
            refine seq_reg (fun K56 hK56 => ?_)
            refine stq hf rfl rfl rfl (ex_move hf rfl) (fun a hf => ?_)
            refine stq hf rfl rfl rfl (ex_eql hf rfl rfl) (fun a hf => ?_)
            refine stq hf rfl rfl rfl (ex_move hf rfl) (fun a hf => ?_)
            replace hf := hf.castB (t := 63) rfl (dec_t hc43)
            replace hf := hf.castB (t := 64) rfl (dec_t hc43)
            refine stq hf rfl rfl rfl (ex_move hf rfl) (fun a hf => ?_)
            refine stq hf rfl rfl rfl (ex_eql hf rfl rfl) (fun a hf => ?_)
            refine stq hf rfl rfl rfl (ex_pickT hf rfl rfl) (fun a hf => ?_)
            refine stq hf rfl rfl rfl (ex_move hf rfl) (fun a hf => ?_)
            replace hf := hf.castB (t := 66) rfl (dec_f hc44)
            replace hf := hf.castB (t := 67) rfl (dec_f hc44)
            replace hf := hf.castB (t := 68) rfl (dec_f hc44)
            refine stepN hf rfl rfl rfl (fun a hf => ?_)
            refine stepN hf rfl rfl rfl (fun a hf => ?_)
            refine stq hf rfl rfl rfl (ex_pickF hf rfl rfl) (fun a hf => ?_)
            refine stq hf rfl rfl rfl (ex_move hf rfl) (fun a hf => ?_)
            refine stepN hf rfl rfl rfl (fun a hf => ?_)
            refine stepN hf rfl rfl rfl (fun a hf => ?_)
            refine stq hf rfl rfl rfl (ex_pickF hf rfl rfl) (fun a hf => ?_)
            refine stq hf rfl rfl rfl (ex_move hf rfl) (fun a hf => ?_)
            refine stepN hf rfl rfl rfl (fun a hf => ?_)
            refine stepN hf rfl rfl rfl (fun a hf => ?_)
            refine stq hf rfl rfl rfl (ex_pickF hf rfl rfl) (fun a hf => ?_)
            refine stq hf rfl rfl rfl (ex_move hf rfl) (fun a hf => ?_)
            refine stepN hf rfl rfl rfl (fun a hf => ?_)
            refine stepN hf rfl rfl rfl (fun a hf => ?_)
            refine stq hf rfl rfl rfl (ex_pickF hf rfl rfl) (fun a hf => ?_)
            refine stq hf rfl rfl rfl (ex_move hf rfl) (fun a hf => ?_)
            refine stepN hf rfl rfl rfl (fun a hf => ?_)
            refine stepN hf rfl rfl rfl (fun a hf => ?_)
            refine stepN hf rfl rfl rfl (fun a hf => ?_)
            refine stepN hf rfl rfl rfl (fun a hf => ?_)
            refine stq hf rfl rfl rfl (ex_pickF hf rfl rfl) (fun a hf => ?_)
            refine stq hf rfl rfl rfl (ex_assign hf rfl) (fun a hf => ?_)
            refine hK56 _ _ ?_
            refine wp_ret ?_
            have eR := some_eq H; subst eR
            replace hs := hs.keep (.d (.d (.d .nil)))
            exact ret1 Try.results9 hf rfl ⟨_, rfl, ⟨rfl, hs⟩⟩
        · -- not s34.2.2.2.2 = 0
          refine seq_reg (fun K57 hK57 => ?_)
          refine stq hf rfl rfl rfl (ex_move hf rfl) (fun a hf => ?_)
          refine stq hf rfl rfl rfl (ex_eql hf rfl rfl) (fun a hf => ?_)
          refine stq hf rfl rfl rfl (ex_move hf rfl) (fun a hf => ?_)
          replace hf := hf.castB (t := 63) rfl (dec_f hc43)
          replace hf := hf.castB (t := 64) rfl (dec_f hc43)
          refine stepN hf rfl rfl rfl (fun a hf => ?_)
          refine stepN hf rfl rfl rfl (fun a hf => ?_)
          refine stq hf rfl rfl rfl (ex_pickF hf rfl rfl) (fun a hf => ?_)
          refine stq hf rfl rfl rfl (ex_move hf rfl) (fun a hf => ?_)
          refine stepN hf rfl rfl rfl (fun a hf => ?_)
          refine stepN hf rfl rfl rfl (fun a hf => ?_)
          refine stq hf rfl rfl rfl (ex_pickF hf rfl rfl) (fun a hf => ?_)
          refine stq hf rfl rfl rfl (ex_move hf rfl) (fun a hf => ?_)
          refine stepN hf rfl rfl rfl (fun a hf => ?_)
          refine stepN hf rfl rfl rfl (fun a hf => ?_)
          refine stq hf rfl rfl rfl (ex_pickF hf rfl rfl) (fun a hf => ?_)
          refine stq hf rfl rfl rfl (ex_move hf rfl) (fun a hf => ?_)
          refine stepN hf rfl rfl rfl (fun a hf => ?_)
          refine stepN hf rfl rfl rfl (fun a hf => ?_)
          refine stq hf rfl rfl rfl (ex_pickF hf rfl rfl) (fun a hf => ?_)
          refine stq hf rfl rfl rfl (ex_move hf rfl) (fun a hf => ?_)
          refine stepN hf rfl rfl rfl (fun a hf => ?_)
          refine stepN hf rfl rfl rfl (fun a hf => ?_)
          refine stq hf rfl rfl rfl (ex_pickF hf rfl rfl) (fun a hf => ?_)
          refine stq hf rfl rfl rfl (ex_move hf rfl) (fun a hf => ?_)
          refine stepN hf rfl rfl rfl (fun a hf => ?_)
          refine stepN hf rfl rfl rfl (fun a hf => ?_)
          refine stepN hf rfl rfl rfl (fun a hf => ?_)
          refine stepN hf rfl rfl rfl (fun a hf => ?_)
          refine stq hf rfl rfl rfl (ex_pickF hf rfl rfl) (fun a hf => ?_)
          refine stq hf rfl rfl rfl (ex_assign hf rfl) (fun a hf => ?_)
          refine hK57 _ _ ?_
          refine wp_ret ?_
          have eR := some_eq H; subst eR
          replace hs := hs.keep (.d (.d (.d .nil)))
          exact ret1 Try.results9 hf rfl ⟨_, rfl, ⟨rfl, hs⟩⟩

set_option maxRecDepth 100000 in
theorem law36_Table.calls {M : Nat → Prop} {w0 : World} (k : Nat) (a0 : (List OperatingPoint)) (v0 : Value) {r : (List OperatingPoint)} (hs : St M w0 w0 []) (hr : Sr M w0 [rsl K_api_OperatingPoint v0 a0])
    (h : law36_Table.f k a0 = some r) : Calls Try.prog 10 #[v0] w0 fun e w => ∃ v, e = .returned v ∧ (∃ (g0 : Value), g0 = v ∧ St M w0 w [osl K_api_OperatingPoint g0 r]) := by
  have H := (law36_Table.f.eq_1 ..).symm.trans h
  clear h
  refine enter Try.func10 rfl Try.ntmps10 rfl (fun a hf => ?_)
  refine seq_reg (fun K1 hK1 => ?_)
  refine stq hf rfl rfl rfl (ex_assign hf rfl) (fun a hf => ?_)
  refine hK1 _ _ ?_
  refine seq_reg (fun K3 hK3 => ?_)
  refine stq hf rfl rfl rfl (ex_build (cs := [.int .u64 1, .int .u64 5, .int .u64 0]) bt_30 hf rfl (.cons rfl (.cons rfl .nil)) rfl) (fun a hf => ?_)
  refine stepV hf rfl rfl rfl (er_buildSlice (K := K_api_OperatingPoint) (xs := [(⟨1, 5, 0⟩ : OperatingPoint)]) hs Try.underlying22 ep_30 rfl rfl hf rfl (.cons rfl .nil) rfl rfl) (fun v2 w hs a hf => ?_)
  refine stq hf rfl rfl rfl (ex_assign hf rfl) (fun a hf => ?_)
  refine hK3 _ _ ?_
  refine bnd H (fun x4 H4 HO4 => ?_)
  clear H
  refine seq_cut (fun a w => Fr a 81 [(0, v0), (3, v2)] ∧ St M w0 w [osl K_api_OperatingPoint v2 x4]) (fun Q4 hJ4 hR4 hX4 => ?_) (fun a w hJ => ?_)
  · replace H := H4
    refine seq_reg (fun K5 hK5 => ?_)
    refine stq hf rfl rfl rfl (ex_move hf rfl) (fun a hf => ?_)
    refine stq hf rfl rfl rfl (ex_lenS Try.underlying22 (rsl_isSl (hr.now hs (i := 0) rfl)) hf rfl) (fun a hf => ?_)
    refine stq hf rfl rfl rfl (ex_gtr hf rfl rfl) (fun a hf => ?_)
    refine hK5 _ _ ?_
    refine itt H (fun hc6 H => ?_) (fun hc6 H => ?_)
    · -- 0 < (a0.length : Int)
      replace hf := hf.castB (t := 10) rfl (dec_t hc6)
      refine cond_T hf rfl ?_
      refine ck_some H (fun hc7 H => ?_)
      refine ck_some H (fun hc8 H => ?_)
      refine region_d fol 18 [(0, v0), (3, v2)] [(0, v2), (1, v0), (2, .pointer (some (sla v0 ((0 : Int).toNat * 3)))), (3, .pointer (some (sla v0 ((0 : Int).toNat * 3 + 0)))), (4, .int .u64 ((gd OperatingPoint.zero a0 0).Frequency)), (5, .int .u64 (Int.tmod ((gd OperatingPoint.zero a0 0).Frequency) 100)), (6, .int .u64 (IntKind.u64.wrap (1 + (Int.tmod ((gd OperatingPoint.zero a0 0).Frequency) 100)))), (7, v0), (8, .pointer (some (sla v0 ((0 : Int).toNat * 3)))), (9, .pointer (some (sla v0 ((0 : Int).toNat * 3 + 1)))), (10, .int .u64 ((gd OperatingPoint.zero a0 0).Voltage)), (11, .int .u64 (Int.tmod ((gd OperatingPoint.zero a0 0).Voltage) 100)), (12, v0), (13, .pointer (some (sla v0 ((0 : Int).toNat * 3)))), (14, .pointer (some (sla v0 ((0 : Int).toNat * 3 + 2)))), (15, .int .u64 ((gd OperatingPoint.zero a0 0).Power)), (16, .int .u64 (Int.tmod ((gd OperatingPoint.zero a0 0).Power) 100)), (17, .agg #[.int .u64 (IntKind.u64.wrap (1 + (Int.tmod ((gd OperatingPoint.zero a0 0).Frequency) 100))), .int .u64 (Int.tmod ((gd OperatingPoint.zero a0 0).Voltage) 100), .int .u64 (Int.tmod ((gd OperatingPoint.zero a0 0).Power) 100)])] [] (fun w => (rsl K_api_OperatingPoint v0 a0).ok w ∧ True) (fun w => St M w0 w [osl K_api_OperatingPoint v2 [(⟨1, 5, 0⟩ : OperatingPoint)]]) hf ⟨rfl, rfl, trivial⟩ (by kernel_rfl) (by kernel_rfl) rfl (by decide) ⟨hr.now hs.drew (i := 0) rfl, trivial⟩ hs.drew (.cons (⟨_, _, rfl, rfl, rfl, rfl, fun a w hR hf => .inl ⟨wanted_yes hf rfl, ex_move hf rfl⟩⟩) (.cons (⟨_, _, rfl, rfl, rfl, rfl, fun a w hR hf => .inl ⟨wanted_yes hf rfl, ex_move hf rfl⟩⟩) (.cons (⟨_, _, rfl, rfl, rfl, rfl, fun a w hR hf => .inl ⟨wanted_yes hf rfl, ex_indexAddr sa_22 (rsl_isSl hR.1) hc7.1 hc7.2 hf rfl rfl⟩⟩) (.cons (⟨_, _, rfl, rfl, rfl, rfl, fun a w hR hf => .inl ⟨wanted_yes hf rfl, ex_fieldAddrS fa_30_0 rfl hf rfl⟩⟩) (.cons (⟨_, _, rfl, rfl, rfl, rfl, fun a w hR hf => .inl ⟨wanted_yes hf rfl, ex_load sc_23 hf rfl (el_cell (K := K_api_OperatingPoint) (f := 0) (rsl_rd hR.1) hc7.1 hc7.2 rfl)⟩⟩) (.cons (⟨_, _, rfl, rfl, rfl, rfl, fun a w hR hf => .inl ⟨wanted_yes hf rfl, ex_rem hf rfl rfl (by decide)⟩⟩) (.cons (⟨_, _, rfl, rfl, rfl, rfl, fun a w hR hf => .inl ⟨wanted_yes hf rfl, ex_add hf rfl rfl⟩⟩) (.cons (⟨_, _, rfl, rfl, rfl, rfl, fun a w hR hf => .inl ⟨wanted_yes hf rfl, ex_move hf rfl⟩⟩) (.cons (⟨_, _, rfl, rfl, rfl, rfl, fun a w hR hf => .inl ⟨wanted_yes hf rfl, ex_indexAddr sa_22 (rsl_isSl hR.1) hc7.1 hc7.2 hf rfl rfl⟩⟩) (.cons (⟨_, _, rfl, rfl, rfl, rfl, fun a w hR hf => .inl ⟨wanted_yes hf rfl, ex_fieldAddrS fa_30_1 rfl hf rfl⟩⟩) (.cons (⟨_, _, rfl, rfl, rfl, rfl, fun a w hR hf => .inl ⟨wanted_yes hf rfl, ex_load sc_23 hf rfl (el_cell (K := K_api_OperatingPoint) (f := 1) (rsl_rd hR.1) hc7.1 hc7.2 rfl)⟩⟩) (.cons (⟨_, _, rfl, rfl, rfl, rfl, fun a w hR hf => .inl ⟨wanted_yes hf rfl, ex_rem hf rfl rfl (by decide)⟩⟩) (.cons (⟨_, _, rfl, rfl, rfl, rfl, fun a w hR hf => .inl ⟨wanted_yes hf rfl, ex_move hf rfl⟩⟩) (.cons (⟨_, _, rfl, rfl, rfl, rfl, fun a w hR hf => .inl ⟨wanted_yes hf rfl, ex_indexAddr sa_22 (rsl_isSl hR.1) hc7.1 hc7.2 hf rfl rfl⟩⟩) (.cons (⟨_, _, rfl, rfl, rfl, rfl, fun a w hR hf => .inl ⟨wanted_yes hf rfl, ex_fieldAddrS fa_30_2 rfl hf rfl⟩⟩) (.cons (⟨_, _, rfl, rfl, rfl, rfl, fun a w hR hf => .inl ⟨wanted_yes hf rfl, ex_load sc_23 hf rfl (el_cell (K := K_api_OperatingPoint) (f := 2) (rsl_rd hR.1) hc7.1 hc7.2 rfl)⟩⟩) (.cons (⟨_, _, rfl, rfl, rfl, rfl, fun a w hR hf => .inl ⟨wanted_yes hf rfl, ex_rem hf rfl rfl (by decide)⟩⟩) (.cons (⟨_, _, rfl, rfl, rfl, rfl, fun a w hR hf => .inl ⟨wanted_yes hf rfl, ex_build (cs := [.int .u64 (IntKind.u64.wrap (1 + (Int.tmod ((gd OperatingPoint.zero a0 0).Frequency) 100))), .int .u64 (Int.tmod ((gd OperatingPoint.zero a0 0).Voltage) 100), .int .u64 (Int.tmod ((gd OperatingPoint.zero a0 0).Power) 100)]) bt_30 hf rfl (.cons rfl (.cons rfl (.cons rfl .nil))) rfl⟩⟩) (.nil))))))))))))))))))) (fun K9 hK9 => ?_)
      refine RW.zero (by kernel_rfl) (by kernel_rfl) [(0, v0), (3, v2), (11, v2), (28, .agg #[.int .u64 (IntKind.u64.wrap (1 + (Int.tmod ((gd OperatingPoint.zero a0 0).Frequency) 100))), .int .u64 (Int.tmod ((gd OperatingPoint.zero a0 0).Voltage) 100), .int .u64 (Int.tmod ((gd OperatingPoint.zero a0 0).Power) 100)])] ⟨rfl, rfl, rfl, rfl, trivial⟩ (fun a w hR hs hf => ?_)
      refine stq hf rfl rfl rfl (ex_indexAddr sa_22 (rsl_isSl (osl_rsl _ (hs.get (i := 0) rfl))) hc8.1 hc8.2 hf rfl rfl) (fun a hf => ?_)
      refine stepS hf rfl rfl (er_storeX (K := K_api_OperatingPoint) (x' := (⟨(IntKind.u64.wrap (1 + (Int.tmod ((gd OperatingPoint.zero a0 0).Frequency) 100))), (Int.tmod ((gd OperatingPoint.zero a0 0).Voltage) 100), (Int.tmod ((gd OperatingPoint.zero a0 0).Power) 100)⟩ : OperatingPoint)) (vs := [.int .u64 (IntKind.u64.wrap (1 + (Int.tmod ((gd OperatingPoint.zero a0 0).Frequency) 100))), .int .u64 (Int.tmod ((gd OperatingPoint.zero a0 0).Voltage) 100), .int .u64 (Int.tmod ((gd OperatingPoint.zero a0 0).Power) 100)]) hs (.c .nil) hc8.1 hc8.2 hf rfl rfl sz_30 rfl) (fun w hs => ?_)
      refine hK9 _ _ ?_
      have e4 := some_eq H; subst e4
      exact hJ4 _ _ ⟨hf.sub ⟨rfl, rfl, trivial⟩, hs⟩
    · -- not 0 < (a0.length : Int)
      replace hf := hf.castB (t := 10) rfl (dec_f hc6)
      refine cond_F hf rfl ?_
      refine wp_skip ?_
      have e4 := some_eq H; subst e4
      exact hJ4 _ _ ⟨hf.sub ⟨rfl, rfl, trivial⟩, hs⟩
  · obtain ⟨hf, hs⟩ := hJ
    replace H := HO4
    clear HO4
    refine bnd H (fun x10 H10 HO10 => ?_)
    clear H
    refine seq_cut (fun a w => ∃ (v11 : Value), Fr a 81 [(3, v11)] ∧ St M w0 w [osl K_api_OperatingPoint v11 x10]) (fun Q10 hJ10 hR10 hX10 => ?_) (fun a w hJ => ?_)
    · replace H := H10
      refine seq_reg (fun K12 hK12 => ?_)
      refine stq hf rfl rfl rfl (ex_assign hf rfl) (fun a hf => ?_)
      refine hK12 _ _ ?_
      refine block_k (fun Q13 hN13 hR13 hX13 hY13 => ?_)
      refine loop_k (fun n a w => ∃ (y15 : (List OperatingPoint)) (y16 : Int) (v14 : Value), Fr a 81 [(0, v0), (3, v14), (4, .int .i64 y16)] ∧ St M w0 w [osl K_api_OperatingPoint v14 y15] ∧ law36_Table.l1 n a0 y15 y16 = some x10) k ?_ (fun n18 a w hI Q18 hL18 hR18 hX18 => ?_)
      · -- at the start
        exact ⟨x4, 1, v2, hf.sub ⟨rfl, rfl, rfl, trivial⟩, hs, H⟩
      · obtain ⟨y15, y16, v14, hf, hs, H⟩ := hI
        cases n18 with
        | zero => exact absurd H (by rw [law36_Table.l1.eq_1]; intro h; cases h)
        | succ k18 =>
          replace H := (law36_Table.l1.eq_2 ..).symm.trans H
          refine seq_n (fun Q19 hN19 hR19 hX19 => ?_)
          refine bnd H (fun x20 H20 HO20 => ?_)
          clear H
          refine seq_cut (fun a w => Fr a 81 [(0, v0), (3, v14), (4, .int .i64 y16), (37, .bool x20)] ∧ St M w0 w [osl K_api_OperatingPoint v14 y15]) (fun Q20 hJ20 hR20 hX20 => ?_) (fun a w hJ => ?_)
          · replace H := H20
            refine itt H (fun hc21 H => ?_) (fun hc21 H => ?_)
            · -- y16 < (a0.length : Int)
              refine region_k (fun K22 hK22 => ?_)
              refine stq hf rfl rfl rfl (ex_move hf rfl) (fun a hf => ?_)
              refine stq hf rfl rfl rfl (ex_move hf rfl) (fun a hf => ?_)
              refine stq hf rfl rfl rfl (ex_lenS Try.underlying22 (rsl_isSl (hr.now hs (i := 0) rfl)) hf rfl) (fun a hf => ?_)
              refine stq hf rfl rfl rfl (ex_lss hf rfl rfl) (fun a hf => ?_)
              refine stq hf rfl rfl rfl (ex_move hf rfl) (fun a hf => ?_)
              replace hf := hf.castB (t := 33) rfl (dec_t hc21)
              replace hf := hf.castB (t := 34) rfl (dec_t hc21)
              refine stq hf rfl rfl rfl (ex_move hf rfl) (fun a hf => ?_)
              refine stq hf rfl rfl rfl (ex_lss hf rfl rfl) (fun a hf => ?_)
              refine stq hf rfl rfl rfl (ex_pickT hf rfl rfl) (fun a hf => ?_)
              refine hK22 _ _ ?_
              have e20 := some_eq H; subst e20
              exact hJ20 _ _ ⟨hf.sub ⟨rfl, rfl, rfl, rfl, trivial⟩, hs⟩
            · -- not y16 < (a0.length : Int)
              refine region_k (fun K23 hK23 => ?_)
              refine stq hf rfl rfl rfl (ex_move hf rfl) (fun a hf => ?_)
              refine stq hf rfl rfl rfl (ex_move hf rfl) (fun a hf => ?_)
              refine stq hf rfl rfl rfl (ex_lenS Try.underlying22 (rsl_isSl (hr.now hs (i := 0) rfl)) hf rfl) (fun a hf => ?_)
              refine stq hf rfl rfl rfl (ex_lss hf rfl rfl) (fun a hf => ?_)
              refine stq hf rfl rfl rfl (ex_move hf rfl) (fun a hf => ?_)
              replace hf := hf.castB (t := 33) rfl (dec_f hc21)
              replace hf := hf.castB (t := 34) rfl (dec_f hc21)
              refine stepN hf rfl rfl rfl (fun a hf => ?_)
              refine stepN hf rfl rfl rfl (fun a hf => ?_)
              refine stq hf rfl rfl rfl (ex_pickF hf rfl rfl) (fun a hf => ?_)
              refine hK23 _ _ ?_
              have e20 := some_eq H; subst e20
              exact hJ20 _ _ ⟨hf.sub ⟨rfl, rfl, rfl, rfl, trivial⟩, hs⟩
          · obtain ⟨hf, hs⟩ := hJ
            replace H := HO20
            clear HO20
            refine itt H (fun hc24 H => ?_) (fun hc24 H => ?_)
            · -- x20 = true
              replace hf := hf.castB (t := 37) rfl hc24
              refine cond_T hf rfl ?_
              refine wp_skip ?_
              refine hN19 _ _ ?_
              refine seq_n (fun Q25 hN25 hR25 hX25 => ?_)
              refine block_k (fun Q26 hN26 hR26 hX26 hY26 => ?_)
              refine ck_some H (fun hc27 H => ?_)
              refine seq_reg (fun K29 hK29 => ?_)
              refine stq hf rfl rfl rfl (ex_move hf rfl) (fun a hf => ?_)
              refine stq hf rfl rfl rfl (ex_move hf rfl) (fun a hf => ?_)
              refine stq hf rfl rfl rfl (ex_sub hf rfl rfl) (fun a hf => ?_)
              refine stq hf rfl rfl rfl (ex_indexAddr sa_22 (rsl_isSl (osl_rsl _ (hs.get (i := 0) rfl))) hc27.1 hc27.2 hf rfl rfl) (fun a hf => ?_)
              refine stq hf rfl rfl rfl (ex_loadA (cs := [.int .u64 ((gd OperatingPoint.zero y15 (IntKind.i64.wrap (y16 - 1))).Frequency), .int .u64 ((gd OperatingPoint.zero y15 (IntKind.i64.wrap (y16 - 1))).Voltage), .int .u64 ((gd OperatingPoint.zero y15 (IntKind.i64.wrap (y16 - 1))).Power)]) ag_30 hf rfl (el_cells (K := K_api_OperatingPoint) (rsl_rd (osl_rsl _ (hs.get (i := 0) rfl))) hc27.1 hc27.2 rfl)) (fun a hf => ?_)
              refine stepV hf rfl rfl rfl (er_alloc hs ti_30 (cs := [.int .u64 0, .int .u64 0, .int .u64 0]) rfl) (fun v w hR a hf => ?_)
              obtain ⟨b28, rfl, hs⟩ := hR
              refine stepS hf rfl rfl (er_storeAB (vs := [.int .u64 ((gd OperatingPoint.zero y15 (IntKind.i64.wrap (y16 - 1))).Frequency), .int .u64 ((gd OperatingPoint.zero y15 (IntKind.i64.wrap (y16 - 1))).Voltage), .int .u64 ((gd OperatingPoint.zero y15 (IntKind.i64.wrap (y16 - 1))).Power)]) (cs' := [.int .u64 ((gd OperatingPoint.zero y15 (IntKind.i64.wrap (y16 - 1))).Frequency), .int .u64 ((gd OperatingPoint.zero y15 (IntKind.i64.wrap (y16 - 1))).Voltage), .int .u64 ((gd OperatingPoint.zero y15 (IntKind.i64.wrap (y16 - 1))).Power)]) hs (.c (.k .nil)) sz_30 hf rfl rfl (all1 rfl (all1 rfl (all1 rfl (all1_nil)))) rfl rfl) (fun w hs => ?_)
              refine hK29 _ _ ?_
              refine seq_n (fun Q30 hN30 hR30 hX30 => ?_)
              refine ck_some H (fun hc31 H => ?_)
              refine region_d fol 10 [(0, v0), (3, v14), (4, .int .i64 y16), (5, .pointer (some ⟨b28, 0, none⟩))] [(0, .pointer (some ⟨b28, 0, none⟩)), (1, .int .u64 ((gd OperatingPoint.zero y15 (IntKind.i64.wrap (y16 - 1))).Frequency)), (2, .int .u64 (IntKind.u64.wrap (((gd OperatingPoint.zero y15 (IntKind.i64.wrap (y16 - 1))).Frequency) + 1))), (3, v0), (4, .int .i64 y16), (5, .pointer (some (sla v0 (y16.toNat * 3)))), (6, .pointer (some (sla v0 (y16.toNat * 3 + 0)))), (7, .int .u64 ((gd OperatingPoint.zero a0 y16).Frequency)), (8, .int .u64 (Int.tmod ((gd OperatingPoint.zero a0 y16).Frequency) 100)), (9, .int .u64 (IntKind.u64.wrap ((IntKind.u64.wrap (((gd OperatingPoint.zero y15 (IntKind.i64.wrap (y16 - 1))).Frequency) + 1)) + (Int.tmod ((gd OperatingPoint.zero a0 y16).Frequency) 100))))] [] (fun w => (bx b28 30 [.int .u64 ((gd OperatingPoint.zero y15 (IntKind.i64.wrap (y16 - 1))).Frequency), .int .u64 ((gd OperatingPoint.zero y15 (IntKind.i64.wrap (y16 - 1))).Voltage), .int .u64 ((gd OperatingPoint.zero y15 (IntKind.i64.wrap (y16 - 1))).Power)]).ok w ∧ (rsl K_api_OperatingPoint v0 a0).ok w ∧ True) (fun w => St M w0 w [bx b28 30 [.int .u64 ((gd OperatingPoint.zero y15 (IntKind.i64.wrap (y16 - 1))).Frequency), .int .u64 ((gd OperatingPoint.zero y15 (IntKind.i64.wrap (y16 - 1))).Voltage), .int .u64 ((gd OperatingPoint.zero y15 (IntKind.i64.wrap (y16 - 1))).Power)], osl K_api_OperatingPoint v14 y15]) hf ⟨rfl, rfl, rfl, rfl, trivial⟩ (by kernel_rfl) (by kernel_rfl) rfl (by decide) ⟨hs.drew.get (i := 0) rfl, hr.now hs.drew (i := 0) rfl, trivial⟩ hs.drew (.cons (⟨_, _, rfl, rfl, rfl, rfl, fun a w hR hf => .inl ⟨wanted_yes hf rfl, ex_fieldAddrB fa_30_0 rfl hf rfl⟩⟩) (.cons (⟨_, _, rfl, rfl, rfl, rfl, fun a w hR hf => .inl ⟨wanted_yes hf rfl, ex_load sc_23 hf rfl (bx_cell (hR.1) _ rfl)⟩⟩) (.cons (⟨_, _, rfl, rfl, rfl, rfl, fun a w hR hf => .inl ⟨wanted_yes hf rfl, ex_add hf rfl rfl⟩⟩) (.cons (⟨_, _, rfl, rfl, rfl, rfl, fun a w hR hf => .inl ⟨wanted_yes hf rfl, ex_move hf rfl⟩⟩) (.cons (⟨_, _, rfl, rfl, rfl, rfl, fun a w hR hf => .inl ⟨wanted_yes hf rfl, ex_move hf rfl⟩⟩) (.cons (⟨_, _, rfl, rfl, rfl, rfl, fun a w hR hf => .inl ⟨wanted_yes hf rfl, ex_indexAddr sa_22 (rsl_isSl hR.2.1) hc31.1 hc31.2 hf rfl rfl⟩⟩) (.cons (⟨_, _, rfl, rfl, rfl, rfl, fun a w hR hf => .inl ⟨wanted_yes hf rfl, ex_fieldAddrS fa_30_0 rfl hf rfl⟩⟩) (.cons (⟨_, _, rfl, rfl, rfl, rfl, fun a w hR hf => .inl ⟨wanted_yes hf rfl, ex_load sc_23 hf rfl (el_cell (K := K_api_OperatingPoint) (f := 0) (rsl_rd hR.2.1) hc31.1 hc31.2 rfl)⟩⟩) (.cons (⟨_, _, rfl, rfl, rfl, rfl, fun a w hR hf => .inl ⟨wanted_yes hf rfl, ex_rem hf rfl rfl (by decide)⟩⟩) (.cons (⟨_, _, rfl, rfl, rfl, rfl, fun a w hR hf => .inl ⟨wanted_yes hf rfl, ex_add hf rfl rfl⟩⟩) (.nil))))))))))) (fun K32 hK32 => ?_)
              refine RW.zero (by kernel_rfl) (by kernel_rfl) [(0, v0), (3, v14), (4, .int .i64 y16), (5, .pointer (some ⟨b28, 0, none⟩)), (54, .int .u64 (IntKind.u64.wrap ((IntKind.u64.wrap (((gd OperatingPoint.zero y15 (IntKind.i64.wrap (y16 - 1))).Frequency) + 1)) + (Int.tmod ((gd OperatingPoint.zero a0 y16).Frequency) 100))))] ⟨rfl, rfl, rfl, rfl, rfl, trivial⟩ (fun a w hR hs hf => ?_)
              refine stq hf rfl rfl rfl (ex_fieldAddrB fa_30_0 rfl hf rfl) (fun a hf => ?_)
              refine stepS hf rfl rfl (er_storeB hs (.c (.k .nil)) hf rfl rfl rfl sz_23 rfl) (fun w hs => ?_)
              refine hK32 _ _ ?_
              refine hN30 _ _ ?_
              refine seq_n (fun Q33 hN33 hR33 hX33 => ?_)
              refine region_d fol 9 [(0, v0), (3, v14), (4, .int .i64 y16), (5, .pointer (some ⟨b28, 0, none⟩))] [(0, .pointer (some ⟨b28, 1, none⟩)), (1, .int .u64 ((gd OperatingPoint.zero y15 (IntKind.i64.wrap (y16 - 1))).Voltage)), (2, v0), (3, .int .i64 y16), (4, .pointer (some (sla v0 (y16.toNat * 3)))), (5, .pointer (some (sla v0 (y16.toNat * 3 + 1)))), (6, .int .u64 ((gd OperatingPoint.zero a0 y16).Voltage)), (7, .int .u64 (Int.tmod ((gd OperatingPoint.zero a0 y16).Voltage) 4)), (8, .int .u64 (IntKind.u64.wrap (((gd OperatingPoint.zero y15 (IntKind.i64.wrap (y16 - 1))).Voltage) + (Int.tmod ((gd OperatingPoint.zero a0 y16).Voltage) 4))))] [] (fun w => (bx b28 30 [.int .u64 (IntKind.u64.wrap ((IntKind.u64.wrap (((gd OperatingPoint.zero y15 (IntKind.i64.wrap (y16 - 1))).Frequency) + 1)) + (Int.tmod ((gd OperatingPoint.zero a0 y16).Frequency) 100))), .int .u64 ((gd OperatingPoint.zero y15 (IntKind.i64.wrap (y16 - 1))).Voltage), .int .u64 ((gd OperatingPoint.zero y15 (IntKind.i64.wrap (y16 - 1))).Power)]).ok w ∧ (rsl K_api_OperatingPoint v0 a0).ok w ∧ True) (fun w => St M w0 w [bx b28 30 [.int .u64 (IntKind.u64.wrap ((IntKind.u64.wrap (((gd OperatingPoint.zero y15 (IntKind.i64.wrap (y16 - 1))).Frequency) + 1)) + (Int.tmod ((gd OperatingPoint.zero a0 y16).Frequency) 100))), .int .u64 ((gd OperatingPoint.zero y15 (IntKind.i64.wrap (y16 - 1))).Voltage), .int .u64 ((gd OperatingPoint.zero y15 (IntKind.i64.wrap (y16 - 1))).Power)], osl K_api_OperatingPoint v14 y15]) hf ⟨rfl, rfl, rfl, rfl, trivial⟩ (by kernel_rfl) (by kernel_rfl) rfl (by decide) ⟨hs.drew.get (i := 0) rfl, hr.now hs.drew (i := 0) rfl, trivial⟩ hs.drew (.cons (⟨_, _, rfl, rfl, rfl, rfl, fun a w hR hf => .inl ⟨wanted_yes hf rfl, ex_fieldAddrB fa_30_1 rfl hf rfl⟩⟩) (.cons (⟨_, _, rfl, rfl, rfl, rfl, fun a w hR hf => .inl ⟨wanted_yes hf rfl, ex_load sc_23 hf rfl (bx_cell (hR.1) _ rfl)⟩⟩) (.cons (⟨_, _, rfl, rfl, rfl, rfl, fun a w hR hf => .inl ⟨wanted_yes hf rfl, ex_move hf rfl⟩⟩) (.cons (⟨_, _, rfl, rfl, rfl, rfl, fun a w hR hf => .inl ⟨wanted_yes hf rfl, ex_move hf rfl⟩⟩) (.cons (⟨_, _, rfl, rfl, rfl, rfl, fun a w hR hf => .inl ⟨wanted_yes hf rfl, ex_indexAddr sa_22 (rsl_isSl hR.2.1) hc31.1 hc31.2 hf rfl rfl⟩⟩) (.cons (⟨_, _, rfl, rfl, rfl, rfl, fun a w hR hf => .inl ⟨wanted_yes hf rfl, ex_fieldAddrS fa_30_1 rfl hf rfl⟩⟩) (.cons (⟨_, _, rfl, rfl, rfl, rfl, fun a w hR hf => .inl ⟨wanted_yes hf rfl, ex_load sc_23 hf rfl (el_cell (K := K_api_OperatingPoint) (f := 1) (rsl_rd hR.2.1) hc31.1 hc31.2 rfl)⟩⟩) (.cons (⟨_, _, rfl, rfl, rfl, rfl, fun a w hR hf => .inl ⟨wanted_yes hf rfl, ex_rem hf rfl rfl (by decide)⟩⟩) (.cons (⟨_, _, rfl, rfl, rfl, rfl, fun a w hR hf => .inl ⟨wanted_yes hf rfl, ex_add hf rfl rfl⟩⟩) (.nil)))))))))) (fun K34 hK34 => ?_)
              refine RW.zero (by kernel_rfl) (by kernel_rfl) [(0, v0), (3, v14), (4, .int .i64 y16), (5, .pointer (some ⟨b28, 0, none⟩)), (64, .int .u64 (IntKind.u64.wrap (((gd OperatingPoint.zero y15 (IntKind.i64.wrap (y16 - 1))).Voltage) + (Int.tmod ((gd OperatingPoint.zero a0 y16).Voltage) 4))))] ⟨rfl, rfl, rfl, rfl, rfl, trivial⟩ (fun a w hR hs hf => ?_)
              refine stq hf rfl rfl rfl (ex_fieldAddrB fa_30_1 rfl hf rfl) (fun a hf => ?_)
              refine stepS hf rfl rfl (er_storeB hs (.c (.k .nil)) hf rfl rfl rfl sz_23 rfl) (fun w hs => ?_)
              refine hK34 _ _ ?_
              refine hN33 _ _ ?_
              refine seq_n (fun Q35 hN35 hR35 hX35 => ?_)
              refine region_d fol 9 [(0, v0), (3, v14), (4, .int .i64 y16), (5, .pointer (some ⟨b28, 0, none⟩))] [(0, .pointer (some ⟨b28, 2, none⟩)), (1, .int .u64 ((gd OperatingPoint.zero y15 (IntKind.i64.wrap (y16 - 1))).Power)), (2, v0), (3, .int .i64 y16), (4, .pointer (some (sla v0 (y16.toNat * 3)))), (5, .pointer (some (sla v0 (y16.toNat * 3 + 2)))), (6, .int .u64 ((gd OperatingPoint.zero a0 y16).Power)), (7, .int .u64 (Int.tmod ((gd OperatingPoint.zero a0 y16).Power) 30)), (8, .int .u64 (IntKind.u64.wrap (((gd OperatingPoint.zero y15 (IntKind.i64.wrap (y16 - 1))).Power) + (Int.tmod ((gd OperatingPoint.zero a0 y16).Power) 30))))] [] (fun w => (bx b28 30 [.int .u64 (IntKind.u64.wrap ((IntKind.u64.wrap (((gd OperatingPoint.zero y15 (IntKind.i64.wrap (y16 - 1))).Frequency) + 1)) + (Int.tmod ((gd OperatingPoint.zero a0 y16).Frequency) 100))), .int .u64 (IntKind.u64.wrap (((gd OperatingPoint.zero y15 (IntKind.i64.wrap (y16 - 1))).Voltage) + (Int.tmod ((gd OperatingPoint.zero a0 y16).Voltage) 4))), .int .u64 ((gd OperatingPoint.zero y15 (IntKind.i64.wrap (y16 - 1))).Power)]).ok w ∧ (rsl K_api_OperatingPoint v0 a0).ok w ∧ True) (fun w => St M w0 w [bx b28 30 [.int .u64 (IntKind.u64.wrap ((IntKind.u64.wrap (((gd OperatingPoint.zero y15 (IntKind.i64.wrap (y16 - 1))).Frequency) + 1)) + (Int.tmod ((gd OperatingPoint.zero a0 y16).Frequency) 100))), .int .u64 (IntKind.u64.wrap (((gd OperatingPoint.zero y15 (IntKind.i64.wrap (y16 - 1))).Voltage) + (Int.tmod ((gd OperatingPoint.zero a0 y16).Voltage) 4))), .int .u64 ((gd OperatingPoint.zero y15 (IntKind.i64.wrap (y16 - 1))).Power)], osl K_api_OperatingPoint v14 y15]) hf ⟨rfl, rfl, rfl, rfl, trivial⟩ (by kernel_rfl) (by kernel_rfl) rfl (by decide) ⟨hs.drew.get (i := 0) rfl, hr.now hs.drew (i := 0) rfl, trivial⟩ hs.drew (.cons (⟨_, _, rfl, rfl, rfl, rfl, fun a w hR hf => .inl ⟨wanted_yes hf rfl, ex_fieldAddrB fa_30_2 rfl hf rfl⟩⟩) (.cons (⟨_, _, rfl, rfl, rfl, rfl, fun a w hR hf => .inl ⟨wanted_yes hf rfl, ex_load sc_23 hf rfl (bx_cell (hR.1) _ rfl)⟩⟩) (.cons (⟨_, _, rfl, rfl, rfl, rfl, fun a w hR hf => .inl ⟨wanted_yes hf rfl, ex_move hf rfl⟩⟩) (.cons (⟨_, _, rfl, rfl, rfl, rfl, fun a w hR hf => .inl ⟨wanted_yes hf rfl, ex_move hf rfl⟩⟩) (.cons (⟨_, _, rfl, rfl, rfl, rfl, fun a w hR hf => .inl ⟨wanted_yes hf rfl, ex_indexAddr sa_22 (rsl_isSl hR.2.1) hc31.1 hc31.2 hf rfl rfl⟩⟩) (.cons (⟨_, _, rfl, rfl, rfl, rfl, fun a w hR hf => .inl ⟨wanted_yes hf rfl, ex_fieldAddrS fa_30_2 rfl hf rfl⟩⟩) (.cons (⟨_, _, rfl, rfl, rfl, rfl, fun a w hR hf => .inl ⟨wanted_yes hf rfl, ex_load sc_23 hf rfl (el_cell (K := K_api_OperatingPoint) (f := 2) (rsl_rd hR.2.1) hc31.1 hc31.2 rfl)⟩⟩) (.cons (⟨_, _, rfl, rfl, rfl, rfl, fun a w hR hf => .inl ⟨wanted_yes hf rfl, ex_rem hf rfl rfl (by decide)⟩⟩) (.cons (⟨_, _, rfl, rfl, rfl, rfl, fun a w hR hf => .inl ⟨wanted_yes hf rfl, ex_add hf rfl rfl⟩⟩) (.nil)))))))))) (fun K36 hK36 => ?_)
              refine RW.zero (by kernel_rfl) (by kernel_rfl) [(0, v0), (3, v14), (4, .int .i64 y16), (5, .pointer (some ⟨b28, 0, none⟩)), (74, .int .u64 (IntKind.u64.wrap (((gd OperatingPoint.zero y15 (IntKind.i64.wrap (y16 - 1))).Power) + (Int.tmod ((gd OperatingPoint.zero a0 y16).Power) 30))))] ⟨rfl, rfl, rfl, rfl, rfl, trivial⟩ (fun a w hR hs hf => ?_)
              refine stq hf rfl rfl rfl (ex_fieldAddrB fa_30_2 rfl hf rfl) (fun a hf => ?_)
              refine stepS hf rfl rfl (er_storeB hs (.c (.k .nil)) hf rfl rfl rfl sz_23 rfl) (fun w hs => ?_)
              refine hK36 _ _ ?_
              refine hN35 _ _ ?_
              refine ck_some H (fun hc38 H => ?_)
              refine region_k (fun K40 hK40 => ?_)
              refine stq hf rfl rfl rfl (ex_move hf rfl) (fun a hf => ?_)
              refine stq hf rfl rfl rfl (ex_loadA (cs := [.int .u64 (IntKind.u64.wrap ((IntKind.u64.wrap (((gd OperatingPoint.zero y15 (IntKind.i64.wrap (y16 - 1))).Frequency) + 1)) + (Int.tmod ((gd OperatingPoint.zero a0 y16).Frequency) 100))), .int .u64 (IntKind.u64.wrap (((gd OperatingPoint.zero y15 (IntKind.i64.wrap (y16 - 1))).Voltage) + (Int.tmod ((gd OperatingPoint.zero a0 y16).Voltage) 4))), .int .u64 (IntKind.u64.wrap (((gd OperatingPoint.zero y15 (IntKind.i64.wrap (y16 - 1))).Power) + (Int.tmod ((gd OperatingPoint.zero a0 y16).Power) 30)))]) ag_30 hf rfl (bx_cells (hs.get (i := 0) rfl) rfl)) (fun a hf => ?_)
              refine stepV hf rfl rfl rfl (er_buildSlice (K := K_api_OperatingPoint) (xs := [(⟨(IntKind.u64.wrap ((IntKind.u64.wrap (((gd OperatingPoint.zero y15 (IntKind.i64.wrap (y16 - 1))).Frequency) + 1)) + (Int.tmod ((gd OperatingPoint.zero a0 y16).Frequency) 100))), (IntKind.u64.wrap (((gd OperatingPoint.zero y15 (IntKind.i64.wrap (y16 - 1))).Voltage) + (Int.tmod ((gd OperatingPoint.zero a0 y16).Voltage) 4))), (IntKind.u64.wrap (((gd OperatingPoint.zero y15 (IntKind.i64.wrap (y16 - 1))).Power) + (Int.tmod ((gd OperatingPoint.zero a0 y16).Power) 30)))⟩ : OperatingPoint)]) hs Try.underlying22 ep_30 rfl rfl hf rfl (.cons rfl .nil) rfl rfl) (fun v37 w hs a hf => ?_)
              refine stepV hf rfl rfl rfl (er_append (K := K_api_OperatingPoint) hs (.k (.k (.c .nil))) (osl_rsl _ (hs.get (i := 0) rfl)) rfl Try.underlying22 ep_30 hc38 rfl hf rfl rfl) (fun v39 w hs a hf => ?_)
              refine stq hf rfl rfl rfl (ex_assign hf rfl) (fun a hf => ?_)
              refine hK40 _ _ ?_
              refine hN26 _ _ ?_
              refine hN25 _ _ ?_
              refine region_k (fun K41 hK41 => ?_)
              refine stq hf rfl rfl rfl (ex_move hf rfl) (fun a hf => ?_)
              refine stq hf rfl rfl rfl (ex_add hf rfl rfl) (fun a hf => ?_)
              refine stq hf rfl rfl rfl (ex_assign hf rfl) (fun a hf => ?_)
              refine hK41 _ _ ?_
              replace hs := hs.keep (.k (.d (.d .nil)))
              exact hL18 k18 _ _ (Nat.lt_succ_self _) ⟨(y15 ++ [(⟨(IntKind.u64.wrap ((IntKind.u64.wrap (((gd OperatingPoint.zero y15 (IntKind.i64.wrap (y16 - 1))).Frequency) + 1)) + (Int.tmod ((gd OperatingPoint.zero a0 y16).Frequency) 100))), (IntKind.u64.wrap (((gd OperatingPoint.zero y15 (IntKind.i64.wrap (y16 - 1))).Voltage) + (Int.tmod ((gd OperatingPoint.zero a0 y16).Voltage) 4))), (IntKind.u64.wrap (((gd OperatingPoint.zero y15 (IntKind.i64.wrap (y16 - 1))).Power) + (Int.tmod ((gd OperatingPoint.zero a0 y16).Power) 30)))⟩ : OperatingPoint)]), (IntKind.i64.wrap (y16 + 1)), v39, hf.sub ⟨rfl, rfl, rfl, trivial⟩, hs, H⟩
            · -- not x20 = true
              replace hf := hf.castB (t := 37) rfl (bool_f hc24)
              refine cond_F hf rfl ?_
              refine wp_exit ?_
              refine hX19 0 _ _ ?_
              refine hX18 0 _ _ ?_
              refine hX13 _ _ ?_
              have e10 := some_eq H; subst e10
              exact hJ10 _ _ ⟨v14, hf.sub ⟨rfl, trivial⟩, hs⟩
    · obtain ⟨v11, hf, hs⟩ := hJ
      replace H := HO10
      clear HO10
      refine seq_reg (fun K42 hK42 => ?_)
      refine stq hf rfl rfl rfl (ex_move hf rfl) (fun a hf => ?_)
      refine stq hf rfl rfl rfl (ex_assign hf rfl) (fun a hf => ?_)
      refine hK42 _ _ ?_
      refine wp_ret ?_
      have eR := some_eq H; subst eR
      exact ret1 Try.results10 hf rfl ⟨_, rfl, ⟨v11, rfl, hs⟩⟩

set_option maxRecDepth 100000 in
theorem perf_Check.calls {M : Nat → Prop} {w0 : World} (k : Nat) (a0 : (List OperatingPoint)) (v0 : Value) {r : Int} (hs : St M w0 w0 []) (hr : Sr M w0 [rsl K_api_OperatingPoint v0 a0])
    (h : perf_Check.f k a0 = some r) : Calls Try.prog 28 #[v0] w0 fun e w => ∃ v, e = .returned v ∧ (.int .i64 r = v ∧ St M w0 w []) := by
  have H := (perf_Check.f.eq_1 ..).symm.trans h
  clear h
  refine enter Try.func28 rfl Try.ntmps28 rfl (fun a hf => ?_)
  refine seq_reg (fun K1 hK1 => ?_)
  refine stq hf rfl rfl rfl (ex_assign hf rfl) (fun a hf => ?_)
  refine hK1 _ _ ?_
  refine seq_n (fun Q2 hN2 hR2 hX2 => ?_)
  refine bnd H (fun x3 H3 HO3 => ?_)
  clear H
  refine seq_cut (fun a w => Fr a 74 [(0, v0), (12, .bool x3)] ∧ St M w0 w []) (fun Q3 hJ3 hR3 hX3 => ?_) (fun a w hJ => ?_)
  · replace H := H3
    refine itt H (fun hc4 H => ?_) (fun hc4 H => ?_)
    · -- (a0.length : Int) < 1
      refine region_k (fun K5 hK5 => ?_)
      refine stq hf rfl rfl rfl (ex_move hf rfl) (fun a hf => ?_)
      refine stq hf rfl rfl rfl (ex_lenS Try.underlying22 (rsl_isSl (hr.now hs (i := 0) rfl)) hf rfl) (fun a hf => ?_)
      refine stq hf rfl rfl rfl (ex_lss hf rfl rfl) (fun a hf => ?_)
      refine stq hf rfl rfl rfl (ex_move hf rfl) (fun a hf => ?_)
      replace hf := hf.castB (t := 7) rfl (dec_t hc4)
      replace hf := hf.castB (t := 8) rfl (dec_t hc4)
      refine stepN hf rfl rfl rfl (fun a hf => ?_)
      refine stepN hf rfl rfl rfl (fun a hf => ?_)
      refine stepN hf rfl rfl rfl (fun a hf => ?_)
      refine stq hf rfl rfl rfl (ex_pickT hf rfl rfl) (fun a hf => ?_)
      refine hK5 _ _ ?_
      have e3 := some_eq H; subst e3
      exact hJ3 _ _ ⟨hf.sub ⟨rfl, rfl, trivial⟩, hs⟩
    · -- not (a0.length : Int) < 1
      refine region_k (fun K6 hK6 => ?_)
      refine stq hf rfl rfl rfl (ex_move hf rfl) (fun a hf => ?_)
      refine stq hf rfl rfl rfl (ex_lenS Try.underlying22 (rsl_isSl (hr.now hs (i := 0) rfl)) hf rfl) (fun a hf => ?_)
      refine stq hf rfl rfl rfl (ex_lss hf rfl rfl) (fun a hf => ?_)
      refine stq hf rfl rfl rfl (ex_move hf rfl) (fun a hf => ?_)
      replace hf := hf.castB (t := 7) rfl (dec_f hc4)
      replace hf := hf.castB (t := 8) rfl (dec_f hc4)
      refine stq hf rfl rfl rfl (ex_move hf rfl) (fun a hf => ?_)
      refine stq hf rfl rfl rfl (ex_lenS Try.underlying22 (rsl_isSl (hr.now hs (i := 0) rfl)) hf rfl) (fun a hf => ?_)
      refine stq hf rfl rfl rfl (ex_gtr hf rfl rfl) (fun a hf => ?_)
      refine stq hf rfl rfl rfl (ex_pickF hf rfl rfl) (fun a hf => ?_)
      refine hK6 _ _ ?_
      have e3 := some_eq H; subst e3
      exact hJ3 _ _ ⟨hf.sub ⟨rfl, rfl, trivial⟩, hs⟩
  · obtain ⟨hf, hs⟩ := hJ
    replace H := HO3
    clear HO3
    refine itt H (fun hc7 H => ?_) (fun hc7 H => ?_)
    · -- x3 = true
      replace hf := hf.castB (t := 12) rfl hc7
      refine cond_T hf rfl ?_
      refine seq_reg (fun K8 hK8 => ?_)
      refine stq hf rfl rfl rfl (ex_assign hf rfl) (fun a hf => ?_)
      refine hK8 _ _ ?_
      refine wp_ret ?_
      refine hR2 _ _ ?_
      have eR := some_eq H; subst eR
      exact ret1 Try.results28 hf rfl ⟨_, rfl, ⟨rfl, hs⟩⟩
    · -- not x3 = true
      replace hf := hf.castB (t := 12) rfl (bool_f hc7)
      refine cond_F hf rfl ?_
      refine wp_skip ?_
      refine hN2 _ _ ?_
      refine bnd H (fun x9 H9 HO9 => ?_)
      clear H
      refine seq_cut (fun a w => ∃ (x9s : Unit), x9 = .go x9s ∧ Fr a 74 [] ∧ St M w0 w []) (fun Q9 hJ9 hR9 hX9 => ?_) (fun a w hJ => ?_)
      · replace H := H9
        refine seq_reg (fun K10 hK10 => ?_)
        refine stq hf rfl rfl rfl (ex_move hf rfl) (fun a hf => ?_)
        refine stq hf rfl rfl rfl (ex_lenS Try.underlying22 (rsl_isSl (hr.now hs (i := 0) rfl)) hf rfl) (fun a hf => ?_)
        refine stq hf rfl rfl rfl (ex_move hf rfl) (fun a hf => ?_)
        refine hK10 _ _ ?_
        refine block_k (fun Q11 hN11 hR11 hX11 hY11 => ?_)
        refine loop_k (fun n a w => ∃ (y12 : Int), Fr a 74 [(0, v0), (13, v0), (14, .int .i64 (a0.length : Int)), (15, .int .i64 y12)] ∧ St M w0 w [] ∧ perf_Check.l1 n a0 y12 = some x9) k ?_ (fun n14 a w hI Q14 hL14 hR14 hX14 => ?_)
        · -- at the start
          exact ⟨0, hf.sub ⟨rfl, rfl, rfl, rfl, trivial⟩, hs, H⟩
        · obtain ⟨y12, hf, hs, H⟩ := hI
          cases n14 with
          | zero => exact absurd H (by rw [perf_Check.l1.eq_1]; intro h; cases h)
          | succ k14 =>
            replace H := (perf_Check.l1.eq_2 ..).symm.trans H
            refine seq_reg (fun K15 hK15 => ?_)
            refine stq hf rfl rfl rfl (ex_lss hf rfl rfl) (fun a hf => ?_)
            refine hK15 _ _ ?_
            refine seq_n (fun Q16 hN16 hR16 hX16 => ?_)
            refine itt H (fun hc17 H => ?_) (fun hc17 H => ?_)
            · -- y12 < (a0.length : Int)
              replace hf := hf.castB (t := 16) rfl (dec_t hc17)
              refine cond_T hf rfl ?_
              refine wp_skip ?_
              refine hN16 _ _ ?_
              refine seq_n (fun Q18 hN18 hR18 hX18 => ?_)
              refine block_k (fun Q19 hN19 hR19 hX19 hY19 => ?_)
              refine ck_some H (fun hc20 H => ?_)
              refine seq_reg (fun K22 hK22 => ?_)
              refine stq hf rfl rfl rfl (ex_move hf rfl) (fun a hf => ?_)
              refine stq hf rfl rfl rfl (ex_indexAddr sa_22 (rsl_isSl (hr.now hs (i := 0) rfl)) hc20.1 hc20.2 hf rfl rfl) (fun a hf => ?_)
              refine stq hf rfl rfl rfl (ex_loadA (cs := [.int .u64 ((gd OperatingPoint.zero a0 y12).Frequency), .int .u64 ((gd OperatingPoint.zero a0 y12).Voltage), .int .u64 ((gd OperatingPoint.zero a0 y12).Power)]) ag_30 hf rfl (el_cells (K := K_api_OperatingPoint) (rsl_rd (hr.now hs (i := 0) rfl)) hc20.1 hc20.2 rfl)) (fun a hf => ?_)
              refine stepV hf rfl rfl rfl (er_alloc hs ti_30 (cs := [.int .u64 0, .int .u64 0, .int .u64 0]) rfl) (fun v w hR a hf => ?_)
              obtain ⟨b21, rfl, hs⟩ := hR
              refine stq hf rfl rfl rfl (ex_assign hf rfl) (fun a hf => ?_)
              refine stepS hf rfl rfl (er_storeAB (vs := [.int .u64 ((gd OperatingPoint.zero a0 y12).Frequency), .int .u64 ((gd OperatingPoint.zero a0 y12).Voltage), .int .u64 ((gd OperatingPoint.zero a0 y12).Power)]) (cs' := [.int .u64 ((gd OperatingPoint.zero a0 y12).Frequency), .int .u64 ((gd OperatingPoint.zero a0 y12).Voltage), .int .u64 ((gd OperatingPoint.zero a0 y12).Power)]) hs (.c .nil) sz_30 hf rfl rfl (all1 rfl (all1 rfl (all1 rfl (all1_nil)))) rfl rfl) (fun w hs => ?_)
              refine hK22 _ _ ?_
              refine seq_n (fun Q23 hN23 hR23 hX23 => ?_)
              refine bnd H (fun x24 H24 HO24 => ?_)
              clear H
              refine seq_cut (fun a w => Fr a 74 [(0, v0), (3, .int .i64 y12), (4, .pointer (some ⟨b21, 0, none⟩)), (13, v0), (14, .int .i64 (a0.length : Int)), (15, .int .i64 y12), (37, .bool x24)] ∧ St M w0 w [bx b21 30 [.int .u64 ((gd OperatingPoint.zero a0 y12).Frequency), .int .u64 ((gd OperatingPoint.zero a0 y12).Voltage), .int .u64 ((gd OperatingPoint.zero a0 y12).Power)]]) (fun Q24 hJ24 hR24 hX24 => ?_) (fun a w hJ => ?_)
              · replace H := H24
                refine itt H (fun hc25 H => ?_) (fun hc25 H => ?_)
                · -- ((gd OperatingPoint.zero a0 y12).Frequency) < 1
                  refine region_k (fun K26 hK26 => ?_)
                  refine stq hf rfl rfl rfl (ex_fieldAddrB fa_30_0 rfl hf rfl) (fun a hf => ?_)
                  refine stq hf rfl rfl rfl (ex_load sc_23 hf rfl (bx_cell (hs.get (i := 0) rfl) _ rfl)) (fun a hf => ?_)
                  refine stq hf rfl rfl rfl (ex_lss hf rfl rfl) (fun a hf => ?_)
                  refine stq hf rfl rfl rfl (ex_move hf rfl) (fun a hf => ?_)
                  replace hf := hf.castB (t := 22) rfl (dec_t hc25)
                  replace hf := hf.castB (t := 23) rfl (dec_t hc25)
                  refine stepN hf rfl rfl rfl (fun a hf => ?_)
                  refine stepN hf rfl rfl rfl (fun a hf => ?_)
                  refine stepN hf rfl rfl rfl (fun a hf => ?_)
                  refine stq hf rfl rfl rfl (ex_pickT hf rfl rfl) (fun a hf => ?_)
                  refine stq hf rfl rfl rfl (ex_move hf rfl) (fun a hf => ?_)
                  refine stepN hf rfl rfl rfl (fun a hf => ?_)
                  refine stepN hf rfl rfl rfl (fun a hf => ?_)
                  refine stepN hf rfl rfl rfl (fun a hf => ?_)
                  refine stq hf rfl rfl rfl (ex_pickT hf rfl rfl) (fun a hf => ?_)
                  refine stq hf rfl rfl rfl (ex_move hf rfl) (fun a hf => ?_)
                  refine stepN hf rfl rfl rfl (fun a hf => ?_)
                  refine stepN hf rfl rfl rfl (fun a hf => ?_)
                  refine stepN hf rfl rfl rfl (fun a hf => ?_)
                  refine stq hf rfl rfl rfl (ex_pickT hf rfl rfl) (fun a hf => ?_)
                  refine hK26 _ _ ?_
                  have e24 := some_eq H; subst e24
                  exact hJ24 _ _ ⟨hf.sub ⟨rfl, rfl, rfl, rfl, rfl, rfl, rfl, trivial⟩, hs⟩
                · -- not ((gd OperatingPoint.zero a0 y12).Frequency) < 1
                  refine itt H (fun hc27 H => ?_) (fun hc27 H => ?_)
                  · -- 1099511627776 < ((gd OperatingPoint.zero a0 y12).Frequency)
                    refine region_k (fun K28 hK28 => ?_)
                    refine stq hf rfl rfl rfl (ex_fieldAddrB fa_30_0 rfl hf rfl) (fun a hf => ?_)
                    refine stq hf rfl rfl rfl (ex_load sc_23 hf rfl (bx_cell (hs.get (i := 0) rfl) _ rfl)) (fun a hf => ?_)
                    refine stq hf rfl rfl rfl (ex_lss hf rfl rfl) (fun a hf => ?_)
                    refine stq hf rfl rfl rfl (ex_move hf rfl) (fun a hf => ?_)
                    replace hf := hf.castB (t := 22) rfl (dec_f hc25)
                    replace hf := hf.castB (t := 23) rfl (dec_f hc25)
                    refine stq hf rfl rfl rfl (ex_fieldAddrB fa_30_0 rfl hf rfl) (fun a hf => ?_)
                    refine stq hf rfl rfl rfl (ex_load sc_23 hf rfl (bx_cell (hs.get (i := 0) rfl) _ rfl)) (fun a hf => ?_)
                    refine stq hf rfl rfl rfl (ex_gtr hf rfl rfl) (fun a hf => ?_)
                    refine stq hf rfl rfl rfl (ex_pickF hf rfl rfl) (fun a hf => ?_)
                    refine stq hf rfl rfl rfl (ex_move hf rfl) (fun a hf => ?_)
                    replace hf := hf.castB (t := 26) rfl (dec_t hc27)
                    replace hf := hf.castB (t := 27) rfl (dec_t hc27)
                    replace hf := hf.castB (t := 28) rfl (dec_t hc27)
                    refine stepN hf rfl rfl rfl (fun a hf => ?_)
                    refine stepN hf rfl rfl rfl (fun a hf => ?_)
                    refine stepN hf rfl rfl rfl (fun a hf => ?_)
                    refine stq hf rfl rfl rfl (ex_pickT hf rfl rfl) (fun a hf => ?_)
                    refine stq hf rfl rfl rfl (ex_move hf rfl) (fun a hf => ?_)
                    refine stepN hf rfl rfl rfl (fun a hf => ?_)
                    refine stepN hf rfl rfl rfl (fun a hf => ?_)
                    refine stepN hf rfl rfl rfl (fun a hf => ?_)
                    refine stq hf rfl rfl rfl (ex_pickT hf rfl rfl) (fun a hf => ?_)
                    refine hK28 _ _ ?_
                    have e24 := some_eq H; subst e24
                    exact hJ24 _ _ ⟨hf.sub ⟨rfl, rfl, rfl, rfl, rfl, rfl, rfl, trivial⟩, hs⟩
                  · -- not 1099511627776 < ((gd OperatingPoint.zero a0 y12).Frequency)
                    refine itt H (fun hc29 H => ?_) (fun hc29 H => ?_)
                    · -- 1099511627776 < ((gd OperatingPoint.zero a0 y12).Voltage)
                      refine region_k (fun K30 hK30 => ?_)
                      refine stq hf rfl rfl rfl (ex_fieldAddrB fa_30_0 rfl hf rfl) (fun a hf => ?_)
                      refine stq hf rfl rfl rfl (ex_load sc_23 hf rfl (bx_cell (hs.get (i := 0) rfl) _ rfl)) (fun a hf => ?_)
                      refine stq hf rfl rfl rfl (ex_lss hf rfl rfl) (fun a hf => ?_)
                      refine stq hf rfl rfl rfl (ex_move hf rfl) (fun a hf => ?_)
                      replace hf := hf.castB (t := 22) rfl (dec_f hc25)
                      replace hf := hf.castB (t := 23) rfl (dec_f hc25)
                      refine stq hf rfl rfl rfl (ex_fieldAddrB fa_30_0 rfl hf rfl) (fun a hf => ?_)
                      refine stq hf rfl rfl rfl (ex_load sc_23 hf rfl (bx_cell (hs.get (i := 0) rfl) _ rfl)) (fun a hf => ?_)
                      refine stq hf rfl rfl rfl (ex_gtr hf rfl rfl) (fun a hf => ?_)
                      refine stq hf rfl rfl rfl (ex_pickF hf rfl rfl) (fun a hf => ?_)
                      refine stq hf rfl rfl rfl (ex_move hf rfl) (fun a hf => ?_)
                      replace hf := hf.castB (t := 26) rfl (dec_f hc27)
                      replace hf := hf.castB (t := 27) rfl (dec_f hc27)
                      replace hf := hf.castB (t := 28) rfl (dec_f hc27)
                      refine stq hf rfl rfl rfl (ex_fieldAddrB fa_30_1 rfl hf rfl) (fun a hf => ?_)
                      refine stq hf rfl rfl rfl (ex_load sc_23 hf rfl (bx_cell (hs.get (i := 0) rfl) _ rfl)) (fun a hf => ?_)
                      refine stq hf rfl rfl rfl (ex_gtr hf rfl rfl) (fun a hf => ?_)
                      refine stq hf rfl rfl rfl (ex_pickF hf rfl rfl) (fun a hf => ?_)
                      refine stq hf rfl rfl rfl (ex_move hf rfl) (fun a hf => ?_)
                      replace hf := hf.castB (t := 31) rfl (dec_t hc29)
                      replace hf := hf.castB (t := 32) rfl (dec_t hc29)
                      replace hf := hf.castB (t := 33) rfl (dec_t hc29)
                      refine stepN hf rfl rfl rfl (fun a hf => ?_)
                      refine stepN hf rfl rfl rfl (fun a hf => ?_)
                      refine stepN hf rfl rfl rfl (fun a hf => ?_)
                      refine stq hf rfl rfl rfl (ex_pickT hf rfl rfl) (fun a hf => ?_)
                      refine hK30 _ _ ?_
                      have e24 := some_eq H; subst e24
                      exact hJ24 _ _ ⟨hf.sub ⟨rfl, rfl, rfl, rfl, rfl, rfl, rfl, trivial⟩, hs⟩
                    · -- not 1099511627776 < ((gd OperatingPoint.zero a0 y12).Voltage)
                      refine region_k (fun K31 hK31 => ?_)
                      refine stq hf rfl rfl rfl (ex_fieldAddrB fa_30_0 rfl hf rfl) (fun a hf => ?_)
                      refine stq hf rfl rfl rfl (ex_load sc_23 hf rfl (bx_cell (hs.get (i := 0) rfl) _ rfl)) (fun a hf => ?_)
                      refine stq hf rfl rfl rfl (ex_lss hf rfl rfl) (fun a hf => ?_)
                      refine stq hf rfl rfl rfl (ex_move hf rfl) (fun a hf => ?_)
                      replace hf := hf.castB (t := 22) rfl (dec_f hc25)
                      replace hf := hf.castB (t := 23) rfl (dec_f hc25)
                      refine stq hf rfl rfl rfl (ex_fieldAddrB fa_30_0 rfl hf rfl) (fun a hf => ?_)
                      refine stq hf rfl rfl rfl (ex_load sc_23 hf rfl (bx_cell (hs.get (i := 0) rfl) _ rfl)) (fun a hf => ?_)
                      refine stq hf rfl rfl rfl (ex_gtr hf rfl rfl) (fun a hf => ?_)
                      refine stq hf rfl rfl rfl (ex_pickF hf rfl rfl) (fun a hf => ?_)
                      refine stq hf rfl rfl rfl (ex_move hf rfl) (fun a hf => ?_)
                      replace hf := hf.castB (t := 26) rfl (dec_f hc27)
                      replace hf := hf.castB (t := 27) rfl (dec_f hc27)
                      replace hf := hf.castB (t := 28) rfl (dec_f hc27)
                      refine stq hf rfl rfl rfl (ex_fieldAddrB fa_30_1 rfl hf rfl) (fun a hf => ?_)
                      refine stq hf rfl rfl rfl (ex_load sc_23 hf rfl (bx_cell (hs.get (i := 0) rfl) _ rfl)) (fun a hf => ?_)
                      refine stq hf rfl rfl rfl (ex_gtr hf rfl rfl) (fun a hf => ?_)
                      refine stq hf rfl rfl rfl (ex_pickF hf rfl rfl) (fun a hf => ?_)
                      refine stq hf rfl rfl rfl (ex_move hf rfl) (fun a hf => ?_)
                      replace hf := hf.castB (t := 31) rfl (dec_f hc29)
                      replace hf := hf.castB (t := 32) rfl (dec_f hc29)
                      replace hf := hf.castB (t := 33) rfl (dec_f hc29)
                      refine stq hf rfl rfl rfl (ex_fieldAddrB fa_30_2 rfl hf rfl) (fun a hf => ?_)
                      refine stq hf rfl rfl rfl (ex_load sc_23 hf rfl (bx_cell (hs.get (i := 0) rfl) _ rfl)) (fun a hf => ?_)
                      refine stq hf rfl rfl rfl (ex_gtr hf rfl rfl) (fun a hf => ?_)
                      refine stq hf rfl rfl rfl (ex_pickF hf rfl rfl) (fun a hf => ?_)
                      refine hK31 _ _ ?_
                      have e24 := some_eq H; subst e24
                      exact hJ24 _ _ ⟨hf.sub ⟨rfl, rfl, rfl, rfl, rfl, rfl, rfl, trivial⟩, hs⟩
              · obtain ⟨hf, hs⟩ := hJ
                replace H := HO24
                clear HO24
                refine itt H (fun hc32 H => ?_) (fun hc32 H => ?_)
                · -- x24 = true
                  replace hf := hf.castB (t := 37) rfl hc32
                  refine cond_T hf rfl ?_
                  refine seq_reg (fun K33 hK33 => ?_)
                  refine stq hf rfl rfl rfl (ex_assign hf rfl) (fun a hf => ?_)
                  refine hK33 _ _ ?_
                  refine wp_ret ?_
                  refine hR23 _ _ ?_
                  refine hR19 _ _ ?_
                  refine hR18 _ _ ?_
                  refine hR14 _ _ ?_
                  refine hR11 _ _ ?_
                  have e9 := some_eq H; subst e9; replace H := el_rt HO9
                  refine hR9 _ _ ?_
                  have eR := some_eq H; subst eR
                  replace hs := hs.keep (.d .nil)
                  exact ret1 Try.results28 hf rfl ⟨_, rfl, ⟨rfl, hs⟩⟩
                · -- not x24 = true
                  replace hf := hf.castB (t := 37) rfl (bool_f hc32)
                  refine cond_F hf rfl ?_
                  refine wp_skip ?_
                  refine hN23 _ _ ?_
                  refine bnd H (fun x34 H34 HO34 => ?_)
                  clear H
                  refine seq_cut (fun a w => Fr a 74 [(0, v0), (13, v0), (14, .int .i64 (a0.length : Int)), (15, .int .i64 y12), (72, .bool x34)] ∧ St M w0 w []) (fun Q34 hJ34 hR34 hX34 => ?_) (fun a w hJ => ?_)
                  · replace H := H34
                    refine itt H (fun hc35 H => ?_) (fun hc35 H => ?_)
                    · -- 0 < y12
                      refine ck_some H (fun hc36 H => ?_)
                      refine itt H (fun hc37 H => ?_) (fun hc37 H => ?_)
                      · -- ((gd OperatingPoint.zero a0 y12).Frequency) ≤ ((gd Operating
                        refine region_d fol 35 [(0, v0), (3, .int .i64 y12), (4, .pointer (some ⟨b21, 0, none⟩)), (13, v0), (14, .int .i64 (a0.length : Int)), (15, .int .i64 y12)] [(0, .int .i64 y12), (1, .bool true), (2, .bool true), (3, .pointer (some ⟨b21, 0, none⟩)), (4, .int .u64 ((gd OperatingPoint.zero a0 y12).Frequency)), (5, v0), (6, .int .i64 y12), (7, .int .i64 (IntKind.i64.wrap (y12 - 1))), (8, .pointer (some (sla v0 ((IntKind.i64.wrap (y12 - 1)).toNat * 3)))), (9, .pointer (some (sla v0 ((IntKind.i64.wrap (y12 - 1)).toNat * 3 + 0)))), (10, .int .u64 ((gd OperatingPoint.zero a0 (IntKind.i64.wrap (y12 - 1))).Frequency)), (11, .bool true), (12, .bool true), (13, undef), (14, undef), (15, undef), (16, undef), (17, undef), (18, undef), (19, undef), (20, undef), (21, undef), (22, .bool true), (23, .bool true), (24, undef), (25, undef), (26, undef), (27, undef), (28, undef), (29, undef), (30, undef), (31, undef), (32, undef), (33, .bool true), (34, .bool true)] [] (fun w => (bx b21 30 [.int .u64 ((gd OperatingPoint.zero a0 y12).Frequency), .int .u64 ((gd OperatingPoint.zero a0 y12).Voltage), .int .u64 ((gd OperatingPoint.zero a0 y12).Power)]).ok w ∧ (rsl K_api_OperatingPoint v0 a0).ok w ∧ True) (fun w => St M w0 w [bx b21 30 [.int .u64 ((gd OperatingPoint.zero a0 y12).Frequency), .int .u64 ((gd OperatingPoint.zero a0 y12).Voltage), .int .u64 ((gd OperatingPoint.zero a0 y12).Power)]]) hf ⟨rfl, rfl, rfl, rfl, rfl, rfl, trivial⟩ (by kernel_rfl) (by kernel_rfl) rfl (by decide) ⟨hs.drew.get (i := 0) rfl, hr.now hs.drew (i := 0) rfl, trivial⟩ hs.drew (.cons (⟨_, _, rfl, rfl, rfl, rfl, fun a w hR hf => .inl ⟨wanted_yes hf rfl, ex_move hf rfl⟩⟩) (.cons (⟨_, _, rfl, rfl, rfl, rfl, fun a w hR hf => .inl ⟨wanted_yes hf rfl, ex_castB (ex_gtr hf rfl rfl) (dec_t hc35)⟩⟩) (.cons (⟨_, _, rfl, rfl, rfl, rfl, fun a w hR hf => .inl ⟨wanted_yes hf rfl, ex_move hf rfl⟩⟩) (.cons (⟨_, _, rfl, rfl, rfl, rfl, fun a w hR hf => .inl ⟨wanted_yes hf rfl, ex_fieldAddrB fa_30_0 rfl hf rfl⟩⟩) (.cons (⟨_, _, rfl, rfl, rfl, rfl, fun a w hR hf => .inl ⟨wanted_yes hf rfl, ex_load sc_23 hf rfl (bx_cell (hR.1) _ rfl)⟩⟩) (.cons (⟨_, _, rfl, rfl, rfl, rfl, fun a w hR hf => .inl ⟨wanted_yes hf rfl, ex_move hf rfl⟩⟩) (.cons (⟨_, _, rfl, rfl, rfl, rfl, fun a w hR hf => .inl ⟨wanted_yes hf rfl, ex_move hf rfl⟩⟩) (.cons (⟨_, _, rfl, rfl, rfl, rfl, fun a w hR hf => .inl ⟨wanted_yes hf rfl, ex_sub hf rfl rfl⟩⟩) (.cons (⟨_, _, rfl, rfl, rfl, rfl, fun a w hR hf => .inl ⟨wanted_yes hf rfl, ex_indexAddr sa_22 (rsl_isSl hR.2.1) hc36.1 hc36.2 hf rfl rfl⟩⟩) (.cons (⟨_, _, rfl, rfl, rfl, rfl, fun a w hR hf => .inl ⟨wanted_yes hf rfl, ex_fieldAddrS fa_30_0 rfl hf rfl⟩⟩) (.cons (⟨_, _, rfl, rfl, rfl, rfl, fun a w hR hf => .inl ⟨wanted_yes hf rfl, ex_load sc_23 hf rfl (el_cell (K := K_api_OperatingPoint) (f := 0) (rsl_rd hR.2.1) hc36.1 hc36.2 rfl)⟩⟩) (.cons (⟨_, _, rfl, rfl, rfl, rfl, fun a w hR hf => .inl ⟨wanted_yes hf rfl, ex_castB (ex_leq hf rfl rfl) (dec_t hc37)⟩⟩) (.cons (⟨_, _, rfl, rfl, rfl, rfl, fun a w hR hf => .inl ⟨wanted_yes hf rfl, ex_move hf rfl⟩⟩) (.cons (⟨_, _, rfl, rfl, rfl, rfl, fun a w hR hf => .inr ⟨wanted_no hf rfl, rfl⟩⟩) (.cons (⟨_, _, rfl, rfl, rfl, rfl, fun a w hR hf => .inr ⟨wanted_no hf rfl, rfl⟩⟩) (.cons (⟨_, _, rfl, rfl, rfl, rfl, fun a w hR hf => .inr ⟨wanted_no hf rfl, rfl⟩⟩) (.cons (⟨_, _, rfl, rfl, rfl, rfl, fun a w hR hf => .inr ⟨wanted_no hf rfl, rfl⟩⟩) (.cons (⟨_, _, rfl, rfl, rfl, rfl, fun a w hR hf => .inr ⟨wanted_no hf rfl, rfl⟩⟩) (.cons (⟨_, _, rfl, rfl, rfl, rfl, fun a w hR hf => .inr ⟨wanted_no hf rfl, rfl⟩⟩) (.cons (⟨_, _, rfl, rfl, rfl, rfl, fun a w hR hf => .inr ⟨wanted_no hf rfl, rfl⟩⟩) (.cons (⟨_, _, rfl, rfl, rfl, rfl, fun a w hR hf => .inr ⟨wanted_no hf rfl, rfl⟩⟩) (.cons (⟨_, _, rfl, rfl, rfl, rfl, fun a w hR hf => .inr ⟨wanted_no hf rfl, rfl⟩⟩) (.cons (⟨_, _, rfl, rfl, rfl, rfl, fun a w hR hf => .inl ⟨wanted_yes hf rfl, ex_pickT hf rfl rfl⟩⟩) (.cons (⟨_, _, rfl, rfl, rfl, rfl, fun a w hR hf => .inl ⟨wanted_yes hf rfl, ex_move hf rfl⟩⟩) (.cons (⟨_, _, rfl, rfl, rfl, rfl, fun a w hR hf => .inr ⟨wanted_no hf rfl, rfl⟩⟩) (.cons (⟨_, _, rfl, rfl, rfl, rfl, fun a w hR hf => .inr ⟨wanted_no hf rfl, rfl⟩⟩) (.cons (⟨_, _, rfl, rfl, rfl, rfl, fun a w hR hf => .inr ⟨wanted_no hf rfl, rfl⟩⟩) (.cons (⟨_, _, rfl, rfl, rfl, rfl, fun a w hR hf => .inr ⟨wanted_no hf rfl, rfl⟩⟩) (.cons (⟨_, _, rfl, rfl, rfl, rfl, fun a w hR hf => .inr ⟨wanted_no hf rfl, rfl⟩⟩) (.cons (⟨_, _, rfl, rfl, rfl, rfl, fun a w hR hf => .inr ⟨wanted_no hf rfl, rfl⟩⟩) (.cons (⟨_, _, rfl, rfl, rfl, rfl, fun a w hR hf => .inr ⟨wanted_no hf rfl, rfl⟩⟩) (.cons (⟨_, _, rfl, rfl, rfl, rfl, fun a w hR hf => .inr ⟨wanted_no hf rfl, rfl⟩⟩) (.cons (⟨_, _, rfl, rfl, rfl, rfl, fun a w hR hf => .inr ⟨wanted_no hf rfl, rfl⟩⟩) (.cons (⟨_, _, rfl, rfl, rfl, rfl, fun a w hR hf => .inl ⟨wanted_yes hf rfl, ex_pickT hf rfl rfl⟩⟩) (.cons (⟨_, _, rfl, rfl, rfl, rfl, fun a w hR hf => .inl ⟨wanted_yes hf rfl, ex_pickT hf rfl rfl⟩⟩) (.nil)))))))))))))))))))))))))))))))))))) (fun K38 hK38 => ?_)
                        refine RW.zero (by kernel_rfl) (by kernel_rfl) [(0, v0), (13, v0), (14, .int .i64 (a0.length : Int)), (15, .int .i64 y12), (72, .bool true)] ⟨rfl, rfl, rfl, rfl, rfl, trivial⟩ (fun a w hR hs hf => ?_)
                        refine hK38 _ _ ?_
                        replace hs := hs.keep (.d .nil)
                        have e34 := some_eq H; subst e34
                        exact hJ34 _ _ ⟨hf.sub ⟨rfl, rfl, rfl, rfl, rfl, trivial⟩, hs⟩
                      · -- not ((gd OperatingPoint.zero a0 y12).Frequency) ≤ ((gd Operating
                        refine itt H (fun hc39 H => ?_) (fun hc39 H => ?_)
                        · -- ((gd OperatingPoint.zero a0 y12).Voltage) < ((gd OperatingPo
                          refine region_d fol 35 [(0, v0), (3, .int .i64 y12), (4, .pointer (some ⟨b21, 0, none⟩)), (13, v0), (14, .int .i64 (a0.length : Int)), (15, .int .i64 y12)] [(0, .int .i64 y12), (1, .bool true), (2, .bool true), (3, .pointer (some ⟨b21, 0, none⟩)), (4, .int .u64 ((gd OperatingPoint.zero a0 y12).Frequency)), (5, v0), (6, .int .i64 y12), (7, .int .i64 (IntKind.i64.wrap (y12 - 1))), (8, .pointer (some (sla v0 ((IntKind.i64.wrap (y12 - 1)).toNat * 3)))), (9, .pointer (some (sla v0 ((IntKind.i64.wrap (y12 - 1)).toNat * 3 + 0)))), (10, .int .u64 ((gd OperatingPoint.zero a0 (IntKind.i64.wrap (y12 - 1))).Frequency)), (11, .bool false), (12, .bool false), (13, .pointer (some ⟨b21, 1, none⟩)), (14, .int .u64 ((gd OperatingPoint.zero a0 y12).Voltage)), (15, v0), (16, .int .i64 y12), (17, .int .i64 (IntKind.i64.wrap (y12 - 1))), (18, .pointer (some (sla v0 ((IntKind.i64.wrap (y12 - 1)).toNat * 3)))), (19, .pointer (some (sla v0 ((IntKind.i64.wrap (y12 - 1)).toNat * 3 + 1)))), (20, .int .u64 ((gd OperatingPoint.zero a0 (IntKind.i64.wrap (y12 - 1))).Voltage)), (21, .bool true), (22, .bool true), (23, .bool true), (24, undef), (25, undef), (26, undef), (27, undef), (28, undef), (29, undef), (30, undef), (31, undef), (32, undef), (33, .bool true), (34, .bool true)] [] (fun w => (bx b21 30 [.int .u64 ((gd OperatingPoint.zero a0 y12).Frequency), .int .u64 ((gd OperatingPoint.zero a0 y12).Voltage), .int .u64 ((gd OperatingPoint.zero a0 y12).Power)]).ok w ∧ (rsl K_api_OperatingPoint v0 a0).ok w ∧ True) (fun w => St M w0 w [bx b21 30 [.int .u64 ((gd OperatingPoint.zero a0 y12).Frequency), .int .u64 ((gd OperatingPoint.zero a0 y12).Voltage), .int .u64 ((gd OperatingPoint.zero a0 y12).Power)]]) hf ⟨rfl, rfl, rfl, rfl, rfl, rfl, trivial⟩ (by kernel_rfl) (by kernel_rfl) rfl (by decide) ⟨hs.drew.get (i := 0) rfl, hr.now hs.drew (i := 0) rfl, trivial⟩ hs.drew (.cons (⟨_, _, rfl, rfl, rfl, rfl, fun a w hR hf => .inl ⟨wanted_yes hf rfl, ex_move hf rfl⟩⟩) (.cons (⟨_, _, rfl, rfl, rfl, rfl, fun a w hR hf => .inl ⟨wanted_yes hf rfl, ex_castB (ex_gtr hf rfl rfl) (dec_t hc35)⟩⟩) (.cons (⟨_, _, rfl, rfl, rfl, rfl, fun a w hR hf => .inl ⟨wanted_yes hf rfl, ex_move hf rfl⟩⟩) (.cons (⟨_, _, rfl, rfl, rfl, rfl, fun a w hR hf => .inl ⟨wanted_yes hf rfl, ex_fieldAddrB fa_30_0 rfl hf rfl⟩⟩) (.cons (⟨_, _, rfl, rfl, rfl, rfl, fun a w hR hf => .inl ⟨wanted_yes hf rfl, ex_load sc_23 hf rfl (bx_cell (hR.1) _ rfl)⟩⟩) (.cons (⟨_, _, rfl, rfl, rfl, rfl, fun a w hR hf => .inl ⟨wanted_yes hf rfl, ex_move hf rfl⟩⟩) (.cons (⟨_, _, rfl, rfl, rfl, rfl, fun a w hR hf => .inl ⟨wanted_yes hf rfl, ex_move hf rfl⟩⟩) (.cons (⟨_, _, rfl, rfl, rfl, rfl, fun a w hR hf => .inl ⟨wanted_yes hf rfl, ex_sub hf rfl rfl⟩⟩) (.cons (⟨_, _, rfl, rfl, rfl, rfl, fun a w hR hf => .inl ⟨wanted_yes hf rfl, ex_indexAddr sa_22 (rsl_isSl hR.2.1) hc36.1 hc36.2 hf rfl rfl⟩⟩) (.cons (⟨_, _, rfl, rfl, rfl, rfl, fun a w hR hf => .inl ⟨wanted_yes hf rfl, ex_fieldAddrS fa_30_0 rfl hf rfl⟩⟩) (.cons (⟨_, _, rfl, rfl, rfl, rfl, fun a w hR hf => .inl ⟨wanted_yes hf rfl, ex_load sc_23 hf rfl (el_cell (K := K_api_OperatingPoint) (f := 0) (rsl_rd hR.2.1) hc36.1 hc36.2 rfl)⟩⟩) (.cons (⟨_, _, rfl, rfl, rfl, rfl, fun a w hR hf => .inl ⟨wanted_yes hf rfl, ex_castB (ex_leq hf rfl rfl) (dec_f hc37)⟩⟩) (.cons (⟨_, _, rfl, rfl, rfl, rfl, fun a w hR hf => .inl ⟨wanted_yes hf rfl, ex_move hf rfl⟩⟩) (.cons (⟨_, _, rfl, rfl, rfl, rfl, fun a w hR hf => .inl ⟨wanted_yes hf rfl, ex_fieldAddrB fa_30_1 rfl hf rfl⟩⟩) (.cons (⟨_, _, rfl, rfl, rfl, rfl, fun a w hR hf => .inl ⟨wanted_yes hf rfl, ex_load sc_23 hf rfl (bx_cell (hR.1) _ rfl)⟩⟩) (.cons (⟨_, _, rfl, rfl, rfl, rfl, fun a w hR hf => .inl ⟨wanted_yes hf rfl, ex_move hf rfl⟩⟩) (.cons (⟨_, _, rfl, rfl, rfl, rfl, fun a w hR hf => .inl ⟨wanted_yes hf rfl, ex_move hf rfl⟩⟩) (.cons (⟨_, _, rfl, rfl, rfl, rfl, fun a w hR hf => .inl ⟨wanted_yes hf rfl, ex_sub hf rfl rfl⟩⟩) (.cons (⟨_, _, rfl, rfl, rfl, rfl, fun a w hR hf => .inl ⟨wanted_yes hf rfl, ex_indexAddr sa_22 (rsl_isSl hR.2.1) hc36.1 hc36.2 hf rfl rfl⟩⟩) (.cons (⟨_, _, rfl, rfl, rfl, rfl, fun a w hR hf => .inl ⟨wanted_yes hf rfl, ex_fieldAddrS fa_30_1 rfl hf rfl⟩⟩) (.cons (⟨_, _, rfl, rfl, rfl, rfl, fun a w hR hf => .inl ⟨wanted_yes hf rfl, ex_load sc_23 hf rfl (el_cell (K := K_api_OperatingPoint) (f := 1) (rsl_rd hR.2.1) hc36.1 hc36.2 rfl)⟩⟩) (.cons (⟨_, _, rfl, rfl, rfl, rfl, fun a w hR hf => .inl ⟨wanted_yes hf rfl, ex_castB (ex_lss hf rfl rfl) (dec_t hc39)⟩⟩) (.cons (⟨_, _, rfl, rfl, rfl, rfl, fun a w hR hf => .inl ⟨wanted_yes hf rfl, ex_pickF hf rfl rfl⟩⟩) (.cons (⟨_, _, rfl, rfl, rfl, rfl, fun a w hR hf => .inl ⟨wanted_yes hf rfl, ex_move hf rfl⟩⟩) (.cons (⟨_, _, rfl, rfl, rfl, rfl, fun a w hR hf => .inr ⟨wanted_no hf rfl, rfl⟩⟩) (.cons (⟨_, _, rfl, rfl, rfl, rfl, fun a w hR hf => .inr ⟨wanted_no hf rfl, rfl⟩⟩) (.cons (⟨_, _, rfl, rfl, rfl, rfl, fun a w hR hf => .inr ⟨wanted_no hf rfl, rfl⟩⟩) (.cons (⟨_, _, rfl, rfl, rfl, rfl, fun a w hR hf => .inr ⟨wanted_no hf rfl, rfl⟩⟩) (.cons (⟨_, _, rfl, rfl, rfl, rfl, fun a w hR hf => .inr ⟨wanted_no hf rfl, rfl⟩⟩) (.cons (⟨_, _, rfl, rfl, rfl, rfl, fun a w hR hf => .inr ⟨wanted_no hf rfl, rfl⟩⟩) (.cons (⟨_, _, rfl, rfl, rfl, rfl, fun a w hR hf => .inr ⟨wanted_no hf rfl, rfl⟩⟩) (.cons (⟨_, _, rfl, rfl, rfl, rfl, fun a w hR hf => .inr ⟨wanted_no hf rfl, rfl⟩⟩) (.cons (⟨_, _, rfl, rfl, rfl, rfl, fun a w hR hf => .inr ⟨wanted_no hf rfl, rfl⟩⟩) (.cons (⟨_, _, rfl, rfl, rfl, rfl, fun a w hR hf => .inl ⟨wanted_yes hf rfl, ex_pickT hf rfl rfl⟩⟩) (.cons (⟨_, _, rfl, rfl, rfl, rfl, fun a w hR hf => .inl ⟨wanted_yes hf rfl, ex_pickT hf rfl rfl⟩⟩) (.nil)))))))))))))))))))))))))))))))))))) (fun K40 hK40 => ?_)
                          refine RW.zero (by kernel_rfl) (by kernel_rfl) [(0, v0), (13, v0), (14, .int .i64 (a0.length : Int)), (15, .int .i64 y12), (72, .bool true)] ⟨rfl, rfl, rfl, rfl, rfl, trivial⟩ (fun a w hR hs hf => ?_)
                          refine hK40 _ _ ?_
                          replace hs := hs.keep (.d .nil)
                          have e34 := some_eq H; subst e34
                          exact hJ34 _ _ ⟨hf.sub ⟨rfl, rfl, rfl, rfl, rfl, trivial⟩, hs⟩
                        · -- not ((gd OperatingPoint.zero a0 y12).Voltage) < ((gd OperatingPo
                          refine region_d fol 35 [(0, v0), (3, .int .i64 y12), (4, .pointer (some ⟨b21, 0, none⟩)), (13, v0), (14, .int .i64 (a0.length : Int)), (15, .int .i64 y12)] [(0, .int .i64 y12), (1, .bool true), (2, .bool true), (3, .pointer (some ⟨b21, 0, none⟩)), (4, .int .u64 ((gd OperatingPoint.zero a0 y12).Frequency)), (5, v0), (6, .int .i64 y12), (7, .int .i64 (IntKind.i64.wrap (y12 - 1))), (8, .pointer (some (sla v0 ((IntKind.i64.wrap (y12 - 1)).toNat * 3)))), (9, .pointer (some (sla v0 ((IntKind.i64.wrap (y12 - 1)).toNat * 3 + 0)))), (10, .int .u64 ((gd OperatingPoint.zero a0 (IntKind.i64.wrap (y12 - 1))).Frequency)), (11, .bool false), (12, .bool false), (13, .pointer (some ⟨b21, 1, none⟩)), (14, .int .u64 ((gd OperatingPoint.zero a0 y12).Voltage)), (15, v0), (16, .int .i64 y12), (17, .int .i64 (IntKind.i64.wrap (y12 - 1))), (18, .pointer (some (sla v0 ((IntKind.i64.wrap (y12 - 1)).toNat * 3)))), (19, .pointer (some (sla v0 ((IntKind.i64.wrap (y12 - 1)).toNat * 3 + 1)))), (20, .int .u64 ((gd OperatingPoint.zero a0 (IntKind.i64.wrap (y12 - 1))).Voltage)), (21, .bool false), (22, .bool false), (23, .bool false), (24, .pointer (some ⟨b21, 2, none⟩)), (25, .int .u64 ((gd OperatingPoint.zero a0 y12).Power)), (26, v0), (27, .int .i64 y12), (28, .int .i64 (IntKind.i64.wrap (y12 - 1))), (29, .pointer (some (sla v0 ((IntKind.i64.wrap (y12 - 1)).toNat * 3)))), (30, .pointer (some (sla v0 ((IntKind.i64.wrap (y12 - 1)).toNat * 3 + 2)))), (31, .int .u64 ((gd OperatingPoint.zero a0 (IntKind.i64.wrap (y12 - 1))).Power)), (32, .bool (decide (((gd OperatingPoint.zero a0 y12).Power) < ((gd OperatingPoint.zero a0 (IntKind.i64.wrap (y12 - 1))).Power)))), (33, .bool (decide (((gd OperatingPoint.zero a0 y12).Power) < ((gd OperatingPoint.zero a0 (IntKind.i64.wrap (y12 - 1))).Power)))), (34, .bool (decide (((gd OperatingPoint.zero a0 y12).Power) < ((gd OperatingPoint.zero a0 (IntKind.i64.wrap (y12 - 1))).Power))))] [] (fun w => (bx b21 30 [.int .u64 ((gd OperatingPoint.zero a0 y12).Frequency), .int .u64 ((gd OperatingPoint.zero a0 y12).Voltage), .int .u64 ((gd OperatingPoint.zero a0 y12).Power)]).ok w ∧ (rsl K_api_OperatingPoint v0 a0).ok w ∧ True) (fun w => St M w0 w [bx b21 30 [.int .u64 ((gd OperatingPoint.zero a0 y12).Frequency), .int .u64 ((gd OperatingPoint.zero a0 y12).Voltage), .int .u64 ((gd OperatingPoint.zero a0 y12).Power)]]) hf ⟨rfl, rfl, rfl, rfl, rfl, rfl, trivial⟩ (by kernel_rfl) (by kernel_rfl) rfl (by decide) ⟨hs.drew.get (i := 0) rfl, hr.now hs.drew (i := 0) rfl, trivial⟩ hs.drew (.cons (⟨_, _, rfl, rfl, rfl, rfl, fun a w hR hf => .inl ⟨wanted_yes hf rfl, ex_move hf rfl⟩⟩) (.cons (⟨_, _, rfl, rfl, rfl, rfl, fun a w hR hf => .inl ⟨wanted_yes hf rfl, ex_castB (ex_gtr hf rfl rfl) (dec_t hc35)⟩⟩) (.cons (⟨_, _, rfl, rfl, rfl, rfl, fun a w hR hf => .inl ⟨wanted_yes hf rfl, ex_move hf rfl⟩⟩) (.cons (⟨_, _, rfl, rfl, rfl, rfl, fun a w hR hf => .inl ⟨wanted_yes hf rfl, ex_fieldAddrB fa_30_0 rfl hf rfl⟩⟩) (.cons (⟨_, _, rfl, rfl, rfl, rfl, fun a w hR hf => .inl ⟨wanted_yes hf rfl, ex_load sc_23 hf rfl (bx_cell (hR.1) _ rfl)⟩⟩) (.cons (⟨_, _, rfl, rfl, rfl, rfl, fun a w hR hf => .inl ⟨wanted_yes hf rfl, ex_move hf rfl⟩⟩) (.cons (⟨_, _, rfl, rfl, rfl, rfl, fun a w hR hf => .inl ⟨wanted_yes hf rfl, ex_move hf rfl⟩⟩) (.cons (⟨_, _, rfl, rfl, rfl, rfl, fun a w hR hf => .inl ⟨wanted_yes hf rfl, ex_sub hf rfl rfl⟩⟩) (.cons (⟨_, _, rfl, rfl, rfl, rfl, fun a w hR hf => .inl ⟨wanted_yes hf rfl, ex_indexAddr sa_22 (rsl_isSl hR.2.1) hc36.1 hc36.2 hf rfl rfl⟩⟩) (.cons (⟨_, _, rfl, rfl, rfl, rfl, fun a w hR hf => .inl ⟨wanted_yes hf rfl, ex_fieldAddrS fa_30_0 rfl hf rfl⟩⟩) (.cons (⟨_, _, rfl, rfl, rfl, rfl, fun a w hR hf => .inl ⟨wanted_yes hf rfl, ex_load sc_23 hf rfl (el_cell (K := K_api_OperatingPoint) (f := 0) (rsl_rd hR.2.1) hc36.1 hc36.2 rfl)⟩⟩) (.cons (⟨_, _, rfl, rfl, rfl, rfl, fun a w hR hf => .inl ⟨wanted_yes hf rfl, ex_castB (ex_leq hf rfl rfl) (dec_f hc37)⟩⟩) (.cons (⟨_, _, rfl, rfl, rfl, rfl, fun a w hR hf => .inl ⟨wanted_yes hf rfl, ex_move hf rfl⟩⟩) (.cons (⟨_, _, rfl, rfl, rfl, rfl, fun a w hR hf => .inl ⟨wanted_yes hf rfl, ex_fieldAddrB fa_30_1 rfl hf rfl⟩⟩) (.cons (⟨_, _, rfl, rfl, rfl, rfl, fun a w hR hf => .inl ⟨wanted_yes hf rfl, ex_load sc_23 hf rfl (bx_cell (hR.1) _ rfl)⟩⟩) (.cons (⟨_, _, rfl, rfl, rfl, rfl, fun a w hR hf => .inl ⟨wanted_yes hf rfl, ex_move hf rfl⟩⟩) (.cons (⟨_, _, rfl, rfl, rfl, rfl, fun a w hR hf => .inl ⟨wanted_yes hf rfl, ex_move hf rfl⟩⟩) (.cons (⟨_, _, rfl, rfl, rfl, rfl, fun a w hR hf => .inl ⟨wanted_yes hf rfl, ex_sub hf rfl rfl⟩⟩) (.cons (⟨_, _, rfl, rfl, rfl, rfl, fun a w hR hf => .inl ⟨wanted_yes hf rfl, ex_indexAddr sa_22 (rsl_isSl hR.2.1) hc36.1 hc36.2 hf rfl rfl⟩⟩) (.cons (⟨_, _, rfl, rfl, rfl, rfl, fun a w hR hf => .inl ⟨wanted_yes hf rfl, ex_fieldAddrS fa_30_1 rfl hf rfl⟩⟩) (.cons (⟨_, _, rfl, rfl, rfl, rfl, fun a w hR hf => .inl ⟨wanted_yes hf rfl, ex_load sc_23 hf rfl (el_cell (K := K_api_OperatingPoint) (f := 1) (rsl_rd hR.2.1) hc36.1 hc36.2 rfl)⟩⟩) (.cons (⟨_, _, rfl, rfl, rfl, rfl, fun a w hR hf => .inl ⟨wanted_yes hf rfl, ex_castB (ex_lss hf rfl rfl) (dec_f hc39)⟩⟩) (.cons (⟨_, _, rfl, rfl, rfl, rfl, fun a w hR hf => .inl ⟨wanted_yes hf rfl, ex_pickF hf rfl rfl⟩⟩) (.cons (⟨_, _, rfl, rfl, rfl, rfl, fun a w hR hf => .inl ⟨wanted_yes hf rfl, ex_move hf rfl⟩⟩) (.cons (⟨_, _, rfl, rfl, rfl, rfl, fun a w hR hf => .inl ⟨wanted_yes hf rfl, ex_fieldAddrB fa_30_2 rfl hf rfl⟩⟩) (.cons (⟨_, _, rfl, rfl, rfl, rfl, fun a w hR hf => .inl ⟨wanted_yes hf rfl, ex_load sc_23 hf rfl (bx_cell (hR.1) _ rfl)⟩⟩) (.cons (⟨_, _, rfl, rfl, rfl, rfl, fun a w hR hf => .inl ⟨wanted_yes hf rfl, ex_move hf rfl⟩⟩) (.cons (⟨_, _, rfl, rfl, rfl, rfl, fun a w hR hf => .inl ⟨wanted_yes hf rfl, ex_move hf rfl⟩⟩) (.cons (⟨_, _, rfl, rfl, rfl, rfl, fun a w hR hf => .inl ⟨wanted_yes hf rfl, ex_sub hf rfl rfl⟩⟩) (.cons (⟨_, _, rfl, rfl, rfl, rfl, fun a w hR hf => .inl ⟨wanted_yes hf rfl, ex_indexAddr sa_22 (rsl_isSl hR.2.1) hc36.1 hc36.2 hf rfl rfl⟩⟩) (.cons (⟨_, _, rfl, rfl, rfl, rfl, fun a w hR hf => .inl ⟨wanted_yes hf rfl, ex_fieldAddrS fa_30_2 rfl hf rfl⟩⟩) (.cons (⟨_, _, rfl, rfl, rfl, rfl, fun a w hR hf => .inl ⟨wanted_yes hf rfl, ex_load sc_23 hf rfl (el_cell (K := K_api_OperatingPoint) (f := 2) (rsl_rd hR.2.1) hc36.1 hc36.2 rfl)⟩⟩) (.cons (⟨_, _, rfl, rfl, rfl, rfl, fun a w hR hf => .inl ⟨wanted_yes hf rfl, ex_lss hf rfl rfl⟩⟩) (.cons (⟨_, _, rfl, rfl, rfl, rfl, fun a w hR hf => .inl ⟨wanted_yes hf rfl, ex_pickF hf rfl rfl⟩⟩) (.cons (⟨_, _, rfl, rfl, rfl, rfl, fun a w hR hf => .inl ⟨wanted_yes hf rfl, ex_pickT hf rfl rfl⟩⟩) (.nil)))))))))))))))))))))))))))))))))))) (fun K41 hK41 => ?_)
                          refine RW.zero (by kernel_rfl) (by kernel_rfl) [(0, v0), (13, v0), (14, .int .i64 (a0.length : Int)), (15, .int .i64 y12), (72, .bool (decide (((gd OperatingPoint.zero a0 y12).Power) < ((gd OperatingPoint.zero a0 (IntKind.i64.wrap (y12 - 1))).Power))))] ⟨rfl, rfl, rfl, rfl, rfl, trivial⟩ (fun a w hR hs hf => ?_)
                          refine hK41 _ _ ?_
                          replace hs := hs.keep (.d .nil)
                          have e34 := some_eq H; subst e34
                          exact hJ34 _ _ ⟨hf.sub ⟨rfl, rfl, rfl, rfl, rfl, trivial⟩, hs⟩
                    · -- not 0 < y12
                      refine region_d fol 35 [(0, v0), (3, .int .i64 y12), (4, .pointer (some ⟨b21, 0, none⟩)), (13, v0), (14, .int .i64 (a0.length : Int)), (15, .int .i64 y12)] [(0, .int .i64 y12), (1, .bool false), (2, .bool false), (3, undef), (4, undef), (5, undef), (6, undef), (7, undef), (8, undef), (9, undef), (10, undef), (11, undef), (12, undef), (13, undef), (14, undef), (15, undef), (16, undef), (17, undef), (18, undef), (19, undef), (20, undef), (21, undef), (22, undef), (23, undef), (24, undef), (25, undef), (26, undef), (27, undef), (28, undef), (29, undef), (30, undef), (31, undef), (32, undef), (33, undef), (34, .bool false)] [] (fun w => (bx b21 30 [.int .u64 ((gd OperatingPoint.zero a0 y12).Frequency), .int .u64 ((gd OperatingPoint.zero a0 y12).Voltage), .int .u64 ((gd OperatingPoint.zero a0 y12).Power)]).ok w ∧ (rsl K_api_OperatingPoint v0 a0).ok w ∧ True) (fun w => St M w0 w [bx b21 30 [.int .u64 ((gd OperatingPoint.zero a0 y12).Frequency), .int .u64 ((gd OperatingPoint.zero a0 y12).Voltage), .int .u64 ((gd OperatingPoint.zero a0 y12).Power)]]) hf ⟨rfl, rfl, rfl, rfl, rfl, rfl, trivial⟩ (by kernel_rfl) (by kernel_rfl) rfl (by decide) ⟨hs.drew.get (i := 0) rfl, hr.now hs.drew (i := 0) rfl, trivial⟩ hs.drew (.cons (⟨_, _, rfl, rfl, rfl, rfl, fun a w hR hf => .inl ⟨wanted_yes hf rfl, ex_move hf rfl⟩⟩) (.cons (⟨_, _, rfl, rfl, rfl, rfl, fun a w hR hf => .inl ⟨wanted_yes hf rfl, ex_castB (ex_gtr hf rfl rfl) (dec_f hc35)⟩⟩) (.cons (⟨_, _, rfl, rfl, rfl, rfl, fun a w hR hf => .inl ⟨wanted_yes hf rfl, ex_move hf rfl⟩⟩) (.cons (⟨_, _, rfl, rfl, rfl, rfl, fun a w hR hf => .inr ⟨wanted_no hf rfl, rfl⟩⟩) (.cons (⟨_, _, rfl, rfl, rfl, rfl, fun a w hR hf => .inr ⟨wanted_no hf rfl, rfl⟩⟩) (.cons (⟨_, _, rfl, rfl, rfl, rfl, fun a w hR hf => .inr ⟨wanted_no hf rfl, rfl⟩⟩) (.cons (⟨_, _, rfl, rfl, rfl, rfl, fun a w hR hf => .inr ⟨wanted_no hf rfl, rfl⟩⟩) (.cons (⟨_, _, rfl, rfl, rfl, rfl, fun a w hR hf => .inr ⟨wanted_no hf rfl, rfl⟩⟩) (.cons (⟨_, _, rfl, rfl, rfl, rfl, fun a w hR hf => .inr ⟨wanted_no hf rfl, rfl⟩⟩) (.cons (⟨_, _, rfl, rfl, rfl, rfl, fun a w hR hf => .inr ⟨wanted_no hf rfl, rfl⟩⟩) (.cons (⟨_, _, rfl, rfl, rfl, rfl, fun a w hR hf => .inr ⟨wanted_no hf rfl, rfl⟩⟩) (.cons (⟨_, _, rfl, rfl, rfl, rfl, fun a w hR hf => .inr ⟨wanted_no hf rfl, rfl⟩⟩) (.cons (⟨_, _, rfl, rfl, rfl, rfl, fun a w hR hf => .inr ⟨wanted_no hf rfl, rfl⟩⟩) (.cons (⟨_, _, rfl, rfl, rfl, rfl, fun a w hR hf => .inr ⟨wanted_no hf rfl, rfl⟩⟩) (.cons (⟨_, _, rfl, rfl, rfl, rfl, fun a w hR hf => .inr ⟨wanted_no hf rfl, rfl⟩⟩) (.cons (⟨_, _, rfl, rfl, rfl, rfl, fun a w hR hf => .inr ⟨wanted_no hf rfl, rfl⟩⟩) (.cons (⟨_, _, rfl, rfl, rfl, rfl, fun a w hR hf => .inr ⟨wanted_no hf rfl, rfl⟩⟩) (.cons (⟨_, _, rfl, rfl, rfl, rfl, fun a w hR hf => .inr ⟨wanted_no hf rfl, rfl⟩⟩) (.cons (⟨_, _, rfl, rfl, rfl, rfl, fun a w hR hf => .inr ⟨wanted_no hf rfl, rfl⟩⟩) (.cons (⟨_, _, rfl, rfl, rfl, rfl, fun a w hR hf => .inr ⟨wanted_no hf rfl, rfl⟩⟩) (.cons (⟨_, _, rfl, rfl, rfl, rfl, fun a w hR hf => .inr ⟨wanted_no hf rfl, rfl⟩⟩) (.cons (⟨_, _, rfl, rfl, rfl, rfl, fun a w hR hf => .inr ⟨wanted_no hf rfl, rfl⟩⟩) (.cons (⟨_, _, rfl, rfl, rfl, rfl, fun a w hR hf => .inr ⟨wanted_no hf rfl, rfl⟩⟩) (.cons (⟨_, _, rfl, rfl, rfl, rfl, fun a w hR hf => .inr ⟨wanted_no hf rfl, rfl⟩⟩) (.cons (⟨_, _, rfl, rfl, rfl, rfl, fun a w hR hf => .inr ⟨wanted_no hf rfl, rfl⟩⟩) (.cons (⟨_, _, rfl, rfl, rfl, rfl, fun a w hR hf => .inr ⟨wanted_no hf rfl, rfl⟩⟩) (.cons (⟨_, _, rfl, rfl, rfl, rfl, fun a w hR hf => .inr ⟨wanted_no hf rfl, rfl⟩⟩) (.cons (⟨_, _, rfl, rfl, rfl, rfl, fun a w hR hf => .inr ⟨wanted_no hf rfl, rfl⟩⟩) (.cons (⟨_, _, rfl, rfl, rfl, rfl, fun a w hR hf => .inr ⟨wanted_no hf rfl, rfl⟩⟩) (.cons (⟨_, _, rfl, rfl, rfl, rfl, fun a w hR hf => .inr ⟨wanted_no hf rfl, rfl⟩⟩) (.cons (⟨_, _, rfl, rfl, rfl, rfl, fun a w hR hf => .inr ⟨wanted_no hf rfl, rfl⟩⟩) (.cons (⟨_, _, rfl, rfl, rfl, rfl, fun a w hR hf => .inr ⟨wanted_no hf rfl, rfl⟩⟩) (.cons (⟨_, _, rfl, rfl, rfl, rfl, fun a w hR hf => .inr ⟨wanted_no hf rfl, rfl⟩⟩) (.cons (⟨_, _, rfl, rfl, rfl, rfl, fun a w hR hf => .inr ⟨wanted_no hf rfl, rfl⟩⟩) (.cons (⟨_, _, rfl, rfl, rfl, rfl, fun a w hR hf => .inl ⟨wanted_yes hf rfl, ex_pickF hf rfl rfl⟩⟩) (.nil)))))))))))))))))))))))))))))))))))) (fun K42 hK42 => ?_)
                      refine RW.zero (by kernel_rfl) (by kernel_rfl) [(0, v0), (13, v0), (14, .int .i64 (a0.length : Int)), (15, .int .i64 y12), (72, .bool false)] ⟨rfl, rfl, rfl, rfl, rfl, trivial⟩ (fun a w hR hs hf => ?_)
                      refine hK42 _ _ ?_
                      replace hs := hs.keep (.d .nil)
                      have e34 := some_eq H; subst e34
                      exact hJ34 _ _ ⟨hf.sub ⟨rfl, rfl, rfl, rfl, rfl, trivial⟩, hs⟩
                  · obtain ⟨hf, hs⟩ := hJ
                    replace H := HO34
                    clear HO34
                    refine itt H (fun hc43 H => ?_) (fun hc43 H => ?_)
                    · -- x34 = true
                      replace hf := hf.castB (t := 72) rfl hc43
                      refine cond_T hf rfl ?_
                      refine seq_reg (fun K44 hK44 => ?_)
                      refine stq hf rfl rfl rfl (ex_assign hf rfl) (fun a hf => ?_)
                      refine hK44 _ _ ?_
                      refine wp_ret ?_
                      refine hR19 _ _ ?_
                      refine hR18 _ _ ?_
                      refine hR14 _ _ ?_
                      refine hR11 _ _ ?_
                      have e9 := some_eq H; subst e9; replace H := el_rt HO9
                      refine hR9 _ _ ?_
                      have eR := some_eq H; subst eR
                      exact ret1 Try.results28 hf rfl ⟨_, rfl, ⟨rfl, hs⟩⟩
                    · -- not x34 = true
                      replace hf := hf.castB (t := 72) rfl (bool_f hc43)
                      refine cond_F hf rfl ?_
                      refine wp_skip ?_
                      refine hN19 _ _ ?_
                      refine hN18 _ _ ?_
                      refine region_k (fun K45 hK45 => ?_)
                      refine stq hf rfl rfl rfl (ex_add hf rfl rfl) (fun a hf => ?_)
                      refine stq hf rfl rfl rfl (ex_move hf rfl) (fun a hf => ?_)
                      refine hK45 _ _ ?_
                      exact hL14 k14 _ _ (Nat.lt_succ_self _) ⟨(IntKind.i64.wrap (y12 + 1)), hf.sub ⟨rfl, rfl, rfl, rfl, trivial⟩, hs, H⟩
            · -- not y12 < (a0.length : Int)
              replace hf := hf.castB (t := 16) rfl (dec_f hc17)
              refine cond_F hf rfl ?_
              refine wp_exit ?_
              refine hX16 0 _ _ ?_
              refine hX14 0 _ _ ?_
              refine hX11 _ _ ?_
              have e9 := some_eq H; subst e9
              exact hJ9 _ _ ⟨_, rfl, hf.sub trivial, hs⟩
      · obtain ⟨x9s, rfl, hf, hs⟩ := hJ
        replace H := el_go HO9
        clear HO9
        refine seq_reg (fun K46 hK46 => ?_)
        refine stq hf rfl rfl rfl (ex_assign hf rfl) (fun a hf => ?_)
        refine hK46 _ _ ?_
        refine wp_ret ?_
        have eR := some_eq H; subst eR
        exact ret1 Try.results28 hf rfl ⟨_, rfl, ⟨rfl, hs⟩⟩

set_option maxRecDepth 100000 in
theorem thermal_Throttle.calls {M : Nat → Prop} {w0 : World} (k : Nat) (a0 : (List OperatingPoint)) (a1 : Int) (v0 : Value) {r : Int × Int} (hs : St M w0 w0 []) (hr : Sr M w0 [rsl K_api_OperatingPoint v0 a0])
    (h : thermal_Throttle.f k a0 a1 = some r) : Calls Try.prog 11 #[v0, .int .u64 a1] w0 fun e w => ∃ v, e = .returned v ∧ (.tuple #[.int .i64 r.1, .int .i64 r.2] = v ∧ St M w0 w []) := by
  have H := (thermal_Throttle.f.eq_1 ..).symm.trans h
  clear h
  refine enter Try.func11 rfl Try.ntmps11 rfl (fun a hf => ?_)
  refine seq_reg (fun K1 hK1 => ?_)
  refine stq hf rfl rfl rfl (ex_assign hf rfl) (fun a hf => ?_)
  refine stq hf rfl rfl rfl (ex_assign hf rfl) (fun a hf => ?_)
  refine hK1 _ _ ?_
  refine seq_n (fun Q2 hN2 hR2 hX2 => ?_)
  refine bnd H (fun s3 hs3 H => ?_)
  refine seq_reg (fun K4 hK4 => ?_)
  refine stq hf rfl rfl rfl (ex_move hf rfl) (fun a hf => ?_)
  refine stepF hf rfl rfl rfl (ex_call cf_28 hf rfl) (perf_Check.calls k a0 v0 (hs.enter .nil) (Sr.old hr hs .nil (i := 0) rfl (fun _ h => h) (fun _ h => h) (Sr.nil _ _)) hs3) (fun v w hR a hf => ?_)
  obtain ⟨rfl, hs'⟩ := hR
  replace hs := hs.step .nil hs'
  clear hs'
  refine stq hf rfl rfl rfl (ex_assign hf rfl) (fun a hf => ?_)
  refine hK4 _ _ ?_
  refine seq_reg (fun K5 hK5 => ?_)
  refine stq hf rfl rfl rfl (ex_move hf rfl) (fun a hf => ?_)
  refine stq hf rfl rfl rfl (ex_neq hf rfl rfl) (fun a hf => ?_)
  refine hK5 _ _ ?_
  refine itt H (fun hc6 H => ?_) (fun hc6 H => ?_)
  · -- s3 = 0
    replace hf := hf.castB (t := 11) rfl (ndec_f hc6)
    refine cond_F hf rfl ?_
    refine wp_skip ?_
    refine hN2 _ _ ?_
    refine seq_reg (fun K7 hK7 => ?_)
    refine stq hf rfl rfl rfl (ex_assign hf rfl) (fun a hf => ?_)
    refine hK7 _ _ ?_
    refine bnd H (fun x8 H8 HO8 => ?_)
    clear H
    refine seq_cut (fun a w => Fr a 32 [(7, .int .i64 x8)] ∧ St M w0 w []) (fun Q8 hJ8 hR8 hX8 => ?_) (fun a w hJ => ?_)
    · replace H := H8
      refine block_k (fun Q9 hN9 hR9 hX9 hY9 => ?_)
      refine loop_k (fun n a w => ∃ (y10 : Int), Fr a 32 [(0, v0), (1, .int .u64 a1), (7, .int .i64 y10)] ∧ St M w0 w [] ∧ thermal_Throttle.l1 n a0 a1 y10 = some x8) k ?_ (fun n12 a w hI Q12 hL12 hR12 hX12 => ?_)
      · -- at the start
        exact ⟨0, hf.sub ⟨rfl, rfl, rfl, trivial⟩, hs, H⟩
      · obtain ⟨y10, hf, hs, H⟩ := hI
        cases n12 with
        | zero => exact absurd H (by rw [thermal_Throttle.l1.eq_1]; intro h; cases h)
        | succ k12 =>
          replace H := (thermal_Throttle.l1.eq_2 ..).symm.trans H
          refine seq_n (fun Q13 hN13 hR13 hX13 => ?_)
          refine bnd H (fun x14 H14 HO14 => ?_)
          clear H
          refine seq_cut (fun a w => Fr a 32 [(0, v0), (1, .int .u64 a1), (7, .int .i64 y10), (25, .bool x14)] ∧ St M w0 w []) (fun Q14 hJ14 hR14 hX14 => ?_) (fun a w hJ => ?_)
          · replace H := H14
            refine itt H (fun hc15 H => ?_) (fun hc15 H => ?_)
            · -- y10 < (a0.length : Int)
              refine ck_some H (fun hc16 H => ?_)
              refine region_k (fun K17 hK17 => ?_)
              refine stq hf rfl rfl rfl (ex_move hf rfl) (fun a hf => ?_)
              refine stq hf rfl rfl rfl (ex_move hf rfl) (fun a hf => ?_)
              refine stq hf rfl rfl rfl (ex_lenS Try.underlying22 (rsl_isSl (hr.now hs (i := 0) rfl)) hf rfl) (fun a hf => ?_)
              refine stq hf rfl rfl rfl (ex_lss hf rfl rfl) (fun a hf => ?_)
              refine stq hf rfl rfl rfl (ex_move hf rfl) (fun a hf => ?_)
              replace hf := hf.castB (t := 16) rfl (dec_t hc15)
              replace hf := hf.castB (t := 17) rfl (dec_t hc15)
              refine stq hf rfl rfl rfl (ex_move hf rfl) (fun a hf => ?_)
              refine stq hf rfl rfl rfl (ex_move hf rfl) (fun a hf => ?_)
              refine stq hf rfl rfl rfl (ex_indexAddr sa_22 (rsl_isSl (hr.now hs (i := 0) rfl)) hc16.1 hc16.2 hf rfl rfl) (fun a hf => ?_)
              refine stq hf rfl rfl rfl (ex_fieldAddrS fa_30_2 rfl hf rfl) (fun a hf => ?_)
              refine stq hf rfl rfl rfl (ex_load sc_23 hf rfl (el_cell (K := K_api_OperatingPoint) (f := 2) (rsl_rd (hr.now hs (i := 0) rfl)) hc16.1 hc16.2 rfl)) (fun a hf => ?_)
              refine stq hf rfl rfl rfl (ex_move hf rfl) (fun a hf => ?_)
              refine stq hf rfl rfl rfl (ex_leq hf rfl rfl) (fun a hf => ?_)
              refine stq hf rfl rfl rfl (ex_pickT hf rfl rfl) (fun a hf => ?_)
              refine hK17 _ _ ?_
              have e14 := some_eq H; subst e14
              exact hJ14 _ _ ⟨hf.sub ⟨rfl, rfl, rfl, rfl, trivial⟩, hs⟩
            · -- not y10 < (a0.length : Int)
              refine region_k (fun K18 hK18 => ?_)
              refine stq hf rfl rfl rfl (ex_move hf rfl) (fun a hf => ?_)
              refine stq hf rfl rfl rfl (ex_move hf rfl) (fun a hf => ?_)
              refine stq hf rfl rfl rfl (ex_lenS Try.underlying22 (rsl_isSl (hr.now hs (i := 0) rfl)) hf rfl) (fun a hf => ?_)
              refine stq hf rfl rfl rfl (ex_lss hf rfl rfl) (fun a hf => ?_)
              refine stq hf rfl rfl rfl (ex_move hf rfl) (fun a hf => ?_)
              replace hf := hf.castB (t := 16) rfl (dec_f hc15)
              replace hf := hf.castB (t := 17) rfl (dec_f hc15)
              refine stepN hf rfl rfl rfl (fun a hf => ?_)
              refine stepN hf rfl rfl rfl (fun a hf => ?_)
              refine stepN hf rfl rfl rfl (fun a hf => ?_)
              refine stepN hf rfl rfl rfl (fun a hf => ?_)
              refine stepN hf rfl rfl rfl (fun a hf => ?_)
              refine stepN hf rfl rfl rfl (fun a hf => ?_)
              refine stepN hf rfl rfl rfl (fun a hf => ?_)
              refine stq hf rfl rfl rfl (ex_pickF hf rfl rfl) (fun a hf => ?_)
              refine hK18 _ _ ?_
              have e14 := some_eq H; subst e14
              exact hJ14 _ _ ⟨hf.sub ⟨rfl, rfl, rfl, rfl, trivial⟩, hs⟩
          · obtain ⟨hf, hs⟩ := hJ
            replace H := HO14
            clear HO14
            refine itt H (fun hc19 H => ?_) (fun hc19 H => ?_)
            · -- x14 = true
              replace hf := hf.castB (t := 25) rfl hc19
              refine cond_T hf rfl ?_
              refine wp_skip ?_
              refine hN13 _ _ ?_
              refine block_k (fun Q20 hN20 hR20 hX20 hY20 => ?_)
              refine region_k (fun K21 hK21 => ?_)
              refine stq hf rfl rfl rfl (ex_move hf rfl) (fun a hf => ?_)
              refine stq hf rfl rfl rfl (ex_add hf rfl rfl) (fun a hf => ?_)
              refine stq hf rfl rfl rfl (ex_assign hf rfl) (fun a hf => ?_)
              refine hK21 _ _ ?_
              refine hN20 _ _ ?_
              exact hL12 k12 _ _ (Nat.lt_succ_self _) ⟨(IntKind.i64.wrap (y10 + 1)), hf.sub ⟨rfl, rfl, rfl, trivial⟩, hs, H⟩
            · -- not x14 = true
              replace hf := hf.castB (t := 25) rfl (bool_f hc19)
              refine cond_F hf rfl ?_
              refine wp_exit ?_
              refine hX13 0 _ _ ?_
              refine hX12 0 _ _ ?_
              refine hX9 _ _ ?_
              have e8 := some_eq H; subst e8
              exact hJ8 _ _ ⟨hf.sub ⟨rfl, trivial⟩, hs⟩
    · obtain ⟨hf, hs⟩ := hJ
      replace H := HO8
      clear HO8
      refine seq_n (fun Q22 hN22 hR22 hX22 => ?_)
      refine seq_reg (fun K23 hK23 => ?_)
      refine stq hf rfl rfl rfl (ex_move hf rfl) (fun a hf => ?_)
      refine stq hf rfl rfl rfl (ex_eql hf rfl rfl) (fun a hf => ?_)
      refine hK23 _ _ ?_
      refine itt H (fun hc24 H => ?_) (fun hc24 H => ?_)
      · -- x8 = 0
        replace hf := hf.castB (t := 29) rfl (dec_t hc24)
        refine cond_T hf rfl ?_
        refine seq_reg (fun K25 hK25 => ?_)
        refine stq hf rfl rfl rfl (ex_assign hf rfl) (fun a hf => ?_)
        refine stq hf rfl rfl rfl (ex_assign hf rfl) (fun a hf => ?_)
        refine hK25 _ _ ?_
        refine wp_ret ?_
        refine hR22 _ _ ?_
        have eR := some_eq H; subst eR
        exact ret2 Try.results11 hf rfl rfl ⟨_, rfl, ⟨rfl, hs⟩⟩
      · -- not x8 = 0
        replace hf := hf.castB (t := 29) rfl (dec_f hc24)
        refine cond_F hf rfl ?_
        refine wp_skip ?_
        refine hN22 _ _ ?_
        refine seq_reg (fun K26 hK26 => ?_)
        refine stq hf rfl rfl rfl (ex_move hf rfl) (fun a hf => ?_)
        refine stq hf rfl rfl rfl (ex_sub hf rfl rfl) (fun a hf => ?_)
        refine stq hf rfl rfl rfl (ex_assign hf rfl) (fun a hf => ?_)
        refine stq hf rfl rfl rfl (ex_assign hf rfl) (fun a hf => ?_)
        refine hK26 _ _ ?_
        refine wp_ret ?_
        have eR := some_eq H; subst eR
        exact ret2 Try.results11 hf rfl rfl ⟨_, rfl, ⟨rfl, hs⟩⟩
  · -- not s3 = 0
    replace hf := hf.castB (t := 11) rfl (ndec_t hc6)
    refine cond_T hf rfl ?_
    refine seq_reg (fun K27 hK27 => ?_)
    refine stq hf rfl rfl rfl (ex_move hf rfl) (fun a hf => ?_)
    refine stq hf rfl rfl rfl (ex_assign hf rfl) (fun a hf => ?_)
    refine stq hf rfl rfl rfl (ex_assign hf rfl) (fun a hf => ?_)
    refine hK27 _ _ ?_
    refine wp_ret ?_
    refine hR2 _ _ ?_
    have eR := some_eq H; subst eR
    exact ret2 Try.results11 hf rfl rfl ⟨_, rfl, ⟨rfl, hs⟩⟩

end Go.Proofs.Ytannodkbindlbaa.X
