/- Each function of the machine comes to what its pure function says. -/
import Derived.Test.YtkcmohmnmapnbaaFc1
import Derived.Test.YtkcmohmnmapnbaaFb
namespace Go.Proofs.Ytkcmohmnmapnbaa.X
open Go Go.RowKit Go.Sx
set_option linter.unusedVariables false

set_option maxRecDepth 100000 in
theorem law39_awake.calls {M : Nat → Prop} {w0 : World} (k : Nat) {r : Bool} (hs : St M w0 w0 []) (hr : Sr M w0 [])
    (h : law39_awake.f k = some r) : Calls Try.prog 10 #[] w0 fun e w => ∃ v, e = .returned v ∧ (.bool r = v ∧ St M w0 w []) := by
  have H := (law39_awake.f.eq_1 ..).symm.trans h
  clear h
  refine enter Try.func10 rfl Try.ntmps10 rfl (fun a hf => ?_)
  refine seq_reg (fun K1 hK1 => ?_)
  refine stq hf rfl rfl rfl (ex_assign hf rfl) (fun a hf => ?_)
  refine hK1 _ _ ?_
  refine bnd H (fun s3 hs3 H => ?_)
  refine seq_reg (fun K5 hK5 => ?_)
  refine stq hf rfl rfl rfl (ex_build (cs := [.int .u64 9, .int .u64 0, .int .u64 9]) bt_56 hf rfl (.cons rfl (.cons rfl .nil)) rfl) (fun a hf => ?_)
  refine stq hf rfl rfl rfl (ex_build (cs := [.int .u64 1, .int .u64 0, .int .u64 9]) bt_56 hf rfl (.cons rfl (.cons rfl .nil)) rfl) (fun a hf => ?_)
  refine stq hf rfl rfl rfl (ex_build (cs := [.int .u64 9, .int .u64 2, .int .u64 9]) bt_56 hf rfl (.cons rfl (.cons rfl (.cons rfl .nil))) rfl) (fun a hf => ?_)
  refine stepV hf rfl rfl rfl (er_buildSlice (K := K_api_Actor) (xs := [(⟨9, 0, 9⟩ : Actor), (⟨1, 0, 9⟩ : Actor), (⟨9, 2, 9⟩ : Actor)]) hs Try.underlying38 ep_56 rfl rfl hf rfl (.cons rfl (.cons rfl (.cons rfl .nil))) rfl rfl) (fun v2 w hs a hf => ?_)
  refine stepF hf rfl rfl rfl (ex_call cf_18 hf rfl) (thermal_Allocate.calls k 10 [(⟨9, 0, 9⟩ : Actor), (⟨1, 0, 9⟩ : Actor), (⟨9, 2, 9⟩ : Actor)] v2 (hs.enter (.k .nil)) (Sr.own hs (.k .nil) (i := 0) rfl osl_rsl (fun _ h => h.1) (Sr.nil _ _)) hs3) (fun v w hR a hf => ?_)
  obtain ⟨v4, rfl, hs'⟩ := hR
  replace hs := hs.step (.k .nil) hs'
  clear hs'
  refine stq hf rfl rfl rfl (ex_move hf rfl) (fun a hf => ?_)
  refine stq hf rfl rfl rfl (ex_extract hf rfl rfl) (fun a hf => ?_)
  refine stq hf rfl rfl rfl (ex_extract hf rfl rfl) (fun a hf => ?_)
  refine stq hf rfl rfl rfl (ex_assign hf rfl) (fun a hf => ?_)
  refine stq hf rfl rfl rfl (ex_assign hf rfl) (fun a hf => ?_)
  refine hK5 _ _ ?_
  refine seq_n (fun Q6 hN6 hR6 hX6 => ?_)
  refine bnd H (fun s8 hs8 H => ?_)
  cases hps8 : s8.1 with
  | none =>
    replace H := elim_n hps8 H
    refine region_k (fun K10 hK10 => ?_)
    refine stq hf rfl rfl rfl (ex_build (cs := [.int .i64 2, .int .i64 50, .int .i64 5]) bt_24 hf rfl (.cons rfl (.cons rfl (.cons rfl .nil))) rfl) (fun a hf => ?_)
    refine stepV hf rfl rfl rfl (er_buildSlice (K := K_api_Trip) (xs := [(⟨2, 50, 5⟩ : Trip)]) hs Try.underlying22 ep_24 rfl rfl hf rfl (.cons rfl .nil) rfl rfl) (fun v7 w hs a hf => ?_)
    refine stepF hf rfl rfl rfl (ex_call cf_13 hf rfl) (thermal_NewZone.calls k [(⟨2, 50, 5⟩ : Trip)] 3 v7 (hs.enter (.k (.k (.k .nil)))) (Sr.own hs (.k (.k (.k .nil))) (i := 0) rfl osl_rsl (fun _ h => h.1) (Sr.nil _ _)) hs8) (fun v w hR a hf => ?_)
    obtain ⟨_, rfl, hs'⟩ | ⟨_, hc', _⟩ := hR
    case inr => rw [hps8] at hc'; cases hc'
    replace hs := hs.step (.k (.k (.k .nil))) hs'
    clear hs'
    refine stq hf rfl rfl rfl (ex_move hf rfl) (fun a hf => ?_)
    refine stq hf rfl rfl rfl (ex_extract hf rfl rfl) (fun a hf => ?_)
    refine stq hf rfl rfl rfl (ex_extract hf rfl rfl) (fun a hf => ?_)
    refine stq hf rfl rfl rfl (ex_assign hf rfl) (fun a hf => ?_)
    refine stq hf rfl rfl rfl (ex_assign hf rfl) (fun a hf => ?_)
    refine hK10 _ _ ?_
    refine hN6 _ _ ?_
    refine seq_n (fun Q11 hN11 hR11 hX11 => ?_)
    refine bnd H (fun x12 H12 HO12 => ?_)
    clear H
    refine seq_cut (fun a w => Fr a 90 [(3, .pointer none), (43, .bool true)] ∧ St M w0 w []) (fun Q12 hJ12 hR12 hX12 => ?_) (fun a w hJ => ?_)
    · replace H := H12
      refine itt H (fun hc13 H => ?_) (fun hc13 H => ?_)
      · -- s3.2 = 0
        refine itt H (fun hc14 H => ?_) (fun hc14 H => ?_)
        · -- s8.2 = 0
          refine region_k (fun K15 hK15 => ?_)
          refine stq hf rfl rfl rfl (ex_move hf rfl) (fun a hf => ?_)
          refine stq hf rfl rfl rfl (ex_neq hf rfl rfl) (fun a hf => ?_)
          refine stq hf rfl rfl rfl (ex_move hf rfl) (fun a hf => ?_)
          replace hf := hf.castB (t := 29) rfl (ndec_f hc13)
          replace hf := hf.castB (t := 30) rfl (ndec_f hc13)
          refine stq hf rfl rfl rfl (ex_move hf rfl) (fun a hf => ?_)
          refine stq hf rfl rfl rfl (ex_neq hf rfl rfl) (fun a hf => ?_)
          refine stq hf rfl rfl rfl (ex_pickF hf rfl rfl) (fun a hf => ?_)
          refine stq hf rfl rfl rfl (ex_move hf rfl) (fun a hf => ?_)
          replace hf := hf.castB (t := 32) rfl (ndec_f hc14)
          replace hf := hf.castB (t := 33) rfl (ndec_f hc14)
          replace hf := hf.castB (t := 34) rfl (ndec_f hc14)
          refine stq hf rfl rfl rfl (ex_move hf rfl) (fun a hf => ?_)
          refine stq hf rfl rfl rfl (ex_eqp Try.underlying28 hf rfl rfl) (fun a hf => ?_)
          refine stq hf rfl rfl rfl (ex_pickF hf rfl rfl) (fun a hf => ?_)
          refine stq hf rfl rfl rfl (ex_move hf rfl) (fun a hf => ?_)
          refine stepN hf rfl rfl rfl (fun a hf => ?_)
          refine stepN hf rfl rfl rfl (fun a hf => ?_)
          refine stepN hf rfl rfl rfl (fun a hf => ?_)
          refine stepN hf rfl rfl rfl (fun a hf => ?_)
          refine stq hf rfl rfl rfl (ex_pickT hf rfl rfl) (fun a hf => ?_)
          refine hK15 _ _ ?_
          replace hs := hs.keep (.d (.d (.d .nil)))
          have e12 := some_eq H; subst e12
          exact hJ12 _ _ ⟨hf.sub ⟨rfl, rfl, trivial⟩, hs⟩
        · -- not s8.2 = 0
          refine region_k (fun K16 hK16 => ?_)
          refine stq hf rfl rfl rfl (ex_move hf rfl) (fun a hf => ?_)
          refine stq hf rfl rfl rfl (ex_neq hf rfl rfl) (fun a hf => ?_)
          refine stq hf rfl rfl rfl (ex_move hf rfl) (fun a hf => ?_)
          replace hf := hf.castB (t := 29) rfl (ndec_f hc13)
          replace hf := hf.castB (t := 30) rfl (ndec_f hc13)
          refine stq hf rfl rfl rfl (ex_move hf rfl) (fun a hf => ?_)
          refine stq hf rfl rfl rfl (ex_neq hf rfl rfl) (fun a hf => ?_)
          refine stq hf rfl rfl rfl (ex_pickF hf rfl rfl) (fun a hf => ?_)
          refine stq hf rfl rfl rfl (ex_move hf rfl) (fun a hf => ?_)
          replace hf := hf.castB (t := 32) rfl (ndec_t hc14)
          replace hf := hf.castB (t := 33) rfl (ndec_t hc14)
          replace hf := hf.castB (t := 34) rfl (ndec_t hc14)
          refine stepN hf rfl rfl rfl (fun a hf => ?_)
          refine stepN hf rfl rfl rfl (fun a hf => ?_)
          refine stq hf rfl rfl rfl (ex_pickT hf rfl rfl) (fun a hf => ?_)
          refine stq hf rfl rfl rfl (ex_move hf rfl) (fun a hf => ?_)
          refine stepN hf rfl rfl rfl (fun a hf => ?_)
          refine stepN hf rfl rfl rfl (fun a hf => ?_)
          refine stepN hf rfl rfl rfl (fun a hf => ?_)
          refine stepN hf rfl rfl rfl (fun a hf => ?_)
          refine stq hf rfl rfl rfl (ex_pickT hf rfl rfl) (fun a hf => ?_)
          refine hK16 _ _ ?_
          replace hs := hs.keep (.d (.d (.d .nil)))
          have e12 := some_eq H; subst e12
          exact hJ12 _ _ ⟨hf.sub ⟨rfl, rfl, trivial⟩, hs⟩
      · -- not s3.2 = 0
        refine region_k (fun K17 hK17 => ?_)
        refine stq hf rfl rfl rfl (ex_move hf rfl) (fun a hf => ?_)
        refine stq hf rfl rfl rfl (ex_neq hf rfl rfl) (fun a hf => ?_)
        refine stq hf rfl rfl rfl (ex_move hf rfl) (fun a hf => ?_)
        replace hf := hf.castB (t := 29) rfl (ndec_t hc13)
        replace hf := hf.castB (t := 30) rfl (ndec_t hc13)
        refine stepN hf rfl rfl rfl (fun a hf => ?_)
        refine stepN hf rfl rfl rfl (fun a hf => ?_)
        refine stq hf rfl rfl rfl (ex_pickT hf rfl rfl) (fun a hf => ?_)
        refine stq hf rfl rfl rfl (ex_move hf rfl) (fun a hf => ?_)
        refine stepN hf rfl rfl rfl (fun a hf => ?_)
        refine stepN hf rfl rfl rfl (fun a hf => ?_)
        refine stq hf rfl rfl rfl (ex_pickT hf rfl rfl) (fun a hf => ?_)
        refine stq hf rfl rfl rfl (ex_move hf rfl) (fun a hf => ?_)
        refine stepN hf rfl rfl rfl (fun a hf => ?_)
        refine stepN hf rfl rfl rfl (fun a hf => ?_)
        refine stepN hf rfl rfl rfl (fun a hf => ?_)
        refine stepN hf rfl rfl rfl (fun a hf => ?_)
        refine stq hf rfl rfl rfl (ex_pickT hf rfl rfl) (fun a hf => ?_)
        refine hK17 _ _ ?_
        replace hs := hs.keep (.d (.d (.d .nil)))
        have e12 := some_eq H; subst e12
        exact hJ12 _ _ ⟨hf.sub ⟨rfl, rfl, trivial⟩, hs⟩
    · obtain ⟨hf, hs⟩ := hJ
      replace H := HO12
      clear HO12
      refine cond_T hf rfl ?_
      refine seq_reg (fun K18 hK18 => ?_)
      refine stq hf rfl rfl rfl (ex_assign hf rfl) (fun a hf => ?_)
      refine hK18 _ _ ?_
      refine wp_ret ?_
      refine hR11 _ _ ?_
      have eR := some_eq H; subst eR
      exact ret1 Try.results10 hf rfl ⟨_, rfl, ⟨rfl, hs⟩⟩
  | some c9 =>
    replace H := elim_s hps8 H
    refine region_k (fun K22 hK22 => ?_)
    refine stq hf rfl rfl rfl (ex_build (cs := [.int .i64 2, .int .i64 50, .int .i64 5]) bt_24 hf rfl (.cons rfl (.cons rfl (.cons rfl .nil))) rfl) (fun a hf => ?_)
    refine stepV hf rfl rfl rfl (er_buildSlice (K := K_api_Trip) (xs := [(⟨2, 50, 5⟩ : Trip)]) hs Try.underlying22 ep_24 rfl rfl hf rfl (.cons rfl .nil) rfl rfl) (fun v7 w hs a hf => ?_)
    refine stepF hf rfl rfl rfl (ex_call cf_13 hf rfl) (thermal_NewZone.calls k [(⟨2, 50, 5⟩ : Trip)] 3 v7 (hs.enter (.k (.k (.k .nil)))) (Sr.own hs (.k (.k (.k .nil))) (i := 0) rfl osl_rsl (fun _ h => h.1) (Sr.nil _ _)) hs8) (fun v w hR a hf => ?_)
    obtain ⟨hc', _⟩ | ⟨cc, hc', b19, v20, v21, rfl, hs'⟩ := hR
    case inl => rw [hps8] at hc'; cases hc'
    obtain rfl : c9 = cc := by rw [hps8] at hc'; exact Option.some.inj hc'
    replace hs := hs.step (.k (.k (.k .nil))) hs'
    clear hs'
    refine stq hf rfl rfl rfl (ex_move hf rfl) (fun a hf => ?_)
    refine stq hf rfl rfl rfl (ex_extract hf rfl rfl) (fun a hf => ?_)
    refine stq hf rfl rfl rfl (ex_extract hf rfl rfl) (fun a hf => ?_)
    refine stq hf rfl rfl rfl (ex_assign hf rfl) (fun a hf => ?_)
    refine stq hf rfl rfl rfl (ex_assign hf rfl) (fun a hf => ?_)
    refine hK22 _ _ ?_
    refine hN6 _ _ ?_
    refine seq_n (fun Q23 hN23 hR23 hX23 => ?_)
    refine bnd H (fun x24 H24 HO24 => ?_)
    clear H
    refine seq_cut (fun a w => Fr a 90 [(3, .pointer (some ⟨b19, 0, none⟩)), (43, .bool x24)] ∧ St M w0 w [bx b19 62 [v20, v21, .int .i64 c9.2.2.1, .int .i64 c9.2.2.2], osl K_api_Trip v20 c9.1, osl K_bool v21 c9.2.1]) (fun Q24 hJ24 hR24 hX24 => ?_) (fun a w hJ => ?_)
    · replace H := H24
      refine itt H (fun hc25 H => ?_) (fun hc25 H => ?_)
      · -- s3.2 = 0
        refine itt H (fun hc26 H => ?_) (fun hc26 H => ?_)
        · -- s8.2 = 0
          refine bnd H (fun s28 hs28 H => ?_)
          refine region_k (fun K29 hK29 => ?_)
          refine stq hf rfl rfl rfl (ex_move hf rfl) (fun a hf => ?_)
          refine stq hf rfl rfl rfl (ex_neq hf rfl rfl) (fun a hf => ?_)
          refine stq hf rfl rfl rfl (ex_move hf rfl) (fun a hf => ?_)
          replace hf := hf.castB (t := 29) rfl (ndec_f hc25)
          replace hf := hf.castB (t := 30) rfl (ndec_f hc25)
          refine stq hf rfl rfl rfl (ex_move hf rfl) (fun a hf => ?_)
          refine stq hf rfl rfl rfl (ex_neq hf rfl rfl) (fun a hf => ?_)
          refine stq hf rfl rfl rfl (ex_pickF hf rfl rfl) (fun a hf => ?_)
          refine stq hf rfl rfl rfl (ex_move hf rfl) (fun a hf => ?_)
          replace hf := hf.castB (t := 32) rfl (ndec_f hc26)
          replace hf := hf.castB (t := 33) rfl (ndec_f hc26)
          replace hf := hf.castB (t := 34) rfl (ndec_f hc26)
          refine stq hf rfl rfl rfl (ex_move hf rfl) (fun a hf => ?_)
          refine stq hf rfl rfl rfl (ex_eqp Try.underlying28 hf rfl rfl) (fun a hf => ?_)
          refine stq hf rfl rfl rfl (ex_pickF hf rfl rfl) (fun a hf => ?_)
          refine stq hf rfl rfl rfl (ex_move hf rfl) (fun a hf => ?_)
          refine stq hf rfl rfl rfl (ex_move hf rfl) (fun a hf => ?_)
          refine stepV hf rfl rfl rfl (er_buildSlice (K := K_uint64) (xs := [5, 1, 4]) hs Try.underlying40 ep_37 rfl rfl hf rfl (.cons rfl (.cons rfl (.cons rfl .nil))) rfl rfl) (fun v27 w hs a hf => ?_)
          refine stepF hf rfl rfl rfl (ex_call cf_20 hf rfl) (help_Equal_uint64.calls k s3.1 [5, 1, 4] v4 v27 (hs.enter (.k (.k (.k (.k (.k (.k (.k .nil)))))))) (Sr.own hs (.k (.k (.k (.k (.k (.k (.k .nil))))))) (i := 5) rfl osl_rsl (fun _ h => h.1) (Sr.own hs (.k (.k (.k (.k (.k (.k (.k .nil))))))) (i := 0) rfl osl_rsl (fun _ h => h.1) (Sr.nil _ _))) hs28) (fun v w hR a hf => ?_)
          obtain ⟨rfl, hs'⟩ := hR
          replace hs := hs.step (.k (.k (.k (.k (.k (.k (.k .nil))))))) hs'
          clear hs'
          refine stq hf rfl rfl rfl (ex_not hf rfl) (fun a hf => ?_)
          refine stq hf rfl rfl rfl (ex_pickF hf rfl rfl) (fun a hf => ?_)
          refine hK29 _ _ ?_
          replace hs := hs.keep (.d (.k (.k (.k (.d (.d (.d .nil)))))))
          have e24 := some_eq H; subst e24
          exact hJ24 _ _ ⟨hf.sub ⟨rfl, rfl, trivial⟩, hs⟩
        · -- not s8.2 = 0
          refine region_k (fun K30 hK30 => ?_)
          refine stq hf rfl rfl rfl (ex_move hf rfl) (fun a hf => ?_)
          refine stq hf rfl rfl rfl (ex_neq hf rfl rfl) (fun a hf => ?_)
          refine stq hf rfl rfl rfl (ex_move hf rfl) (fun a hf => ?_)
          replace hf := hf.castB (t := 29) rfl (ndec_f hc25)
          replace hf := hf.castB (t := 30) rfl (ndec_f hc25)
          refine stq hf rfl rfl rfl (ex_move hf rfl) (fun a hf => ?_)
          refine stq hf rfl rfl rfl (ex_neq hf rfl rfl) (fun a hf => ?_)
          refine stq hf rfl rfl rfl (ex_pickF hf rfl rfl) (fun a hf => ?_)
          refine stq hf rfl rfl rfl (ex_move hf rfl) (fun a hf => ?_)
          replace hf := hf.castB (t := 32) rfl (ndec_t hc26)
          replace hf := hf.castB (t := 33) rfl (ndec_t hc26)
          replace hf := hf.castB (t := 34) rfl (ndec_t hc26)
          refine stepN hf rfl rfl rfl (fun a hf => ?_)
          refine stepN hf rfl rfl rfl (fun a hf => ?_)
          refine stq hf rfl rfl rfl (ex_pickT hf rfl rfl) (fun a hf => ?_)
          refine stq hf rfl rfl rfl (ex_move hf rfl) (fun a hf => ?_)
          refine stepN hf rfl rfl rfl (fun a hf => ?_)
          refine stepN hf rfl rfl rfl (fun a hf => ?_)
          refine stepN hf rfl rfl rfl (fun a hf => ?_)
          refine stepN hf rfl rfl rfl (fun a hf => ?_)
          refine stq hf rfl rfl rfl (ex_pickT hf rfl rfl) (fun a hf => ?_)
          refine hK30 _ _ ?_
          replace hs := hs.keep (.k (.k (.k (.d (.d (.d .nil))))))
          have e24 := some_eq H; subst e24
          exact hJ24 _ _ ⟨hf.sub ⟨rfl, rfl, trivial⟩, hs⟩
      · -- not s3.2 = 0
        refine region_k (fun K31 hK31 => ?_)
        refine stq hf rfl rfl rfl (ex_move hf rfl) (fun a hf => ?_)
        refine stq hf rfl rfl rfl (ex_neq hf rfl rfl) (fun a hf => ?_)
        refine stq hf rfl rfl rfl (ex_move hf rfl) (fun a hf => ?_)
        replace hf := hf.castB (t := 29) rfl (ndec_t hc25)
        replace hf := hf.castB (t := 30) rfl (ndec_t hc25)
        refine stepN hf rfl rfl rfl (fun a hf => ?_)
        refine stepN hf rfl rfl rfl (fun a hf => ?_)
        refine stq hf rfl rfl rfl (ex_pickT hf rfl rfl) (fun a hf => ?_)
        refine stq hf rfl rfl rfl (ex_move hf rfl) (fun a hf => ?_)
        refine stepN hf rfl rfl rfl (fun a hf => ?_)
        refine stepN hf rfl rfl rfl (fun a hf => ?_)
        refine stq hf rfl rfl rfl (ex_pickT hf rfl rfl) (fun a hf => ?_)
        refine stq hf rfl rfl rfl (ex_move hf rfl) (fun a hf => ?_)
        refine stepN hf rfl rfl rfl (fun a hf => ?_)
        refine stepN hf rfl rfl rfl (fun a hf => ?_)
        refine stepN hf rfl rfl rfl (fun a hf => ?_)
        refine stepN hf rfl rfl rfl (fun a hf => ?_)
        refine stq hf rfl rfl rfl (ex_pickT hf rfl rfl) (fun a hf => ?_)
        refine hK31 _ _ ?_
        replace hs := hs.keep (.k (.k (.k (.d (.d (.d .nil))))))
        have e24 := some_eq H; subst e24
        exact hJ24 _ _ ⟨hf.sub ⟨rfl, rfl, trivial⟩, hs⟩
    · obtain ⟨hf, hs⟩ := hJ
      replace H := HO24
      clear HO24
      refine itt H (fun hc32 H => ?_) (fun hc32 H => ?_)
      · -- x24 = true
        replace hf := hf.castB (t := 43) rfl hc32
        refine cond_T hf rfl ?_
        refine seq_reg (fun K33 hK33 => ?_)
        refine stq hf rfl rfl rfl (ex_assign hf rfl) (fun a hf => ?_)
        refine hK33 _ _ ?_
        refine wp_ret ?_
        refine hR23 _ _ ?_
        have eR := some_eq H; subst eR
        replace hs := hs.keep (.d (.d (.d .nil)))
        exact ret1 Try.results10 hf rfl ⟨_, rfl, ⟨rfl, hs⟩⟩
      · -- not x24 = true
        replace hf := hf.castB (t := 43) rfl (bool_f hc32)
        refine cond_F hf rfl ?_
        refine wp_skip ?_
        refine hN23 _ _ ?_
        refine bnd H (fun s34 hs34 H => ?_)
        refine seq_reg (fun K36 hK36 => ?_)
        refine stq hf rfl rfl rfl (ex_move hf rfl) (fun a hf => ?_)
        refine stepF hf rfl rfl rfl (ex_call cf_22 hf rfl) (thermal_Zone_Update.calls k c9.1 c9.2.1 c9.2.2.1 c9.2.2.2 50 b19 v20 v21 (hs.enter (.c (.k (.c .nil)))) (Sr.own hs (.c (.k (.c .nil))) (i := 0) rfl osl_rsl (fun _ h => h.1) (Sr.nil _ _)) hs34) (fun v w hR a hf => ?_)
        obtain ⟨v35, rfl, hs'⟩ := hR
        replace hs := hs.step (.c (.k (.c .nil))) hs'
        clear hs'
        refine stq hf rfl rfl rfl (ex_move hf rfl) (fun a hf => ?_)
        refine stq hf rfl rfl rfl (ex_extract hf rfl rfl) (fun a hf => ?_)
        refine stq hf rfl rfl rfl (ex_extract hf rfl rfl) (fun a hf => ?_)
        refine stq hf rfl rfl rfl (ex_extract hf rfl rfl) (fun a hf => ?_)
        refine stq hf rfl rfl rfl (ex_assign hf rfl) (fun a hf => ?_)
        refine stq hf rfl rfl rfl (ex_assign hf rfl) (fun a hf => ?_)
        refine stq hf rfl rfl rfl (ex_assign hf rfl) (fun a hf => ?_)
        refine hK36 _ _ ?_
        refine bnd H (fun s37 hs37 H => ?_)
        refine seq_reg (fun K39 hK39 => ?_)
        refine stq hf rfl rfl rfl (ex_move hf rfl) (fun a hf => ?_)
        refine stepF hf rfl rfl rfl (ex_call cf_22 hf rfl) (thermal_Zone_Update.calls k c9.1 s34.2.1 c9.2.2.1 s34.1 45 b19 v20 v35 (hs.enter (.c (.c (.k .nil)))) (Sr.own hs (.c (.c (.k .nil))) (i := 0) rfl osl_rsl (fun _ h => h.1) (Sr.nil _ _)) hs37) (fun v w hR a hf => ?_)
        obtain ⟨v38, rfl, hs'⟩ := hR
        replace hs := hs.step (.c (.c (.k .nil))) hs'
        clear hs'
        refine stq hf rfl rfl rfl (ex_move hf rfl) (fun a hf => ?_)
        refine stq hf rfl rfl rfl (ex_extract hf rfl rfl) (fun a hf => ?_)
        refine stq hf rfl rfl rfl (ex_extract hf rfl rfl) (fun a hf => ?_)
        refine stq hf rfl rfl rfl (ex_extract hf rfl rfl) (fun a hf => ?_)
        refine stq hf rfl rfl rfl (ex_assign hf rfl) (fun a hf => ?_)
        refine stq hf rfl rfl rfl (ex_assign hf rfl) (fun a hf => ?_)
        refine stq hf rfl rfl rfl (ex_assign hf rfl) (fun a hf => ?_)
        refine hK39 _ _ ?_
        refine bnd H (fun s40 hs40 H => ?_)
        refine seq_reg (fun K42 hK42 => ?_)
        refine stq hf rfl rfl rfl (ex_move hf rfl) (fun a hf => ?_)
        refine stepF hf rfl rfl rfl (ex_call cf_22 hf rfl) (thermal_Zone_Update.calls k c9.1 s37.2.1 c9.2.2.1 s37.1 44 b19 v20 v38 (hs.enter (.c (.c (.k .nil)))) (Sr.own hs (.c (.c (.k .nil))) (i := 0) rfl osl_rsl (fun _ h => h.1) (Sr.nil _ _)) hs40) (fun v w hR a hf => ?_)
        obtain ⟨v41, rfl, hs'⟩ := hR
        replace hs := hs.step (.c (.c (.k .nil))) hs'
        clear hs'
        refine stq hf rfl rfl rfl (ex_move hf rfl) (fun a hf => ?_)
        refine stq hf rfl rfl rfl (ex_extract hf rfl rfl) (fun a hf => ?_)
        refine stq hf rfl rfl rfl (ex_extract hf rfl rfl) (fun a hf => ?_)
        refine stq hf rfl rfl rfl (ex_extract hf rfl rfl) (fun a hf => ?_)
        refine stq hf rfl rfl rfl (ex_assign hf rfl) (fun a hf => ?_)
        refine stq hf rfl rfl rfl (ex_assign hf rfl) (fun a hf => ?_)
        refine stq hf rfl rfl rfl (ex_assign hf rfl) (fun a hf => ?_)
        refine hK42 _ _ ?_
        refine itt H (fun hc43 H => ?_) (fun hc43 H => ?_)
        · -- s34.2.2.2.2 = 0
          refine itt H (fun hc44 H => ?_) (fun hc44 H => ?_)
          · -- s37.2.2.2.2 = 0
            refine itt H (fun hc45 H => ?_) (fun hc45 H => ?_)
            · -- s40.2.2.2.2 = 0
              refine itt H (fun hc46 H => ?_) (fun hc46 H => ?_)
              · -- s34.2.2.1 = 1
                refine itt H (fun hc47 H => ?_) (fun hc47 H => ?_)
                · -- s37.2.2.1 = 2
                  refine itt H (fun hc48 H => ?_) (fun hc48 H => ?_)
                  · -- s40.2.2.1 = 1
                    refine bnd H (fun s50 hs50 H => ?_)
                    refine seq_reg (fun K51 hK51 => ?_)
                    refine stq hf rfl rfl rfl (ex_move hf rfl) (fun a hf => ?_)
                    refine stq hf rfl rfl rfl (ex_eql hf rfl rfl) (fun a hf => ?_)
                    refine stq hf rfl rfl rfl (ex_move hf rfl) (fun a hf => ?_)
                    replace hf := hf.castB (t := 63) rfl (dec_t hc43)
                    replace hf := hf.castB (t := 64) rfl (dec_t hc43)
                    refine stq hf rfl rfl rfl (ex_move hf rfl) (fun a hf => ?_)
                    refine stq hf rfl rfl rfl (ex_eql hf rfl rfl) (fun a hf => ?_)
                    refine stq hf rfl rfl rfl (ex_pickT hf rfl rfl) (fun a hf => ?_)
                    refine stq hf rfl rfl rfl (ex_move hf rfl) (fun a hf => ?_)
                    replace hf := hf.castB (t := 66) rfl (dec_t hc44)
                    replace hf := hf.castB (t := 67) rfl (dec_t hc44)
                    replace hf := hf.castB (t := 68) rfl (dec_t hc44)
                    refine stq hf rfl rfl rfl (ex_move hf rfl) (fun a hf => ?_)
                    refine stq hf rfl rfl rfl (ex_eql hf rfl rfl) (fun a hf => ?_)
                    refine stq hf rfl rfl rfl (ex_pickT hf rfl rfl) (fun a hf => ?_)
                    refine stq hf rfl rfl rfl (ex_move hf rfl) (fun a hf => ?_)
                    replace hf := hf.castB (t := 70) rfl (dec_t hc45)
                    replace hf := hf.castB (t := 71) rfl (dec_t hc45)
                    replace hf := hf.castB (t := 72) rfl (dec_t hc45)
                    refine stq hf rfl rfl rfl (ex_move hf rfl) (fun a hf => ?_)
                    refine stq hf rfl rfl rfl (ex_eql hf rfl rfl) (fun a hf => ?_)
                    refine stq hf rfl rfl rfl (ex_pickT hf rfl rfl) (fun a hf => ?_)
                    refine stq hf rfl rfl rfl (ex_move hf rfl) (fun a hf => ?_)
                    replace hf := hf.castB (t := 74) rfl (dec_t hc46)
                    replace hf := hf.castB (t := 75) rfl (dec_t hc46)
                    replace hf := hf.castB (t := 76) rfl (dec_t hc46)
                    refine stq hf rfl rfl rfl (ex_move hf rfl) (fun a hf => ?_)
                    refine stq hf rfl rfl rfl (ex_eql hf rfl rfl) (fun a hf => ?_)
                    refine stq hf rfl rfl rfl (ex_pickT hf rfl rfl) (fun a hf => ?_)
                    refine stq hf rfl rfl rfl (ex_move hf rfl) (fun a hf => ?_)
                    replace hf := hf.castB (t := 78) rfl (dec_t hc47)
                    replace hf := hf.castB (t := 79) rfl (dec_t hc47)
                    replace hf := hf.castB (t := 80) rfl (dec_t hc47)
                    refine stq hf rfl rfl rfl (ex_move hf rfl) (fun a hf => ?_)
                    refine stq hf rfl rfl rfl (ex_eql hf rfl rfl) (fun a hf => ?_)
                    refine stq hf rfl rfl rfl (ex_pickT hf rfl rfl) (fun a hf => ?_)
                    refine stq hf rfl rfl rfl (ex_move hf rfl) (fun a hf => ?_)
                    replace hf := hf.castB (t := 82) rfl (dec_t hc48)
                    replace hf := hf.castB (t := 83) rfl (dec_t hc48)
                    replace hf := hf.castB (t := 84) rfl (dec_t hc48)
                    refine stq hf rfl rfl rfl (ex_build (cs := [.int .i64 0, .int .i64 0, .int .i64 0]) bt_24 hf rfl .nil rfl) (fun a hf => ?_)
                    refine stepV hf rfl rfl rfl (er_buildSlice (K := K_api_Trip) (xs := [(⟨0, 0, 0⟩ : Trip)]) hs Try.underlying22 ep_24 rfl rfl hf rfl (.cons rfl .nil) rfl rfl) (fun v49 w hs a hf => ?_)
                    refine stepF hf rfl rfl rfl (ex_call cf_15 hf rfl) (thermal_CheckTrips.calls k [(⟨0, 0, 0⟩ : Trip)] v49 (hs.enter (.k (.k (.k (.k .nil))))) (Sr.own hs (.k (.k (.k (.k .nil)))) (i := 0) rfl osl_rsl (fun _ h => h.1) (Sr.nil _ _)) hs50) (fun v w hR a hf => ?_)
                    obtain ⟨rfl, hs'⟩ := hR
                    replace hs := hs.step (.k (.k (.k (.k .nil)))) hs'
                    clear hs'
                    refine stq hf rfl rfl rfl (ex_eql hf rfl rfl) (fun a hf => ?_)
                    refine stq hf rfl rfl rfl (ex_pickT hf rfl rfl) (fun a hf => ?_)
                    refine stq hf rfl rfl rfl (ex_assign hf rfl) (fun a hf => ?_)
                    refine hK51 _ _ ?_
                    refine wp_ret ?_
                    have eR := some_eq H; subst eR
                    replace hs := hs.keep (.d (.d (.d (.d .nil))))
                    exact ret1 Try.results10 hf rfl ⟨_, rfl, ⟨rfl, hs⟩⟩
                  · -- not s40.2.2.1 = 1
                    refine seq_reg (fun K52 hK52 => ?_)
                    refine stq hf rfl rfl rfl (ex_move hf rfl) (fun a hf => ?_)
                    refine stq hf rfl rfl rfl (ex_eql hf rfl rfl) (fun a hf => ?_)
                    refine stq hf rfl rfl rfl (ex_move hf rfl) (fun a hf => ?_)
                    replace hf := hf.castB (t := 63) rfl (dec_t hc43)
                    replace hf := hf.castB (t := 64) rfl (dec_t hc43)
                    refine stq hf rfl rfl rfl (ex_move hf rfl) (fun a hf => ?_)
                    refine stq hf rfl rfl rfl (ex_eql hf rfl rfl) (fun a hf => ?_)
                    refine stq hf rfl rfl rfl (ex_pickT hf rfl rfl) (fun a hf => ?_)
                    refine stq hf rfl rfl rfl (ex_move hf rfl) (fun a hf => ?_)
                    replace hf := hf.castB (t := 66) rfl (dec_t hc44)
                    replace hf := hf.castB (t := 67) rfl (dec_t hc44)
                    replace hf := hf.castB (t := 68) rfl (dec_t hc44)
                    refine stq hf rfl rfl rfl (ex_move hf rfl) (fun a hf => ?_)
                    refine stq hf rfl rfl rfl (ex_eql hf rfl rfl) (fun a hf => ?_)
                    refine stq hf rfl rfl rfl (ex_pickT hf rfl rfl) (fun a hf => ?_)
                    refine stq hf rfl rfl rfl (ex_move hf rfl) (fun a hf => ?_)
                    replace hf := hf.castB (t := 70) rfl (dec_t hc45)
                    replace hf := hf.castB (t := 71) rfl (dec_t hc45)
                    replace hf := hf.castB (t := 72) rfl (dec_t hc45)
                    refine stq hf rfl rfl rfl (ex_move hf rfl) (fun a hf => ?_)
                    refine stq hf rfl rfl rfl (ex_eql hf rfl rfl) (fun a hf => ?_)
                    refine stq hf rfl rfl rfl (ex_pickT hf rfl rfl) (fun a hf => ?_)
                    refine stq hf rfl rfl rfl (ex_move hf rfl) (fun a hf => ?_)
                    replace hf := hf.castB (t := 74) rfl (dec_t hc46)
                    replace hf := hf.castB (t := 75) rfl (dec_t hc46)
                    replace hf := hf.castB (t := 76) rfl (dec_t hc46)
                    refine stq hf rfl rfl rfl (ex_move hf rfl) (fun a hf => ?_)
                    refine stq hf rfl rfl rfl (ex_eql hf rfl rfl) (fun a hf => ?_)
                    refine stq hf rfl rfl rfl (ex_pickT hf rfl rfl) (fun a hf => ?_)
                    refine stq hf rfl rfl rfl (ex_move hf rfl) (fun a hf => ?_)
                    replace hf := hf.castB (t := 78) rfl (dec_t hc47)
                    replace hf := hf.castB (t := 79) rfl (dec_t hc47)
                    replace hf := hf.castB (t := 80) rfl (dec_t hc47)
                    refine stq hf rfl rfl rfl (ex_move hf rfl) (fun a hf => ?_)
                    refine stq hf rfl rfl rfl (ex_eql hf rfl rfl) (fun a hf => ?_)
                    refine stq hf rfl rfl rfl (ex_pickT hf rfl rfl) (fun a hf => ?_)
                    refine stq hf rfl rfl rfl (ex_move hf rfl) (fun a hf => ?_)
                    replace hf := hf.castB (t := 82) rfl (dec_f hc48)
                    replace hf := hf.castB (t := 83) rfl (dec_f hc48)
                    replace hf := hf.castB (t := 84) rfl (dec_f hc48)
                    refine stepN hf rfl rfl rfl (fun a hf => ?_)
                    refine stepN hf rfl rfl rfl (fun a hf => ?_)
                    refine stepN hf rfl rfl rfl (fun a hf => ?_)
                    refine stepN hf rfl rfl rfl (fun a hf => ?_)
                    refine stq hf rfl rfl rfl (ex_pickF hf rfl rfl) (fun a hf => ?_)
                    refine stq hf rfl rfl rfl (ex_assign hf rfl) (fun a hf => ?_)
                    refine hK52 _ _ ?_
                    refine wp_ret ?_
                    have eR := some_eq H; subst eR
                    replace hs := hs.keep (.d (.d (.d .nil)))
                    exact ret1 Try.results10 hf rfl ⟨_, rfl, ⟨rfl, hs⟩⟩
                · -- not s37.2.2.1 = 2
                  refine seq_reg (fun K53 hK53 => ?_)
                  refine stq hf rfl rfl rfl (ex_move hf rfl) (fun a hf => ?_)
                  refine stq hf rfl rfl rfl (ex_eql hf rfl rfl) (fun a hf => ?_)
                  refine stq hf rfl rfl rfl (ex_move hf rfl) (fun a hf => ?_)
                  replace hf := hf.castB (t := 63) rfl (dec_t hc43)
                  replace hf := hf.castB (t := 64) rfl (dec_t hc43)
                  refine stq hf rfl rfl rfl (ex_move hf rfl) (fun a hf => ?_)
                  refine stq hf rfl rfl rfl (ex_eql hf rfl rfl) (fun a hf => ?_)
                  refine stq hf rfl rfl rfl (ex_pickT hf rfl rfl) (fun a hf => ?_)
                  refine stq hf rfl rfl rfl (ex_move hf rfl) (fun a hf => ?_)
                  replace hf := hf.castB (t := 66) rfl (dec_t hc44)
                  replace hf := hf.castB (t := 67) rfl (dec_t hc44)
                  replace hf := hf.castB (t := 68) rfl (dec_t hc44)
                  refine stq hf rfl rfl rfl (ex_move hf rfl) (fun a hf => ?_)
                  refine stq hf rfl rfl rfl (ex_eql hf rfl rfl) (fun a hf => ?_)
                  refine stq hf rfl rfl rfl (ex_pickT hf rfl rfl) (fun a hf => ?_)
                  refine stq hf rfl rfl rfl (ex_move hf rfl) (fun a hf => ?_)
                  replace hf := hf.castB (t := 70) rfl (dec_t hc45)
                  replace hf := hf.castB (t := 71) rfl (dec_t hc45)
                  replace hf := hf.castB (t := 72) rfl (dec_t hc45)
                  refine stq hf rfl rfl rfl (ex_move hf rfl) (fun a hf => ?_)
                  refine stq hf rfl rfl rfl (ex_eql hf rfl rfl) (fun a hf => ?_)
                  refine stq hf rfl rfl rfl (ex_pickT hf rfl rfl) (fun a hf => ?_)
                  refine stq hf rfl rfl rfl (ex_move hf rfl) (fun a hf => ?_)
                  replace hf := hf.castB (t := 74) rfl (dec_t hc46)
                  replace hf := hf.castB (t := 75) rfl (dec_t hc46)
                  replace hf := hf.castB (t := 76) rfl (dec_t hc46)
                  refine stq hf rfl rfl rfl (ex_move hf rfl) (fun a hf => ?_)
                  refine stq hf rfl rfl rfl (ex_eql hf rfl rfl) (fun a hf => ?_)
                  refine stq hf rfl rfl rfl (ex_pickT hf rfl rfl) (fun a hf => ?_)
                  refine stq hf rfl rfl rfl (ex_move hf rfl) (fun a hf => ?_)
                  replace hf := hf.castB (t := 78) rfl (dec_f hc47)
                  replace hf := hf.castB (t := 79) rfl (dec_f hc47)
                  replace hf := hf.castB (t := 80) rfl (dec_f hc47)
                  refine stepN hf rfl rfl rfl (fun a hf => ?_)
                  refine stepN hf rfl rfl rfl (fun a hf => ?_)
                  refine stq hf rfl rfl rfl (ex_pickF hf rfl rfl) (fun a hf => ?_)
                  refine stq hf rfl rfl rfl (ex_move hf rfl) (fun a hf => ?_)
                  refine stepN hf rfl rfl rfl (fun a hf => ?_)
                  refine stepN hf rfl rfl rfl (fun a hf => ?_)
                  refine stepN hf rfl rfl rfl (fun a hf => ?_)
                  refine stepN hf rfl rfl rfl (fun a hf => ?_)
                  refine stq hf rfl rfl rfl (ex_pickF hf rfl rfl) (fun a hf => ?_)
                  refine stq hf rfl rfl rfl (ex_assign hf rfl) (fun a hf => ?_)
                  refine hK53 _ _ ?_
                  refine wp_ret ?_
                  have eR := some_eq H; subst eR
                  replace hs := hs.keep (.d (.d (.d .nil)))
                  exact ret1 Try.results10 hf rfl ⟨_, rfl, ⟨rfl, hs⟩⟩
              · -- not s34.2.2.1 = 1
                refine seq_reg (fun K54 hK54 => ?_)
                refine stq hf rfl rfl rfl (ex_move hf rfl) (fun a hf => ?_)
                refine stq hf rfl rfl rfl (ex_eql hf rfl rfl) (fun a hf => ?_)
                refine stq hf rfl rfl rfl (ex_move hf rfl) (fun a hf => ?_)
                replace hf := hf.castB (t := 63) rfl (dec_t hc43)
                replace hf := hf.castB (t := 64) rfl (dec_t hc43)
                refine stq hf rfl rfl rfl (ex_move hf rfl) (fun a hf => ?_)
                refine stq hf rfl rfl rfl (ex_eql hf rfl rfl) (fun a hf => ?_)
                refine stq hf rfl rfl rfl (ex_pickT hf rfl rfl) (fun a hf => ?_)
                refine stq hf rfl rfl rfl (ex_move hf rfl) (fun a hf => ?_)
                replace hf := hf.castB (t := 66) rfl (dec_t hc44)
                replace hf := hf.castB (t := 67) rfl (dec_t hc44)
                replace hf := hf.castB (t := 68) rfl (dec_t hc44)
                refine stq hf rfl rfl rfl (ex_move hf rfl) (fun a hf => ?_)
                refine stq hf rfl rfl rfl (ex_eql hf rfl rfl) (fun a hf => ?_)
                refine stq hf rfl rfl rfl (ex_pickT hf rfl rfl) (fun a hf => ?_)
                refine stq hf rfl rfl rfl (ex_move hf rfl) (fun a hf => ?_)
                replace hf := hf.castB (t := 70) rfl (dec_t hc45)
                replace hf := hf.castB (t := 71) rfl (dec_t hc45)
                replace hf := hf.castB (t := 72) rfl (dec_t hc45)
                refine stq hf rfl rfl rfl (ex_move hf rfl) (fun a hf => ?_)
                refine stq hf rfl rfl rfl (ex_eql hf rfl rfl) (fun a hf => ?_)
                refine stq hf rfl rfl rfl (ex_pickT hf rfl rfl) (fun a hf => ?_)
                refine stq hf rfl rfl rfl (ex_move hf rfl) (fun a hf => ?_)
                replace hf := hf.castB (t := 74) rfl (dec_f hc46)
                replace hf := hf.castB (t := 75) rfl (dec_f hc46)
                replace hf := hf.castB (t := 76) rfl (dec_f hc46)
                refine stepN hf rfl rfl rfl (fun a hf => ?_)
                refine stepN hf rfl rfl rfl (fun a hf => ?_)
                refine stq hf rfl rfl rfl (ex_pickF hf rfl rfl) (fun a hf => ?_)
                refine stq hf rfl rfl rfl (ex_move hf rfl) (fun a hf => ?_)
                refine stepN hf rfl rfl rfl (fun a hf => ?_)
                refine stepN hf rfl rfl rfl (fun a hf => ?_)
                refine stq hf rfl rfl rfl (ex_pickF hf rfl rfl) (fun a hf => ?_)
                refine stq hf rfl rfl rfl (ex_move hf rfl) (fun a hf => ?_)
                refine stepN hf rfl rfl rfl (fun a hf => ?_)
                refine stepN hf rfl rfl rfl (fun a hf => ?_)
                refine stepN hf rfl rfl rfl (fun a hf => ?_)
                refine stepN hf rfl rfl rfl (fun a hf => ?_)
                refine stq hf rfl rfl rfl (ex_pickF hf rfl rfl) (fun a hf => ?_)
                refine stq hf rfl rfl rfl (ex_assign hf rfl) (fun a hf => ?_)
                refine hK54 _ _ ?_
                refine wp_ret ?_
                have eR := some_eq H; subst eR
                replace hs := hs.keep (.d (.d (.d .nil)))
                exact ret1 Try.results10 hf rfl ⟨_, rfl, ⟨rfl, hs⟩⟩
            · -- not s40.2.2.2.2 = 0
              refine seq_reg (fun K55 hK55 => ?_)
              refine stq hf rfl rfl rfl (ex_move hf rfl) (fun a hf => ?_)
              refine stq hf rfl rfl rfl (ex_eql hf rfl rfl) (fun a hf => ?_)
              refine stq hf rfl rfl rfl (ex_move hf rfl) (fun a hf => ?_)
              replace hf := hf.castB (t := 63) rfl (dec_t hc43)
              replace hf := hf.castB (t := 64) rfl (dec_t hc43)
              refine stq hf rfl rfl rfl (ex_move hf rfl) (fun a hf => ?_)
              refine stq hf rfl rfl rfl (ex_eql hf rfl rfl) (fun a hf => ?_)
              refine stq hf rfl rfl rfl (ex_pickT hf rfl rfl) (fun a hf => ?_)
              refine stq hf rfl rfl rfl (ex_move hf rfl) (fun a hf => ?_)
              replace hf := hf.castB (t := 66) rfl (dec_t hc44)
              replace hf := hf.castB (t := 67) rfl (dec_t hc44)
              replace hf := hf.castB (t := 68) rfl (dec_t hc44)
              refine stq hf rfl rfl rfl (ex_move hf rfl) (fun a hf => ?_)
              refine stq hf rfl rfl rfl (ex_eql hf rfl rfl) (fun a hf => ?_)
              refine stq hf rfl rfl rfl (ex_pickT hf rfl rfl) (fun a hf => ?_)
              refine stq hf rfl rfl rfl (ex_move hf rfl) (fun a hf => ?_)
              replace hf := hf.castB (t := 70) rfl (dec_f hc45)
              replace hf := hf.castB (t := 71) rfl (dec_f hc45)
              replace hf := hf.castB (t := 72) rfl (dec_f hc45)
              refine stepN hf rfl rfl rfl (fun a hf => ?_)
              refine stepN hf rfl rfl rfl (fun a hf => ?_)
              refine stq hf rfl rfl rfl (ex_pickF hf rfl rfl) (fun a hf => ?_)
              refine stq hf rfl rfl rfl (ex_move hf rfl) (fun a hf => ?_)
              refine stepN hf rfl rfl rfl (fun a hf => ?_)
              refine stepN hf rfl rfl rfl (fun a hf => ?_)
              refine stq hf rfl rfl rfl (ex_pickF hf rfl rfl) (fun a hf => ?_)
              refine stq hf rfl rfl rfl (ex_move hf rfl) (fun a hf => ?_)
              refine stepN hf rfl rfl rfl (fun a hf => ?_)
              refine stepN hf rfl rfl rfl (fun a hf => ?_)
              refine stq hf rfl rfl rfl (ex_pickF hf rfl rfl) (fun a hf => ?_)
              refine stq hf rfl rfl rfl (ex_move hf rfl) (fun a hf => ?_)
              refine stepN hf rfl rfl rfl (fun a hf => ?_)
              refine stepN hf rfl rfl rfl (fun a hf => ?_)
              refine stepN hf rfl rfl rfl (fun a hf => ?_)
              refine stepN hf rfl rfl rfl (fun a hf => ?_)
              refine stq hf rfl rfl rfl (ex_pickF hf rfl rfl) (fun a hf => ?_)
              refine stq hf rfl rfl rfl (ex_assign hf rfl) (fun a hf => ?_)
              refine hK55 _ _ ?_
              refine wp_ret ?_
              have eR := some_eq H; subst eR
              replace hs := hs.keep (.d (.d (.d .nil)))
              exact ret1 Try.results10 hf rfl ⟨_, rfl, ⟨rfl, hs⟩⟩
          · -- not s37.2.2.2.2 = 0
            refine seq_reg (fun K56 hK56 => ?_)
            refine stq hf rfl rfl rfl (ex_move hf rfl) (fun a hf => ?_)
            refine stq hf rfl rfl rfl (ex_eql hf rfl rfl) (fun a hf => ?_)
            refine stq hf rfl rfl rfl (ex_move hf rfl) (fun a hf => ?_)
            replace hf := hf.castB (t := 63) rfl (dec_t hc43)
            replace hf := hf.castB (t := 64) rfl (dec_t hc43)
            refine stq hf rfl rfl rfl (ex_move hf rfl) (fun a hf => ?_)
            refine stq hf rfl rfl rfl (ex_eql hf rfl rfl) (fun a hf => ?_)
            refine stq hf rfl rfl rfl (ex_pickT hf rfl rfl) (fun a hf => ?_)
            refine stq hf rfl rfl rfl (ex_move hf rfl) (fun a hf => ?_)
            replace hf := hf.castB (t := 66) rfl (dec_f hc44)
            replace hf := hf.castB (t := 67) rfl (dec_f hc44)
            replace hf := hf.castB (t := 68) rfl (dec_f hc44)
            refine stepN hf rfl rfl rfl (fun a hf => ?_)
            refine stepN hf rfl rfl rfl (fun a hf => ?_)
            refine stq hf rfl rfl rfl (ex_pickF hf rfl rfl) (fun a hf => ?_)
            refine stq hf rfl rfl rfl (ex_move hf rfl) (fun a hf => ?_)
            refine stepN hf rfl rfl rfl (fun a hf => ?_)
            refine stepN hf rfl rfl rfl (fun a hf => ?_)
            refine stq hf rfl rfl rfl (ex_pickF hf rfl rfl) (fun a hf => ?_)
            refine stq hf rfl rfl rfl (ex_move hf rfl) (fun a hf => ?_)
            refine stepN hf rfl rfl rfl (fun a hf => ?_)
            refine stepN hf rfl rfl rfl (fun a hf => ?_)
            refine stq hf rfl rfl rfl (ex_pickF hf rfl rfl) (fun a hf => ?_)
            refine stq hf rfl rfl rfl (ex_move hf rfl) (fun a hf => ?_)
            refine stepN hf rfl rfl rfl (fun a hf => ?_)
            refine stepN hf rfl rfl rfl (fun a hf => ?_)
            refine stq hf rfl rfl rfl (ex_pickF hf rfl rfl) (fun a hf => ?_)
            refine stq hf rfl rfl rfl (ex_move hf rfl) (fun a hf => ?_)
            refine stepN hf rfl rfl rfl (fun a hf => ?_)
            refine stepN hf rfl rfl rfl (fun a hf => ?_)
            refine stepN hf rfl rfl rfl (fun a hf => ?_)
            refine stepN hf rfl rfl rfl (fun a hf => ?_)
            refine stq hf rfl rfl rfl (ex_pickF hf rfl rfl) (fun a hf => ?_)
            refine stq hf rfl rfl rfl (ex_assign hf rfl) (fun a hf => ?_)
            refine hK56 _ _ ?_
            refine wp_ret ?_
            have eR := some_eq H; subst eR
            replace hs := hs.keep (.d (.d (.d .nil)))
            exact ret1 Try.results10 hf rfl ⟨_, rfl, ⟨rfl, hs⟩⟩
        · -- not s34.2.2.2.2 = 0
          refine seq_reg (fun K57 hK57 => ?_)
          refine stq hf rfl rfl rfl (ex_move hf rfl) (fun a hf => ?_)
          refine stq hf rfl rfl rfl (ex_eql hf rfl rfl) (fun a hf => ?_)
          refine stq hf rfl rfl rfl (ex_move hf rfl) (fun a hf => ?_)
          replace hf := hf.castB (t := 63) rfl (dec_f hc43)
          replace hf := hf.castB (t := 64) rfl (dec_f hc43)
          refine stepN hf rfl rfl rfl (fun a hf => ?_)
          refine stepN hf rfl rfl rfl (fun a hf => ?_)
          refine stq hf rfl rfl rfl (ex_pickF hf rfl rfl) (fun a hf => ?_)
          refine stq hf rfl rfl rfl (ex_move hf rfl) (fun a hf => ?_)
          refine stepN hf rfl rfl rfl (fun a hf => ?_)
          refine stepN hf rfl rfl rfl (fun a hf => ?_)
          refine stq hf rfl rfl rfl (ex_pickF hf rfl rfl) (fun a hf => ?_)
          refine stq hf rfl rfl rfl (ex_move hf rfl) (fun a hf => ?_)
          refine stepN hf rfl rfl rfl (fun a hf => ?_)
          refine stepN hf rfl rfl rfl (fun a hf => ?_)
          refine stq hf rfl rfl rfl (ex_pickF hf rfl rfl) (fun a hf => ?_)
          refine stq hf rfl rfl rfl (ex_move hf rfl) (fun a hf => ?_)
          refine stepN hf rfl rfl rfl (fun a hf => ?_)
          refine stepN hf rfl rfl rfl (fun a hf => ?_)
          refine stq hf rfl rfl rfl (ex_pickF hf rfl rfl) (fun a hf => ?_)
          refine stq hf rfl rfl rfl (ex_move hf rfl) (fun a hf => ?_)
          refine stepN hf rfl rfl rfl (fun a hf => ?_)
          refine stepN hf rfl rfl rfl (fun a hf => ?_)
          refine stq hf rfl rfl rfl (ex_pickF hf rfl rfl) (fun a hf => ?_)
          refine stq hf rfl rfl rfl (ex_move hf rfl) (fun a hf => ?_)
          refine stepN hf rfl rfl rfl (fun a hf => ?_)
          refine stepN hf rfl rfl rfl (fun a hf => ?_)
          refine stepN hf rfl rfl rfl (fun a hf => ?_)
          refine stepN hf rfl rfl rfl (fun a hf => ?_)
          refine stq hf rfl rfl rfl (ex_pickF hf rfl rfl) (fun a hf => ?_)
          refine stq hf rfl rfl rfl (ex_assign hf rfl) (fun a hf => ?_)
          refine hK57 _ _ ?_
          refine wp_ret ?_
          have eR := some_eq H; subst eR
          replace hs := hs.keep (.d (.d (.d .nil)))
          exact ret1 Try.results10 hf rfl ⟨_, rfl, ⟨rfl, hs⟩⟩

set_option maxRecDepth 100000 in
theorem help_Mod.calls {M : Nat → Prop} {w0 : World} (k : Nat) (a0 : Int) (a1 : Int) {r : Int} (hs : St M w0 w0 []) (hr : Sr M w0 [])
    (h : help_Mod.f k a0 a1 = some r) : Calls Try.prog 12 #[.int .i64 a0, .int .i64 a1] w0 fun e w => ∃ v, e = .returned v ∧ (.int .i64 r = v ∧ St M w0 w []) := by
  have H := (help_Mod.f.eq_1 ..).symm.trans h
  clear h
  refine enter Try.func12 rfl Try.ntmps12 rfl (fun a hf => ?_)
  refine seq_reg (fun K1 hK1 => ?_)
  refine stq hf rfl rfl rfl (ex_assign hf rfl) (fun a hf => ?_)
  refine hK1 _ _ ?_
  refine ck_some H (fun hc2 H => ?_)
  refine seq_reg (fun K3 hK3 => ?_)
  refine stq hf rfl rfl rfl (ex_move hf rfl) (fun a hf => ?_)
  refine stq hf rfl rfl rfl (ex_conv Try.underlying3 Try.underlying60 hf rfl) (fun a hf => ?_)
  refine stq hf rfl rfl rfl (ex_move hf rfl) (fun a hf => ?_)
  refine stq hf rfl rfl rfl (ex_conv Try.underlying3 Try.underlying60 hf rfl) (fun a hf => ?_)
  refine stq hf rfl rfl rfl (ex_rem hf rfl rfl hc2) (fun a hf => ?_)
  refine stq hf rfl rfl rfl (ex_conv Try.underlying60 Try.underlying3 hf rfl) (fun a hf => ?_)
  refine stq hf rfl rfl rfl (ex_assign hf rfl) (fun a hf => ?_)
  refine hK3 _ _ ?_
  refine wp_ret ?_
  have eR := some_eq H; subst eR
  exact ret1 Try.results12 hf rfl ⟨_, rfl, ⟨rfl, hs⟩⟩

set_option maxRecDepth 100000 in
theorem law39_Trips.calls {M : Nat → Prop} {w0 : World} (k : Nat) (a0 : (List Trip)) (v0 : Value) {r : (List Trip)} (hs : St M w0 w0 []) (hr : Sr M w0 [rsl K_api_Trip v0 a0])
    (h : law39_Trips.f k a0 = some r) : Calls Try.prog 11 #[v0] w0 fun e w => ∃ v, e = .returned v ∧ (∃ (g0 : Value), g0 = v ∧ St M w0 w [osl K_api_Trip g0 r]) := by
  have H := (law39_Trips.f.eq_1 ..).symm.trans h
  clear h
  refine enter Try.func11 rfl Try.ntmps11 rfl (fun a hf => ?_)
  refine seq_reg (fun K1 hK1 => ?_)
  refine stq hf rfl rfl rfl (ex_assign hf rfl) (fun a hf => ?_)
  refine hK1 _ _ ?_
  refine seq_reg (fun K2 hK2 => ?_)
  refine stq hf rfl rfl rfl (ex_assign hf rfl) (fun a hf => ?_)
  refine hK2 _ _ ?_
  refine bnd H (fun x3 H3 HO3 => ?_)
  clear H
  refine seq_cut (fun a w => ∃ (v4 : Value), Fr a 44 [(3, v4)] ∧ St M w0 w [osl K_api_Trip v4 x3]) (fun Q3 hJ3 hR3 hX3 => ?_) (fun a w hJ => ?_)
  · replace H := H3
    refine seq_reg (fun K5 hK5 => ?_)
    refine stq hf rfl rfl rfl (ex_assign hf rfl) (fun a hf => ?_)
    refine hK5 _ _ ?_
    refine block_k (fun Q6 hN6 hR6 hX6 hY6 => ?_)
    refine loop_k (fun n a w => ∃ (y8 : (List Trip)) (y9 : Int) (v7 : Value), Fr a 44 [(0, v0), (3, v7), (4, .int .i64 y9)] ∧ St M w0 w [osl K_api_Trip v7 y8] ∧ law39_Trips.l1 n a0 y8 y9 = some x3) k ?_ (fun n11 a w hI Q11 hL11 hR11 hX11 => ?_)
    · -- at the start
      replace hs := hs.nilS K_api_Trip
      exact ⟨[], 0, (.slice none 0 0), hf.sub ⟨rfl, rfl, rfl, trivial⟩, hs, H⟩
    · obtain ⟨y8, y9, v7, hf, hs, H⟩ := hI
      cases n11 with
      | zero => exact absurd H (by rw [law39_Trips.l1.eq_1]; intro h; cases h)
      | succ k11 =>
        replace H := (law39_Trips.l1.eq_2 ..).symm.trans H
        refine seq_n (fun Q12 hN12 hR12 hX12 => ?_)
        refine bnd H (fun x13 H13 HO13 => ?_)
        clear H
        refine seq_cut (fun a w => Fr a 44 [(0, v0), (3, v7), (4, .int .i64 y9), (12, .bool x13)] ∧ St M w0 w [osl K_api_Trip v7 y8]) (fun Q13 hJ13 hR13 hX13 => ?_) (fun a w hJ => ?_)
        · replace H := H13
          refine itt H (fun hc14 H => ?_) (fun hc14 H => ?_)
          · -- y9 < (a0.length : Int)
            refine region_k (fun K15 hK15 => ?_)
            refine stq hf rfl rfl rfl (ex_move hf rfl) (fun a hf => ?_)
            refine stq hf rfl rfl rfl (ex_move hf rfl) (fun a hf => ?_)
            refine stq hf rfl rfl rfl (ex_lenS Try.underlying22 (rsl_isSl (hr.now hs (i := 0) rfl)) hf rfl) (fun a hf => ?_)
            refine stq hf rfl rfl rfl (ex_lss hf rfl rfl) (fun a hf => ?_)
            refine stq hf rfl rfl rfl (ex_move hf rfl) (fun a hf => ?_)
            replace hf := hf.castB (t := 8) rfl (dec_t hc14)
            replace hf := hf.castB (t := 9) rfl (dec_t hc14)
            refine stq hf rfl rfl rfl (ex_move hf rfl) (fun a hf => ?_)
            refine stq hf rfl rfl rfl (ex_lss hf rfl rfl) (fun a hf => ?_)
            refine stq hf rfl rfl rfl (ex_pickT hf rfl rfl) (fun a hf => ?_)
            refine hK15 _ _ ?_
            have e13 := some_eq H; subst e13
            exact hJ13 _ _ ⟨hf.sub ⟨rfl, rfl, rfl, rfl, trivial⟩, hs⟩
          · -- not y9 < (a0.length : Int)
            refine region_k (fun K16 hK16 => ?_)
            refine stq hf rfl rfl rfl (ex_move hf rfl) (fun a hf => ?_)
            refine stq hf rfl rfl rfl (ex_move hf rfl) (fun a hf => ?_)
            refine stq hf rfl rfl rfl (ex_lenS Try.underlying22 (rsl_isSl (hr.now hs (i := 0) rfl)) hf rfl) (fun a hf => ?_)
            refine stq hf rfl rfl rfl (ex_lss hf rfl rfl) (fun a hf => ?_)
            refine stq hf rfl rfl rfl (ex_move hf rfl) (fun a hf => ?_)
            replace hf := hf.castB (t := 8) rfl (dec_f hc14)
            replace hf := hf.castB (t := 9) rfl (dec_f hc14)
            refine stepN hf rfl rfl rfl (fun a hf => ?_)
            refine stepN hf rfl rfl rfl (fun a hf => ?_)
            refine stq hf rfl rfl rfl (ex_pickF hf rfl rfl) (fun a hf => ?_)
            refine hK16 _ _ ?_
            have e13 := some_eq H; subst e13
            exact hJ13 _ _ ⟨hf.sub ⟨rfl, rfl, rfl, rfl, trivial⟩, hs⟩
        · obtain ⟨hf, hs⟩ := hJ
          replace H := HO13
          clear HO13
          refine itt H (fun hc17 H => ?_) (fun hc17 H => ?_)
          · -- x13 = true
            replace hf := hf.castB (t := 12) rfl hc17
            refine cond_T hf rfl ?_
            refine wp_skip ?_
            refine hN12 _ _ ?_
            refine seq_n (fun Q18 hN18 hR18 hX18 => ?_)
            refine block_k (fun Q19 hN19 hR19 hX19 hY19 => ?_)
            refine ck_some H (fun hc20 H => ?_)
            refine bnd H (fun s21 hs21 H => ?_)
            refine ck_some H (fun hc23 H => ?_)
            refine region_d fol 28 [(0, v0), (3, v7), (4, .int .i64 y9)] [(0, v7), (1, v0), (2, .int .i64 y9), (3, .pointer (some (sla v0 (y9.toNat * 3)))), (4, .pointer (some (sla v0 (y9.toNat * 3 + 0)))), (5, .int .i64 ((gd Trip.zero a0 y9).Kind)), (8, v0), (9, .int .i64 y9), (10, .pointer (some (sla v0 (y9.toNat * 3)))), (11, .pointer (some (sla v0 (y9.toNat * 3 + 1)))), (12, .int .i64 ((gd Trip.zero a0 y9).Temperature)), (13, .int .u64 (IntKind.u64.wrap ((gd Trip.zero a0 y9).Temperature))), (14, .int .u64 (Int.tmod (IntKind.u64.wrap ((gd Trip.zero a0 y9).Temperature)) 101)), (15, .int .i64 (IntKind.i64.wrap (Int.tmod (IntKind.u64.wrap ((gd Trip.zero a0 y9).Temperature)) 101))), (16, .int .i64 (IntKind.i64.wrap ((IntKind.i64.wrap (Int.tmod (IntKind.u64.wrap ((gd Trip.zero a0 y9).Temperature)) 101)) - 50))), (17, v0), (18, .int .i64 y9), (19, .pointer (some (sla v0 (y9.toNat * 3)))), (20, .pointer (some (sla v0 (y9.toNat * 3 + 2)))), (21, .int .i64 ((gd Trip.zero a0 y9).Hysteresis)), (22, .int .u64 (IntKind.u64.wrap ((gd Trip.zero a0 y9).Hysteresis))), (23, .int .u64 (Int.tmod (IntKind.u64.wrap ((gd Trip.zero a0 y9).Hysteresis)) 20)), (24, .int .i64 (IntKind.i64.wrap (Int.tmod (IntKind.u64.wrap ((gd Trip.zero a0 y9).Hysteresis)) 20)))] [6, 26, 27] (fun w => (rsl K_api_Trip v0 a0).ok w ∧ True) (fun w => St M w0 w [osl K_api_Trip v7 y8]) hf ⟨rfl, rfl, rfl, trivial⟩ (by kernel_rfl) (by kernel_rfl) rfl (by decide) ⟨hr.now hs.drew (i := 0) rfl, trivial⟩ hs.drew (.cons (⟨_, _, rfl, rfl, rfl, rfl, fun a w hR hf => .inl ⟨wanted_yes hf rfl, ex_move hf rfl⟩⟩) (.cons (⟨_, _, rfl, rfl, rfl, rfl, fun a w hR hf => .inl ⟨wanted_yes hf rfl, ex_move hf rfl⟩⟩) (.cons (⟨_, _, rfl, rfl, rfl, rfl, fun a w hR hf => .inl ⟨wanted_yes hf rfl, ex_move hf rfl⟩⟩) (.cons (⟨_, _, rfl, rfl, rfl, rfl, fun a w hR hf => .inl ⟨wanted_yes hf rfl, ex_indexAddr sa_22 (rsl_isSl hR.1) hc20.1 hc20.2 hf rfl rfl⟩⟩) (.cons (⟨_, _, rfl, rfl, rfl, rfl, fun a w hR hf => .inl ⟨wanted_yes hf rfl, ex_fieldAddrS fa_24_0 rfl hf rfl⟩⟩) (.cons (⟨_, _, rfl, rfl, rfl, rfl, fun a w hR hf => .inl ⟨wanted_yes hf rfl, ex_load sc_3 hf rfl (el_cell (K := K_api_Trip) (f := 0) (rsl_rd hR.1) hc20.1 hc20.2 rfl)⟩⟩) (.cons (⟨_, _, rfl, rfl, rfl, rfl, fun a w hR hf => .inl ⟨wanted_yes hf rfl, ex_move hf rfl⟩⟩) (.cons (⟨_, _, rfl, rfl, rfl, rfl, fun a w hR hf => .inl ⟨wanted_yes hf rfl, ex_move hf rfl⟩⟩) (.cons (⟨_, _, rfl, rfl, rfl, rfl, fun a w hR hf => .inl ⟨wanted_yes hf rfl, ex_indexAddr sa_22 (rsl_isSl hR.1) hc20.1 hc20.2 hf rfl rfl⟩⟩) (.cons (⟨_, _, rfl, rfl, rfl, rfl, fun a w hR hf => .inl ⟨wanted_yes hf rfl, ex_fieldAddrS fa_24_1 rfl hf rfl⟩⟩) (.cons (⟨_, _, rfl, rfl, rfl, rfl, fun a w hR hf => .inl ⟨wanted_yes hf rfl, ex_load sc_2 hf rfl (el_cell (K := K_api_Trip) (f := 1) (rsl_rd hR.1) hc20.1 hc20.2 rfl)⟩⟩) (.cons (⟨_, _, rfl, rfl, rfl, rfl, fun a w hR hf => .inl ⟨wanted_yes hf rfl, ex_conv Try.underlying2 Try.underlying37 hf rfl⟩⟩) (.cons (⟨_, _, rfl, rfl, rfl, rfl, fun a w hR hf => .inl ⟨wanted_yes hf rfl, ex_rem hf rfl rfl (by decide)⟩⟩) (.cons (⟨_, _, rfl, rfl, rfl, rfl, fun a w hR hf => .inl ⟨wanted_yes hf rfl, ex_conv Try.underlying37 Try.underlying2 hf rfl⟩⟩) (.cons (⟨_, _, rfl, rfl, rfl, rfl, fun a w hR hf => .inl ⟨wanted_yes hf rfl, ex_sub hf rfl rfl⟩⟩) (.cons (⟨_, _, rfl, rfl, rfl, rfl, fun a w hR hf => .inl ⟨wanted_yes hf rfl, ex_move hf rfl⟩⟩) (.cons (⟨_, _, rfl, rfl, rfl, rfl, fun a w hR hf => .inl ⟨wanted_yes hf rfl, ex_move hf rfl⟩⟩) (.cons (⟨_, _, rfl, rfl, rfl, rfl, fun a w hR hf => .inl ⟨wanted_yes hf rfl, ex_indexAddr sa_22 (rsl_isSl hR.1) hc20.1 hc20.2 hf rfl rfl⟩⟩) (.cons (⟨_, _, rfl, rfl, rfl, rfl, fun a w hR hf => .inl ⟨wanted_yes hf rfl, ex_fieldAddrS fa_24_2 rfl hf rfl⟩⟩) (.cons (⟨_, _, rfl, rfl, rfl, rfl, fun a w hR hf => .inl ⟨wanted_yes hf rfl, ex_load sc_2 hf rfl (el_cell (K := K_api_Trip) (f := 2) (rsl_rd hR.1) hc20.1 hc20.2 rfl)⟩⟩) (.cons (⟨_, _, rfl, rfl, rfl, rfl, fun a w hR hf => .inl ⟨wanted_yes hf rfl, ex_conv Try.underlying2 Try.underlying37 hf rfl⟩⟩) (.cons (⟨_, _, rfl, rfl, rfl, rfl, fun a w hR hf => .inl ⟨wanted_yes hf rfl, ex_rem hf rfl rfl (by decide)⟩⟩) (.cons (⟨_, _, rfl, rfl, rfl, rfl, fun a w hR hf => .inl ⟨wanted_yes hf rfl, ex_conv Try.underlying37 Try.underlying2 hf rfl⟩⟩) (.nil)))))))))))))))))))))))) (fun K25 hK25 => ?_)
            refine RW.one 6 (by kernel_rfl) (by kernel_rfl) rfl (fun d hd => by cases hd; rfl) [(20, .int .i64 ((gd Trip.zero a0 y9).Kind))] ⟨rfl, trivial⟩ (fun a w hR hs hf => ⟨wanted_yes hf rfl, ?_⟩)
            refine estep_f (ex_call cf_12 hf rfl) (help_Mod.calls k11 ((gd Trip.zero a0 y9).Kind) 3 (hs.enter (.k .nil)) (Sr.nil _ _) hs21) (fun v w hR => ?_)
            obtain ⟨rfl, hs'⟩ := hR
            replace hs := hs.step (.k .nil) hs'
            clear hs'
            refine ⟨[(7, .int .i64 (IntKind.i64.wrap (1 + s21))), (25, .agg #[.int .i64 (IntKind.i64.wrap (1 + s21)), .int .i64 (IntKind.i64.wrap ((IntKind.i64.wrap (Int.tmod (IntKind.u64.wrap ((gd Trip.zero a0 y9).Temperature)) 101)) - 50)), .int .i64 (IntKind.i64.wrap (Int.tmod (IntKind.u64.wrap ((gd Trip.zero a0 y9).Hysteresis)) 20))])], [(7, .int .i64 (IntKind.i64.wrap (1 + s21))), (25, .agg #[.int .i64 (IntKind.i64.wrap (1 + s21)), .int .i64 (IntKind.i64.wrap ((IntKind.i64.wrap (Int.tmod (IntKind.u64.wrap ((gd Trip.zero a0 y9).Temperature)) 101)) - 50)), .int .i64 (IntKind.i64.wrap (Int.tmod (IntKind.u64.wrap ((gd Trip.zero a0 y9).Hysteresis)) 20))]), (6, .int .i64 s21), (0, v7), (1, v0), (2, .int .i64 y9), (3, .pointer (some (sla v0 (y9.toNat * 3)))), (4, .pointer (some (sla v0 (y9.toNat * 3 + 0)))), (5, .int .i64 ((gd Trip.zero a0 y9).Kind)), (8, v0), (9, .int .i64 y9), (10, .pointer (some (sla v0 (y9.toNat * 3)))), (11, .pointer (some (sla v0 (y9.toNat * 3 + 1)))), (12, .int .i64 ((gd Trip.zero a0 y9).Temperature)), (13, .int .u64 (IntKind.u64.wrap ((gd Trip.zero a0 y9).Temperature))), (14, .int .u64 (Int.tmod (IntKind.u64.wrap ((gd Trip.zero a0 y9).Temperature)) 101)), (15, .int .i64 (IntKind.i64.wrap (Int.tmod (IntKind.u64.wrap ((gd Trip.zero a0 y9).Temperature)) 101))), (16, .int .i64 (IntKind.i64.wrap ((IntKind.i64.wrap (Int.tmod (IntKind.u64.wrap ((gd Trip.zero a0 y9).Temperature)) 101)) - 50))), (17, v0), (18, .int .i64 y9), (19, .pointer (some (sla v0 (y9.toNat * 3)))), (20, .pointer (some (sla v0 (y9.toNat * 3 + 2)))), (21, .int .i64 ((gd Trip.zero a0 y9).Hysteresis)), (22, .int .u64 (IntKind.u64.wrap ((gd Trip.zero a0 y9).Hysteresis))), (23, .int .u64 (Int.tmod (IntKind.u64.wrap ((gd Trip.zero a0 y9).Hysteresis)) 20)), (24, .int .i64 (IntKind.i64.wrap (Int.tmod (IntKind.u64.wrap ((gd Trip.zero a0 y9).Hysteresis)) 20)))], [26, 27], (fun _ => True), (fun w => St M w0 w [osl K_api_Trip v7 y8]), rfl, rfl, ⟨hr.now hs (i := 0) rfl, trivial⟩, trivial, hs, (by kernel_rfl), .cons (⟨_, _, rfl, rfl, rfl, rfl, fun a w hR hf => .inl ⟨wanted_yes hf rfl, ex_add hf rfl rfl⟩⟩) (.cons (⟨_, _, rfl, rfl, rfl, rfl, fun a w hR hf => .inl ⟨wanted_yes hf rfl, ex_build (cs := [.int .i64 (IntKind.i64.wrap (1 + s21)), .int .i64 (IntKind.i64.wrap ((IntKind.i64.wrap (Int.tmod (IntKind.u64.wrap ((gd Trip.zero a0 y9).Temperature)) 101)) - 50)), .int .i64 (IntKind.i64.wrap (Int.tmod (IntKind.u64.wrap ((gd Trip.zero a0 y9).Hysteresis)) 20))]) bt_24 hf rfl (.cons rfl (.cons rfl (.cons rfl .nil))) rfl⟩⟩) (.nil)), ?_⟩
            refine RW.one 26 (by kernel_rfl) (by kernel_rfl) rfl (fun d hd => by cases hd; rfl) [(40, .agg #[.int .i64 (IntKind.i64.wrap (1 + s21)), .int .i64 (IntKind.i64.wrap ((IntKind.i64.wrap (Int.tmod (IntKind.u64.wrap ((gd Trip.zero a0 y9).Temperature)) 101)) - 50)), .int .i64 (IntKind.i64.wrap (Int.tmod (IntKind.u64.wrap ((gd Trip.zero a0 y9).Hysteresis)) 20))])] ⟨rfl, trivial⟩ (fun a w hR hs hf => ⟨wanted_yes hf rfl, ?_⟩)
            refine estep_v (er_buildSlice (K := K_api_Trip) (xs := [(⟨(IntKind.i64.wrap (1 + s21)), (IntKind.i64.wrap ((IntKind.i64.wrap (Int.tmod (IntKind.u64.wrap ((gd Trip.zero a0 y9).Temperature)) 101)) - 50)), (IntKind.i64.wrap (Int.tmod (IntKind.u64.wrap ((gd Trip.zero a0 y9).Hysteresis)) 20))⟩ : Trip)]) hs Try.underlying22 ep_24 rfl rfl hf rfl (.cons rfl .nil) rfl rfl) (fun v22 w hs => ?_)
            refine ⟨[], [(26, v22), (7, .int .i64 (IntKind.i64.wrap (1 + s21))), (25, .agg #[.int .i64 (IntKind.i64.wrap (1 + s21)), .int .i64 (IntKind.i64.wrap ((IntKind.i64.wrap (Int.tmod (IntKind.u64.wrap ((gd Trip.zero a0 y9).Temperature)) 101)) - 50)), .int .i64 (IntKind.i64.wrap (Int.tmod (IntKind.u64.wrap ((gd Trip.zero a0 y9).Hysteresis)) 20))]), (6, .int .i64 s21), (0, v7), (1, v0), (2, .int .i64 y9), (3, .pointer (some (sla v0 (y9.toNat * 3)))), (4, .pointer (some (sla v0 (y9.toNat * 3 + 0)))), (5, .int .i64 ((gd Trip.zero a0 y9).Kind)), (8, v0), (9, .int .i64 y9), (10, .pointer (some (sla v0 (y9.toNat * 3)))), (11, .pointer (some (sla v0 (y9.toNat * 3 + 1)))), (12, .int .i64 ((gd Trip.zero a0 y9).Temperature)), (13, .int .u64 (IntKind.u64.wrap ((gd Trip.zero a0 y9).Temperature))), (14, .int .u64 (Int.tmod (IntKind.u64.wrap ((gd Trip.zero a0 y9).Temperature)) 101)), (15, .int .i64 (IntKind.i64.wrap (Int.tmod (IntKind.u64.wrap ((gd Trip.zero a0 y9).Temperature)) 101))), (16, .int .i64 (IntKind.i64.wrap ((IntKind.i64.wrap (Int.tmod (IntKind.u64.wrap ((gd Trip.zero a0 y9).Temperature)) 101)) - 50))), (17, v0), (18, .int .i64 y9), (19, .pointer (some (sla v0 (y9.toNat * 3)))), (20, .pointer (some (sla v0 (y9.toNat * 3 + 2)))), (21, .int .i64 ((gd Trip.zero a0 y9).Hysteresis)), (22, .int .u64 (IntKind.u64.wrap ((gd Trip.zero a0 y9).Hysteresis))), (23, .int .u64 (Int.tmod (IntKind.u64.wrap ((gd Trip.zero a0 y9).Hysteresis)) 20)), (24, .int .i64 (IntKind.i64.wrap (Int.tmod (IntKind.u64.wrap ((gd Trip.zero a0 y9).Hysteresis)) 20)))], [27], (fun _ => True), (fun w => St M w0 w [osl K_api_Trip v22 [(⟨(IntKind.i64.wrap (1 + s21)), (IntKind.i64.wrap ((IntKind.i64.wrap (Int.tmod (IntKind.u64.wrap ((gd Trip.zero a0 y9).Temperature)) 101)) - 50)), (IntKind.i64.wrap (Int.tmod (IntKind.u64.wrap ((gd Trip.zero a0 y9).Hysteresis)) 20))⟩ : Trip)], osl K_api_Trip v7 y8]), rfl, rfl, ⟨⟨hr.now hs (i := 0) rfl, trivial⟩, trivial⟩, trivial, hs, (by kernel_rfl), .nil, ?_⟩
            refine RW.one 27 (by kernel_rfl) (by kernel_rfl) rfl (fun d hd => by cases hd; rfl) [(15, v7), (41, v22)] ⟨rfl, rfl, trivial⟩ (fun a w hR hs hf => ⟨wanted_yes hf rfl, ?_⟩)
            refine estep_v (er_append (K := K_api_Trip) hs (.k (.c .nil)) (osl_rsl _ (hs.get (i := 0) rfl)) rfl Try.underlying22 ep_24 hc23 rfl hf rfl rfl) (fun v24 w hs => ?_)
            refine ⟨[], [(27, v24), (26, v22), (7, .int .i64 (IntKind.i64.wrap (1 + s21))), (25, .agg #[.int .i64 (IntKind.i64.wrap (1 + s21)), .int .i64 (IntKind.i64.wrap ((IntKind.i64.wrap (Int.tmod (IntKind.u64.wrap ((gd Trip.zero a0 y9).Temperature)) 101)) - 50)), .int .i64 (IntKind.i64.wrap (Int.tmod (IntKind.u64.wrap ((gd Trip.zero a0 y9).Hysteresis)) 20))]), (6, .int .i64 s21), (0, v7), (1, v0), (2, .int .i64 y9), (3, .pointer (some (sla v0 (y9.toNat * 3)))), (4, .pointer (some (sla v0 (y9.toNat * 3 + 0)))), (5, .int .i64 ((gd Trip.zero a0 y9).Kind)), (8, v0), (9, .int .i64 y9), (10, .pointer (some (sla v0 (y9.toNat * 3)))), (11, .pointer (some (sla v0 (y9.toNat * 3 + 1)))), (12, .int .i64 ((gd Trip.zero a0 y9).Temperature)), (13, .int .u64 (IntKind.u64.wrap ((gd Trip.zero a0 y9).Temperature))), (14, .int .u64 (Int.tmod (IntKind.u64.wrap ((gd Trip.zero a0 y9).Temperature)) 101)), (15, .int .i64 (IntKind.i64.wrap (Int.tmod (IntKind.u64.wrap ((gd Trip.zero a0 y9).Temperature)) 101))), (16, .int .i64 (IntKind.i64.wrap ((IntKind.i64.wrap (Int.tmod (IntKind.u64.wrap ((gd Trip.zero a0 y9).Temperature)) 101)) - 50))), (17, v0), (18, .int .i64 y9), (19, .pointer (some (sla v0 (y9.toNat * 3)))), (20, .pointer (some (sla v0 (y9.toNat * 3 + 2)))), (21, .int .i64 ((gd Trip.zero a0 y9).Hysteresis)), (22, .int .u64 (IntKind.u64.wrap ((gd Trip.zero a0 y9).Hysteresis))), (23, .int .u64 (Int.tmod (IntKind.u64.wrap ((gd Trip.zero a0 y9).Hysteresis)) 20)), (24, .int .i64 (IntKind.i64.wrap (Int.tmod (IntKind.u64.wrap ((gd Trip.zero a0 y9).Hysteresis)) 20)))], [], (fun _ => True), (fun w => St M w0 w [osl K_api_Trip v24 (y8 ++ [(⟨(IntKind.i64.wrap (1 + s21)), (IntKind.i64.wrap ((IntKind.i64.wrap (Int.tmod (IntKind.u64.wrap ((gd Trip.zero a0 y9).Temperature)) 101)) - 50)), (IntKind.i64.wrap (Int.tmod (IntKind.u64.wrap ((gd Trip.zero a0 y9).Hysteresis)) 20))⟩ : Trip)]), osl K_api_Trip v22 [(⟨(IntKind.i64.wrap (1 + s21)), (IntKind.i64.wrap ((IntKind.i64.wrap (Int.tmod (IntKind.u64.wrap ((gd Trip.zero a0 y9).Temperature)) 101)) - 50)), (IntKind.i64.wrap (Int.tmod (IntKind.u64.wrap ((gd Trip.zero a0 y9).Hysteresis)) 20))⟩ : Trip)]]), rfl, rfl, ⟨⟨⟨hr.now hs (i := 0) rfl, trivial⟩, trivial⟩, trivial⟩, trivial, hs, (by kernel_rfl), .nil, ?_⟩
            refine RW.zero (by kernel_rfl) (by kernel_rfl) [(0, v0), (3, v7), (4, .int .i64 y9), (42, v24)] ⟨rfl, rfl, rfl, rfl, trivial⟩ (fun a w hR hs hf => ?_)
            refine stq hf rfl rfl rfl (ex_assign hf rfl) (fun a hf => ?_)
            refine hK25 _ _ ?_
            refine hN19 _ _ ?_
            refine hN18 _ _ ?_
            refine region_k (fun K26 hK26 => ?_)
            refine stq hf rfl rfl rfl (ex_move hf rfl) (fun a hf => ?_)
            refine stq hf rfl rfl rfl (ex_add hf rfl rfl) (fun a hf => ?_)
            refine stq hf rfl rfl rfl (ex_assign hf rfl) (fun a hf => ?_)
            refine hK26 _ _ ?_
            replace hs := hs.keep (.k (.d .nil))
            exact hL11 k11 _ _ (Nat.lt_succ_self _) ⟨(y8 ++ [(⟨(IntKind.i64.wrap (1 + s21)), (IntKind.i64.wrap ((IntKind.i64.wrap (Int.tmod (IntKind.u64.wrap ((gd Trip.zero a0 y9).Temperature)) 101)) - 50)), (IntKind.i64.wrap (Int.tmod (IntKind.u64.wrap ((gd Trip.zero a0 y9).Hysteresis)) 20))⟩ : Trip)]), (IntKind.i64.wrap (y9 + 1)), v24, hf.sub ⟨rfl, rfl, rfl, trivial⟩, hs, H⟩
          · -- not x13 = true
            replace hf := hf.castB (t := 12) rfl (bool_f hc17)
            refine cond_F hf rfl ?_
            refine wp_exit ?_
            refine hX12 0 _ _ ?_
            refine hX11 0 _ _ ?_
            refine hX6 _ _ ?_
            have e3 := some_eq H; subst e3
            exact hJ3 _ _ ⟨v7, hf.sub ⟨rfl, trivial⟩, hs⟩
  · obtain ⟨v4, hf, hs⟩ := hJ
    replace H := HO3
    clear HO3
    refine seq_reg (fun K27 hK27 => ?_)
    refine stq hf rfl rfl rfl (ex_move hf rfl) (fun a hf => ?_)
    refine stq hf rfl rfl rfl (ex_assign hf rfl) (fun a hf => ?_)
    refine hK27 _ _ ?_
    refine wp_ret ?_
    have eR := some_eq H; subst eR
    exact ret1 Try.results11 hf rfl ⟨_, rfl, ⟨v4, rfl, hs⟩⟩

set_option maxRecDepth 100000 in
theorem ref39_CheckTrips.calls {M : Nat → Prop} {w0 : World} (k : Nat) (a0 : (List Trip)) (v0 : Value) {r : Int} (hs : St M w0 w0 []) (hr : Sr M w0 [rsl K_api_Trip v0 a0])
    (h : ref39_CheckTrips.f k a0 = some r) : Calls Try.prog 16 #[v0] w0 fun e w => ∃ v, e = .returned v ∧ (.int .i64 r = v ∧ St M w0 w []) := by
  have H := (ref39_CheckTrips.f.eq_1 ..).symm.trans h
  clear h
  refine enter Try.func16 rfl Try.ntmps16 rfl (fun a hf => ?_)
  refine seq_reg (fun K1 hK1 => ?_)
  refine stq hf rfl rfl rfl (ex_assign hf rfl) (fun a hf => ?_)
  refine hK1 _ _ ?_
  refine seq_n (fun Q2 hN2 hR2 hX2 => ?_)
  refine seq_reg (fun K3 hK3 => ?_)
  refine stq hf rfl rfl rfl (ex_move hf rfl) (fun a hf => ?_)
  refine stq hf rfl rfl rfl (ex_lenS Try.underlying22 (rsl_isSl (hr.now hs (i := 0) rfl)) hf rfl) (fun a hf => ?_)
  refine stq hf rfl rfl rfl (ex_gtr hf rfl rfl) (fun a hf => ?_)
  refine hK3 _ _ ?_
  refine itt H (fun hc4 H => ?_) (fun hc4 H => ?_)
  · -- 12 < (a0.length : Int)
    replace hf := hf.castB (t := 7) rfl (dec_t hc4)
    refine cond_T hf rfl ?_
    refine seq_reg (fun K5 hK5 => ?_)
    refine stq hf rfl rfl rfl (ex_assign hf rfl) (fun a hf => ?_)
    refine hK5 _ _ ?_
    refine wp_ret ?_
    refine hR2 _ _ ?_
    have eR := some_eq H; subst eR
    exact ret1 Try.results16 hf rfl ⟨_, rfl, ⟨rfl, hs⟩⟩
  · -- not 12 < (a0.length : Int)
    replace hf := hf.castB (t := 7) rfl (dec_f hc4)
    refine cond_F hf rfl ?_
    refine wp_skip ?_
    refine hN2 _ _ ?_
    refine bnd H (fun x6 H6 HO6 => ?_)
    clear H
    refine seq_cut (fun a w => ∃ (x6s : Unit), x6 = .go x6s ∧ Fr a 46 [] ∧ St M w0 w []) (fun Q6 hJ6 hR6 hX6 => ?_) (fun a w hJ => ?_)
    · replace H := H6
      refine seq_reg (fun K7 hK7 => ?_)
      refine stq hf rfl rfl rfl (ex_assign hf rfl) (fun a hf => ?_)
      refine hK7 _ _ ?_
      refine block_k (fun Q8 hN8 hR8 hX8 hY8 => ?_)
      refine loop_k (fun n a w => ∃ (y9 : Int), Fr a 46 [(0, v0), (3, .int .i64 y9)] ∧ St M w0 w [] ∧ ref39_CheckTrips.l1 n a0 y9 = some x6) k ?_ (fun n11 a w hI Q11 hL11 hR11 hX11 => ?_)
      · -- at the start
        exact ⟨0, hf.sub ⟨rfl, rfl, trivial⟩, hs, H⟩
      · obtain ⟨y9, hf, hs, H⟩ := hI
        cases n11 with
        | zero => exact absurd H (by rw [ref39_CheckTrips.l1.eq_1]; intro h; cases h)
        | succ k11 =>
          replace H := (ref39_CheckTrips.l1.eq_2 ..).symm.trans H
          refine seq_n (fun Q12 hN12 hR12 hX12 => ?_)
          refine seq_reg (fun K13 hK13 => ?_)
          refine stq hf rfl rfl rfl (ex_move hf rfl) (fun a hf => ?_)
          refine stq hf rfl rfl rfl (ex_move hf rfl) (fun a hf => ?_)
          refine stq hf rfl rfl rfl (ex_lenS Try.underlying22 (rsl_isSl (hr.now hs (i := 0) rfl)) hf rfl) (fun a hf => ?_)
          refine stq hf rfl rfl rfl (ex_lss hf rfl rfl) (fun a hf => ?_)
          refine hK13 _ _ ?_
          refine itt H (fun hc14 H => ?_) (fun hc14 H => ?_)
          · -- y9 < (a0.length : Int)
            replace hf := hf.castB (t := 11) rfl (dec_t hc14)
            refine cond_T hf rfl ?_
            refine wp_skip ?_
            refine hN12 _ _ ?_
            refine seq_n (fun Q15 hN15 hR15 hX15 => ?_)
            refine block_k (fun Q16 hN16 hR16 hX16 hY16 => ?_)
            refine ck_some H (fun hc17 H => ?_)
            refine seq_reg (fun K19 hK19 => ?_)
            refine stq hf rfl rfl rfl (ex_move hf rfl) (fun a hf => ?_)
            refine stq hf rfl rfl rfl (ex_move hf rfl) (fun a hf => ?_)
            refine stq hf rfl rfl rfl (ex_indexAddr sa_22 (rsl_isSl (hr.now hs (i := 0) rfl)) hc17.1 hc17.2 hf rfl rfl) (fun a hf => ?_)
            refine stq hf rfl rfl rfl (ex_loadA (cs := [.int .i64 ((gd Trip.zero a0 y9).Kind), .int .i64 ((gd Trip.zero a0 y9).Temperature), .int .i64 ((gd Trip.zero a0 y9).Hysteresis)]) ag_24 hf rfl (el_cells (K := K_api_Trip) (rsl_rd (hr.now hs (i := 0) rfl)) hc17.1 hc17.2 rfl)) (fun a hf => ?_)
            refine stepV hf rfl rfl rfl (er_alloc hs ti_24 (cs := [.int .i64 0, .int .i64 0, .int .i64 0]) rfl) (fun v w hR a hf => ?_)
            obtain ⟨b18, rfl, hs⟩ := hR
            refine stepS hf rfl rfl (er_storeAB (vs := [.int .i64 ((gd Trip.zero a0 y9).Kind), .int .i64 ((gd Trip.zero a0 y9).Temperature), .int .i64 ((gd Trip.zero a0 y9).Hysteresis)]) (cs' := [.int .i64 ((gd Trip.zero a0 y9).Kind), .int .i64 ((gd Trip.zero a0 y9).Temperature), .int .i64 ((gd Trip.zero a0 y9).Hysteresis)]) hs (.c .nil) sz_24 hf rfl rfl (all1 rfl (all1 rfl (all1 rfl (all1_nil)))) rfl rfl) (fun w hs => ?_)
            refine hK19 _ _ ?_
            refine bnd H (fun x20 H20 HO20 => ?_)
            clear H
            refine seq_cut (fun a w => Fr a 46 [(0, v0), (3, .int .i64 y9), (45, .bool x20)] ∧ St M w0 w []) (fun Q20 hJ20 hR20 hX20 => ?_) (fun a w hJ => ?_)
            · replace H := H20
              refine itt H (fun hc21 H => ?_) (fun hc21 H => ?_)
              · -- ((gd Trip.zero a0 y9).Kind) < 1
                refine region_k (fun K22 hK22 => ?_)
                refine stq hf rfl rfl rfl (ex_fieldAddrB fa_24_0 rfl hf rfl) (fun a hf => ?_)
                refine stq hf rfl rfl rfl (ex_load sc_3 hf rfl (bx_cell (hs.get (i := 0) rfl) _ rfl)) (fun a hf => ?_)
                refine stq hf rfl rfl rfl (ex_lss hf rfl rfl) (fun a hf => ?_)
                refine stq hf rfl rfl rfl (ex_move hf rfl) (fun a hf => ?_)
                replace hf := hf.castB (t := 20) rfl (dec_t hc21)
                replace hf := hf.castB (t := 21) rfl (dec_t hc21)
                refine stepN hf rfl rfl rfl (fun a hf => ?_)
                refine stepN hf rfl rfl rfl (fun a hf => ?_)
                refine stepN hf rfl rfl rfl (fun a hf => ?_)
                refine stq hf rfl rfl rfl (ex_pickT hf rfl rfl) (fun a hf => ?_)
                refine stq hf rfl rfl rfl (ex_move hf rfl) (fun a hf => ?_)
                refine stepN hf rfl rfl rfl (fun a hf => ?_)
                refine stepN hf rfl rfl rfl (fun a hf => ?_)
                refine stepN hf rfl rfl rfl (fun a hf => ?_)
                refine stq hf rfl rfl rfl (ex_pickT hf rfl rfl) (fun a hf => ?_)
                refine stq hf rfl rfl rfl (ex_move hf rfl) (fun a hf => ?_)
                refine stepN hf rfl rfl rfl (fun a hf => ?_)
                refine stepN hf rfl rfl rfl (fun a hf => ?_)
                refine stepN hf rfl rfl rfl (fun a hf => ?_)
                refine stq hf rfl rfl rfl (ex_pickT hf rfl rfl) (fun a hf => ?_)
                refine stq hf rfl rfl rfl (ex_move hf rfl) (fun a hf => ?_)
                refine stepN hf rfl rfl rfl (fun a hf => ?_)
                refine stepN hf rfl rfl rfl (fun a hf => ?_)
                refine stepN hf rfl rfl rfl (fun a hf => ?_)
                refine stq hf rfl rfl rfl (ex_pickT hf rfl rfl) (fun a hf => ?_)
                refine stq hf rfl rfl rfl (ex_move hf rfl) (fun a hf => ?_)
                refine stepN hf rfl rfl rfl (fun a hf => ?_)
                refine stepN hf rfl rfl rfl (fun a hf => ?_)
                refine stepN hf rfl rfl rfl (fun a hf => ?_)
                refine stq hf rfl rfl rfl (ex_pickT hf rfl rfl) (fun a hf => ?_)
                refine hK22 _ _ ?_
                replace hs := hs.keep (.d .nil)
                have e20 := some_eq H; subst e20
                exact hJ20 _ _ ⟨hf.sub ⟨rfl, rfl, rfl, trivial⟩, hs⟩
              · -- not ((gd Trip.zero a0 y9).Kind) < 1
                refine itt H (fun hc23 H => ?_) (fun hc23 H => ?_)
                · -- 3 < ((gd Trip.zero a0 y9).Kind)
                  refine region_k (fun K24 hK24 => ?_)
                  refine stq hf rfl rfl rfl (ex_fieldAddrB fa_24_0 rfl hf rfl) (fun a hf => ?_)
                  refine stq hf rfl rfl rfl (ex_load sc_3 hf rfl (bx_cell (hs.get (i := 0) rfl) _ rfl)) (fun a hf => ?_)
                  refine stq hf rfl rfl rfl (ex_lss hf rfl rfl) (fun a hf => ?_)
                  refine stq hf rfl rfl rfl (ex_move hf rfl) (fun a hf => ?_)
                  replace hf := hf.castB (t := 20) rfl (dec_f hc21)
                  replace hf := hf.castB (t := 21) rfl (dec_f hc21)
                  refine stq hf rfl rfl rfl (ex_fieldAddrB fa_24_0 rfl hf rfl) (fun a hf => ?_)
                  refine stq hf rfl rfl rfl (ex_load sc_3 hf rfl (bx_cell (hs.get (i := 0) rfl) _ rfl)) (fun a hf => ?_)
                  refine stq hf rfl rfl rfl (ex_gtr hf rfl rfl) (fun a hf => ?_)
                  refine stq hf rfl rfl rfl (ex_pickF hf rfl rfl) (fun a hf => ?_)
                  refine stq hf rfl rfl rfl (ex_move hf rfl) (fun a hf => ?_)
                  replace hf := hf.castB (t := 24) rfl (dec_t hc23)
                  replace hf := hf.castB (t := 25) rfl (dec_t hc23)
                  replace hf := hf.castB (t := 26) rfl (dec_t hc23)
                  refine stepN hf rfl rfl rfl (fun a hf => ?_)
                  refine stepN hf rfl rfl rfl (fun a hf => ?_)
                  refine stepN hf rfl rfl rfl (fun a hf => ?_)
                  refine stq hf rfl rfl rfl (ex_pickT hf rfl rfl) (fun a hf => ?_)
                  refine stq hf rfl rfl rfl (ex_move hf rfl) (fun a hf => ?_)
                  refine stepN hf rfl rfl rfl (fun a hf => ?_)
                  refine stepN hf rfl rfl rfl (fun a hf => ?_)
                  refine stepN hf rfl rfl rfl (fun a hf => ?_)
                  refine stq hf rfl rfl rfl (ex_pickT hf rfl rfl) (fun a hf => ?_)
                  refine stq hf rfl rfl rfl (ex_move hf rfl) (fun a hf => ?_)
                  refine stepN hf rfl rfl rfl (fun a hf => ?_)
                  refine stepN hf rfl rfl rfl (fun a hf => ?_)
                  refine stepN hf rfl rfl rfl (fun a hf => ?_)
                  refine stq hf rfl rfl rfl (ex_pickT hf rfl rfl) (fun a hf => ?_)
                  refine stq hf rfl rfl rfl (ex_move hf rfl) (fun a hf => ?_)
                  refine stepN hf rfl rfl rfl (fun a hf => ?_)
                  refine stepN hf rfl rfl rfl (fun a hf => ?_)
                  refine stepN hf rfl rfl rfl (fun a hf => ?_)
                  refine stq hf rfl rfl rfl (ex_pickT hf rfl rfl) (fun a hf => ?_)
                  refine hK24 _ _ ?_
                  replace hs := hs.keep (.d .nil)
                  have e20 := some_eq H; subst e20
                  exact hJ20 _ _ ⟨hf.sub ⟨rfl, rfl, rfl, trivial⟩, hs⟩
                · -- not 3 < ((gd Trip.zero a0 y9).Kind)
                  refine itt H (fun hc25 H => ?_) (fun hc25 H => ?_)
                  · -- ((gd Trip.zero a0 y9).Temperature) < (-67108864)
                    refine region_k (fun K26 hK26 => ?_)
                    refine stq hf rfl rfl rfl (ex_fieldAddrB fa_24_0 rfl hf rfl) (fun a hf => ?_)
                    refine stq hf rfl rfl rfl (ex_load sc_3 hf rfl (bx_cell (hs.get (i := 0) rfl) _ rfl)) (fun a hf => ?_)
                    refine stq hf rfl rfl rfl (ex_lss hf rfl rfl) (fun a hf => ?_)
                    refine stq hf rfl rfl rfl (ex_move hf rfl) (fun a hf => ?_)
                    replace hf := hf.castB (t := 20) rfl (dec_f hc21)
                    replace hf := hf.castB (t := 21) rfl (dec_f hc21)
                    refine stq hf rfl rfl rfl (ex_fieldAddrB fa_24_0 rfl hf rfl) (fun a hf => ?_)
                    refine stq hf rfl rfl rfl (ex_load sc_3 hf rfl (bx_cell (hs.get (i := 0) rfl) _ rfl)) (fun a hf => ?_)
                    refine stq hf rfl rfl rfl (ex_gtr hf rfl rfl) (fun a hf => ?_)
                    refine stq hf rfl rfl rfl (ex_pickF hf rfl rfl) (fun a hf => ?_)
                    refine stq hf rfl rfl rfl (ex_move hf rfl) (fun a hf => ?_)
                    replace hf := hf.castB (t := 24) rfl (dec_f hc23)
                    replace hf := hf.castB (t := 25) rfl (dec_f hc23)
                    replace hf := hf.castB (t := 26) rfl (dec_f hc23)
                    refine stq hf rfl rfl rfl (ex_fieldAddrB fa_24_1 rfl hf rfl) (fun a hf => ?_)
                    refine stq hf rfl rfl rfl (ex_load sc_2 hf rfl (bx_cell (hs.get (i := 0) rfl) _ rfl)) (fun a hf => ?_)
                    refine stq hf rfl rfl rfl (ex_lss hf rfl rfl) (fun a hf => ?_)
                    refine stq hf rfl rfl rfl (ex_pickF hf rfl rfl) (fun a hf => ?_)
                    refine stq hf rfl rfl rfl (ex_move hf rfl) (fun a hf => ?_)
                    replace hf := hf.castB (t := 29) rfl (dec_t hc25)
                    replace hf := hf.castB (t := 30) rfl (dec_t hc25)
                    replace hf := hf.castB (t := 31) rfl (dec_t hc25)
                    refine stepN hf rfl rfl rfl (fun a hf => ?_)
                    refine stepN hf rfl rfl rfl (fun a hf => ?_)
                    refine stepN hf rfl rfl rfl (fun a hf => ?_)
                    refine stq hf rfl rfl rfl (ex_pickT hf rfl rfl) (fun a hf => ?_)
                    refine stq hf rfl rfl rfl (ex_move hf rfl) (fun a hf => ?_)
                    refine stepN hf rfl rfl rfl (fun a hf => ?_)
                    refine stepN hf rfl rfl rfl (fun a hf => ?_)
                    refine stepN hf rfl rfl rfl (fun a hf => ?_)
                    refine stq hf rfl rfl rfl (ex_pickT hf rfl rfl) (fun a hf => ?_)
                    refine stq hf rfl rfl rfl (ex_move hf rfl) (fun a hf => ?_)
                    refine stepN hf rfl rfl rfl (fun a hf => ?_)
                    refine stepN hf rfl rfl rfl (fun a hf => ?_)
                    refine stepN hf rfl rfl rfl (fun a hf => ?_)
                    refine stq hf rfl rfl rfl (ex_pickT hf rfl rfl) (fun a hf => ?_)
                    refine hK26 _ _ ?_
                    replace hs := hs.keep (.d .nil)
                    have e20 := some_eq H; subst e20
                    exact hJ20 _ _ ⟨hf.sub ⟨rfl, rfl, rfl, trivial⟩, hs⟩
                  · -- not ((gd Trip.zero a0 y9).Temperature) < (-67108864)
                    refine itt H (fun hc27 H => ?_) (fun hc27 H => ?_)
                    · -- 67108864 < ((gd Trip.zero a0 y9).Temperature)
                      refine region_k (fun K28 hK28 => ?_)
                      refine stq hf rfl rfl rfl (ex_fieldAddrB fa_24_0 rfl hf rfl) (fun a hf => ?_)
                      refine stq hf rfl rfl rfl (ex_load sc_3 hf rfl (bx_cell (hs.get (i := 0) rfl) _ rfl)) (fun a hf => ?_)
                      refine stq hf rfl rfl rfl (ex_lss hf rfl rfl) (fun a hf => ?_)
                      refine stq hf rfl rfl rfl (ex_move hf rfl) (fun a hf => ?_)
                      replace hf := hf.castB (t := 20) rfl (dec_f hc21)
                      replace hf := hf.castB (t := 21) rfl (dec_f hc21)
                      refine stq hf rfl rfl rfl (ex_fieldAddrB fa_24_0 rfl hf rfl) (fun a hf => ?_)
                      refine stq hf rfl rfl rfl (ex_load sc_3 hf rfl (bx_cell (hs.get (i := 0) rfl) _ rfl)) (fun a hf => ?_)
                      refine stq hf rfl rfl rfl (ex_gtr hf rfl rfl) (fun a hf => ?_)
                      refine stq hf rfl rfl rfl (ex_pickF hf rfl rfl) (fun a hf => ?_)
                      refine stq hf rfl rfl rfl (ex_move hf rfl) (fun a hf => ?_)
                      replace hf := hf.castB (t := 24) rfl (dec_f hc23)
                      replace hf := hf.castB (t := 25) rfl (dec_f hc23)
                      replace hf := hf.castB (t := 26) rfl (dec_f hc23)
                      refine stq hf rfl rfl rfl (ex_fieldAddrB fa_24_1 rfl hf rfl) (fun a hf => ?_)
                      refine stq hf rfl rfl rfl (ex_load sc_2 hf rfl (bx_cell (hs.get (i := 0) rfl) _ rfl)) (fun a hf => ?_)
                      refine stq hf rfl rfl rfl (ex_lss hf rfl rfl) (fun a hf => ?_)
                      refine stq hf rfl rfl rfl (ex_pickF hf rfl rfl) (fun a hf => ?_)
                      refine stq hf rfl rfl rfl (ex_move hf rfl) (fun a hf => ?_)
                      replace hf := hf.castB (t := 29) rfl (dec_f hc25)
                      replace hf := hf.castB (t := 30) rfl (dec_f hc25)
                      replace hf := hf.castB (t := 31) rfl (dec_f hc25)
                      refine stq hf rfl rfl rfl (ex_fieldAddrB fa_24_1 rfl hf rfl) (fun a hf => ?_)
                      refine stq hf rfl rfl rfl (ex_load sc_2 hf rfl (bx_cell (hs.get (i := 0) rfl) _ rfl)) (fun a hf => ?_)
                      refine stq hf rfl rfl rfl (ex_gtr hf rfl rfl) (fun a hf => ?_)
                      refine stq hf rfl rfl rfl (ex_pickF hf rfl rfl) (fun a hf => ?_)
                      refine stq hf rfl rfl rfl (ex_move hf rfl) (fun a hf => ?_)
                      replace hf := hf.castB (t := 34) rfl (dec_t hc27)
                      replace hf := hf.castB (t := 35) rfl (dec_t hc27)
                      replace hf := hf.castB (t := 36) rfl (dec_t hc27)
                      refine stepN hf rfl rfl rfl (fun a hf => ?_)
                      refine stepN hf rfl rfl rfl (fun a hf => ?_)
                      refine stepN hf rfl rfl rfl (fun a hf => ?_)
                      refine stq hf rfl rfl rfl (ex_pickT hf rfl rfl) (fun a hf => ?_)
                      refine stq hf rfl rfl rfl (ex_move hf rfl) (fun a hf => ?_)
                      refine stepN hf rfl rfl rfl (fun a hf => ?_)
                      refine stepN hf rfl rfl rfl (fun a hf => ?_)
                      refine stepN hf rfl rfl rfl (fun a hf => ?_)
                      refine stq hf rfl rfl rfl (ex_pickT hf rfl rfl) (fun a hf => ?_)
                      refine hK28 _ _ ?_
                      replace hs := hs.keep (.d .nil)
                      have e20 := some_eq H; subst e20
                      exact hJ20 _ _ ⟨hf.sub ⟨rfl, rfl, rfl, trivial⟩, hs⟩
                    · -- not 67108864 < ((gd Trip.zero a0 y9).Temperature)
                      refine itt H (fun hc29 H => ?_) (fun hc29 H => ?_)
                      · -- ((gd Trip.zero a0 y9).Hysteresis) < 0
                        refine region_k (fun K30 hK30 => ?_)
                        refine stq hf rfl rfl rfl (ex_fieldAddrB fa_24_0 rfl hf rfl) (fun a hf => ?_)
                        refine stq hf rfl rfl rfl (ex_load sc_3 hf rfl (bx_cell (hs.get (i := 0) rfl) _ rfl)) (fun a hf => ?_)
                        refine stq hf rfl rfl rfl (ex_lss hf rfl rfl) (fun a hf => ?_)
                        refine stq hf rfl rfl rfl (ex_move hf rfl) (fun a hf => ?_)
                        replace hf := hf.castB (t := 20) rfl (dec_f hc21)
                        replace hf := hf.castB (t := 21) rfl (dec_f hc21)
                        refine stq hf rfl rfl rfl (ex_fieldAddrB fa_24_0 rfl hf rfl) (fun a hf => ?_)
                        refine stq hf rfl rfl rfl (ex_load sc_3 hf rfl (bx_cell (hs.get (i := 0) rfl) _ rfl)) (fun a hf => ?_)
                        refine stq hf rfl rfl rfl (ex_gtr hf rfl rfl) (fun a hf => ?_)
                        refine stq hf rfl rfl rfl (ex_pickF hf rfl rfl) (fun a hf => ?_)
                        refine stq hf rfl rfl rfl (ex_move hf rfl) (fun a hf => ?_)
                        replace hf := hf.castB (t := 24) rfl (dec_f hc23)
                        replace hf := hf.castB (t := 25) rfl (dec_f hc23)
                        replace hf := hf.castB (t := 26) rfl (dec_f hc23)
                        refine stq hf rfl rfl rfl (ex_fieldAddrB fa_24_1 rfl hf rfl) (fun a hf => ?_)
                        refine stq hf rfl rfl rfl (ex_load sc_2 hf rfl (bx_cell (hs.get (i := 0) rfl) _ rfl)) (fun a hf => ?_)
                        refine stq hf rfl rfl rfl (ex_lss hf rfl rfl) (fun a hf => ?_)
                        refine stq hf rfl rfl rfl (ex_pickF hf rfl rfl) (fun a hf => ?_)
                        refine stq hf rfl rfl rfl (ex_move hf rfl) (fun a hf => ?_)
                        replace hf := hf.castB (t := 29) rfl (dec_f hc25)
                        replace hf := hf.castB (t := 30) rfl (dec_f hc25)
                        replace hf := hf.castB (t := 31) rfl (dec_f hc25)
                        refine stq hf rfl rfl rfl (ex_fieldAddrB fa_24_1 rfl hf rfl) (fun a hf => ?_)
                        refine stq hf rfl rfl rfl (ex_load sc_2 hf rfl (bx_cell (hs.get (i := 0) rfl) _ rfl)) (fun a hf => ?_)
                        refine stq hf rfl rfl rfl (ex_gtr hf rfl rfl) (fun a hf => ?_)
                        refine stq hf rfl rfl rfl (ex_pickF hf rfl rfl) (fun a hf => ?_)
                        refine stq hf rfl rfl rfl (ex_move hf rfl) (fun a hf => ?_)
                        replace hf := hf.castB (t := 34) rfl (dec_f hc27)
                        replace hf := hf.castB (t := 35) rfl (dec_f hc27)
                        replace hf := hf.castB (t := 36) rfl (dec_f hc27)
                        refine stq hf rfl rfl rfl (ex_fieldAddrB fa_24_2 rfl hf rfl) (fun a hf => ?_)
                        refine stq hf rfl rfl rfl (ex_load sc_2 hf rfl (bx_cell (hs.get (i := 0) rfl) _ rfl)) (fun a hf => ?_)
                        refine stq hf rfl rfl rfl (ex_lss hf rfl rfl) (fun a hf => ?_)
                        refine stq hf rfl rfl rfl (ex_pickF hf rfl rfl) (fun a hf => ?_)
                        refine stq hf rfl rfl rfl (ex_move hf rfl) (fun a hf => ?_)
                        replace hf := hf.castB (t := 39) rfl (dec_t hc29)
                        replace hf := hf.castB (t := 40) rfl (dec_t hc29)
                        replace hf := hf.castB (t := 41) rfl (dec_t hc29)
                        refine stepN hf rfl rfl rfl (fun a hf => ?_)
                        refine stepN hf rfl rfl rfl (fun a hf => ?_)
                        refine stepN hf rfl rfl rfl (fun a hf => ?_)
                        refine stq hf rfl rfl rfl (ex_pickT hf rfl rfl) (fun a hf => ?_)
                        refine hK30 _ _ ?_
                        replace hs := hs.keep (.d .nil)
                        have e20 := some_eq H; subst e20
                        exact hJ20 _ _ ⟨hf.sub ⟨rfl, rfl, rfl, trivial⟩, hs⟩
                      · -- not ((gd Trip.zero a0 y9).Hysteresis) < 0
                        refine region_k (fun K31 hK31 => ?_)
                        refine stq hf rfl rfl rfl (ex_fieldAddrB fa_24_0 rfl hf rfl) (fun a hf => ?_)
                        refine stq hf rfl rfl rfl (ex_load sc_3 hf rfl (bx_cell (hs.get (i := 0) rfl) _ rfl)) (fun a hf => ?_)
                        refine stq hf rfl rfl rfl (ex_lss hf rfl rfl) (fun a hf => ?_)
                        refine stq hf rfl rfl rfl (ex_move hf rfl) (fun a hf => ?_)
                        replace hf := hf.castB (t := 20) rfl (dec_f hc21)
                        replace hf := hf.castB (t := 21) rfl (dec_f hc21)
                        refine stq hf rfl rfl rfl (ex_fieldAddrB fa_24_0 rfl hf rfl) (fun a hf => ?_)
                        refine stq hf rfl rfl rfl (ex_load sc_3 hf rfl (bx_cell (hs.get (i := 0) rfl) _ rfl)) (fun a hf => ?_)
                        refine stq hf rfl rfl rfl (ex_gtr hf rfl rfl) (fun a hf => ?_)
                        refine stq hf rfl rfl rfl (ex_pickF hf rfl rfl) (fun a hf => ?_)
                        refine stq hf rfl rfl rfl (ex_move hf rfl) (fun a hf => ?_)
                        replace hf := hf.castB (t := 24) rfl (dec_f hc23)
                        replace hf := hf.castB (t := 25) rfl (dec_f hc23)
                        replace hf := hf.castB (t := 26) rfl (dec_f hc23)
                        refine stq hf rfl rfl rfl (ex_fieldAddrB fa_24_1 rfl hf rfl) (fun a hf => ?_)
                        refine stq hf rfl rfl rfl (ex_load sc_2 hf rfl (bx_cell (hs.get (i := 0) rfl) _ rfl)) (fun a hf => ?_)
                        refine stq hf rfl rfl rfl (ex_lss hf rfl rfl) (fun a hf => ?_)
                        refine stq hf rfl rfl rfl (ex_pickF hf rfl rfl) (fun a hf => ?_)
                        refine stq hf rfl rfl rfl (ex_move hf rfl) (fun a hf => ?_)
                        replace hf := hf.castB (t := 29) rfl (dec_f hc25)
                        replace hf := hf.castB (t := 30) rfl (dec_f hc25)
                        replace hf := hf.castB (t := 31) rfl (dec_f hc25)
                        refine stq hf rfl rfl rfl (ex_fieldAddrB fa_24_1 rfl hf rfl) (fun a hf => ?_)
                        refine stq hf rfl rfl rfl (ex_load sc_2 hf rfl (bx_cell (hs.get (i := 0) rfl) _ rfl)) (fun a hf => ?_)
                        refine stq hf rfl rfl rfl (ex_gtr hf rfl rfl) (fun a hf => ?_)
                        refine stq hf rfl rfl rfl (ex_pickF hf rfl rfl) (fun a hf => ?_)
                        refine stq hf rfl rfl rfl (ex_move hf rfl) (fun a hf => ?_)
                        replace hf := hf.castB (t := 34) rfl (dec_f hc27)
                        replace hf := hf.castB (t := 35) rfl (dec_f hc27)
                        replace hf := hf.castB (t := 36) rfl (dec_f hc27)
                        refine stq hf rfl rfl rfl (ex_fieldAddrB fa_24_2 rfl hf rfl) (fun a hf => ?_)
                        refine stq hf rfl rfl rfl (ex_load sc_2 hf rfl (bx_cell (hs.get (i := 0) rfl) _ rfl)) (fun a hf => ?_)
                        refine stq hf rfl rfl rfl (ex_lss hf rfl rfl) (fun a hf => ?_)
                        refine stq hf rfl rfl rfl (ex_pickF hf rfl rfl) (fun a hf => ?_)
                        refine stq hf rfl rfl rfl (ex_move hf rfl) (fun a hf => ?_)
                        replace hf := hf.castB (t := 39) rfl (dec_f hc29)
                        replace hf := hf.castB (t := 40) rfl (dec_f hc29)
                        replace hf := hf.castB (t := 41) rfl (dec_f hc29)
                        refine stq hf rfl rfl rfl (ex_fieldAddrB fa_24_2 rfl hf rfl) (fun a hf => ?_)
                        refine stq hf rfl rfl rfl (ex_load sc_2 hf rfl (bx_cell (hs.get (i := 0) rfl) _ rfl)) (fun a hf => ?_)
                        refine stq hf rfl rfl rfl (ex_gtr hf rfl rfl) (fun a hf => ?_)
                        refine stq hf rfl rfl rfl (ex_pickF hf rfl rfl) (fun a hf => ?_)
                        refine hK31 _ _ ?_
                        replace hs := hs.keep (.d .nil)
                        have e20 := some_eq H; subst e20
                        exact hJ20 _ _ ⟨hf.sub ⟨rfl, rfl, rfl, trivial⟩, hs⟩
            · obtain ⟨hf, hs⟩ := hJ
              replace H := HO20
              clear HO20
              refine itt H (fun hc32 H => ?_) (fun hc32 H => ?_)
              · -- x20 = true
                replace hf := hf.castB (t := 45) rfl hc32
                refine cond_T hf rfl ?_
                refine seq_reg (fun K33 hK33 => ?_)
                refine stq hf rfl rfl rfl (ex_assign hf rfl) (fun a hf => ?_)
                refine hK33 _ _ ?_
                refine wp_ret ?_
                refine hR16 _ _ ?_
                refine hR15 _ _ ?_
                refine hR11 _ _ ?_
                refine hR8 _ _ ?_
                have e6 := some_eq H; subst e6; replace H := el_rt HO6
                refine hR6 _ _ ?_
                have eR := some_eq H; subst eR
                exact ret1 Try.results16 hf rfl ⟨_, rfl, ⟨rfl, hs⟩⟩
              · -- not x20 = true
                replace hf := hf.castB (t := 45) rfl (bool_f hc32)
                refine cond_F hf rfl ?_
                refine wp_skip ?_
                refine hN16 _ _ ?_
                refine hN15 _ _ ?_
                refine region_k (fun K34 hK34 => ?_)
                refine stq hf rfl rfl rfl (ex_move hf rfl) (fun a hf => ?_)
                refine stq hf rfl rfl rfl (ex_add hf rfl rfl) (fun a hf => ?_)
                refine stq hf rfl rfl rfl (ex_assign hf rfl) (fun a hf => ?_)
                refine hK34 _ _ ?_
                exact hL11 k11 _ _ (Nat.lt_succ_self _) ⟨(IntKind.i64.wrap (y9 + 1)), hf.sub ⟨rfl, rfl, trivial⟩, hs, H⟩
          · -- not y9 < (a0.length : Int)
            replace hf := hf.castB (t := 11) rfl (dec_f hc14)
            refine cond_F hf rfl ?_
            refine wp_exit ?_
            refine hX12 0 _ _ ?_
            refine hX11 0 _ _ ?_
            refine hX8 _ _ ?_
            have e6 := some_eq H; subst e6
            exact hJ6 _ _ ⟨_, rfl, hf.sub trivial, hs⟩
    · obtain ⟨x6s, rfl, hf, hs⟩ := hJ
      replace H := el_go HO6
      clear HO6
      refine seq_reg (fun K35 hK35 => ?_)
      refine stq hf rfl rfl rfl (ex_assign hf rfl) (fun a hf => ?_)
      refine hK35 _ _ ?_
      refine wp_ret ?_
      have eR := some_eq H; subst eR
      exact ret1 Try.results16 hf rfl ⟨_, rfl, ⟨rfl, hs⟩⟩

set_option maxRecDepth 100000 in
theorem ref39_NewZone.calls {M : Nat → Prop} {w0 : World} (k : Nat) (a0 : (List Trip)) (a1 : Int) (v0 : Value) {r : (Option ((List Bool) × Int × Int)) × Int} (hs : St M w0 w0 []) (hr : Sr M w0 [rsl K_api_Trip v0 a0])
    (h : ref39_NewZone.f k a0 a1 = some r) : Calls Try.prog 14 #[v0, .int .i64 a1] w0 fun e w => ∃ v, e = .returned v ∧ ((r.1 = none ∧ .tuple #[.pointer none, .int .i64 r.2] = v ∧ St M w0 w []) ∨ (∃ c, r.1 = some c ∧ ∃ (g0 : Nat) (g1 : Value), .tuple #[.pointer (some ⟨g0, 0, none⟩), .int .i64 r.2] = v ∧ St M w0 w [bx g0 64 [v0, g1, .int .i64 c.2.1, .int .i64 c.2.2], osl K_bool g1 c.1])) := by
  have H := (ref39_NewZone.f.eq_1 ..).symm.trans h
  clear h
  refine enter Try.func14 rfl Try.ntmps14 rfl (fun a hf => ?_)
  refine seq_reg (fun K1 hK1 => ?_)
  refine stq hf rfl rfl rfl (ex_assign hf rfl) (fun a hf => ?_)
  refine stq hf rfl rfl rfl (ex_assign hf rfl) (fun a hf => ?_)
  refine hK1 _ _ ?_
  refine seq_n (fun Q2 hN2 hR2 hX2 => ?_)
  refine bnd H (fun s3 hs3 H => ?_)
  refine seq_reg (fun K4 hK4 => ?_)
  refine stq hf rfl rfl rfl (ex_move hf rfl) (fun a hf => ?_)
  refine stepF hf rfl rfl rfl (ex_call cf_16 hf rfl) (ref39_CheckTrips.calls k a0 v0 (hs.enter .nil) (Sr.old hr hs .nil (i := 0) rfl (fun _ h => h) (fun _ h => h) (Sr.nil _ _)) hs3) (fun v w hR a hf => ?_)
  obtain ⟨rfl, hs'⟩ := hR
  replace hs := hs.step .nil hs'
  clear hs'
  refine stq hf rfl rfl rfl (ex_assign hf rfl) (fun a hf => ?_)
  refine hK4 _ _ ?_
  refine seq_reg (fun K5 hK5 => ?_)
  refine stq hf rfl rfl rfl (ex_move hf rfl) (fun a hf => ?_)
  refine stq hf rfl rfl rfl (ex_neq hf rfl rfl) (fun a hf => ?_)
  refine hK5 _ _ ?_
  refine itt H (fun hc6 H => ?_) (fun hc6 H => ?_)
  · -- s3 = 0
    replace hf := hf.castB (t := 10) rfl (ndec_f hc6)
    refine cond_F hf rfl ?_
    refine wp_skip ?_
    refine hN2 _ _ ?_
    refine seq_n (fun Q7 hN7 hR7 hX7 => ?_)
    refine bnd H (fun x8 H8 HO8 => ?_)
    clear H
    refine seq_cut (fun a w => Fr a 25 [(0, v0), (1, .int .i64 a1), (17, .bool x8)] ∧ St M w0 w []) (fun Q8 hJ8 hR8 hX8 => ?_) (fun a w hJ => ?_)
    · replace H := H8
      refine itt H (fun hc9 H => ?_) (fun hc9 H => ?_)
      · -- a1 < 0
        refine region_k (fun K10 hK10 => ?_)
        refine stq hf rfl rfl rfl (ex_move hf rfl) (fun a hf => ?_)
        refine stq hf rfl rfl rfl (ex_lss hf rfl rfl) (fun a hf => ?_)
        refine stq hf rfl rfl rfl (ex_move hf rfl) (fun a hf => ?_)
        replace hf := hf.castB (t := 13) rfl (dec_t hc9)
        replace hf := hf.castB (t := 14) rfl (dec_t hc9)
        refine stepN hf rfl rfl rfl (fun a hf => ?_)
        refine stepN hf rfl rfl rfl (fun a hf => ?_)
        refine stq hf rfl rfl rfl (ex_pickT hf rfl rfl) (fun a hf => ?_)
        refine hK10 _ _ ?_
        have e8 := some_eq H; subst e8
        exact hJ8 _ _ ⟨hf.sub ⟨rfl, rfl, rfl, trivial⟩, hs⟩
      · -- not a1 < 0
        refine region_k (fun K11 hK11 => ?_)
        refine stq hf rfl rfl rfl (ex_move hf rfl) (fun a hf => ?_)
        refine stq hf rfl rfl rfl (ex_lss hf rfl rfl) (fun a hf => ?_)
        refine stq hf rfl rfl rfl (ex_move hf rfl) (fun a hf => ?_)
        replace hf := hf.castB (t := 13) rfl (dec_f hc9)
        replace hf := hf.castB (t := 14) rfl (dec_f hc9)
        refine stq hf rfl rfl rfl (ex_move hf rfl) (fun a hf => ?_)
        refine stq hf rfl rfl rfl (ex_gtr hf rfl rfl) (fun a hf => ?_)
        refine stq hf rfl rfl rfl (ex_pickF hf rfl rfl) (fun a hf => ?_)
        refine hK11 _ _ ?_
        have e8 := some_eq H; subst e8
        exact hJ8 _ _ ⟨hf.sub ⟨rfl, rfl, rfl, trivial⟩, hs⟩
    · obtain ⟨hf, hs⟩ := hJ
      replace H := HO8
      clear HO8
      refine itt H (fun hc12 H => ?_) (fun hc12 H => ?_)
      · -- x8 = true
        replace hf := hf.castB (t := 17) rfl hc12
        refine cond_T hf rfl ?_
        refine seq_reg (fun K13 hK13 => ?_)
        refine stq hf rfl rfl rfl (ex_assign hf rfl) (fun a hf => ?_)
        refine stq hf rfl rfl rfl (ex_assign hf rfl) (fun a hf => ?_)
        refine hK13 _ _ ?_
        refine wp_ret ?_
        refine hR7 _ _ ?_
        have eR := some_eq H; subst eR
        exact ret2 Try.results14 hf rfl rfl ⟨_, rfl, .inl ⟨rfl, rfl, hs⟩⟩
      · -- not x8 = true
        replace hf := hf.castB (t := 17) rfl (bool_f hc12)
        refine cond_F hf rfl ?_
        refine wp_skip ?_
        refine hN7 _ _ ?_
        refine ck_some H (fun hc14 H => ?_)
        refine seq_reg (fun K17 hK17 => ?_)
        refine stq hf rfl rfl rfl (ex_move hf rfl) (fun a hf => ?_)
        refine stq hf rfl rfl rfl (ex_move hf rfl) (fun a hf => ?_)
        refine stq hf rfl rfl rfl (ex_lenS Try.underlying22 (rsl_isSl (hr.now hs (i := 0) rfl)) hf rfl) (fun a hf => ?_)
        refine stepV hf rfl rfl rfl (er_makeSlice (K := K_bool) hs Try.underlying52 ep_4 hc14.1 hc14.2 rfl hf rfl rfl) (fun v15 w hs a hf => ?_)
        refine stq hf rfl rfl rfl (ex_move hf rfl) (fun a hf => ?_)
        refine stq hf rfl rfl rfl (ex_build (cs := [v0, v15, .int .i64 a1, .int .i64 0]) bt_64 hf rfl (.cons (CL.one (IsSl.one (rsl_isSl (hr.now hs (i := 0) rfl)))) (.cons (CL.one (IsSl.one (rsl_isSl (osl_rsl _ (hs.get (i := 0) rfl))))) (.cons rfl .nil))) rfl) (fun a hf => ?_)
        refine stepV hf rfl rfl rfl (er_box (cs := [v0, v15, .int .i64 a1, .int .i64 0]) hs hf rfl rfl) (fun v w hR a hf => ?_)
        obtain ⟨b16, rfl, hs⟩ := hR
        refine stq hf rfl rfl rfl (ex_assign hf rfl) (fun a hf => ?_)
        refine stq hf rfl rfl rfl (ex_assign hf rfl) (fun a hf => ?_)
        refine hK17 _ _ ?_
        refine wp_ret ?_
        have eR := some_eq H; subst eR
        exact ret2 Try.results14 hf rfl rfl ⟨_, rfl, .inr ⟨_, rfl, b16, v15, rfl, hs⟩⟩
  · -- not s3 = 0
    replace hf := hf.castB (t := 10) rfl (ndec_t hc6)
    refine cond_T hf rfl ?_
    refine seq_reg (fun K18 hK18 => ?_)
    refine stq hf rfl rfl rfl (ex_move hf rfl) (fun a hf => ?_)
    refine stq hf rfl rfl rfl (ex_assign hf rfl) (fun a hf => ?_)
    refine stq hf rfl rfl rfl (ex_assign hf rfl) (fun a hf => ?_)
    refine hK18 _ _ ?_
    refine wp_ret ?_
    refine hR2 _ _ ?_
    have eR := some_eq H; subst eR
    exact ret2 Try.results14 hf rfl rfl ⟨_, rfl, .inl ⟨rfl, rfl, hs⟩⟩

set_option maxRecDepth 100000 in
theorem law39_Actors.calls {M : Nat → Prop} {w0 : World} (k : Nat) (a0 : (List Actor)) (v0 : Value) {r : (List Actor)} (hs : St M w0 w0 []) (hr : Sr M w0 [rsl K_api_Actor v0 a0])
    (h : law39_Actors.f k a0 = some r) : Calls Try.prog 17 #[v0] w0 fun e w => ∃ v, e = .returned v ∧ (∃ (g0 : Value), g0 = v ∧ St M w0 w [osl K_api_Actor g0 r]) := by
  have H := (law39_Actors.f.eq_1 ..).symm.trans h
  clear h
  refine enter Try.func17 rfl Try.ntmps17 rfl (fun a hf => ?_)
  refine seq_reg (fun K1 hK1 => ?_)
  refine stq hf rfl rfl rfl (ex_assign hf rfl) (fun a hf => ?_)
  refine hK1 _ _ ?_
  refine seq_reg (fun K2 hK2 => ?_)
  refine stq hf rfl rfl rfl (ex_assign hf rfl) (fun a hf => ?_)
  refine hK2 _ _ ?_
  refine bnd H (fun x3 H3 HO3 => ?_)
  clear H
  refine seq_cut (fun a w => ∃ (v4 : Value), Fr a 42 [(3, v4)] ∧ St M w0 w [osl K_api_Actor v4 x3]) (fun Q3 hJ3 hR3 hX3 => ?_) (fun a w hJ => ?_)
  · replace H := H3
    refine seq_reg (fun K5 hK5 => ?_)
    refine stq hf rfl rfl rfl (ex_assign hf rfl) (fun a hf => ?_)
    refine hK5 _ _ ?_
    refine block_k (fun Q6 hN6 hR6 hX6 hY6 => ?_)
    refine loop_k (fun n a w => ∃ (y8 : (List Actor)) (y9 : Int) (v7 : Value), Fr a 42 [(0, v0), (3, v7), (4, .int .i64 y9)] ∧ St M w0 w [osl K_api_Actor v7 y8] ∧ law39_Actors.l1 n a0 y8 y9 = some x3) k ?_ (fun n11 a w hI Q11 hL11 hR11 hX11 => ?_)
    · -- at the start
      replace hs := hs.nilS K_api_Actor
      exact ⟨[], 0, (.slice none 0 0), hf.sub ⟨rfl, rfl, rfl, trivial⟩, hs, H⟩
    · obtain ⟨y8, y9, v7, hf, hs, H⟩ := hI
      cases n11 with
      | zero => exact absurd H (by rw [law39_Actors.l1.eq_1]; intro h; cases h)
      | succ k11 =>
        replace H := (law39_Actors.l1.eq_2 ..).symm.trans H
        refine seq_n (fun Q12 hN12 hR12 hX12 => ?_)
        refine bnd H (fun x13 H13 HO13 => ?_)
        clear H
        refine seq_cut (fun a w => Fr a 42 [(0, v0), (3, v7), (4, .int .i64 y9), (13, .bool x13)] ∧ St M w0 w [osl K_api_Actor v7 y8]) (fun Q13 hJ13 hR13 hX13 => ?_) (fun a w hJ => ?_)
        · replace H := H13
          refine itt H (fun hc14 H => ?_) (fun hc14 H => ?_)
          · -- y9 < (a0.length : Int)
            refine region_k (fun K15 hK15 => ?_)
            refine stq hf rfl rfl rfl (ex_move hf rfl) (fun a hf => ?_)
            refine stq hf rfl rfl rfl (ex_move hf rfl) (fun a hf => ?_)
            refine stq hf rfl rfl rfl (ex_lenS Try.underlying38 (rsl_isSl (hr.now hs (i := 0) rfl)) hf rfl) (fun a hf => ?_)
            refine stq hf rfl rfl rfl (ex_lss hf rfl rfl) (fun a hf => ?_)
            refine stq hf rfl rfl rfl (ex_move hf rfl) (fun a hf => ?_)
            replace hf := hf.castB (t := 9) rfl (dec_t hc14)
            replace hf := hf.castB (t := 10) rfl (dec_t hc14)
            refine stq hf rfl rfl rfl (ex_move hf rfl) (fun a hf => ?_)
            refine stq hf rfl rfl rfl (ex_lss hf rfl rfl) (fun a hf => ?_)
            refine stq hf rfl rfl rfl (ex_pickT hf rfl rfl) (fun a hf => ?_)
            refine hK15 _ _ ?_
            have e13 := some_eq H; subst e13
            exact hJ13 _ _ ⟨hf.sub ⟨rfl, rfl, rfl, rfl, trivial⟩, hs⟩
          · -- not y9 < (a0.length : Int)
            refine region_k (fun K16 hK16 => ?_)
            refine stq hf rfl rfl rfl (ex_move hf rfl) (fun a hf => ?_)
            refine stq hf rfl rfl rfl (ex_move hf rfl) (fun a hf => ?_)
            refine stq hf rfl rfl rfl (ex_lenS Try.underlying38 (rsl_isSl (hr.now hs (i := 0) rfl)) hf rfl) (fun a hf => ?_)
            refine stq hf rfl rfl rfl (ex_lss hf rfl rfl) (fun a hf => ?_)
            refine stq hf rfl rfl rfl (ex_move hf rfl) (fun a hf => ?_)
            replace hf := hf.castB (t := 9) rfl (dec_f hc14)
            replace hf := hf.castB (t := 10) rfl (dec_f hc14)
            refine stepN hf rfl rfl rfl (fun a hf => ?_)
            refine stepN hf rfl rfl rfl (fun a hf => ?_)
            refine stq hf rfl rfl rfl (ex_pickF hf rfl rfl) (fun a hf => ?_)
            refine hK16 _ _ ?_
            have e13 := some_eq H; subst e13
            exact hJ13 _ _ ⟨hf.sub ⟨rfl, rfl, rfl, rfl, trivial⟩, hs⟩
        · obtain ⟨hf, hs⟩ := hJ
          replace H := HO13
          clear HO13
          refine itt H (fun hc17 H => ?_) (fun hc17 H => ?_)
          · -- x13 = true
            replace hf := hf.castB (t := 13) rfl hc17
            refine cond_T hf rfl ?_
            refine wp_skip ?_
            refine hN12 _ _ ?_
            refine seq_n (fun Q18 hN18 hR18 hX18 => ?_)
            refine block_k (fun Q19 hN19 hR19 hX19 hY19 => ?_)
            refine ck_some H (fun hc20 H => ?_)
            refine seq_reg (fun K21 hK21 => ?_)
            refine stq hf rfl rfl rfl (ex_move hf rfl) (fun a hf => ?_)
            refine stq hf rfl rfl rfl (ex_move hf rfl) (fun a hf => ?_)
            refine stq hf rfl rfl rfl (ex_indexAddr sa_38 (rsl_isSl (hr.now hs (i := 0) rfl)) hc20.1 hc20.2 hf rfl rfl) (fun a hf => ?_)
            refine stq hf rfl rfl rfl (ex_fieldAddrS fa_56_1 rfl hf rfl) (fun a hf => ?_)
            refine stq hf rfl rfl rfl (ex_load sc_37 hf rfl (el_cell (K := K_api_Actor) (f := 1) (rsl_rd (hr.now hs (i := 0) rfl)) hc20.1 hc20.2 rfl)) (fun a hf => ?_)
            refine stq hf rfl rfl rfl (ex_rem hf rfl rfl (by decide)) (fun a hf => ?_)
            refine stq hf rfl rfl rfl (ex_assign hf rfl) (fun a hf => ?_)
            refine hK21 _ _ ?_
            refine ck_some H (fun hc23 H => ?_)
            refine region_d fol 19 [(0, v0), (3, v7), (4, .int .i64 y9), (5, .int .u64 (Int.tmod ((gd Actor.zero a0 y9).Min) 10))] [(0, v7), (1, v0), (2, .int .i64 y9), (3, .pointer (some (sla v0 (y9.toNat * 3)))), (4, .pointer (some (sla v0 (y9.toNat * 3 + 0)))), (5, .int .u64 ((gd Actor.zero a0 y9).Request)), (6, .int .u64 (Int.tmod ((gd Actor.zero a0 y9).Request) 40)), (7, .int .u64 (Int.tmod ((gd Actor.zero a0 y9).Min) 10)), (8, .int .u64 (Int.tmod ((gd Actor.zero a0 y9).Min) 10)), (9, v0), (10, .int .i64 y9), (11, .pointer (some (sla v0 (y9.toNat * 3)))), (12, .pointer (some (sla v0 (y9.toNat * 3 + 2)))), (13, .int .u64 ((gd Actor.zero a0 y9).Max)), (14, .int .u64 (Int.tmod ((gd Actor.zero a0 y9).Max) 30)), (15, .int .u64 (IntKind.u64.wrap ((Int.tmod ((gd Actor.zero a0 y9).Min) 10) + (Int.tmod ((gd Actor.zero a0 y9).Max) 30)))), (16, .agg #[.int .u64 (Int.tmod ((gd Actor.zero a0 y9).Request) 40), .int .u64 (Int.tmod ((gd Actor.zero a0 y9).Min) 10), .int .u64 (IntKind.u64.wrap ((Int.tmod ((gd Actor.zero a0 y9).Min) 10) + (Int.tmod ((gd Actor.zero a0 y9).Max) 30)))])] [17, 18] (fun w => (rsl K_api_Actor v0 a0).ok w ∧ True) (fun w => St M w0 w [osl K_api_Actor v7 y8]) hf ⟨rfl, rfl, rfl, rfl, trivial⟩ (by kernel_rfl) (by kernel_rfl) rfl (by decide) ⟨hr.now hs.drew (i := 0) rfl, trivial⟩ hs.drew (.cons (⟨_, _, rfl, rfl, rfl, rfl, fun a w hR hf => .inl ⟨wanted_yes hf rfl, ex_move hf rfl⟩⟩) (.cons (⟨_, _, rfl, rfl, rfl, rfl, fun a w hR hf => .inl ⟨wanted_yes hf rfl, ex_move hf rfl⟩⟩) (.cons (⟨_, _, rfl, rfl, rfl, rfl, fun a w hR hf => .inl ⟨wanted_yes hf rfl, ex_move hf rfl⟩⟩) (.cons (⟨_, _, rfl, rfl, rfl, rfl, fun a w hR hf => .inl ⟨wanted_yes hf rfl, ex_indexAddr sa_38 (rsl_isSl hR.1) hc20.1 hc20.2 hf rfl rfl⟩⟩) (.cons (⟨_, _, rfl, rfl, rfl, rfl, fun a w hR hf => .inl ⟨wanted_yes hf rfl, ex_fieldAddrS fa_56_0 rfl hf rfl⟩⟩) (.cons (⟨_, _, rfl, rfl, rfl, rfl, fun a w hR hf => .inl ⟨wanted_yes hf rfl, ex_load sc_37 hf rfl (el_cell (K := K_api_Actor) (f := 0) (rsl_rd hR.1) hc20.1 hc20.2 rfl)⟩⟩) (.cons (⟨_, _, rfl, rfl, rfl, rfl, fun a w hR hf => .inl ⟨wanted_yes hf rfl, ex_rem hf rfl rfl (by decide)⟩⟩) (.cons (⟨_, _, rfl, rfl, rfl, rfl, fun a w hR hf => .inl ⟨wanted_yes hf rfl, ex_move hf rfl⟩⟩) (.cons (⟨_, _, rfl, rfl, rfl, rfl, fun a w hR hf => .inl ⟨wanted_yes hf rfl, ex_move hf rfl⟩⟩) (.cons (⟨_, _, rfl, rfl, rfl, rfl, fun a w hR hf => .inl ⟨wanted_yes hf rfl, ex_move hf rfl⟩⟩) (.cons (⟨_, _, rfl, rfl, rfl, rfl, fun a w hR hf => .inl ⟨wanted_yes hf rfl, ex_move hf rfl⟩⟩) (.cons (⟨_, _, rfl, rfl, rfl, rfl, fun a w hR hf => .inl ⟨wanted_yes hf rfl, ex_indexAddr sa_38 (rsl_isSl hR.1) hc20.1 hc20.2 hf rfl rfl⟩⟩) (.cons (⟨_, _, rfl, rfl, rfl, rfl, fun a w hR hf => .inl ⟨wanted_yes hf rfl, ex_fieldAddrS fa_56_2 rfl hf rfl⟩⟩) (.cons (⟨_, _, rfl, rfl, rfl, rfl, fun a w hR hf => .inl ⟨wanted_yes hf rfl, ex_load sc_37 hf rfl (el_cell (K := K_api_Actor) (f := 2) (rsl_rd hR.1) hc20.1 hc20.2 rfl)⟩⟩) (.cons (⟨_, _, rfl, rfl, rfl, rfl, fun a w hR hf => .inl ⟨wanted_yes hf rfl, ex_rem hf rfl rfl (by decide)⟩⟩) (.cons (⟨_, _, rfl, rfl, rfl, rfl, fun a w hR hf => .inl ⟨wanted_yes hf rfl, ex_add hf rfl rfl⟩⟩) (.cons (⟨_, _, rfl, rfl, rfl, rfl, fun a w hR hf => .inl ⟨wanted_yes hf rfl, ex_build (cs := [.int .u64 (Int.tmod ((gd Actor.zero a0 y9).Request) 40), .int .u64 (Int.tmod ((gd Actor.zero a0 y9).Min) 10), .int .u64 (IntKind.u64.wrap ((Int.tmod ((gd Actor.zero a0 y9).Min) 10) + (Int.tmod ((gd Actor.zero a0 y9).Max) 30)))]) bt_56 hf rfl (.cons rfl (.cons rfl (.cons rfl .nil))) rfl⟩⟩) (.nil)))))))))))))))))) (fun K25 hK25 => ?_)
            refine RW.one 17 (by kernel_rfl) (by kernel_rfl) rfl (fun d hd => by cases hd; rfl) [(38, .agg #[.int .u64 (Int.tmod ((gd Actor.zero a0 y9).Request) 40), .int .u64 (Int.tmod ((gd Actor.zero a0 y9).Min) 10), .int .u64 (IntKind.u64.wrap ((Int.tmod ((gd Actor.zero a0 y9).Min) 10) + (Int.tmod ((gd Actor.zero a0 y9).Max) 30)))])] ⟨rfl, trivial⟩ (fun a w hR hs hf => ⟨wanted_yes hf rfl, ?_⟩)
            refine estep_v (er_buildSlice (K := K_api_Actor) (xs := [(⟨(Int.tmod ((gd Actor.zero a0 y9).Request) 40), (Int.tmod ((gd Actor.zero a0 y9).Min) 10), (IntKind.u64.wrap ((Int.tmod ((gd Actor.zero a0 y9).Min) 10) + (Int.tmod ((gd Actor.zero a0 y9).Max) 30)))⟩ : Actor)]) hs Try.underlying38 ep_56 rfl rfl hf rfl (.cons rfl .nil) rfl rfl) (fun v22 w hs => ?_)
            refine ⟨[], [(17, v22), (0, v7), (1, v0), (2, .int .i64 y9), (3, .pointer (some (sla v0 (y9.toNat * 3)))), (4, .pointer (some (sla v0 (y9.toNat * 3 + 0)))), (5, .int .u64 ((gd Actor.zero a0 y9).Request)), (6, .int .u64 (Int.tmod ((gd Actor.zero a0 y9).Request) 40)), (7, .int .u64 (Int.tmod ((gd Actor.zero a0 y9).Min) 10)), (8, .int .u64 (Int.tmod ((gd Actor.zero a0 y9).Min) 10)), (9, v0), (10, .int .i64 y9), (11, .pointer (some (sla v0 (y9.toNat * 3)))), (12, .pointer (some (sla v0 (y9.toNat * 3 + 2)))), (13, .int .u64 ((gd Actor.zero a0 y9).Max)), (14, .int .u64 (Int.tmod ((gd Actor.zero a0 y9).Max) 30)), (15, .int .u64 (IntKind.u64.wrap ((Int.tmod ((gd Actor.zero a0 y9).Min) 10) + (Int.tmod ((gd Actor.zero a0 y9).Max) 30)))), (16, .agg #[.int .u64 (Int.tmod ((gd Actor.zero a0 y9).Request) 40), .int .u64 (Int.tmod ((gd Actor.zero a0 y9).Min) 10), .int .u64 (IntKind.u64.wrap ((Int.tmod ((gd Actor.zero a0 y9).Min) 10) + (Int.tmod ((gd Actor.zero a0 y9).Max) 30)))])], [18], (fun _ => True), (fun w => St M w0 w [osl K_api_Actor v22 [(⟨(Int.tmod ((gd Actor.zero a0 y9).Request) 40), (Int.tmod ((gd Actor.zero a0 y9).Min) 10), (IntKind.u64.wrap ((Int.tmod ((gd Actor.zero a0 y9).Min) 10) + (Int.tmod ((gd Actor.zero a0 y9).Max) 30)))⟩ : Actor)], osl K_api_Actor v7 y8]), rfl, rfl, ⟨hr.now hs (i := 0) rfl, trivial⟩, trivial, hs, (by kernel_rfl), .nil, ?_⟩
            refine RW.one 18 (by kernel_rfl) (by kernel_rfl) rfl (fun d hd => by cases hd; rfl) [(22, v7), (39, v22)] ⟨rfl, rfl, trivial⟩ (fun a w hR hs hf => ⟨wanted_yes hf rfl, ?_⟩)
            refine estep_v (er_append (K := K_api_Actor) hs (.k (.c .nil)) (osl_rsl _ (hs.get (i := 0) rfl)) rfl Try.underlying38 ep_56 hc23 rfl hf rfl rfl) (fun v24 w hs => ?_)
            refine ⟨[], [(18, v24), (17, v22), (0, v7), (1, v0), (2, .int .i64 y9), (3, .pointer (some (sla v0 (y9.toNat * 3)))), (4, .pointer (some (sla v0 (y9.toNat * 3 + 0)))), (5, .int .u64 ((gd Actor.zero a0 y9).Request)), (6, .int .u64 (Int.tmod ((gd Actor.zero a0 y9).Request) 40)), (7, .int .u64 (Int.tmod ((gd Actor.zero a0 y9).Min) 10)), (8, .int .u64 (Int.tmod ((gd Actor.zero a0 y9).Min) 10)), (9, v0), (10, .int .i64 y9), (11, .pointer (some (sla v0 (y9.toNat * 3)))), (12, .pointer (some (sla v0 (y9.toNat * 3 + 2)))), (13, .int .u64 ((gd Actor.zero a0 y9).Max)), (14, .int .u64 (Int.tmod ((gd Actor.zero a0 y9).Max) 30)), (15, .int .u64 (IntKind.u64.wrap ((Int.tmod ((gd Actor.zero a0 y9).Min) 10) + (Int.tmod ((gd Actor.zero a0 y9).Max) 30)))), (16, .agg #[.int .u64 (Int.tmod ((gd Actor.zero a0 y9).Request) 40), .int .u64 (Int.tmod ((gd Actor.zero a0 y9).Min) 10), .int .u64 (IntKind.u64.wrap ((Int.tmod ((gd Actor.zero a0 y9).Min) 10) + (Int.tmod ((gd Actor.zero a0 y9).Max) 30)))])], [], (fun _ => True), (fun w => St M w0 w [osl K_api_Actor v24 (y8 ++ [(⟨(Int.tmod ((gd Actor.zero a0 y9).Request) 40), (Int.tmod ((gd Actor.zero a0 y9).Min) 10), (IntKind.u64.wrap ((Int.tmod ((gd Actor.zero a0 y9).Min) 10) + (Int.tmod ((gd Actor.zero a0 y9).Max) 30)))⟩ : Actor)]), osl K_api_Actor v22 [(⟨(Int.tmod ((gd Actor.zero a0 y9).Request) 40), (Int.tmod ((gd Actor.zero a0 y9).Min) 10), (IntKind.u64.wrap ((Int.tmod ((gd Actor.zero a0 y9).Min) 10) + (Int.tmod ((gd Actor.zero a0 y9).Max) 30)))⟩ : Actor)]]), rfl, rfl, ⟨⟨hr.now hs (i := 0) rfl, trivial⟩, trivial⟩, trivial, hs, (by kernel_rfl), .nil, ?_⟩
            refine RW.zero (by kernel_rfl) (by kernel_rfl) [(0, v0), (3, v7), (4, .int .i64 y9), (40, v24)] ⟨rfl, rfl, rfl, rfl, trivial⟩ (fun a w hR hs hf => ?_)
            refine stq hf rfl rfl rfl (ex_assign hf rfl) (fun a hf => ?_)
            refine hK25 _ _ ?_
            refine hN19 _ _ ?_
            refine hN18 _ _ ?_
            refine region_k (fun K26 hK26 => ?_)
            refine stq hf rfl rfl rfl (ex_move hf rfl) (fun a hf => ?_)
            refine stq hf rfl rfl rfl (ex_add hf rfl rfl) (fun a hf => ?_)
            refine stq hf rfl rfl rfl (ex_assign hf rfl) (fun a hf => ?_)
            refine hK26 _ _ ?_
            replace hs := hs.keep (.k (.d .nil))
            exact hL11 k11 _ _ (Nat.lt_succ_self _) ⟨(y8 ++ [(⟨(Int.tmod ((gd Actor.zero a0 y9).Request) 40), (Int.tmod ((gd Actor.zero a0 y9).Min) 10), (IntKind.u64.wrap ((Int.tmod ((gd Actor.zero a0 y9).Min) 10) + (Int.tmod ((gd Actor.zero a0 y9).Max) 30)))⟩ : Actor)]), (IntKind.i64.wrap (y9 + 1)), v24, hf.sub ⟨rfl, rfl, rfl, trivial⟩, hs, H⟩
          · -- not x13 = true
            replace hf := hf.castB (t := 13) rfl (bool_f hc17)
            refine cond_F hf rfl ?_
            refine wp_exit ?_
            refine hX12 0 _ _ ?_
            refine hX11 0 _ _ ?_
            refine hX6 _ _ ?_
            have e3 := some_eq H; subst e3
            exact hJ3 _ _ ⟨v7, hf.sub ⟨rfl, trivial⟩, hs⟩
  · obtain ⟨v4, hf, hs⟩ := hJ
    replace H := HO3
    clear HO3
    refine seq_reg (fun K27 hK27 => ?_)
    refine stq hf rfl rfl rfl (ex_move hf rfl) (fun a hf => ?_)
    refine stq hf rfl rfl rfl (ex_assign hf rfl) (fun a hf => ?_)
    refine hK27 _ _ ?_
    refine wp_ret ?_
    have eR := some_eq H; subst eR
    exact ret1 Try.results17 hf rfl ⟨_, rfl, ⟨v4, rfl, hs⟩⟩

set_option maxRecDepth 100000 in
theorem ref39_valid.calls {M : Nat → Prop} {w0 : World} (k : Nat) (a0 : (List Actor)) (v0 : Value) {r : Bool} (hs : St M w0 w0 []) (hr : Sr M w0 [rsl K_api_Actor v0 a0])
    (h : ref39_valid.f k a0 = some r) : Calls Try.prog 37 #[v0] w0 fun e w => ∃ v, e = .returned v ∧ (.bool r = v ∧ St M w0 w []) := by
  have H := (ref39_valid.f.eq_1 ..).symm.trans h
  clear h
  refine enter Try.func37 rfl Try.ntmps37 rfl (fun a hf => ?_)
  refine seq_reg (fun K1 hK1 => ?_)
  refine stq hf rfl rfl rfl (ex_assign hf rfl) (fun a hf => ?_)
  refine hK1 _ _ ?_
  refine seq_n (fun Q2 hN2 hR2 hX2 => ?_)
  refine seq_reg (fun K3 hK3 => ?_)
  refine stq hf rfl rfl rfl (ex_move hf rfl) (fun a hf => ?_)
  refine stq hf rfl rfl rfl (ex_lenS Try.underlying38 (rsl_isSl (hr.now hs (i := 0) rfl)) hf rfl) (fun a hf => ?_)
  refine stq hf rfl rfl rfl (ex_gtr hf rfl rfl) (fun a hf => ?_)
  refine hK3 _ _ ?_
  refine itt H (fun hc4 H => ?_) (fun hc4 H => ?_)
  · -- 32 < (a0.length : Int)
    replace hf := hf.castB (t := 6) rfl (dec_t hc4)
    refine cond_T hf rfl ?_
    refine seq_reg (fun K5 hK5 => ?_)
    refine stq hf rfl rfl rfl (ex_assign hf rfl) (fun a hf => ?_)
    refine hK5 _ _ ?_
    refine wp_ret ?_
    refine hR2 _ _ ?_
    have eR := some_eq H; subst eR
    exact ret1 Try.results37 hf rfl ⟨_, rfl, ⟨rfl, hs⟩⟩
  · -- not 32 < (a0.length : Int)
    replace hf := hf.castB (t := 6) rfl (dec_f hc4)
    refine cond_F hf rfl ?_
    refine wp_skip ?_
    refine hN2 _ _ ?_
    refine bnd H (fun x6 H6 HO6 => ?_)
    clear H
    refine seq_cut (fun a w => ∃ (x6s : Unit), x6 = .go x6s ∧ Fr a 32 [] ∧ St M w0 w []) (fun Q6 hJ6 hR6 hX6 => ?_) (fun a w hJ => ?_)
    · replace H := H6
      refine seq_reg (fun K7 hK7 => ?_)
      refine stq hf rfl rfl rfl (ex_assign hf rfl) (fun a hf => ?_)
      refine hK7 _ _ ?_
      refine block_k (fun Q8 hN8 hR8 hX8 hY8 => ?_)
      refine loop_k (fun n a w => ∃ (y9 : Int), Fr a 32 [(0, v0), (3, .int .i64 y9)] ∧ St M w0 w [] ∧ ref39_valid.l1 n a0 y9 = some x6) k ?_ (fun n11 a w hI Q11 hL11 hR11 hX11 => ?_)
      · -- at the start
        exact ⟨0, hf.sub ⟨rfl, rfl, trivial⟩, hs, H⟩
      · obtain ⟨y9, hf, hs, H⟩ := hI
        cases n11 with
        | zero => exact absurd H (by rw [ref39_valid.l1.eq_1]; intro h; cases h)
        | succ k11 =>
          replace H := (ref39_valid.l1.eq_2 ..).symm.trans H
          refine seq_n (fun Q12 hN12 hR12 hX12 => ?_)
          refine seq_reg (fun K13 hK13 => ?_)
          refine stq hf rfl rfl rfl (ex_move hf rfl) (fun a hf => ?_)
          refine stq hf rfl rfl rfl (ex_move hf rfl) (fun a hf => ?_)
          refine stq hf rfl rfl rfl (ex_lenS Try.underlying38 (rsl_isSl (hr.now hs (i := 0) rfl)) hf rfl) (fun a hf => ?_)
          refine stq hf rfl rfl rfl (ex_lss hf rfl rfl) (fun a hf => ?_)
          refine hK13 _ _ ?_
          refine itt H (fun hc14 H => ?_) (fun hc14 H => ?_)
          · -- y9 < (a0.length : Int)
            replace hf := hf.castB (t := 10) rfl (dec_t hc14)
            refine cond_T hf rfl ?_
            refine wp_skip ?_
            refine hN12 _ _ ?_
            refine seq_n (fun Q15 hN15 hR15 hX15 => ?_)
            refine block_k (fun Q16 hN16 hR16 hX16 hY16 => ?_)
            refine bnd H (fun x17 H17 HO17 => ?_)
            clear H
            refine seq_cut (fun a w => Fr a 32 [(0, v0), (3, .int .i64 y9), (31, .bool x17)] ∧ St M w0 w []) (fun Q17 hJ17 hR17 hX17 => ?_) (fun a w hJ => ?_)
            · replace H := H17
              refine ck_some H (fun hc18 H => ?_)
              refine itt H (fun hc19 H => ?_) (fun hc19 H => ?_)
              · -- ((gd Actor.zero a0 y9).Max) < ((gd Actor.zero a0 y9).Min)
                refine region_d fol 19 [(0, v0), (3, .int .i64 y9)] [(0, v0), (1, .int .i64 y9), (2, .pointer (some (sla v0 (y9.toNat * 3)))), (3, .pointer (some (sla v0 (y9.toNat * 3 + 1)))), (4, .int .u64 ((gd Actor.zero a0 y9).Min)), (5, v0), (6, .int .i64 y9), (7, .pointer (some (sla v0 (y9.toNat * 3)))), (8, .pointer (some (sla v0 (y9.toNat * 3 + 2)))), (9, .int .u64 ((gd Actor.zero a0 y9).Max)), (10, .bool true), (11, .bool true), (12, undef), (13, undef), (14, undef), (15, undef), (16, undef), (17, undef), (18, .bool true)] [] (fun w => (rsl K_api_Actor v0 a0).ok w ∧ True) (fun w => St M w0 w []) hf ⟨rfl, rfl, trivial⟩ (by kernel_rfl) (by kernel_rfl) rfl (by decide) ⟨hr.now hs.drew (i := 0) rfl, trivial⟩ hs.drew (.cons (⟨_, _, rfl, rfl, rfl, rfl, fun a w hR hf => .inl ⟨wanted_yes hf rfl, ex_move hf rfl⟩⟩) (.cons (⟨_, _, rfl, rfl, rfl, rfl, fun a w hR hf => .inl ⟨wanted_yes hf rfl, ex_move hf rfl⟩⟩) (.cons (⟨_, _, rfl, rfl, rfl, rfl, fun a w hR hf => .inl ⟨wanted_yes hf rfl, ex_indexAddr sa_38 (rsl_isSl hR.1) hc18.1 hc18.2 hf rfl rfl⟩⟩) (.cons (⟨_, _, rfl, rfl, rfl, rfl, fun a w hR hf => .inl ⟨wanted_yes hf rfl, ex_fieldAddrS fa_56_1 rfl hf rfl⟩⟩) (.cons (⟨_, _, rfl, rfl, rfl, rfl, fun a w hR hf => .inl ⟨wanted_yes hf rfl, ex_load sc_37 hf rfl (el_cell (K := K_api_Actor) (f := 1) (rsl_rd hR.1) hc18.1 hc18.2 rfl)⟩⟩) (.cons (⟨_, _, rfl, rfl, rfl, rfl, fun a w hR hf => .inl ⟨wanted_yes hf rfl, ex_move hf rfl⟩⟩) (.cons (⟨_, _, rfl, rfl, rfl, rfl, fun a w hR hf => .inl ⟨wanted_yes hf rfl, ex_move hf rfl⟩⟩) (.cons (⟨_, _, rfl, rfl, rfl, rfl, fun a w hR hf => .inl ⟨wanted_yes hf rfl, ex_indexAddr sa_38 (rsl_isSl hR.1) hc18.1 hc18.2 hf rfl rfl⟩⟩) (.cons (⟨_, _, rfl, rfl, rfl, rfl, fun a w hR hf => .inl ⟨wanted_yes hf rfl, ex_fieldAddrS fa_56_2 rfl hf rfl⟩⟩) (.cons (⟨_, _, rfl, rfl, rfl, rfl, fun a w hR hf => .inl ⟨wanted_yes hf rfl, ex_load sc_37 hf rfl (el_cell (K := K_api_Actor) (f := 2) (rsl_rd hR.1) hc18.1 hc18.2 rfl)⟩⟩) (.cons (⟨_, _, rfl, rfl, rfl, rfl, fun a w hR hf => .inl ⟨wanted_yes hf rfl, ex_castB (ex_gtr hf rfl rfl) (dec_t hc19)⟩⟩) (.cons (⟨_, _, rfl, rfl, rfl, rfl, fun a w hR hf => .inl ⟨wanted_yes hf rfl, ex_move hf rfl⟩⟩) (.cons (⟨_, _, rfl, rfl, rfl, rfl, fun a w hR hf => .inr ⟨wanted_no hf rfl, rfl⟩⟩) (.cons (⟨_, _, rfl, rfl, rfl, rfl, fun a w hR hf => .inr ⟨wanted_no hf rfl, rfl⟩⟩) (.cons (⟨_, _, rfl, rfl, rfl, rfl, fun a w hR hf => .inr ⟨wanted_no hf rfl, rfl⟩⟩) (.cons (⟨_, _, rfl, rfl, rfl, rfl, fun a w hR hf => .inr ⟨wanted_no hf rfl, rfl⟩⟩) (.cons (⟨_, _, rfl, rfl, rfl, rfl, fun a w hR hf => .inr ⟨wanted_no hf rfl, rfl⟩⟩) (.cons (⟨_, _, rfl, rfl, rfl, rfl, fun a w hR hf => .inr ⟨wanted_no hf rfl, rfl⟩⟩) (.cons (⟨_, _, rfl, rfl, rfl, rfl, fun a w hR hf => .inl ⟨wanted_yes hf rfl, ex_pickT hf rfl rfl⟩⟩) (.nil)))))))))))))))))))) (fun K20 hK20 => ?_)
                refine RW.zero (by kernel_rfl) (by kernel_rfl) [(0, v0), (3, .int .i64 y9), (31, .bool true)] ⟨rfl, rfl, rfl, trivial⟩ (fun a w hR hs hf => ?_)
                refine hK20 _ _ ?_
                have e17 := some_eq H; subst e17
                exact hJ17 _ _ ⟨hf.sub ⟨rfl, rfl, rfl, trivial⟩, hs⟩
              · -- not ((gd Actor.zero a0 y9).Max) < ((gd Actor.zero a0 y9).Min)
                refine region_d fol 19 [(0, v0), (3, .int .i64 y9)] [(0, v0), (1, .int .i64 y9), (2, .pointer (some (sla v0 (y9.toNat * 3)))), (3, .pointer (some (sla v0 (y9.toNat * 3 + 1)))), (4, .int .u64 ((gd Actor.zero a0 y9).Min)), (5, v0), (6, .int .i64 y9), (7, .pointer (some (sla v0 (y9.toNat * 3)))), (8, .pointer (some (sla v0 (y9.toNat * 3 + 2)))), (9, .int .u64 ((gd Actor.zero a0 y9).Max)), (10, .bool false), (11, .bool false), (12, v0), (13, .int .i64 y9), (14, .pointer (some (sla v0 (y9.toNat * 3)))), (15, .pointer (some (sla v0 (y9.toNat * 3 + 2)))), (16, .int .u64 ((gd Actor.zero a0 y9).Max)), (17, .bool (decide (4294967296 < ((gd Actor.zero a0 y9).Max)))), (18, .bool (decide (4294967296 < ((gd Actor.zero a0 y9).Max))))] [] (fun w => (rsl K_api_Actor v0 a0).ok w ∧ True) (fun w => St M w0 w []) hf ⟨rfl, rfl, trivial⟩ (by kernel_rfl) (by kernel_rfl) rfl (by decide) ⟨hr.now hs.drew (i := 0) rfl, trivial⟩ hs.drew (.cons (⟨_, _, rfl, rfl, rfl, rfl, fun a w hR hf => .inl ⟨wanted_yes hf rfl, ex_move hf rfl⟩⟩) (.cons (⟨_, _, rfl, rfl, rfl, rfl, fun a w hR hf => .inl ⟨wanted_yes hf rfl, ex_move hf rfl⟩⟩) (.cons (⟨_, _, rfl, rfl, rfl, rfl, fun a w hR hf => .inl ⟨wanted_yes hf rfl, ex_indexAddr sa_38 (rsl_isSl hR.1) hc18.1 hc18.2 hf rfl rfl⟩⟩) (.cons (⟨_, _, rfl, rfl, rfl, rfl, fun a w hR hf => .inl ⟨wanted_yes hf rfl, ex_fieldAddrS fa_56_1 rfl hf rfl⟩⟩) (.cons (⟨_, _, rfl, rfl, rfl, rfl, fun a w hR hf => .inl ⟨wanted_yes hf rfl, ex_load sc_37 hf rfl (el_cell (K := K_api_Actor) (f := 1) (rsl_rd hR.1) hc18.1 hc18.2 rfl)⟩⟩) (.cons (⟨_, _, rfl, rfl, rfl, rfl, fun a w hR hf => .inl ⟨wanted_yes hf rfl, ex_move hf rfl⟩⟩) (.cons (⟨_, _, rfl, rfl, rfl, rfl, fun a w hR hf => .inl ⟨wanted_yes hf rfl, ex_move hf rfl⟩⟩) (.cons (⟨_, _, rfl, rfl, rfl, rfl, fun a w hR hf => .inl ⟨wanted_yes hf rfl, ex_indexAddr sa_38 (rsl_isSl hR.1) hc18.1 hc18.2 hf rfl rfl⟩⟩) (.cons (⟨_, _, rfl, rfl, rfl, rfl, fun a w hR hf => .inl ⟨wanted_yes hf rfl, ex_fieldAddrS fa_56_2 rfl hf rfl⟩⟩) (.cons (⟨_, _, rfl, rfl, rfl, rfl, fun a w hR hf => .inl ⟨wanted_yes hf rfl, ex_load sc_37 hf rfl (el_cell (K := K_api_Actor) (f := 2) (rsl_rd hR.1) hc18.1 hc18.2 rfl)⟩⟩) (.cons (⟨_, _, rfl, rfl, rfl, rfl, fun a w hR hf => .inl ⟨wanted_yes hf rfl, ex_castB (ex_gtr hf rfl rfl) (dec_f hc19)⟩⟩) (.cons (⟨_, _, rfl, rfl, rfl, rfl, fun a w hR hf => .inl ⟨wanted_yes hf rfl, ex_move hf rfl⟩⟩) (.cons (⟨_, _, rfl, rfl, rfl, rfl, fun a w hR hf => .inl ⟨wanted_yes hf rfl, ex_move hf rfl⟩⟩) (.cons (⟨_, _, rfl, rfl, rfl, rfl, fun a w hR hf => .inl ⟨wanted_yes hf rfl, ex_move hf rfl⟩⟩) (.cons (⟨_, _, rfl, rfl, rfl, rfl, fun a w hR hf => .inl ⟨wanted_yes hf rfl, ex_indexAddr sa_38 (rsl_isSl hR.1) hc18.1 hc18.2 hf rfl rfl⟩⟩) (.cons (⟨_, _, rfl, rfl, rfl, rfl, fun a w hR hf => .inl ⟨wanted_yes hf rfl, ex_fieldAddrS fa_56_2 rfl hf rfl⟩⟩) (.cons (⟨_, _, rfl, rfl, rfl, rfl, fun a w hR hf => .inl ⟨wanted_yes hf rfl, ex_load sc_37 hf rfl (el_cell (K := K_api_Actor) (f := 2) (rsl_rd hR.1) hc18.1 hc18.2 rfl)⟩⟩) (.cons (⟨_, _, rfl, rfl, rfl, rfl, fun a w hR hf => .inl ⟨wanted_yes hf rfl, ex_gtr hf rfl rfl⟩⟩) (.cons (⟨_, _, rfl, rfl, rfl, rfl, fun a w hR hf => .inl ⟨wanted_yes hf rfl, ex_pickF hf rfl rfl⟩⟩) (.nil)))))))))))))))))))) (fun K21 hK21 => ?_)
                refine RW.zero (by kernel_rfl) (by kernel_rfl) [(0, v0), (3, .int .i64 y9), (31, .bool (decide (4294967296 < ((gd Actor.zero a0 y9).Max))))] ⟨rfl, rfl, rfl, trivial⟩ (fun a w hR hs hf => ?_)
                refine hK21 _ _ ?_
                have e17 := some_eq H; subst e17
                exact hJ17 _ _ ⟨hf.sub ⟨rfl, rfl, rfl, trivial⟩, hs⟩
            · obtain ⟨hf, hs⟩ := hJ
              replace H := HO17
              clear HO17
              refine itt H (fun hc22 H => ?_) (fun hc22 H => ?_)
              · -- x17 = true
                replace hf := hf.castB (t := 31) rfl hc22
                refine cond_T hf rfl ?_
                refine seq_reg (fun K23 hK23 => ?_)
                refine stq hf rfl rfl rfl (ex_assign hf rfl) (fun a hf => ?_)
                refine hK23 _ _ ?_
                refine wp_ret ?_
                refine hR16 _ _ ?_
                refine hR15 _ _ ?_
                refine hR11 _ _ ?_
                refine hR8 _ _ ?_
                have e6 := some_eq H; subst e6; replace H := el_rt HO6
                refine hR6 _ _ ?_
                have eR := some_eq H; subst eR
                exact ret1 Try.results37 hf rfl ⟨_, rfl, ⟨rfl, hs⟩⟩
              · -- not x17 = true
                replace hf := hf.castB (t := 31) rfl (bool_f hc22)
                refine cond_F hf rfl ?_
                refine wp_skip ?_
                refine hN16 _ _ ?_
                refine hN15 _ _ ?_
                refine region_k (fun K24 hK24 => ?_)
                refine stq hf rfl rfl rfl (ex_move hf rfl) (fun a hf => ?_)
                refine stq hf rfl rfl rfl (ex_add hf rfl rfl) (fun a hf => ?_)
                refine stq hf rfl rfl rfl (ex_assign hf rfl) (fun a hf => ?_)
                refine hK24 _ _ ?_
                exact hL11 k11 _ _ (Nat.lt_succ_self _) ⟨(IntKind.i64.wrap (y9 + 1)), hf.sub ⟨rfl, rfl, trivial⟩, hs, H⟩
          · -- not y9 < (a0.length : Int)
            replace hf := hf.castB (t := 10) rfl (dec_f hc14)
            refine cond_F hf rfl ?_
            refine wp_exit ?_
            refine hX12 0 _ _ ?_
            refine hX11 0 _ _ ?_
            refine hX8 _ _ ?_
            have e6 := some_eq H; subst e6
            exact hJ6 _ _ ⟨_, rfl, hf.sub trivial, hs⟩
    · obtain ⟨x6s, rfl, hf, hs⟩ := hJ
      replace H := el_go HO6
      clear HO6
      refine seq_reg (fun K25 hK25 => ?_)
      refine stq hf rfl rfl rfl (ex_assign hf rfl) (fun a hf => ?_)
      refine hK25 _ _ ?_
      refine wp_ret ?_
      have eR := some_eq H; subst eR
      exact ret1 Try.results37 hf rfl ⟨_, rfl, ⟨rfl, hs⟩⟩

set_option maxRecDepth 100000 in
theorem ref39_want.calls {M : Nat → Prop} {w0 : World} (k : Nat) (a0 : Actor) {r : Int} (hs : St M w0 w0 []) (hr : Sr M w0 [])
    (h : ref39_want.f k a0 = some r) : Calls Try.prog 39 #[.agg #[.int .u64 a0.Request, .int .u64 a0.Min, .int .u64 a0.Max]] w0 fun e w => ∃ v, e = .returned v ∧ (.int .u64 r = v ∧ St M w0 w []) := by
  have H := (ref39_want.f.eq_1 ..).symm.trans h
  clear h
  refine enter Try.func39 rfl Try.ntmps39 rfl (fun a hf => ?_)
  refine seq_reg (fun K2 hK2 => ?_)
  refine stepV hf rfl rfl rfl (er_box (cs := [.int .u64 a0.Request, .int .u64 a0.Min, .int .u64 a0.Max]) hs hf rfl rfl) (fun v w hR a hf => ?_)
  obtain ⟨b1, rfl, hs⟩ := hR
  refine stq hf rfl rfl rfl (ex_assign hf rfl) (fun a hf => ?_)
  refine hK2 _ _ ?_
  refine seq_reg (fun K3 hK3 => ?_)
  refine stq hf rfl rfl rfl (ex_fieldAddrB fa_56_0 rfl hf rfl) (fun a hf => ?_)
  refine stq hf rfl rfl rfl (ex_load sc_37 hf rfl (bx_cell (hs.get (i := 0) rfl) _ rfl)) (fun a hf => ?_)
  refine stq hf rfl rfl rfl (ex_fieldAddrB fa_56_1 rfl hf rfl) (fun a hf => ?_)
  refine stq hf rfl rfl rfl (ex_load sc_37 hf rfl (bx_cell (hs.get (i := 0) rfl) _ rfl)) (fun a hf => ?_)
  refine stq hf rfl rfl rfl (ex_max hf rfl rfl) (fun a hf => ?_)
  refine stq hf rfl rfl rfl (ex_fieldAddrB fa_56_2 rfl hf rfl) (fun a hf => ?_)
  refine stq hf rfl rfl rfl (ex_load sc_37 hf rfl (bx_cell (hs.get (i := 0) rfl) _ rfl)) (fun a hf => ?_)
  refine stq hf rfl rfl rfl (ex_min hf rfl rfl) (fun a hf => ?_)
  refine stq hf rfl rfl rfl (ex_assign hf rfl) (fun a hf => ?_)
  refine hK3 _ _ ?_
  refine wp_ret ?_
  have eR := some_eq H; subst eR
  replace hs := hs.keep (.d .nil)
  exact ret1 Try.results39 hf rfl ⟨_, rfl, ⟨rfl, hs⟩⟩

set_option maxRecDepth 100000 in
theorem ref39_at.calls {M : Nat → Prop} {w0 : World} (k : Nat) (a0 : (List Actor)) (a1 : Int) (v0 : Value) {r : (List Int) × Int} (hs : St M w0 w0 []) (hr : Sr M w0 [rsl K_api_Actor v0 a0])
    (h : ref39_at.f k a0 a1 = some r) : Calls Try.prog 38 #[v0, .int .u64 a1] w0 fun e w => ∃ v, e = .returned v ∧ (∃ (g0 : Value), .tuple #[g0, .int .u64 r.2] = v ∧ St M w0 w [osl K_uint64 g0 r.1]) := by
  have H := (ref39_at.f.eq_1 ..).symm.trans h
  clear h
  refine enter Try.func38 rfl Try.ntmps38 rfl (fun a hf => ?_)
  refine seq_reg (fun K1 hK1 => ?_)
  refine stq hf rfl rfl rfl (ex_assign hf rfl) (fun a hf => ?_)
  refine stq hf rfl rfl rfl (ex_assign hf rfl) (fun a hf => ?_)
  refine hK1 _ _ ?_
  refine seq_reg (fun K2 hK2 => ?_)
  refine stq hf rfl rfl rfl (ex_assign hf rfl) (fun a hf => ?_)
  refine hK2 _ _ ?_
  refine seq_reg (fun K3 hK3 => ?_)
  refine stq hf rfl rfl rfl (ex_assign hf rfl) (fun a hf => ?_)
  refine hK3 _ _ ?_
  refine bnd H (fun x4 H4 HO4 => ?_)
  clear H
  refine seq_cut (fun a w => ∃ (v5 : Value), Fr a 38 [(6, v5), (7, .int .u64 x4.2)] ∧ St M w0 w [osl K_uint64 v5 x4.1]) (fun Q4 hJ4 hR4 hX4 => ?_) (fun a w hJ => ?_)
  · replace H := H4
    refine seq_reg (fun K6 hK6 => ?_)
    refine stq hf rfl rfl rfl (ex_assign hf rfl) (fun a hf => ?_)
    refine hK6 _ _ ?_
    refine block_k (fun Q7 hN7 hR7 hX7 hY7 => ?_)
    refine loop_k (fun n a w => ∃ (y9 : (List Int)) (y10 : Int) (y11 : Int) (v8 : Value), Fr a 38 [(0, v0), (1, .int .u64 a1), (6, v8), (7, .int .u64 y10), (8, .int .i64 y11)] ∧ St M w0 w [osl K_uint64 v8 y9] ∧ ref39_at.l1 n a0 a1 y9 y10 y11 = some x4) k ?_ (fun n13 a w hI Q13 hL13 hR13 hX13 => ?_)
    · -- at the start
      replace hs := hs.nilS K_uint64
      exact ⟨[], 0, 0, (.slice none 0 0), hf.sub ⟨rfl, rfl, rfl, rfl, rfl, trivial⟩, hs, H⟩
    · obtain ⟨y9, y10, y11, v8, hf, hs, H⟩ := hI
      cases n13 with
      | zero => exact absurd H (by rw [ref39_at.l1.eq_1]; intro h; cases h)
      | succ k13 =>
        replace H := (ref39_at.l1.eq_2 ..).symm.trans H
        refine seq_n (fun Q14 hN14 hR14 hX14 => ?_)
        refine seq_reg (fun K15 hK15 => ?_)
        refine stq hf rfl rfl rfl (ex_move hf rfl) (fun a hf => ?_)
        refine stq hf rfl rfl rfl (ex_move hf rfl) (fun a hf => ?_)
        refine stq hf rfl rfl rfl (ex_lenS Try.underlying38 (rsl_isSl (hr.now hs (i := 0) rfl)) hf rfl) (fun a hf => ?_)
        refine stq hf rfl rfl rfl (ex_lss hf rfl rfl) (fun a hf => ?_)
        refine hK15 _ _ ?_
        refine itt H (fun hc16 H => ?_) (fun hc16 H => ?_)
        · -- y11 < (a0.length : Int)
          replace hf := hf.castB (t := 13) rfl (dec_t hc16)
          refine cond_T hf rfl ?_
          refine wp_skip ?_
          refine hN14 _ _ ?_
          refine seq_n (fun Q17 hN17 hR17 hX17 => ?_)
          refine block_k (fun Q18 hN18 hR18 hX18 hY18 => ?_)
          refine seq_n (fun Q19 hN19 hR19 hX19 => ?_)
          refine ck_some H (fun hc20 H => ?_)
          refine bnd H (fun s21 hs21 H => ?_)
          refine region_d fol 13 [(0, v0), (1, .int .u64 a1), (6, v8), (7, .int .u64 y10), (8, .int .i64 y11)] [(0, .int .u64 a1), (1, v0), (2, .int .i64 y11), (3, .pointer (some (sla v0 (y11.toNat * 3)))), (4, .pointer (some (sla v0 (y11.toNat * 3 + 1)))), (5, .int .u64 ((gd Actor.zero a0 y11).Min)), (6, .int .u64 (mx a1 ((gd Actor.zero a0 y11).Min))), (7, v0), (8, .int .i64 y11), (9, .pointer (some (sla v0 (y11.toNat * 3)))), (10, .agg #[.int .u64 ((gd Actor.zero a0 y11).Request), .int .u64 ((gd Actor.zero a0 y11).Min), .int .u64 ((gd Actor.zero a0 y11).Max)])] [11] (fun w => (rsl K_api_Actor v0 a0).ok w ∧ True) (fun w => St M w0 w [osl K_uint64 v8 y9]) hf ⟨rfl, rfl, rfl, rfl, rfl, trivial⟩ (by kernel_rfl) (by kernel_rfl) rfl (by decide) ⟨hr.now hs.drew (i := 0) rfl, trivial⟩ hs.drew (.cons (⟨_, _, rfl, rfl, rfl, rfl, fun a w hR hf => .inl ⟨wanted_yes hf rfl, ex_move hf rfl⟩⟩) (.cons (⟨_, _, rfl, rfl, rfl, rfl, fun a w hR hf => .inl ⟨wanted_yes hf rfl, ex_move hf rfl⟩⟩) (.cons (⟨_, _, rfl, rfl, rfl, rfl, fun a w hR hf => .inl ⟨wanted_yes hf rfl, ex_move hf rfl⟩⟩) (.cons (⟨_, _, rfl, rfl, rfl, rfl, fun a w hR hf => .inl ⟨wanted_yes hf rfl, ex_indexAddr sa_38 (rsl_isSl hR.1) hc20.1 hc20.2 hf rfl rfl⟩⟩) (.cons (⟨_, _, rfl, rfl, rfl, rfl, fun a w hR hf => .inl ⟨wanted_yes hf rfl, ex_fieldAddrS fa_56_1 rfl hf rfl⟩⟩) (.cons (⟨_, _, rfl, rfl, rfl, rfl, fun a w hR hf => .inl ⟨wanted_yes hf rfl, ex_load sc_37 hf rfl (el_cell (K := K_api_Actor) (f := 1) (rsl_rd hR.1) hc20.1 hc20.2 rfl)⟩⟩) (.cons (⟨_, _, rfl, rfl, rfl, rfl, fun a w hR hf => .inl ⟨wanted_yes hf rfl, ex_max hf rfl rfl⟩⟩) (.cons (⟨_, _, rfl, rfl, rfl, rfl, fun a w hR hf => .inl ⟨wanted_yes hf rfl, ex_move hf rfl⟩⟩) (.cons (⟨_, _, rfl, rfl, rfl, rfl, fun a w hR hf => .inl ⟨wanted_yes hf rfl, ex_move hf rfl⟩⟩) (.cons (⟨_, _, rfl, rfl, rfl, rfl, fun a w hR hf => .inl ⟨wanted_yes hf rfl, ex_indexAddr sa_38 (rsl_isSl hR.1) hc20.1 hc20.2 hf rfl rfl⟩⟩) (.cons (⟨_, _, rfl, rfl, rfl, rfl, fun a w hR hf => .inl ⟨wanted_yes hf rfl, ex_loadA (cs := [.int .u64 ((gd Actor.zero a0 y11).Request), .int .u64 ((gd Actor.zero a0 y11).Min), .int .u64 ((gd Actor.zero a0 y11).Max)]) ag_56 hf rfl (el_cells (K := K_api_Actor) (rsl_rd hR.1) hc20.1 hc20.2 rfl)⟩⟩) (.nil)))))))))))) (fun K22 hK22 => ?_)
          refine RW.one 11 (by kernel_rfl) (by kernel_rfl) rfl (fun d hd => by cases hd; rfl) [(26, .agg #[.int .u64 ((gd Actor.zero a0 y11).Request), .int .u64 ((gd Actor.zero a0 y11).Min), .int .u64 ((gd Actor.zero a0 y11).Max)])] ⟨rfl, trivial⟩ (fun a w hR hs hf => ⟨wanted_yes hf rfl, ?_⟩)
          refine estep_f (ex_call cf_39 hf rfl) (ref39_want.calls k13 (⟨((gd Actor.zero a0 y11).Request), ((gd Actor.zero a0 y11).Min), ((gd Actor.zero a0 y11).Max)⟩ : Actor) (hs.enter (.k .nil)) (Sr.nil _ _) hs21) (fun v w hR => ?_)
          obtain ⟨rfl, hs'⟩ := hR
          replace hs := hs.step (.k .nil) hs'
          clear hs'
          refine ⟨[(12, .int .u64 (mn (mx a1 ((gd Actor.zero a0 y11).Min)) s21))], [(12, .int .u64 (mn (mx a1 ((gd Actor.zero a0 y11).Min)) s21)), (11, .int .u64 s21), (0, .int .u64 a1), (1, v0), (2, .int .i64 y11), (3, .pointer (some (sla v0 (y11.toNat * 3)))), (4, .pointer (some (sla v0 (y11.toNat * 3 + 1)))), (5, .int .u64 ((gd Actor.zero a0 y11).Min)), (6, .int .u64 (mx a1 ((gd Actor.zero a0 y11).Min))), (7, v0), (8, .int .i64 y11), (9, .pointer (some (sla v0 (y11.toNat * 3)))), (10, .agg #[.int .u64 ((gd Actor.zero a0 y11).Request), .int .u64 ((gd Actor.zero a0 y11).Min), .int .u64 ((gd Actor.zero a0 y11).Max)])], [], (fun _ => True), (fun w => St M w0 w [osl K_uint64 v8 y9]), rfl, rfl, ⟨hr.now hs (i := 0) rfl, trivial⟩, trivial, hs, (by kernel_rfl), .cons (⟨_, _, rfl, rfl, rfl, rfl, fun a w hR hf => .inl ⟨wanted_yes hf rfl, ex_min hf rfl rfl⟩⟩) (.nil), ?_⟩
          refine RW.zero (by kernel_rfl) (by kernel_rfl) [(0, v0), (1, .int .u64 a1), (6, v8), (7, .int .u64 y10), (8, .int .i64 y11), (28, .int .u64 (mn (mx a1 ((gd Actor.zero a0 y11).Min)) s21))] ⟨rfl, rfl, rfl, rfl, rfl, rfl, trivial⟩ (fun a w hR hs hf => ?_)
          refine stq hf rfl rfl rfl (ex_assign hf rfl) (fun a hf => ?_)
          refine hK22 _ _ ?_
          refine hN19 _ _ ?_
          refine ck_some H (fun hc24 H => ?_)
          refine seq_reg (fun K26 hK26 => ?_)
          refine stq hf rfl rfl rfl (ex_move hf rfl) (fun a hf => ?_)
          refine stq hf rfl rfl rfl (ex_move hf rfl) (fun a hf => ?_)
          refine stepV hf rfl rfl rfl (er_buildSlice (K := K_uint64) (xs := [(mn (mx a1 ((gd Actor.zero a0 y11).Min)) s21)]) hs Try.underlying40 ep_37 rfl rfl hf rfl (.cons rfl .nil) rfl rfl) (fun v23 w hs a hf => ?_)
          refine stepV hf rfl rfl rfl (er_append (K := K_uint64) hs (.k (.c .nil)) (osl_rsl _ (hs.get (i := 0) rfl)) rfl Try.underlying40 ep_37 hc24 rfl hf rfl rfl) (fun v25 w hs a hf => ?_)
          refine stq hf rfl rfl rfl (ex_assign hf rfl) (fun a hf => ?_)
          refine hK26 _ _ ?_
          refine region_k (fun K27 hK27 => ?_)
          refine stq hf rfl rfl rfl (ex_move hf rfl) (fun a hf => ?_)
          refine stq hf rfl rfl rfl (ex_move hf rfl) (fun a hf => ?_)
          refine stq hf rfl rfl rfl (ex_add hf rfl rfl) (fun a hf => ?_)
          refine stq hf rfl rfl rfl (ex_assign hf rfl) (fun a hf => ?_)
          refine hK27 _ _ ?_
          refine hN18 _ _ ?_
          refine hN17 _ _ ?_
          refine region_k (fun K28 hK28 => ?_)
          refine stq hf rfl rfl rfl (ex_move hf rfl) (fun a hf => ?_)
          refine stq hf rfl rfl rfl (ex_add hf rfl rfl) (fun a hf => ?_)
          refine stq hf rfl rfl rfl (ex_assign hf rfl) (fun a hf => ?_)
          refine hK28 _ _ ?_
          replace hs := hs.keep (.k (.d .nil))
          exact hL13 k13 _ _ (Nat.lt_succ_self _) ⟨(y9 ++ [(mn (mx a1 ((gd Actor.zero a0 y11).Min)) s21)]), (IntKind.u64.wrap (y10 + (mn (mx a1 ((gd Actor.zero a0 y11).Min)) s21))), (IntKind.i64.wrap (y11 + 1)), v25, hf.sub ⟨rfl, rfl, rfl, rfl, rfl, trivial⟩, hs, H⟩
        · -- not y11 < (a0.length : Int)
          replace hf := hf.castB (t := 13) rfl (dec_f hc16)
          refine cond_F hf rfl ?_
          refine wp_exit ?_
          refine hX14 0 _ _ ?_
          refine hX13 0 _ _ ?_
          refine hX7 _ _ ?_
          have e4 := some_eq H; subst e4
          exact hJ4 _ _ ⟨v8, hf.sub ⟨rfl, rfl, trivial⟩, hs⟩
  · obtain ⟨v5, hf, hs⟩ := hJ
    replace H := HO4
    clear HO4
    refine seq_reg (fun K29 hK29 => ?_)
    refine stq hf rfl rfl rfl (ex_move hf rfl) (fun a hf => ?_)
    refine stq hf rfl rfl rfl (ex_move hf rfl) (fun a hf => ?_)
    refine stq hf rfl rfl rfl (ex_assign hf rfl) (fun a hf => ?_)
    refine stq hf rfl rfl rfl (ex_assign hf rfl) (fun a hf => ?_)
    refine hK29 _ _ ?_
    refine wp_ret ?_
    have eR := some_eq H; subst eR
    exact ret2 Try.results38 hf rfl rfl ⟨_, rfl, ⟨v5, rfl, hs⟩⟩

end Go.Proofs.Ytkcmohmnmapnbaa.X
