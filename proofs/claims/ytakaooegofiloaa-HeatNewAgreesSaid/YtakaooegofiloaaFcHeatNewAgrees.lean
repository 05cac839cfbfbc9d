/- Each function of the machine comes to what its pure function says. -/
import Derived.Test.YtakaooegofiloaaFc1
import Derived.Test.YtakaooegofiloaaFc2
import Derived.Test.YtakaooegofiloaaFc3
import Derived.Test.YtakaooegofiloaaFc5
import Derived.Test.YtakaooegofiloaaFb
namespace Go.Proofs.Ytakaooegofiloaa.X
open Go Go.RowKit Go.Sx
set_option linter.unusedVariables false

set_option maxHeartbeats 4000000 in
set_option maxRecDepth 100000 in
theorem law38_HeatNewAgrees.calls {M : Nat → Prop} {w0 : World} (k : Nat) (a0 : (List HeatDomain)) (a1 : (List HeatLink)) (a2 : Int) (a3 : (List Int)) (a4 : Int) (a5 : Int) (a6 : Int) (v0 : Value) (v1 : Value) (v3 : Value) {r : Bool} (hs : St M w0 w0 []) (hr : Sr M w0 [rsl K_api_HeatDomain v0 a0, rsl K_api_HeatLink v1 a1, rsl K_int64 v3 a3])
  (h : law38_HeatNewAgrees.f k a0 a1 a2 a3 a4 a5 a6 = some r) : Calls Try.prog 8 #[v0, v1, .int .i64 a2, v3, .int .i64 a4, .int .i64 a5, .int .u8 a6] w0 fun e w => ∃ v, e = .returned v ∧ (.bool r = v ∧ St M w0 w []) := by
 have H := (law38_HeatNewAgrees.f.eq_1 ..).symm.trans h
 clear h
 refine enter Try.func8 rfl Try.ntmps8 rfl (fun a hf => ?_)
 refine seq_reg (fun K1 hK1 => ?_)
 refine stq hf rfl rfl rfl (ex_assign hf rfl) (fun a hf => ?_)
 refine hK1 _ _ ?_
 refine seq_n (fun Q2 hN2 hR2 hX2 => ?_)
 refine bnd H (fun x3 H3 HO3 => ?_)
 clear H
 refine seq_cut (fun a w => Fr a 231 [(0, v0), (1, v1), (2, .int .i64 a2), (3, v3), (4, .int .i64 a4), (5, .int .i64 a5), (6, .int .u8 a6), (45, .bool x3)] ∧ St M w0 w []) (fun Q3 hJ3 hR3 hX3 => ?_) (fun a w hJ => ?_)
 ·
  replace H := H3
  refine itt H (fun hc4 H => ?_) (fun hc4 H => ?_)
  · -- 20 < (a0.length : Int)
   refine region_k (fun K5 hK5 => ?_)
   refine stq hf rfl rfl rfl (ex_move hf rfl) (fun a hf => ?_)
   refine stq hf rfl rfl rfl (ex_lenS Try.underlying22 (rsl_isSl (hr.now hs (i := 0) rfl)) hf rfl) (fun a hf => ?_)
   refine stq hf rfl rfl rfl (ex_gtr hf rfl rfl) (fun a hf => ?_)
   refine stq hf rfl rfl rfl (ex_move hf rfl) (fun a hf => ?_)
   replace hf := hf.castB (t := 35) rfl (dec_t hc4)
   replace hf := hf.castB (t := 36) rfl (dec_t hc4)
   refine stepN hf rfl rfl rfl (fun a hf => ?_)
   refine stepN hf rfl rfl rfl (fun a hf => ?_)
   refine stepN hf rfl rfl rfl (fun a hf => ?_)
   refine stq hf rfl rfl rfl (ex_pickT hf rfl rfl) (fun a hf => ?_)
   refine stq hf rfl rfl rfl (ex_move hf rfl) (fun a hf => ?_)
   refine stepN hf rfl rfl rfl (fun a hf => ?_)
   refine stepN hf rfl rfl rfl (fun a hf => ?_)
   refine stepN hf rfl rfl rfl (fun a hf => ?_)
   refine stq hf rfl rfl rfl (ex_pickT hf rfl rfl) (fun a hf => ?_)
   refine hK5 _ _ ?_
   have e3 := some_eq H; subst e3
   exact hJ3 _ _ ⟨hf.sub ⟨rfl, rfl, rfl, rfl, rfl, rfl, rfl, rfl, trivial⟩, hs⟩
  · -- not 20 < (a0.length : Int)
   refine itt H (fun hc6 H => ?_) (fun hc6 H => ?_)
   · -- 20 < (a1.length : Int)
    refine region_k (fun K7 hK7 => ?_)
    refine stq hf rfl rfl rfl (ex_move hf rfl) (fun a hf => ?_)
    refine stq hf rfl rfl rfl (ex_lenS Try.underlying22 (rsl_isSl (hr.now hs (i := 0) rfl)) hf rfl) (fun a hf => ?_)
    refine stq hf rfl rfl rfl (ex_gtr hf rfl rfl) (fun a hf => ?_)
    refine stq hf rfl rfl rfl (ex_move hf rfl) (fun a hf => ?_)
    replace hf := hf.castB (t := 35) rfl (dec_f hc4)
    replace hf := hf.castB (t := 36) rfl (dec_f hc4)
    refine stq hf rfl rfl rfl (ex_move hf rfl) (fun a hf => ?_)
    refine stq hf rfl rfl rfl (ex_lenS Try.underlying23 (rsl_isSl (hr.now hs (i := 1) rfl)) hf rfl) (fun a hf => ?_)
    refine stq hf rfl rfl rfl (ex_gtr hf rfl rfl) (fun a hf => ?_)
    refine stq hf rfl rfl rfl (ex_pickF hf rfl rfl) (fun a hf => ?_)
    refine stq hf rfl rfl rfl (ex_move hf rfl) (fun a hf => ?_)
    replace hf := hf.castB (t := 39) rfl (dec_t hc6)
    replace hf := hf.castB (t := 40) rfl (dec_t hc6)
    replace hf := hf.castB (t := 41) rfl (dec_t hc6)
    refine stepN hf rfl rfl rfl (fun a hf => ?_)
    refine stepN hf rfl rfl rfl (fun a hf => ?_)
    refine stepN hf rfl rfl rfl (fun a hf => ?_)
    refine stq hf rfl rfl rfl (ex_pickT hf rfl rfl) (fun a hf => ?_)
    refine hK7 _ _ ?_
    have e3 := some_eq H; subst e3
    exact hJ3 _ _ ⟨hf.sub ⟨rfl, rfl, rfl, rfl, rfl, rfl, rfl, rfl, trivial⟩, hs⟩
   · -- not 20 < (a1.length : Int)
    refine region_k (fun K8 hK8 => ?_)
    refine stq hf rfl rfl rfl (ex_move hf rfl) (fun a hf => ?_)
    refine stq hf rfl rfl rfl (ex_lenS Try.underlying22 (rsl_isSl (hr.now hs (i := 0) rfl)) hf rfl) (fun a hf => ?_)
    refine stq hf rfl rfl rfl (ex_gtr hf rfl rfl) (fun a hf => ?_)
    refine stq hf rfl rfl rfl (ex_move hf rfl) (fun a hf => ?_)
    replace hf := hf.castB (t := 35) rfl (dec_f hc4)
    replace hf := hf.castB (t := 36) rfl (dec_f hc4)
    refine stq hf rfl rfl rfl (ex_move hf rfl) (fun a hf => ?_)
    refine stq hf rfl rfl rfl (ex_lenS Try.underlying23 (rsl_isSl (hr.now hs (i := 1) rfl)) hf rfl) (fun a hf => ?_)
    refine stq hf rfl rfl rfl (ex_gtr hf rfl rfl) (fun a hf => ?_)
    refine stq hf rfl rfl rfl (ex_pickF hf rfl rfl) (fun a hf => ?_)
    refine stq hf rfl rfl rfl (ex_move hf rfl) (fun a hf => ?_)
    replace hf := hf.castB (t := 39) rfl (dec_f hc6)
    replace hf := hf.castB (t := 40) rfl (dec_f hc6)
    replace hf := hf.castB (t := 41) rfl (dec_f hc6)
    refine stq hf rfl rfl rfl (ex_move hf rfl) (fun a hf => ?_)
    refine stq hf rfl rfl rfl (ex_lenS Try.underlying35 (rsl_isSl (hr.now hs (i := 2) rfl)) hf rfl) (fun a hf => ?_)
    refine stq hf rfl rfl rfl (ex_gtr hf rfl rfl) (fun a hf => ?_)
    refine stq hf rfl rfl rfl (ex_pickF hf rfl rfl) (fun a hf => ?_)
    refine hK8 _ _ ?_
    have e3 := some_eq H; subst e3
    exact hJ3 _ _ ⟨hf.sub ⟨rfl, rfl, rfl, rfl, rfl, rfl, rfl, rfl, trivial⟩, hs⟩
 ·
  obtain ⟨hf, hs⟩ := hJ
  replace H := HO3
  clear HO3
  refine itt H (fun hc9 H => ?_) (fun hc9 H => ?_)
  · -- x3 = true
   replace hf := hf.castB (t := 45) rfl hc9
   refine cond_T hf rfl ?_
   refine bnd H (fun s10 hs10 H => ?_)
   refine seq_reg (fun K11 hK11 => ?_)
   refine stepF hf rfl rfl rfl (ex_call cf_11 hf rfl) (law38_awake.calls k (hs.enter .nil) (Sr.nil _ _) hs10) (fun v w hR a hf => ?_)
   obtain ⟨rfl, hs'⟩ := hR
   replace hs := hs.step .nil hs'
   clear hs'
   refine stq hf rfl rfl rfl (ex_assign hf rfl) (fun a hf => ?_)
   refine hK11 _ _ ?_
   refine wp_ret ?_
   refine hR2 _ _ ?_
   have eR := some_eq H; subst eR
   exact ret1 Try.results8 hf rfl ⟨_, rfl, ⟨rfl, hs⟩⟩
  · -- not x3 = true
   replace hf := hf.castB (t := 45) rfl (bool_f hc9)
   refine cond_F hf rfl ?_
   refine wp_skip ?_
   refine hN2 _ _ ?_
   refine bnd H (fun s12 hs12 H => ?_)
   refine seq_reg (fun K16 hK16 => ?_)
   refine stq hf rfl rfl rfl (ex_move hf rfl) (fun a hf => ?_)
   refine stq hf rfl rfl rfl (ex_move hf rfl) (fun a hf => ?_)
   refine stq hf rfl rfl rfl (ex_move hf rfl) (fun a hf => ?_)
   refine stepF hf rfl rfl rfl (ex_call cf_12 hf rfl) (law38_Some.calls k a0 a1 a2 v0 v1 (hs.enter .nil) (Sr.old hr hs .nil (i := 0) rfl (fun _ h => h) (fun _ h => h) (Sr.old hr hs .nil (i := 1) rfl (fun _ h => h) (fun _ h => h) (Sr.nil _ _))) hs12) (fun v w hR a hf => ?_)
   obtain ⟨v13, v14, rfl, hs'⟩ := hR
   replace hs := hs.step .nil hs'
   clear hs'
   refine stepV hf rfl rfl rfl (er_alloc hs ti_27 (cs := [(.slice none 0 0), (.slice none 0 0), .int .i64 0]) rfl) (fun v w hR a hf => ?_)
   obtain ⟨b15, rfl, hs⟩ := hR
   refine stepS hf rfl rfl (er_storeAB (vs := [v13, v14, .int .i64 s12.2.2]) (cs' := [v13, v14, .int .i64 s12.2.2]) hs (.c (.k (.k .nil))) sz_27 hf rfl rfl (all1 (IsSl.one (rsl_isSl (osl_rsl _ (hs.get (i := 1) rfl)))) (all1 (IsSl.one (rsl_isSl (osl_rsl _ (hs.get (i := 2) rfl)))) (all1 rfl (all1_nil)))) rfl rfl) (fun w hs => ?_)
   refine hK16 _ _ ?_
   refine bnd H (fun s17 hs17 H => ?_)
   refine seq_reg (fun K21 hK21 => ?_)
   refine stq hf rfl rfl rfl (ex_move hf rfl) (fun a hf => ?_)
   refine stq hf rfl rfl rfl (ex_move hf rfl) (fun a hf => ?_)
   refine stq hf rfl rfl rfl (ex_move hf rfl) (fun a hf => ?_)
   refine stepF hf rfl rfl rfl (ex_call cf_12 hf rfl) (law38_Some.calls k a0 a1 a2 v0 v1 (hs.enter (.k (.k (.k .nil)))) (Sr.old hr hs (.k (.k (.k .nil))) (i := 0) rfl (fun _ h => h) (fun _ h => h) (Sr.old hr hs (.k (.k (.k .nil))) (i := 1) rfl (fun _ h => h) (fun _ h => h) (Sr.nil _ _))) hs17) (fun v w hR a hf => ?_)
   obtain ⟨v18, v19, rfl, hs'⟩ := hR
   replace hs := hs.step (.k (.k (.k .nil))) hs'
   clear hs'
   refine stepV hf rfl rfl rfl (er_alloc hs ti_27 (cs := [(.slice none 0 0), (.slice none 0 0), .int .i64 0]) rfl) (fun v w hR a hf => ?_)
   obtain ⟨b20, rfl, hs⟩ := hR
   refine stepS hf rfl rfl (er_storeAB (vs := [v18, v19, .int .i64 s17.2.2]) (cs' := [v18, v19, .int .i64 s17.2.2]) hs (.c (.k (.k (.k (.k (.k .nil)))))) sz_27 hf rfl rfl (all1 (IsSl.one (rsl_isSl (osl_rsl _ (hs.get (i := 1) rfl)))) (all1 (IsSl.one (rsl_isSl (osl_rsl _ (hs.get (i := 2) rfl)))) (all1 rfl (all1_nil)))) rfl rfl) (fun w hs => ?_)
   refine hK21 _ _ ?_
   refine bnd H (fun s22 hs22 H => ?_)
   refine seq_reg (fun K23 hK23 => ?_)
   refine stq hf rfl rfl rfl (ex_move hf rfl) (fun a hf => ?_)
   refine stq hf rfl rfl rfl (ex_fieldAddrB fa_27_0 rfl hf rfl) (fun a hf => ?_)
   refine stq hf rfl rfl rfl (ex_load sc_22 hf rfl (bx_cell (hs.get (i := 0) rfl) _ rfl)) (fun a hf => ?_)
   refine stq hf rfl rfl rfl (ex_lenS Try.underlying22 (rsl_isSl (osl_rsl _ (hs.get (i := 1) rfl))) hf rfl) (fun a hf => ?_)
   refine stepF hf rfl rfl rfl (ex_call cf_26 hf rfl) (help_Mod.calls k a4 (s17.1.length : Int) (hs.enter (.k (.k (.k (.k (.k (.k .nil))))))) (Sr.nil _ _) hs22) (fun v w hR a hf => ?_)
   obtain ⟨rfl, hs'⟩ := hR
   replace hs := hs.step (.k (.k (.k (.k (.k (.k .nil)))))) hs'
   clear hs'
   refine stq hf rfl rfl rfl (ex_assign hf rfl) (fun a hf => ?_)
   refine hK23 _ _ ?_
   refine bnd H (fun x24 H24 HO24 => ?_)
   clear H
   refine seq_cut (fun a w => ∃ (v25 : Value), Fr a 231 [(0, v0), (1, v1), (2, .int .i64 a2), (3, v3), (15, .pointer (some ⟨b15, 0, none⟩)), (16, .pointer (some ⟨b20, 0, none⟩))] ∧ St M w0 w [bx b15 27 [v13, v14, .int .i64 s12.2.2], osl K_api_HeatDomain v13 s12.1, osl K_api_HeatLink v14 s12.2.1, bx b20 27 [v18, v25, .int .i64 x24.2.2], osl K_api_HeatDomain v18 x24.1, osl K_api_HeatLink v25 x24.2.1]) (fun Q24 hJ24 hR24 hX24 => ?_) (fun a w hJ => ?_)
   ·
    replace H := H24
    refine seq_reg (fun K26 hK26 => ?_)
    refine stq hf rfl rfl rfl (ex_move hf rfl) (fun a hf => ?_)
    refine stq hf rfl rfl rfl (ex_rem hf rfl rfl (by decide)) (fun a hf => ?_)
    refine hK26 _ _ ?_
    refine block_k (fun Q27 hN27 hR27 hX27 hY27 => ?_)
    refine seq_reg (fun K28 hK28 => ?_)
    refine stq hf rfl rfl rfl (ex_eql hf rfl rfl) (fun a hf => ?_)
    refine stq hf rfl rfl rfl (ex_assign hf rfl) (fun a hf => ?_)
    refine hK28 _ _ ?_
    refine itt H (fun hc29 H => ?_) (fun hc29 H => ?_)
    · -- (Int.tmod a6 6) = 0
     replace hf := hf.castB (t := 63) rfl (dec_t hc29)
     replace hf := hf.castB (t := 62) rfl (dec_t hc29)
     refine cond_T hf rfl ?_
     refine ck_some H (fun hc30 H => ?_)
     refine region_d fol 15 [(0, v0), (1, v1), (2, .int .i64 a2), (3, v3), (5, .int .i64 a5), (15, .pointer (some ⟨b15, 0, none⟩)), (16, .pointer (some ⟨b20, 0, none⟩)), (17, .int .i64 s22)] [(0, .pointer (some ⟨b20, 0, none⟩)), (1, v18), (2, .int .i64 s22), (3, .pointer (some ⟨b20, 0, none⟩)), (4, v18), (5, .int .i64 s22), (6, .pointer (some (sla v18 (s22.toNat * 2)))), (7, .pointer (some (sla v18 (s22.toNat * 2 + 0)))), (8, .int .i64 ((gd HeatDomain.zero s17.1 s22).Capacity)), (9, .int .i64 a5), (10, .int .u64 (IntKind.u64.wrap a5)), (11, .int .u64 (Int.tmod (IntKind.u64.wrap a5) 5)), (12, .int .i64 (IntKind.i64.wrap (Int.tmod (IntKind.u64.wrap a5) 5))), (13, .int .i64 (IntKind.i64.wrap (((gd HeatDomain.zero s17.1 s22).Capacity) + (IntKind.i64.wrap (Int.tmod (IntKind.u64.wrap a5) 5))))), (14, .int .i64 (IntKind.i64.wrap ((IntKind.i64.wrap (((gd HeatDomain.zero s17.1 s22).Capacity) + (IntKind.i64.wrap (Int.tmod (IntKind.u64.wrap a5) 5)))) - 2)))] [] (fun w => (bx b20 27 [v18, v19, .int .i64 s17.2.2]).ok w ∧ (osl K_api_HeatDomain v18 s17.1).ok w ∧ True) (fun w => St M w0 w [bx b20 27 [v18, v19, .int .i64 s17.2.2], osl K_api_HeatDomain v18 s17.1, osl K_api_HeatLink v19 s17.2.1, bx b15 27 [v13, v14, .int .i64 s12.2.2], osl K_api_HeatDomain v13 s12.1, osl K_api_HeatLink v14 s12.2.1]) hf ⟨rfl, rfl, rfl, rfl, rfl, rfl, rfl, rfl, trivial⟩ (by kernel_rfl) (by kernel_rfl) rfl (by decide) ⟨hs.drew.get (i := 0) rfl, hs.drew.get (i := 1) rfl, trivial⟩ hs.drew (.cons (⟨_, _, rfl, rfl, rfl, rfl, fun a w hR hf => .inl ⟨wanted_yes hf rfl, ex_fieldAddrB fa_27_0 rfl hf rfl⟩⟩) (.cons (⟨_, _, rfl, rfl, rfl, rfl, fun a w hR hf => .inl ⟨wanted_yes hf rfl, ex_load sc_22 hf rfl (bx_cell (hR.1) _ rfl)⟩⟩) (.cons (⟨_, _, rfl, rfl, rfl, rfl, fun a w hR hf => .inl ⟨wanted_yes hf rfl, ex_move hf rfl⟩⟩) (.cons (⟨_, _, rfl, rfl, rfl, rfl, fun a w hR hf => .inl ⟨wanted_yes hf rfl, ex_fieldAddrB fa_27_0 rfl hf rfl⟩⟩) (.cons (⟨_, _, rfl, rfl, rfl, rfl, fun a w hR hf => .inl ⟨wanted_yes hf rfl, ex_load sc_22 hf rfl (bx_cell (hR.1) _ rfl)⟩⟩) (.cons (⟨_, _, rfl, rfl, rfl, rfl, fun a w hR hf => .inl ⟨wanted_yes hf rfl, ex_move hf rfl⟩⟩) (.cons (⟨_, _, rfl, rfl, rfl, rfl, fun a w hR hf => .inl ⟨wanted_yes hf rfl, ex_indexAddr sa_22 (rsl_isSl (osl_rsl _ hR.2.1)) hc30.1 hc30.2 hf rfl rfl⟩⟩) (.cons (⟨_, _, rfl, rfl, rfl, rfl, fun a w hR hf => .inl ⟨wanted_yes hf rfl, ex_fieldAddrS fa_34_0 rfl hf rfl⟩⟩) (.cons (⟨_, _, rfl, rfl, rfl, rfl, fun a w hR hf => .inl ⟨wanted_yes hf rfl, ex_load sc_2 hf rfl (el_cell (K := K_api_HeatDomain) (f := 0) (rsl_rd (osl_rsl _ hR.2.1)) hc30.1 hc30.2 rfl)⟩⟩) (.cons (⟨_, _, rfl, rfl, rfl, rfl, fun a w hR hf => .inl ⟨wanted_yes hf rfl, ex_move hf rfl⟩⟩) (.cons (⟨_, _, rfl, rfl, rfl, rfl, fun a w hR hf => .inl ⟨wanted_yes hf rfl, ex_conv Try.underlying2 Try.underlying52 hf rfl⟩⟩) (.cons (⟨_, _, rfl, rfl, rfl, rfl, fun a w hR hf => .inl ⟨wanted_yes hf rfl, ex_rem hf rfl rfl (by decide)⟩⟩) (.cons (⟨_, _, rfl, rfl, rfl, rfl, fun a w hR hf => .inl ⟨wanted_yes hf rfl, ex_conv Try.underlying52 Try.underlying2 hf rfl⟩⟩) (.cons (⟨_, _, rfl, rfl, rfl, rfl, fun a w hR hf => .inl ⟨wanted_yes hf rfl, ex_add hf rfl rfl⟩⟩) (.cons (⟨_, _, rfl, rfl, rfl, rfl, fun a w hR hf => .inl ⟨wanted_yes hf rfl, ex_sub hf rfl rfl⟩⟩) (.nil)))))))))))))))) (fun K31 hK31 => ?_)
     refine RW.zero (by kernel_rfl) (by kernel_rfl) [(0, v0), (1, v1), (2, .int .i64 a2), (3, v3), (15, .pointer (some ⟨b15, 0, none⟩)), (16, .pointer (some ⟨b20, 0, none⟩)), (65, v18), (66, .int .i64 s22), (78, .int .i64 (IntKind.i64.wrap ((IntKind.i64.wrap (((gd HeatDomain.zero s17.1 s22).Capacity) + (IntKind.i64.wrap (Int.tmod (IntKind.u64.wrap a5) 5)))) - 2)))] ⟨rfl, rfl, rfl, rfl, rfl, rfl, rfl, rfl, rfl, trivial⟩ (fun a w hR hs hf => ?_)
     refine stq hf rfl rfl rfl (ex_indexAddr sa_22 (rsl_isSl (osl_rsl _ (hs.get (i := 1) rfl))) hc30.1 hc30.2 hf rfl rfl) (fun a hf => ?_)
     refine stq hf rfl rfl rfl (ex_fieldAddrS fa_34_0 rfl hf rfl) (fun a hf => ?_)
     refine stepS hf rfl rfl (er_storeE (K := K_api_HeatDomain) (f := 0) (x' := (⟨(IntKind.i64.wrap ((IntKind.i64.wrap (((gd HeatDomain.zero s17.1 s22).Capacity) + (IntKind.i64.wrap (Int.tmod (IntKind.u64.wrap a5) 5)))) - 2)), ((gd HeatDomain.zero s17.1 s22).Ambient)⟩ : HeatDomain)) hs (.k (.c (.k (.k (.k (.k .nil)))))) hc30.1 hc30.2 hf rfl rfl rfl sz_2 rfl rfl) (fun w hs => ?_)
     refine hK31 _ _ ?_
     refine hN27 _ _ ?_
     replace hs := hs.pick (.k (.k (.c (.k (.k (.k .nil))))))
     replace hs := hs.pick (.k (.c (.k (.k (.k (.k .nil))))))
     replace hs := hs.pick (.k (.k (.c (.k (.k (.k .nil))))))
     replace hs := hs.pick (.k (.k (.k (.k (.k (.c .nil))))))
     replace hs := hs.pick (.k (.k (.k (.k (.k (.c .nil))))))
     replace hs := hs.pick (.k (.k (.k (.k (.k (.c .nil))))))
     have e24 := some_eq H; subst e24
     exact hJ24 _ _ ⟨v19, hf.sub ⟨rfl, rfl, rfl, rfl, rfl, rfl, trivial⟩, hs⟩
    · -- not (Int.tmod a6 6) = 0
     replace hf := hf.castB (t := 63) rfl (dec_f hc29)
     replace hf := hf.castB (t := 62) rfl (dec_f hc29)
     refine cond_F hf rfl ?_
     refine seq_reg (fun K32 hK32 => ?_)
     refine stq hf rfl rfl rfl (ex_eql hf rfl rfl) (fun a hf => ?_)
     refine stq hf rfl rfl rfl (ex_assign hf rfl) (fun a hf => ?_)
     refine hK32 _ _ ?_
     refine itt H (fun hc33 H => ?_) (fun hc33 H => ?_)
     · -- (Int.tmod a6 6) = 1
      replace hf := hf.castB (t := 82) rfl (dec_t hc33)
      replace hf := hf.castB (t := 81) rfl (dec_t hc33)
      refine cond_T hf rfl ?_
      refine ck_some H (fun hc34 H => ?_)
      refine region_k (fun K35 hK35 => ?_)
      refine stq hf rfl rfl rfl (ex_fieldAddrB fa_27_0 rfl hf rfl) (fun a hf => ?_)
      refine stq hf rfl rfl rfl (ex_load sc_22 hf rfl (bx_cell (hs.get (i := 0) rfl) _ rfl)) (fun a hf => ?_)
      refine stq hf rfl rfl rfl (ex_move hf rfl) (fun a hf => ?_)
      refine stq hf rfl rfl rfl (ex_move hf rfl) (fun a hf => ?_)
      refine stq hf rfl rfl rfl (ex_indexAddr sa_22 (rsl_isSl (osl_rsl _ (hs.get (i := 1) rfl))) hc34.1 hc34.2 hf rfl rfl) (fun a hf => ?_)
      refine stq hf rfl rfl rfl (ex_fieldAddrS fa_34_1 rfl hf rfl) (fun a hf => ?_)
      refine stepS hf rfl rfl (er_storeE (K := K_api_HeatDomain) (f := 1) (x' := (⟨((gd HeatDomain.zero s17.1 s22).Capacity), a5⟩ : HeatDomain)) hs (.k (.c (.k (.k (.k (.k .nil)))))) hc34.1 hc34.2 hf rfl rfl rfl sz_2 rfl rfl) (fun w hs => ?_)
      refine hK35 _ _ ?_
      refine hN27 _ _ ?_
      replace hs := hs.pick (.k (.k (.c (.k (.k (.k .nil))))))
      replace hs := hs.pick (.k (.c (.k (.k (.k (.k .nil))))))
      replace hs := hs.pick (.k (.k (.c (.k (.k (.k .nil))))))
      replace hs := hs.pick (.k (.k (.k (.k (.k (.c .nil))))))
      replace hs := hs.pick (.k (.k (.k (.k (.k (.c .nil))))))
      replace hs := hs.pick (.k (.k (.k (.k (.k (.c .nil))))))
      have e24 := some_eq H; subst e24
      exact hJ24 _ _ ⟨v19, hf.sub ⟨rfl, rfl, rfl, rfl, rfl, rfl, trivial⟩, hs⟩
     · -- not (Int.tmod a6 6) = 1
      replace hf := hf.castB (t := 82) rfl (dec_f hc33)
      replace hf := hf.castB (t := 81) rfl (dec_f hc33)
      refine cond_F hf rfl ?_
      refine seq_reg (fun K36 hK36 => ?_)
      refine stq hf rfl rfl rfl (ex_eql hf rfl rfl) (fun a hf => ?_)
      refine stq hf rfl rfl rfl (ex_assign hf rfl) (fun a hf => ?_)
      refine hK36 _ _ ?_
      refine itt H (fun hc37 H => ?_) (fun hc37 H => ?_)
      · -- (Int.tmod a6 6) = 2
       replace hf := hf.castB (t := 90) rfl (dec_t hc37)
       replace hf := hf.castB (t := 89) rfl (dec_t hc37)
       refine cond_T hf rfl ?_
       refine region_k (fun K38 hK38 => ?_)
       refine stq hf rfl rfl rfl (ex_move hf rfl) (fun a hf => ?_)
       refine stq hf rfl rfl rfl (ex_fieldAddrB fa_27_2 rfl hf rfl) (fun a hf => ?_)
       refine stepS hf rfl rfl (er_storeB hs (.c (.k (.k (.k (.k (.k .nil)))))) hf rfl rfl rfl sz_2 rfl) (fun w hs => ?_)
       refine hK38 _ _ ?_
       refine hN27 _ _ ?_
       replace hs := hs.pick (.k (.k (.c (.k (.k (.k .nil))))))
       replace hs := hs.pick (.k (.k (.c (.k (.k (.k .nil))))))
       replace hs := hs.pick (.k (.k (.c (.k (.k (.k .nil))))))
       replace hs := hs.pick (.k (.k (.k (.k (.k (.c .nil))))))
       replace hs := hs.pick (.k (.k (.k (.k (.k (.c .nil))))))
       replace hs := hs.pick (.k (.k (.k (.k (.k (.c .nil))))))
       have e24 := some_eq H; subst e24
       exact hJ24 _ _ ⟨v19, hf.sub ⟨rfl, rfl, rfl, rfl, rfl, rfl, trivial⟩, hs⟩
      · -- not (Int.tmod a6 6) = 2
       replace hf := hf.castB (t := 90) rfl (dec_f hc37)
       replace hf := hf.castB (t := 89) rfl (dec_f hc37)
       refine cond_F hf rfl ?_
       refine seq_reg (fun K39 hK39 => ?_)
       refine stq hf rfl rfl rfl (ex_eql hf rfl rfl) (fun a hf => ?_)
       refine stq hf rfl rfl rfl (ex_assign hf rfl) (fun a hf => ?_)
       refine hK39 _ _ ?_
       refine itt H (fun hc40 H => ?_) (fun hc40 H => ?_)
       · -- (Int.tmod a6 6) = 3
        replace hf := hf.castB (t := 94) rfl (dec_t hc40)
        replace hf := hf.castB (t := 93) rfl (dec_t hc40)
        refine cond_T hf rfl ?_
        refine bnd H (fun s41 hs41 H => ?_)
        refine ck_some H (fun hc43 H => ?_)
        refine region_d fol 16 [(0, v0), (1, v1), (2, .int .i64 a2), (3, v3), (5, .int .i64 a5), (15, .pointer (some ⟨b15, 0, none⟩)), (16, .pointer (some ⟨b20, 0, none⟩)), (17, .int .i64 s22)] [(0, .pointer (some ⟨b20, 1, none⟩)), (1, v19), (2, .int .i64 s22), (3, .int .i64 a5), (4, .int .u64 (IntKind.u64.wrap a5)), (5, .int .u64 (Int.tmod (IntKind.u64.wrap a5) 8)), (6, .int .i64 (IntKind.i64.wrap (Int.tmod (IntKind.u64.wrap a5) 8))), (9, .int .i64 a5), (10, .int .u64 (IntKind.u64.wrap a5)), (11, .int .u64 (Int.tmod (IntKind.u64.wrap a5) 3)), (12, .int .i64 (IntKind.i64.wrap (Int.tmod (IntKind.u64.wrap a5) 3)))] [7, 14, 15] (fun w => (bx b20 27 [v18, v19, .int .i64 s17.2.2]).ok w ∧ True) (fun w => St M w0 w [bx b20 27 [v18, v19, .int .i64 s17.2.2], osl K_api_HeatDomain v18 s17.1, osl K_api_HeatLink v19 s17.2.1, bx b15 27 [v13, v14, .int .i64 s12.2.2], osl K_api_HeatDomain v13 s12.1, osl K_api_HeatLink v14 s12.2.1]) hf ⟨rfl, rfl, rfl, rfl, rfl, rfl, rfl, rfl, trivial⟩ (by kernel_rfl) (by kernel_rfl) rfl (by decide) ⟨hs.drew.get (i := 0) rfl, trivial⟩ hs.drew (.cons (⟨_, _, rfl, rfl, rfl, rfl, fun a w hR hf => .inl ⟨wanted_yes hf rfl, ex_fieldAddrB fa_27_1 rfl hf rfl⟩⟩) (.cons (⟨_, _, rfl, rfl, rfl, rfl, fun a w hR hf => .inl ⟨wanted_yes hf rfl, ex_load sc_23 hf rfl (bx_cell (hR.1) _ rfl)⟩⟩) (.cons (⟨_, _, rfl, rfl, rfl, rfl, fun a w hR hf => .inl ⟨wanted_yes hf rfl, ex_move hf rfl⟩⟩) (.cons (⟨_, _, rfl, rfl, rfl, rfl, fun a w hR hf => .inl ⟨wanted_yes hf rfl, ex_move hf rfl⟩⟩) (.cons (⟨_, _, rfl, rfl, rfl, rfl, fun a w hR hf => .inl ⟨wanted_yes hf rfl, ex_conv Try.underlying2 Try.underlying52 hf rfl⟩⟩) (.cons (⟨_, _, rfl, rfl, rfl, rfl, fun a w hR hf => .inl ⟨wanted_yes hf rfl, ex_rem hf rfl rfl (by decide)⟩⟩) (.cons (⟨_, _, rfl, rfl, rfl, rfl, fun a w hR hf => .inl ⟨wanted_yes hf rfl, ex_conv Try.underlying52 Try.underlying3 hf rfl⟩⟩) (.cons (⟨_, _, rfl, rfl, rfl, rfl, fun a w hR hf => .inl ⟨wanted_yes hf rfl, ex_move hf rfl⟩⟩) (.cons (⟨_, _, rfl, rfl, rfl, rfl, fun a w hR hf => .inl ⟨wanted_yes hf rfl, ex_conv Try.underlying2 Try.underlying52 hf rfl⟩⟩) (.cons (⟨_, _, rfl, rfl, rfl, rfl, fun a w hR hf => .inl ⟨wanted_yes hf rfl, ex_rem hf rfl rfl (by decide)⟩⟩) (.cons (⟨_, _, rfl, rfl, rfl, rfl, fun a w hR hf => .inl ⟨wanted_yes hf rfl, ex_conv Try.underlying52 Try.underlying2 hf rfl⟩⟩) (.nil)))))))))))) (fun K45 hK45 => ?_)
        refine RW.one 7 (by kernel_rfl) (by kernel_rfl) rfl (fun d hd => by cases hd; rfl) [(101, .int .i64 (IntKind.i64.wrap (Int.tmod (IntKind.u64.wrap a5) 8)))] ⟨rfl, trivial⟩ (fun a w hR hs hf => ⟨wanted_yes hf rfl, ?_⟩)
        refine estep_f (ex_call cf_26 hf rfl) (help_Mod.calls k (IntKind.i64.wrap (Int.tmod (IntKind.u64.wrap a5) 8)) 7 (hs.enter (.k (.k (.k (.k (.k (.k .nil))))))) (Sr.nil _ _) hs41) (fun v w hR => ?_)
        obtain ⟨rfl, hs'⟩ := hR
        replace hs := hs.step (.k (.k (.k (.k (.k (.k .nil)))))) hs'
        clear hs'
        refine ⟨[(8, .int .i64 (IntKind.i64.wrap (s41 - 1))), (13, .agg #[.int .i64 s22, .int .i64 (IntKind.i64.wrap (s41 - 1)), .int .i64 (IntKind.i64.wrap (Int.tmod (IntKind.u64.wrap a5) 3))])], [(8, .int .i64 (IntKind.i64.wrap (s41 - 1))), (13, .agg #[.int .i64 s22, .int .i64 (IntKind.i64.wrap (s41 - 1)), .int .i64 (IntKind.i64.wrap (Int.tmod (IntKind.u64.wrap a5) 3))]), (7, .int .i64 s41), (0, .pointer (some ⟨b20, 1, none⟩)), (1, v19), (2, .int .i64 s22), (3, .int .i64 a5), (4, .int .u64 (IntKind.u64.wrap a5)), (5, .int .u64 (Int.tmod (IntKind.u64.wrap a5) 8)), (6, .int .i64 (IntKind.i64.wrap (Int.tmod (IntKind.u64.wrap a5) 8))), (9, .int .i64 a5), (10, .int .u64 (IntKind.u64.wrap a5)), (11, .int .u64 (Int.tmod (IntKind.u64.wrap a5) 3)), (12, .int .i64 (IntKind.i64.wrap (Int.tmod (IntKind.u64.wrap a5) 3)))], [14, 15], (fun _ => True), (fun w => St M w0 w [bx b20 27 [v18, v19, .int .i64 s17.2.2], osl K_api_HeatDomain v18 s17.1, osl K_api_HeatLink v19 s17.2.1, bx b15 27 [v13, v14, .int .i64 s12.2.2], osl K_api_HeatDomain v13 s12.1, osl K_api_HeatLink v14 s12.2.1]), rfl, rfl, ⟨hs.get (i := 0) rfl, trivial⟩, trivial, hs, (by kernel_rfl), .cons (⟨_, _, rfl, rfl, rfl, rfl, fun a w hR hf => .inl ⟨wanted_yes hf rfl, ex_sub hf rfl rfl⟩⟩) (.cons (⟨_, _, rfl, rfl, rfl, rfl, fun a w hR hf => .inl ⟨wanted_yes hf rfl, ex_build (cs := [.int .i64 s22, .int .i64 (IntKind.i64.wrap (s41 - 1)), .int .i64 (IntKind.i64.wrap (Int.tmod (IntKind.u64.wrap a5) 3))]) bt_43 hf rfl (.cons rfl (.cons rfl (.cons rfl .nil))) rfl⟩⟩) (.nil)), ?_⟩
        refine RW.one 14 (by kernel_rfl) (by kernel_rfl) rfl (fun d hd => by cases hd; rfl) [(108, .agg #[.int .i64 s22, .int .i64 (IntKind.i64.wrap (s41 - 1)), .int .i64 (IntKind.i64.wrap (Int.tmod (IntKind.u64.wrap a5) 3))])] ⟨rfl, trivial⟩ (fun a w hR hs hf => ⟨wanted_yes hf rfl, ?_⟩)
        refine estep_v (er_buildSlice (K := K_api_HeatLink) (xs := [(⟨s22, (IntKind.i64.wrap (s41 - 1)), (IntKind.i64.wrap (Int.tmod (IntKind.u64.wrap a5) 3))⟩ : HeatLink)]) hs Try.underlying23 ep_43 rfl rfl hf rfl (.cons rfl .nil) rfl rfl) (fun v42 w hs => ?_)
        refine ⟨[], [(14, v42), (8, .int .i64 (IntKind.i64.wrap (s41 - 1))), (13, .agg #[.int .i64 s22, .int .i64 (IntKind.i64.wrap (s41 - 1)), .int .i64 (IntKind.i64.wrap (Int.tmod (IntKind.u64.wrap a5) 3))]), (7, .int .i64 s41), (0, .pointer (some ⟨b20, 1, none⟩)), (1, v19), (2, .int .i64 s22), (3, .int .i64 a5), (4, .int .u64 (IntKind.u64.wrap a5)), (5, .int .u64 (Int.tmod (IntKind.u64.wrap a5) 8)), (6, .int .i64 (IntKind.i64.wrap (Int.tmod (IntKind.u64.wrap a5) 8))), (9, .int .i64 a5), (10, .int .u64 (IntKind.u64.wrap a5)), (11, .int .u64 (Int.tmod (IntKind.u64.wrap a5) 3)), (12, .int .i64 (IntKind.i64.wrap (Int.tmod (IntKind.u64.wrap a5) 3)))], [15], (fun _ => True), (fun w => St M w0 w [osl K_api_HeatLink v42 [(⟨s22, (IntKind.i64.wrap (s41 - 1)), (IntKind.i64.wrap (Int.tmod (IntKind.u64.wrap a5) 3))⟩ : HeatLink)], bx b20 27 [v18, v19, .int .i64 s17.2.2], osl K_api_HeatDomain v18 s17.1, osl K_api_HeatLink v19 s17.2.1, bx b15 27 [v13, v14, .int .i64 s12.2.2], osl K_api_HeatDomain v13 s12.1, osl K_api_HeatLink v14 s12.2.1]), rfl, rfl, ⟨⟨hs.get (i := 1) rfl, trivial⟩, trivial⟩, trivial, hs, (by kernel_rfl), .nil, ?_⟩
        refine RW.one 15 (by kernel_rfl) (by kernel_rfl) rfl (fun d hd => by cases hd; rfl) [(96, v19), (109, v42)] ⟨rfl, rfl, trivial⟩ (fun a w hR hs hf => ⟨wanted_yes hf rfl, ?_⟩)
        refine estep_v (er_append (K := K_api_HeatLink) hs (.k (.k (.k (.c (.k (.k (.k .nil))))))) (osl_rsl _ (hs.get (i := 0) rfl)) rfl Try.underlying23 ep_43 hc43 rfl hf rfl rfl) (fun v44 w hs => ?_)
        refine ⟨[], [(15, v44), (14, v42), (8, .int .i64 (IntKind.i64.wrap (s41 - 1))), (13, .agg #[.int .i64 s22, .int .i64 (IntKind.i64.wrap (s41 - 1)), .int .i64 (IntKind.i64.wrap (Int.tmod (IntKind.u64.wrap a5) 3))]), (7, .int .i64 s41), (0, .pointer (some ⟨b20, 1, none⟩)), (1, v19), (2, .int .i64 s22), (3, .int .i64 a5), (4, .int .u64 (IntKind.u64.wrap a5)), (5, .int .u64 (Int.tmod (IntKind.u64.wrap a5) 8)), (6, .int .i64 (IntKind.i64.wrap (Int.tmod (IntKind.u64.wrap a5) 8))), (9, .int .i64 a5), (10, .int .u64 (IntKind.u64.wrap a5)), (11, .int .u64 (Int.tmod (IntKind.u64.wrap a5) 3)), (12, .int .i64 (IntKind.i64.wrap (Int.tmod (IntKind.u64.wrap a5) 3)))], [], (fun _ => True), (fun w => St M w0 w [osl K_api_HeatLink v44 (s17.2.1 ++ [(⟨s22, (IntKind.i64.wrap (s41 - 1)), (IntKind.i64.wrap (Int.tmod (IntKind.u64.wrap a5) 3))⟩ : HeatLink)]), osl K_api_HeatLink v42 [(⟨s22, (IntKind.i64.wrap (s41 - 1)), (IntKind.i64.wrap (Int.tmod (IntKind.u64.wrap a5) 3))⟩ : HeatLink)], bx b20 27 [v18, v19, .int .i64 s17.2.2], osl K_api_HeatDomain v18 s17.1, bx b15 27 [v13, v14, .int .i64 s12.2.2], osl K_api_HeatDomain v13 s12.1, osl K_api_HeatLink v14 s12.2.1]), rfl, rfl, ⟨⟨⟨hs.get (i := 2) rfl, trivial⟩, trivial⟩, trivial⟩, trivial, hs, (by kernel_rfl), .nil, ?_⟩
        refine RW.zero (by kernel_rfl) (by kernel_rfl) [(0, v0), (1, v1), (2, .int .i64 a2), (3, v3), (15, .pointer (some ⟨b15, 0, none⟩)), (16, .pointer (some ⟨b20, 0, none⟩)), (110, v44)] ⟨rfl, rfl, rfl, rfl, rfl, rfl, rfl, trivial⟩ (fun a w hR hs hf => ?_)
        refine stq hf rfl rfl rfl (ex_fieldAddrB fa_27_1 rfl hf rfl) (fun a hf => ?_)
        refine stepS hf rfl rfl (er_storeB hs (.k (.k (.c (.k (.k (.k (.k .nil))))))) hf rfl rfl (IsSl.one (rsl_isSl (osl_rsl _ (hs.get (i := 0) rfl)))) sz_23 rfl) (fun w hs => ?_)
        refine hK45 _ _ ?_
        refine hN27 _ _ ?_
        replace hs := hs.keep (.k (.k (.d (.k (.k (.k (.k .nil)))))))
        replace hs := hs.pick (.k (.c (.k (.k (.k (.k .nil))))))
        replace hs := hs.pick (.k (.k (.c (.k (.k (.k .nil))))))
        replace hs := hs.pick (.k (.k (.c (.k (.k (.k .nil))))))
        replace hs := hs.pick (.k (.k (.k (.k (.k (.c .nil))))))
        replace hs := hs.pick (.k (.k (.k (.k (.k (.c .nil))))))
        replace hs := hs.pick (.k (.k (.k (.k (.k (.c .nil))))))
        have e24 := some_eq H; subst e24
        exact hJ24 _ _ ⟨v44, hf.sub ⟨rfl, rfl, rfl, rfl, rfl, rfl, trivial⟩, hs⟩
       · -- not (Int.tmod a6 6) = 3
        replace hf := hf.castB (t := 94) rfl (dec_f hc40)
        replace hf := hf.castB (t := 93) rfl (dec_f hc40)
        refine cond_F hf rfl ?_
        refine seq_reg (fun K46 hK46 => ?_)
        refine stq hf rfl rfl rfl (ex_eql hf rfl rfl) (fun a hf => ?_)
        refine stq hf rfl rfl rfl (ex_assign hf rfl) (fun a hf => ?_)
        refine hK46 _ _ ?_
        refine itt H (fun hc47 H => ?_) (fun hc47 H => ?_)
        · -- (Int.tmod a6 6) = 4
         replace hf := hf.castB (t := 113) rfl (dec_t hc47)
         replace hf := hf.castB (t := 112) rfl (dec_t hc47)
         refine cond_T hf rfl ?_
         refine ck_some H (fun hc48 H => ?_)
         refine region_k (fun K49 hK49 => ?_)
         refine stq hf rfl rfl rfl (ex_fieldAddrB fa_27_0 rfl hf rfl) (fun a hf => ?_)
         refine stq hf rfl rfl rfl (ex_load sc_22 hf rfl (bx_cell (hs.get (i := 0) rfl) _ rfl)) (fun a hf => ?_)
         refine stq hf rfl rfl rfl (ex_move hf rfl) (fun a hf => ?_)
         refine stq hf rfl rfl rfl (ex_move hf rfl) (fun a hf => ?_)
         refine stq hf rfl rfl rfl (ex_indexAddr sa_22 (rsl_isSl (osl_rsl _ (hs.get (i := 1) rfl))) hc48.1 hc48.2 hf rfl rfl) (fun a hf => ?_)
         refine stq hf rfl rfl rfl (ex_fieldAddrS fa_34_0 rfl hf rfl) (fun a hf => ?_)
         refine stepS hf rfl rfl (er_storeE (K := K_api_HeatDomain) (f := 0) (x' := (⟨a5, ((gd HeatDomain.zero s17.1 s22).Ambient)⟩ : HeatDomain)) hs (.k (.c (.k (.k (.k (.k .nil)))))) hc48.1 hc48.2 hf rfl rfl rfl sz_2 rfl rfl) (fun w hs => ?_)
         refine hK49 _ _ ?_
         refine hN27 _ _ ?_
         replace hs := hs.pick (.k (.k (.c (.k (.k (.k .nil))))))
         replace hs := hs.pick (.k (.c (.k (.k (.k (.k .nil))))))
         replace hs := hs.pick (.k (.k (.c (.k (.k (.k .nil))))))
         replace hs := hs.pick (.k (.k (.k (.k (.k (.c .nil))))))
         replace hs := hs.pick (.k (.k (.k (.k (.k (.c .nil))))))
         replace hs := hs.pick (.k (.k (.k (.k (.k (.c .nil))))))
         have e24 := some_eq H; subst e24
         exact hJ24 _ _ ⟨v19, hf.sub ⟨rfl, rfl, rfl, rfl, rfl, rfl, trivial⟩, hs⟩
        · -- not (Int.tmod a6 6) = 4
         replace hf := hf.castB (t := 113) rfl (dec_f hc47)
         replace hf := hf.castB (t := 112) rfl (dec_f hc47)
         refine cond_F hf rfl ?_
         refine wp_skip ?_
         refine hN27 _ _ ?_
         replace hs := hs.pick (.k (.k (.c (.k (.k (.k .nil))))))
         replace hs := hs.pick (.k (.k (.c (.k (.k (.k .nil))))))
         replace hs := hs.pick (.k (.k (.c (.k (.k (.k .nil))))))
         replace hs := hs.pick (.k (.k (.k (.k (.k (.c .nil))))))
         replace hs := hs.pick (.k (.k (.k (.k (.k (.c .nil))))))
         replace hs := hs.pick (.k (.k (.k (.k (.k (.c .nil))))))
         have e24 := some_eq H; subst e24
         exact hJ24 _ _ ⟨v19, hf.sub ⟨rfl, rfl, rfl, rfl, rfl, rfl, trivial⟩, hs⟩
   ·
    obtain ⟨v25, hf, hs⟩ := hJ
    replace H := HO24
    clear HO24
    refine bnd H (fun x50 H50 HO50 => ?_)
    clear H
    refine seq_cut (fun a w => ∃ (x50s : Unit), x50 = .go x50s ∧ Fr a 231 [] ∧ St M w0 w []) (fun Q50 hJ50 hR50 hX50 => ?_) (fun a w hJ => ?_)
    ·
     replace H := H50
     refine seq_reg (fun K51 hK51 => ?_)
     refine stq hf rfl rfl rfl (ex_move hf rfl) (fun a hf => ?_)
     refine stq hf rfl rfl rfl (ex_move hf rfl) (fun a hf => ?_)
     refine stq hf rfl rfl rfl (ex_move hf rfl) (fun a hf => ?_)
     refine stq hf rfl rfl rfl (ex_build (cs := [v0, v1, .int .i64 a2]) bt_27 hf rfl (.cons (CL.one (IsSl.one (rsl_isSl (hr.now hs (i := 0) rfl)))) (.cons (CL.one (IsSl.one (rsl_isSl (hr.now hs (i := 1) rfl)))) (.cons rfl .nil))) rfl) (fun a hf => ?_)
     refine stq hf rfl rfl rfl (ex_loadA (cs := [v13, v14, .int .i64 s12.2.2]) ag_27 hf rfl (bx_cells (hs.get (i := 0) rfl) rfl)) (fun a hf => ?_)
     refine stq hf rfl rfl rfl (ex_loadA (cs := [v18, v25, .int .i64 x24.2.2]) ag_27 hf rfl (bx_cells (hs.get (i := 3) rfl) rfl)) (fun a hf => ?_)
     refine stq hf rfl rfl rfl (ex_buildA (cs := [v0, v1, .int .i64 a2, v13, v14, .int .i64 s12.2.2, v18, v25, .int .i64 x24.2.2]) ba_53 hf rfl (.cons rfl (.cons rfl (.cons rfl .nil))) rfl) (fun a hf => ?_)
     refine stq hf rfl rfl rfl (ex_move hf rfl) (fun a hf => ?_)
     refine hK51 _ _ ?_
     refine block_k (fun Q52 hN52 hR52 hX52 hY52 => ?_)
     refine loop_k (fun n a w => ∃ (y53 : Int), Fr a 231 [(3, v3), (126, .agg #[v0, v1, .int .i64 a2, v13, v14, .int .i64 s12.2.2, v18, v25, .int .i64 x24.2.2]), (127, .int .i64 y53)] ∧ St M w0 w [osl K_api_HeatDomain v13 s12.1, osl K_api_HeatLink v14 s12.2.1, osl K_api_HeatDomain v18 x24.1, osl K_api_HeatLink v25 x24.2.1] ∧ law38_HeatNewAgrees.l1 n a0 a1 a2 a3 s12 x24 y53 = some x50) k ?_ (fun n55 a w hI Q55 hL55 hR55 hX55 => ?_)
     · -- at the start
      replace hs := hs.keep (.d (.k (.k (.d (.k (.k .nil))))))
      exact ⟨0, hf.sub ⟨rfl, rfl, rfl, trivial⟩, hs, H⟩
     ·
      obtain ⟨y53, hf, hs, H⟩ := hI
      cases n55 with
      | zero => exact absurd H (by rw [law38_HeatNewAgrees.l1.eq_1]; intro h; cases h)
      | succ k55 =>
       replace H := (law38_HeatNewAgrees.l1.eq_2 ..).symm.trans H
       refine seq_reg (fun K56 hK56 => ?_)
       refine stq hf rfl rfl rfl (ex_lss hf rfl rfl) (fun a hf => ?_)
       refine hK56 _ _ ?_
       refine seq_n (fun Q57 hN57 hR57 hX57 => ?_)
       refine itt H (fun hc58 H => ?_) (fun hc58 H => ?_)
       · -- y53 < 3
        replace hf := hf.castB (t := 128) rfl (dec_t hc58)
        refine cond_T hf rfl ?_
        refine wp_skip ?_
        refine hN57 _ _ ?_
        refine bnd H (fun x59 H59 HO59 => ?_)
        clear H
        refine seq_cut (fun a w => ∃ (x59s : Unit), x59 = .go x59s ∧ Fr a 231 [(3, v3), (126, .agg #[v0, v1, .int .i64 a2, v13, v14, .int .i64 s12.2.2, v18, v25, .int .i64 x24.2.2]), (127, .int .i64 y53)] ∧ St M w0 w [osl K_api_HeatDomain v13 s12.1, osl K_api_HeatLink v14 s12.2.1, osl K_api_HeatDomain v18 x24.1, osl K_api_HeatLink v25 x24.2.1]) (fun Q59 hJ59 hR59 hX59 => ?_) (fun a w hJ => ?_)
        ·
         replace H := H59
         refine block_k (fun Q60 hN60 hR60 hX60 hY60 => ?_)
         refine itt H (fun hc61 H => ?_) (fun hc61 H => ?_)
         · -- y53 = 0
          refine seq_reg (fun K63 hK63 => ?_)
          refine stq hf rfl rfl rfl (ex_indexG (cs := [v0, v1, .int .i64 a2, v13, v14, .int .i64 s12.2.2, v18, v25, .int .i64 x24.2.2]) 0 ia_53 ag_27 hc61 (by decide) hf rfl rfl rfl) (fun a hf => ?_)
          refine stepV hf rfl rfl rfl (er_alloc hs ti_27 (cs := [(.slice none 0 0), (.slice none 0 0), .int .i64 0]) rfl) (fun v w hR a hf => ?_)
          obtain ⟨b62, rfl, hs⟩ := hR
          refine stepS hf rfl rfl (er_storeAB (vs := [v0, v1, .int .i64 a2]) (cs' := [v0, v1, .int .i64 a2]) hs (.c (.k (.k (.k (.k .nil))))) sz_27 hf rfl rfl (all1 (IsSl.one (rsl_isSl (hr.now hs (i := 0) rfl))) (all1 (IsSl.one (rsl_isSl (hr.now hs (i := 1) rfl))) (all1 rfl (all1_nil)))) rfl rfl) (fun w hs => ?_)
          refine hK63 _ _ ?_
          refine seq_n (fun Q64 hN64 hR64 hX64 => ?_)
          refine bnd H (fun s65 hs65 H => ?_)
          cases hps65 : s65.1 with
          | none =>
           replace H := elim_n hps65 H
           refine region_k (fun K67 hK67 => ?_)
           refine stq hf rfl rfl rfl (ex_fieldAddrB fa_27_0 rfl hf rfl) (fun a hf => ?_)
           refine stq hf rfl rfl rfl (ex_load sc_22 hf rfl (bx_cell (hs.get (i := 0) rfl) _ rfl)) (fun a hf => ?_)
           refine stq hf rfl rfl rfl (ex_fieldAddrB fa_27_1 rfl hf rfl) (fun a hf => ?_)
           refine stq hf rfl rfl rfl (ex_load sc_23 hf rfl (bx_cell (hs.get (i := 0) rfl) _ rfl)) (fun a hf => ?_)
           refine stq hf rfl rfl rfl (ex_fieldAddrB fa_27_2 rfl hf rfl) (fun a hf => ?_)
           refine stq hf rfl rfl rfl (ex_load sc_2 hf rfl (bx_cell (hs.get (i := 0) rfl) _ rfl)) (fun a hf => ?_)
           refine stepF hf rfl rfl rfl (ex_call cf_13 hf rfl) (heat_New.calls k55 a0 a1 a2 v0 v1 (hs.enter (.k (.k (.k (.k (.k .nil)))))) (Sr.old hr hs (.k (.k (.k (.k (.k .nil))))) (i := 0) rfl (fun _ h => h) (fun _ h => h) (Sr.old hr hs (.k (.k (.k (.k (.k .nil))))) (i := 1) rfl (fun _ h => h) (fun _ h => h) (Sr.nil _ _))) hs65) (fun v w hR a hf => ?_)
           obtain ⟨_, rfl, hs'⟩ | ⟨_, hc', _⟩ := hR
           case inr => rw [hps65] at hc'; cases hc'
           replace hs := hs.step (.k (.k (.k (.k (.k .nil))))) hs'
           clear hs'
           refine stq hf rfl rfl rfl (ex_move hf rfl) (fun a hf => ?_)
           refine stq hf rfl rfl rfl (ex_extract hf rfl rfl) (fun a hf => ?_)
           refine stq hf rfl rfl rfl (ex_extract hf rfl rfl) (fun a hf => ?_)
           refine stq hf rfl rfl rfl (ex_assign hf rfl) (fun a hf => ?_)
           refine stq hf rfl rfl rfl (ex_assign hf rfl) (fun a hf => ?_)
           refine hK67 _ _ ?_
           refine hN64 _ _ ?_
           refine bnd H (fun x68 H68 HO68 => ?_)
           clear H
           refine seq_cut (fun a w => Fr a 231 [(3, v3), (19, .pointer (some ⟨b62, 0, none⟩)), (20, .pointer none), (21, .int .i64 s65.2), (23, .int .i64 x68), (126, .agg #[v0, v1, .int .i64 a2, v13, v14, .int .i64 s12.2.2, v18, v25, .int .i64 x24.2.2]), (127, .int .i64 y53)] ∧ St M w0 w [bx b62 27 [v0, v1, .int .i64 a2], osl K_api_HeatDomain v13 s12.1, osl K_api_HeatLink v14 s12.2.1, osl K_api_HeatDomain v18 x24.1, osl K_api_HeatLink v25 x24.2.1]) (fun Q68 hJ68 hR68 hX68 => ?_) (fun a w hJ => ?_)
           ·
            replace H := H68
            refine bnd H (fun s69 hs69 H => ?_)
            cases hps69 : s69.1 with
            | none =>
             replace H := elim_n hps69 H
             refine region_k (fun K71 hK71 => ?_)
             refine stq hf rfl rfl rfl (ex_fieldAddrB fa_27_0 rfl hf rfl) (fun a hf => ?_)
             refine stq hf rfl rfl rfl (ex_load sc_22 hf rfl (bx_cell (hs.get (i := 0) rfl) _ rfl)) (fun a hf => ?_)
             refine stq hf rfl rfl rfl (ex_fieldAddrB fa_27_1 rfl hf rfl) (fun a hf => ?_)
             refine stq hf rfl rfl rfl (ex_load sc_23 hf rfl (bx_cell (hs.get (i := 0) rfl) _ rfl)) (fun a hf => ?_)
             refine stq hf rfl rfl rfl (ex_fieldAddrB fa_27_2 rfl hf rfl) (fun a hf => ?_)
             refine stq hf rfl rfl rfl (ex_load sc_2 hf rfl (bx_cell (hs.get (i := 0) rfl) _ rfl)) (fun a hf => ?_)
             refine stepF hf rfl rfl rfl (ex_call cf_20 hf rfl) (ref38_New.calls k55 a0 a1 a2 v0 v1 (hs.enter (.k (.k (.k (.k (.k .nil)))))) (Sr.old hr hs (.k (.k (.k (.k (.k .nil))))) (i := 0) rfl (fun _ h => h) (fun _ h => h) (Sr.old hr hs (.k (.k (.k (.k (.k .nil))))) (i := 1) rfl (fun _ h => h) (fun _ h => h) (Sr.nil _ _))) hs69) (fun v w hR a hf => ?_)
             obtain ⟨_, rfl, hs'⟩ | ⟨_, hc', _⟩ := hR
             case inr => rw [hps69] at hc'; cases hc'
             replace hs := hs.step (.k (.k (.k (.k (.k .nil))))) hs'
             clear hs'
             refine stq hf rfl rfl rfl (ex_move hf rfl) (fun a hf => ?_)
             refine stq hf rfl rfl rfl (ex_extract hf rfl rfl) (fun a hf => ?_)
             refine stq hf rfl rfl rfl (ex_extract hf rfl rfl) (fun a hf => ?_)
             refine stq hf rfl rfl rfl (ex_assign hf rfl) (fun a hf => ?_)
             refine stq hf rfl rfl rfl (ex_assign hf rfl) (fun a hf => ?_)
             refine hK71 _ _ ?_
             have e68 := some_eq H; subst e68
             exact hJ68 _ _ ⟨hf.sub ⟨rfl, rfl, rfl, rfl, rfl, rfl, rfl, trivial⟩, hs⟩
            | some c70 =>
             replace H := elim_s hps69 H
             refine region_k (fun K74 hK74 => ?_)
             refine stq hf rfl rfl rfl (ex_fieldAddrB fa_27_0 rfl hf rfl) (fun a hf => ?_)
             refine stq hf rfl rfl rfl (ex_load sc_22 hf rfl (bx_cell (hs.get (i := 0) rfl) _ rfl)) (fun a hf => ?_)
             refine stq hf rfl rfl rfl (ex_fieldAddrB fa_27_1 rfl hf rfl) (fun a hf => ?_)
             refine stq hf rfl rfl rfl (ex_load sc_23 hf rfl (bx_cell (hs.get (i := 0) rfl) _ rfl)) (fun a hf => ?_)
             refine stq hf rfl rfl rfl (ex_fieldAddrB fa_27_2 rfl hf rfl) (fun a hf => ?_)
             refine stq hf rfl rfl rfl (ex_load sc_2 hf rfl (bx_cell (hs.get (i := 0) rfl) _ rfl)) (fun a hf => ?_)
             refine stepF hf rfl rfl rfl (ex_call cf_20 hf rfl) (ref38_New.calls k55 a0 a1 a2 v0 v1 (hs.enter (.k (.k (.k (.k (.k .nil)))))) (Sr.old hr hs (.k (.k (.k (.k (.k .nil))))) (i := 0) rfl (fun _ h => h) (fun _ h => h) (Sr.old hr hs (.k (.k (.k (.k (.k .nil))))) (i := 1) rfl (fun _ h => h) (fun _ h => h) (Sr.nil _ _))) hs69) (fun v w hR a hf => ?_)
             obtain ⟨hc', _⟩ | ⟨cc, hc', b72, v73, rfl, hs'⟩ := hR
             case inl => rw [hps69] at hc'; cases hc'
             obtain rfl : c70 = cc := by rw [hps69] at hc'; exact Option.some.inj hc'
             replace hs := hs.step (.k (.k (.k (.k (.k .nil))))) hs'
             clear hs'
             refine stq hf rfl rfl rfl (ex_move hf rfl) (fun a hf => ?_)
             refine stq hf rfl rfl rfl (ex_extract hf rfl rfl) (fun a hf => ?_)
             refine stq hf rfl rfl rfl (ex_extract hf rfl rfl) (fun a hf => ?_)
             refine stq hf rfl rfl rfl (ex_assign hf rfl) (fun a hf => ?_)
             refine stq hf rfl rfl rfl (ex_assign hf rfl) (fun a hf => ?_)
             refine hK74 _ _ ?_
             replace hs := hs.keep (.d (.d (.k (.k (.k (.k (.k .nil)))))))
             have e68 := some_eq H; subst e68
             exact hJ68 _ _ ⟨hf.sub ⟨rfl, rfl, rfl, rfl, rfl, rfl, rfl, trivial⟩, hs⟩
           ·
            obtain ⟨hf, hs⟩ := hJ
            replace H := HO68
            clear HO68
            refine bnd H (fun s75 hs75 H => ?_)
            refine seq_reg (fun K77 hK77 => ?_)
            refine stq hf rfl rfl rfl (ex_move hf rfl) (fun a hf => ?_)
            refine stq hf rfl rfl rfl (ex_fieldAddrB fa_27_0 rfl hf rfl) (fun a hf => ?_)
            refine stq hf rfl rfl rfl (ex_load sc_22 hf rfl (bx_cell (hs.get (i := 0) rfl) _ rfl)) (fun a hf => ?_)
            refine stq hf rfl rfl rfl (ex_lenS Try.underlying22 (rsl_isSl (hr.now hs (i := 0) rfl)) hf rfl) (fun a hf => ?_)
            refine stepF hf rfl rfl rfl (ex_call cf_14 hf rfl) (law38_Powers.calls k55 a3 (a0.length : Int) 200 v3 (hs.enter (.k (.k (.k (.k (.k .nil)))))) (Sr.old hr hs (.k (.k (.k (.k (.k .nil))))) (i := 2) rfl (fun _ h => h) (fun _ h => h) (Sr.nil _ _)) hs75) (fun v w hR a hf => ?_)
            obtain ⟨v76, rfl, hs'⟩ := hR
            replace hs := hs.step (.k (.k (.k (.k (.k .nil))))) hs'
            clear hs'
            refine stq hf rfl rfl rfl (ex_assign hf rfl) (fun a hf => ?_)
            refine hK77 _ _ ?_
            refine bnd H (fun s78 hs78 H => ?_)
            refine seq_reg (fun K79 hK79 => ?_)
            refine stq hf rfl rfl rfl (ex_fieldAddrB fa_27_0 rfl hf rfl) (fun a hf => ?_)
            refine stq hf rfl rfl rfl (ex_load sc_22 hf rfl (bx_cell (hs.get (i := 1) rfl) _ rfl)) (fun a hf => ?_)
            refine stq hf rfl rfl rfl (ex_fieldAddrB fa_27_1 rfl hf rfl) (fun a hf => ?_)
            refine stq hf rfl rfl rfl (ex_load sc_23 hf rfl (bx_cell (hs.get (i := 1) rfl) _ rfl)) (fun a hf => ?_)
            refine stq hf rfl rfl rfl (ex_fieldAddrB fa_27_2 rfl hf rfl) (fun a hf => ?_)
            refine stq hf rfl rfl rfl (ex_load sc_2 hf rfl (bx_cell (hs.get (i := 1) rfl) _ rfl)) (fun a hf => ?_)
            refine stq hf rfl rfl rfl (ex_move hf rfl) (fun a hf => ?_)
            refine stepF hf rfl rfl rfl (ex_call cf_27 hf rfl) (heat_Bound.calls k55 a0 a1 a2 s75 v0 v1 v76 (hs.enter (.k (.k (.k (.k (.k (.k .nil))))))) (Sr.old hr hs (.k (.k (.k (.k (.k (.k .nil)))))) (i := 0) rfl (fun _ h => h) (fun _ h => h) (Sr.old hr hs (.k (.k (.k (.k (.k (.k .nil)))))) (i := 1) rfl (fun _ h => h) (fun _ h => h) (Sr.own hs (.k (.k (.k (.k (.k (.k .nil)))))) (i := 0) rfl osl_rsl (fun _ h => h.1) (Sr.nil _ _)))) hs78) (fun v w hR a hf => ?_)
            obtain ⟨rfl, hs'⟩ := hR
            replace hs := hs.step (.k (.k (.k (.k (.k (.k .nil)))))) hs'
            clear hs'
            refine stq hf rfl rfl rfl (ex_move hf rfl) (fun a hf => ?_)
            refine stq hf rfl rfl rfl (ex_extract hf rfl rfl) (fun a hf => ?_)
            refine stq hf rfl rfl rfl (ex_extract hf rfl rfl) (fun a hf => ?_)
            refine stq hf rfl rfl rfl (ex_assign hf rfl) (fun a hf => ?_)
            refine stq hf rfl rfl rfl (ex_assign hf rfl) (fun a hf => ?_)
            refine hK79 _ _ ?_
            refine bnd H (fun s80 hs80 H => ?_)
            refine seq_reg (fun K81 hK81 => ?_)
            refine stq hf rfl rfl rfl (ex_fieldAddrB fa_27_0 rfl hf rfl) (fun a hf => ?_)
            refine stq hf rfl rfl rfl (ex_load sc_22 hf rfl (bx_cell (hs.get (i := 1) rfl) _ rfl)) (fun a hf => ?_)
            refine stq hf rfl rfl rfl (ex_fieldAddrB fa_27_1 rfl hf rfl) (fun a hf => ?_)
            refine stq hf rfl rfl rfl (ex_load sc_23 hf rfl (bx_cell (hs.get (i := 1) rfl) _ rfl)) (fun a hf => ?_)
            refine stq hf rfl rfl rfl (ex_fieldAddrB fa_27_2 rfl hf rfl) (fun a hf => ?_)
            refine stq hf rfl rfl rfl (ex_load sc_2 hf rfl (bx_cell (hs.get (i := 1) rfl) _ rfl)) (fun a hf => ?_)
            refine stq hf rfl rfl rfl (ex_move hf rfl) (fun a hf => ?_)
            refine stepF hf rfl rfl rfl (ex_call cf_28 hf rfl) (ref38_Bound.calls k55 a0 a1 a2 s75 v0 v1 v76 (hs.enter (.k (.k (.k (.k (.k (.k .nil))))))) (Sr.old hr hs (.k (.k (.k (.k (.k (.k .nil)))))) (i := 0) rfl (fun _ h => h) (fun _ h => h) (Sr.old hr hs (.k (.k (.k (.k (.k (.k .nil)))))) (i := 1) rfl (fun _ h => h) (fun _ h => h) (Sr.own hs (.k (.k (.k (.k (.k (.k .nil)))))) (i := 0) rfl osl_rsl (fun _ h => h.1) (Sr.nil _ _)))) hs80) (fun v w hR a hf => ?_)
            obtain ⟨rfl, hs'⟩ := hR
            replace hs := hs.step (.k (.k (.k (.k (.k (.k .nil)))))) hs'
            clear hs'
            refine stq hf rfl rfl rfl (ex_move hf rfl) (fun a hf => ?_)
            refine stq hf rfl rfl rfl (ex_extract hf rfl rfl) (fun a hf => ?_)
            refine stq hf rfl rfl rfl (ex_extract hf rfl rfl) (fun a hf => ?_)
            refine stq hf rfl rfl rfl (ex_assign hf rfl) (fun a hf => ?_)
            refine stq hf rfl rfl rfl (ex_assign hf rfl) (fun a hf => ?_)
            refine hK81 _ _ ?_
            refine bnd H (fun s82 hs82 H => ?_)
            refine seq_reg (fun K83 hK83 => ?_)
            refine stq hf rfl rfl rfl (ex_fieldAddrB fa_27_0 rfl hf rfl) (fun a hf => ?_)
            refine stq hf rfl rfl rfl (ex_load sc_22 hf rfl (bx_cell (hs.get (i := 1) rfl) _ rfl)) (fun a hf => ?_)
            refine stq hf rfl rfl rfl (ex_fieldAddrB fa_27_1 rfl hf rfl) (fun a hf => ?_)
            refine stq hf rfl rfl rfl (ex_load sc_23 hf rfl (bx_cell (hs.get (i := 1) rfl) _ rfl)) (fun a hf => ?_)
            refine stq hf rfl rfl rfl (ex_fieldAddrB fa_27_2 rfl hf rfl) (fun a hf => ?_)
            refine stq hf rfl rfl rfl (ex_load sc_2 hf rfl (bx_cell (hs.get (i := 1) rfl) _ rfl)) (fun a hf => ?_)
            refine stq hf rfl rfl rfl (ex_move hf rfl) (fun a hf => ?_)
            refine stepF hf rfl rfl rfl (ex_call cf_27 hf rfl) (heat_Bound.calls k55 a0 a1 a2 a3 v0 v1 v3 (hs.enter (.k (.k (.k (.k (.k (.k .nil))))))) (Sr.old hr hs (.k (.k (.k (.k (.k (.k .nil)))))) (i := 0) rfl (fun _ h => h) (fun _ h => h) (Sr.old hr hs (.k (.k (.k (.k (.k (.k .nil)))))) (i := 1) rfl (fun _ h => h) (fun _ h => h) (Sr.old hr hs (.k (.k (.k (.k (.k (.k .nil)))))) (i := 2) rfl (fun _ h => h) (fun _ h => h) (Sr.nil _ _)))) hs82) (fun v w hR a hf => ?_)
            obtain ⟨rfl, hs'⟩ := hR
            replace hs := hs.step (.k (.k (.k (.k (.k (.k .nil)))))) hs'
            clear hs'
            refine stq hf rfl rfl rfl (ex_move hf rfl) (fun a hf => ?_)
            refine stq hf rfl rfl rfl (ex_extract hf rfl rfl) (fun a hf => ?_)
            refine stq hf rfl rfl rfl (ex_extract hf rfl rfl) (fun a hf => ?_)
            refine stq hf rfl rfl rfl (ex_assign hf rfl) (fun a hf => ?_)
            refine stq hf rfl rfl rfl (ex_assign hf rfl) (fun a hf => ?_)
            refine hK83 _ _ ?_
            refine bnd H (fun s84 hs84 H => ?_)
            refine seq_reg (fun K85 hK85 => ?_)
            refine stq hf rfl rfl rfl (ex_fieldAddrB fa_27_0 rfl hf rfl) (fun a hf => ?_)
            refine stq hf rfl rfl rfl (ex_load sc_22 hf rfl (bx_cell (hs.get (i := 1) rfl) _ rfl)) (fun a hf => ?_)
            refine stq hf rfl rfl rfl (ex_fieldAddrB fa_27_1 rfl hf rfl) (fun a hf => ?_)
            refine stq hf rfl rfl rfl (ex_load sc_23 hf rfl (bx_cell (hs.get (i := 1) rfl) _ rfl)) (fun a hf => ?_)
            refine stq hf rfl rfl rfl (ex_fieldAddrB fa_27_2 rfl hf rfl) (fun a hf => ?_)
            refine stq hf rfl rfl rfl (ex_load sc_2 hf rfl (bx_cell (hs.get (i := 1) rfl) _ rfl)) (fun a hf => ?_)
            refine stq hf rfl rfl rfl (ex_move hf rfl) (fun a hf => ?_)
            refine stepF hf rfl rfl rfl (ex_call cf_28 hf rfl) (ref38_Bound.calls k55 a0 a1 a2 a3 v0 v1 v3 (hs.enter (.k (.k (.k (.k (.k (.k .nil))))))) (Sr.old hr hs (.k (.k (.k (.k (.k (.k .nil)))))) (i := 0) rfl (fun _ h => h) (fun _ h => h) (Sr.old hr hs (.k (.k (.k (.k (.k (.k .nil)))))) (i := 1) rfl (fun _ h => h) (fun _ h => h) (Sr.old hr hs (.k (.k (.k (.k (.k (.k .nil)))))) (i := 2) rfl (fun _ h => h) (fun _ h => h) (Sr.nil _ _)))) hs84) (fun v w hR a hf => ?_)
            obtain ⟨rfl, hs'⟩ := hR
            replace hs := hs.step (.k (.k (.k (.k (.k (.k .nil)))))) hs'
            clear hs'
            refine stq hf rfl rfl rfl (ex_move hf rfl) (fun a hf => ?_)
            refine stq hf rfl rfl rfl (ex_extract hf rfl rfl) (fun a hf => ?_)
            refine stq hf rfl rfl rfl (ex_extract hf rfl rfl) (fun a hf => ?_)
            refine stq hf rfl rfl rfl (ex_assign hf rfl) (fun a hf => ?_)
            refine stq hf rfl rfl rfl (ex_assign hf rfl) (fun a hf => ?_)
            refine hK85 _ _ ?_
            refine bnd H (fun x86 H86 HO86 => ?_)
            clear H
            refine seq_cut (fun a w => Fr a 231 [(3, v3), (126, .agg #[v0, v1, .int .i64 a2, v13, v14, .int .i64 s12.2.2, v18, v25, .int .i64 x24.2.2]), (127, .int .i64 y53), (228, .bool x86)] ∧ St M w0 w [osl K_api_HeatDomain v13 s12.1, osl K_api_HeatLink v14 s12.2.1, osl K_api_HeatDomain v18 x24.1, osl K_api_HeatLink v25 x24.2.1]) (fun Q86 hJ86 hR86 hX86 => ?_) (fun a w hJ => ?_)
            ·
             replace H := H86
             refine itt H (fun hc87 H => ?_) (fun hc87 H => ?_)
             · -- s65.2 = x68
              refine itt H (fun hc88 H => ?_) (fun hc88 H => ?_)
              · -- (true == (!decide (s65.2 = 0))) = true
               refine itt H (fun hc89 H => ?_) (fun hc89 H => ?_)
               · -- s78.1 = s80.1
                refine itt H (fun hc90 H => ?_) (fun hc90 H => ?_)
                · -- s78.2 = s80.2
                 refine itt H (fun hc91 H => ?_) (fun hc91 H => ?_)
                 · -- s82.1 = s84.1
                  refine region_k (fun K92 hK92 => ?_)
                  refine stq hf rfl rfl rfl (ex_move hf rfl) (fun a hf => ?_)
                  refine stq hf rfl rfl rfl (ex_move hf rfl) (fun a hf => ?_)
                  refine stq hf rfl rfl rfl (ex_neq hf rfl rfl) (fun a hf => ?_)
                  refine stq hf rfl rfl rfl (ex_move hf rfl) (fun a hf => ?_)
                  replace hf := hf.castB (t := 201) rfl (ndec_f hc87)
                  replace hf := hf.castB (t := 202) rfl (ndec_f hc87)
                  refine stq hf rfl rfl rfl (ex_move hf rfl) (fun a hf => ?_)
                  refine stq hf rfl rfl rfl (ex_eqp Try.underlying29 hf rfl rfl) (fun a hf => ?_)
                  refine stq hf rfl rfl rfl (ex_move hf rfl) (fun a hf => ?_)
                  refine stq hf rfl rfl rfl (ex_neq hf rfl rfl) (fun a hf => ?_)
                  refine stq hf rfl rfl rfl (ex_neb Try.underlying4 hf rfl rfl) (fun a hf => ?_)
                  refine stq hf rfl rfl rfl (ex_pickF hf rfl rfl) (fun a hf => ?_)
                  refine stq hf rfl rfl rfl (ex_move hf rfl) (fun a hf => ?_)
                  replace hf := hf.castB (t := 207) rfl (nbool_f hc88)
                  replace hf := hf.castB (t := 208) rfl (nbool_f hc88)
                  replace hf := hf.castB (t := 209) rfl (nbool_f hc88)
                  refine stq hf rfl rfl rfl (ex_move hf rfl) (fun a hf => ?_)
                  refine stq hf rfl rfl rfl (ex_move hf rfl) (fun a hf => ?_)
                  refine stq hf rfl rfl rfl (ex_neq hf rfl rfl) (fun a hf => ?_)
                  refine stq hf rfl rfl rfl (ex_pickF hf rfl rfl) (fun a hf => ?_)
                  refine stq hf rfl rfl rfl (ex_move hf rfl) (fun a hf => ?_)
                  replace hf := hf.castB (t := 212) rfl (ndec_f hc89)
                  replace hf := hf.castB (t := 213) rfl (ndec_f hc89)
                  replace hf := hf.castB (t := 214) rfl (ndec_f hc89)
                  refine stq hf rfl rfl rfl (ex_move hf rfl) (fun a hf => ?_)
                  refine stq hf rfl rfl rfl (ex_move hf rfl) (fun a hf => ?_)
                  refine stq hf rfl rfl rfl (ex_neq hf rfl rfl) (fun a hf => ?_)
                  refine stq hf rfl rfl rfl (ex_pickF hf rfl rfl) (fun a hf => ?_)
                  refine stq hf rfl rfl rfl (ex_move hf rfl) (fun a hf => ?_)
                  replace hf := hf.castB (t := 217) rfl (ndec_f hc90)
                  replace hf := hf.castB (t := 218) rfl (ndec_f hc90)
                  replace hf := hf.castB (t := 219) rfl (ndec_f hc90)
                  refine stq hf rfl rfl rfl (ex_move hf rfl) (fun a hf => ?_)
                  refine stq hf rfl rfl rfl (ex_move hf rfl) (fun a hf => ?_)
                  refine stq hf rfl rfl rfl (ex_neq hf rfl rfl) (fun a hf => ?_)
                  refine stq hf rfl rfl rfl (ex_pickF hf rfl rfl) (fun a hf => ?_)
                  refine stq hf rfl rfl rfl (ex_move hf rfl) (fun a hf => ?_)
                  replace hf := hf.castB (t := 222) rfl (ndec_f hc91)
                  replace hf := hf.castB (t := 223) rfl (ndec_f hc91)
                  replace hf := hf.castB (t := 224) rfl (ndec_f hc91)
                  refine stq hf rfl rfl rfl (ex_move hf rfl) (fun a hf => ?_)
                  refine stq hf rfl rfl rfl (ex_move hf rfl) (fun a hf => ?_)
                  refine stq hf rfl rfl rfl (ex_neq hf rfl rfl) (fun a hf => ?_)
                  refine stq hf rfl rfl rfl (ex_pickF hf rfl rfl) (fun a hf => ?_)
                  refine hK92 _ _ ?_
                  replace hs := hs.keep (.d (.d (.k (.k (.k (.k .nil))))))
                  have e86 := some_eq H; subst e86
                  exact hJ86 _ _ ⟨hf.sub ⟨rfl, rfl, rfl, rfl, trivial⟩, hs⟩
                 · -- not s82.1 = s84.1
                  refine region_k (fun K93 hK93 => ?_)
                  refine stq hf rfl rfl rfl (ex_move hf rfl) (fun a hf => ?_)
                  refine stq hf rfl rfl rfl (ex_move hf rfl) (fun a hf => ?_)
                  refine stq hf rfl rfl rfl (ex_neq hf rfl rfl) (fun a hf => ?_)
                  refine stq hf rfl rfl rfl (ex_move hf rfl) (fun a hf => ?_)
                  replace hf := hf.castB (t := 201) rfl (ndec_f hc87)
                  replace hf := hf.castB (t := 202) rfl (ndec_f hc87)
                  refine stq hf rfl rfl rfl (ex_move hf rfl) (fun a hf => ?_)
                  refine stq hf rfl rfl rfl (ex_eqp Try.underlying29 hf rfl rfl) (fun a hf => ?_)
                  refine stq hf rfl rfl rfl (ex_move hf rfl) (fun a hf => ?_)
                  refine stq hf rfl rfl rfl (ex_neq hf rfl rfl) (fun a hf => ?_)
                  refine stq hf rfl rfl rfl (ex_neb Try.underlying4 hf rfl rfl) (fun a hf => ?_)
                  refine stq hf rfl rfl rfl (ex_pickF hf rfl rfl) (fun a hf => ?_)
                  refine stq hf rfl rfl rfl (ex_move hf rfl) (fun a hf => ?_)
                  replace hf := hf.castB (t := 207) rfl (nbool_f hc88)
                  replace hf := hf.castB (t := 208) rfl (nbool_f hc88)
                  replace hf := hf.castB (t := 209) rfl (nbool_f hc88)
                  refine stq hf rfl rfl rfl (ex_move hf rfl) (fun a hf => ?_)
                  refine stq hf rfl rfl rfl (ex_move hf rfl) (fun a hf => ?_)
                  refine stq hf rfl rfl rfl (ex_neq hf rfl rfl) (fun a hf => ?_)
                  refine stq hf rfl rfl rfl (ex_pickF hf rfl rfl) (fun a hf => ?_)
                  refine stq hf rfl rfl rfl (ex_move hf rfl) (fun a hf => ?_)
                  replace hf := hf.castB (t := 212) rfl (ndec_f hc89)
                  replace hf := hf.castB (t := 213) rfl (ndec_f hc89)
                  replace hf := hf.castB (t := 214) rfl (ndec_f hc89)
                  refine stq hf rfl rfl rfl (ex_move hf rfl) (fun a hf => ?_)
                  refine stq hf rfl rfl rfl (ex_move hf rfl) (fun a hf => ?_)
                  refine stq hf rfl rfl rfl (ex_neq hf rfl rfl) (fun a hf => ?_)
                  refine stq hf rfl rfl rfl (ex_pickF hf rfl rfl) (fun a hf => ?_)
                  refine stq hf rfl rfl rfl (ex_move hf rfl) (fun a hf => ?_)
                  replace hf := hf.castB (t := 217) rfl (ndec_f hc90)
                  replace hf := hf.castB (t := 218) rfl (ndec_f hc90)
                  replace hf := hf.castB (t := 219) rfl (ndec_f hc90)
                  refine stq hf rfl rfl rfl (ex_move hf rfl) (fun a hf => ?_)
                  refine stq hf rfl rfl rfl (ex_move hf rfl) (fun a hf => ?_)
                  refine stq hf rfl rfl rfl (ex_neq hf rfl rfl) (fun a hf => ?_)
                  refine stq hf rfl rfl rfl (ex_pickF hf rfl rfl) (fun a hf => ?_)
                  refine stq hf rfl rfl rfl (ex_move hf rfl) (fun a hf => ?_)
                  replace hf := hf.castB (t := 222) rfl (ndec_t hc91)
                  replace hf := hf.castB (t := 223) rfl (ndec_t hc91)
                  replace hf := hf.castB (t := 224) rfl (ndec_t hc91)
                  refine stepN hf rfl rfl rfl (fun a hf => ?_)
                  refine stepN hf rfl rfl rfl (fun a hf => ?_)
                  refine stepN hf rfl rfl rfl (fun a hf => ?_)
                  refine stq hf rfl rfl rfl (ex_pickT hf rfl rfl) (fun a hf => ?_)
                  refine hK93 _ _ ?_
                  replace hs := hs.keep (.d (.d (.k (.k (.k (.k .nil))))))
                  have e86 := some_eq H; subst e86
                  exact hJ86 _ _ ⟨hf.sub ⟨rfl, rfl, rfl, rfl, trivial⟩, hs⟩
                · -- not s78.2 = s80.2
                 refine region_k (fun K94 hK94 => ?_)
                 refine stq hf rfl rfl rfl (ex_move hf rfl) (fun a hf => ?_)
                 refine stq hf rfl rfl rfl (ex_move hf rfl) (fun a hf => ?_)
                 refine stq hf rfl rfl rfl (ex_neq hf rfl rfl) (fun a hf => ?_)
                 refine stq hf rfl rfl rfl (ex_move hf rfl) (fun a hf => ?_)
                 replace hf := hf.castB (t := 201) rfl (ndec_f hc87)
                 replace hf := hf.castB (t := 202) rfl (ndec_f hc87)
                 refine stq hf rfl rfl rfl (ex_move hf rfl) (fun a hf => ?_)
                 refine stq hf rfl rfl rfl (ex_eqp Try.underlying29 hf rfl rfl) (fun a hf => ?_)
                 refine stq hf rfl rfl rfl (ex_move hf rfl) (fun a hf => ?_)
                 refine stq hf rfl rfl rfl (ex_neq hf rfl rfl) (fun a hf => ?_)
                 refine stq hf rfl rfl rfl (ex_neb Try.underlying4 hf rfl rfl) (fun a hf => ?_)
                 refine stq hf rfl rfl rfl (ex_pickF hf rfl rfl) (fun a hf => ?_)
                 refine stq hf rfl rfl rfl (ex_move hf rfl) (fun a hf => ?_)
                 replace hf := hf.castB (t := 207) rfl (nbool_f hc88)
                 replace hf := hf.castB (t := 208) rfl (nbool_f hc88)
                 replace hf := hf.castB (t := 209) rfl (nbool_f hc88)
                 refine stq hf rfl rfl rfl (ex_move hf rfl) (fun a hf => ?_)
                 refine stq hf rfl rfl rfl (ex_move hf rfl) (fun a hf => ?_)
                 refine stq hf rfl rfl rfl (ex_neq hf rfl rfl) (fun a hf => ?_)
                 refine stq hf rfl rfl rfl (ex_pickF hf rfl rfl) (fun a hf => ?_)
                 refine stq hf rfl rfl rfl (ex_move hf rfl) (fun a hf => ?_)
                 replace hf := hf.castB (t := 212) rfl (ndec_f hc89)
                 replace hf := hf.castB (t := 213) rfl (ndec_f hc89)
                 replace hf := hf.castB (t := 214) rfl (ndec_f hc89)
                 refine stq hf rfl rfl rfl (ex_move hf rfl) (fun a hf => ?_)
                 refine stq hf rfl rfl rfl (ex_move hf rfl) (fun a hf => ?_)
                 refine stq hf rfl rfl rfl (ex_neq hf rfl rfl) (fun a hf => ?_)
                 refine stq hf rfl rfl rfl (ex_pickF hf rfl rfl) (fun a hf => ?_)
                 refine stq hf rfl rfl rfl (ex_move hf rfl) (fun a hf => ?_)
                 replace hf := hf.castB (t := 217) rfl (ndec_t hc90)
                 replace hf := hf.castB (t := 218) rfl (ndec_t hc90)
                 replace hf := hf.castB (t := 219) rfl (ndec_t hc90)
                 refine stepN hf rfl rfl rfl (fun a hf => ?_)
                 refine stepN hf rfl rfl rfl (fun a hf => ?_)
                 refine stepN hf rfl rfl rfl (fun a hf => ?_)
                 refine stq hf rfl rfl rfl (ex_pickT hf rfl rfl) (fun a hf => ?_)
                 refine stq hf rfl rfl rfl (ex_move hf rfl) (fun a hf => ?_)
                 refine stepN hf rfl rfl rfl (fun a hf => ?_)
                 refine stepN hf rfl rfl rfl (fun a hf => ?_)
                 refine stepN hf rfl rfl rfl (fun a hf => ?_)
                 refine stq hf rfl rfl rfl (ex_pickT hf rfl rfl) (fun a hf => ?_)
                 refine hK94 _ _ ?_
                 replace hs := hs.keep (.d (.d (.k (.k (.k (.k .nil))))))
                 have e86 := some_eq H; subst e86
                 exact hJ86 _ _ ⟨hf.sub ⟨rfl, rfl, rfl, rfl, trivial⟩, hs⟩
               · -- not s78.1 = s80.1
                refine region_k (fun K95 hK95 => ?_)
                refine stq hf rfl rfl rfl (ex_move hf rfl) (fun a hf => ?_)
                refine stq hf rfl rfl rfl (ex_move hf rfl) (fun a hf => ?_)
                refine stq hf rfl rfl rfl (ex_neq hf rfl rfl) (fun a hf => ?_)
                refine stq hf rfl rfl rfl (ex_move hf rfl) (fun a hf => ?_)
                replace hf := hf.castB (t := 201) rfl (ndec_f hc87)
                replace hf := hf.castB (t := 202) rfl (ndec_f hc87)
                refine stq hf rfl rfl rfl (ex_move hf rfl) (fun a hf => ?_)
                refine stq hf rfl rfl rfl (ex_eqp Try.underlying29 hf rfl rfl) (fun a hf => ?_)
                refine stq hf rfl rfl rfl (ex_move hf rfl) (fun a hf => ?_)
                refine stq hf rfl rfl rfl (ex_neq hf rfl rfl) (fun a hf => ?_)
                refine stq hf rfl rfl rfl (ex_neb Try.underlying4 hf rfl rfl) (fun a hf => ?_)
                refine stq hf rfl rfl rfl (ex_pickF hf rfl rfl) (fun a hf => ?_)
                refine stq hf rfl rfl rfl (ex_move hf rfl) (fun a hf => ?_)
                replace hf := hf.castB (t := 207) rfl (nbool_f hc88)
                replace hf := hf.castB (t := 208) rfl (nbool_f hc88)
                replace hf := hf.castB (t := 209) rfl (nbool_f hc88)
                refine stq hf rfl rfl rfl (ex_move hf rfl) (fun a hf => ?_)
                refine stq hf rfl rfl rfl (ex_move hf rfl) (fun a hf => ?_)
                refine stq hf rfl rfl rfl (ex_neq hf rfl rfl) (fun a hf => ?_)
                refine stq hf rfl rfl rfl (ex_pickF hf rfl rfl) (fun a hf => ?_)
                refine stq hf rfl rfl rfl (ex_move hf rfl) (fun a hf => ?_)
                replace hf := hf.castB (t := 212) rfl (ndec_t hc89)
                replace hf := hf.castB (t := 213) rfl (ndec_t hc89)
                replace hf := hf.castB (t := 214) rfl (ndec_t hc89)
                refine stepN hf rfl rfl rfl (fun a hf => ?_)
                refine stepN hf rfl rfl rfl (fun a hf => ?_)
                refine stepN hf rfl rfl rfl (fun a hf => ?_)
                refine stq hf rfl rfl rfl (ex_pickT hf rfl rfl) (fun a hf => ?_)
                refine stq hf rfl rfl rfl (ex_move hf rfl) (fun a hf => ?_)
                refine stepN hf rfl rfl rfl (fun a hf => ?_)
                refine stepN hf rfl rfl rfl (fun a hf => ?_)
                refine stepN hf rfl rfl rfl (fun a hf => ?_)
                refine stq hf rfl rfl rfl (ex_pickT hf rfl rfl) (fun a hf => ?_)
                refine stq hf rfl rfl rfl (ex_move hf rfl) (fun a hf => ?_)
                refine stepN hf rfl rfl rfl (fun a hf => ?_)
                refine stepN hf rfl rfl rfl (fun a hf => ?_)
                refine stepN hf rfl rfl rfl (fun a hf => ?_)
                refine stq hf rfl rfl rfl (ex_pickT hf rfl rfl) (fun a hf => ?_)
                refine hK95 _ _ ?_
                replace hs := hs.keep (.d (.d (.k (.k (.k (.k .nil))))))
                have e86 := some_eq H; subst e86
                exact hJ86 _ _ ⟨hf.sub ⟨rfl, rfl, rfl, rfl, trivial⟩, hs⟩
              · -- not (true == (!decide (s65.2 = 0))) = true
               refine region_k (fun K96 hK96 => ?_)
               refine stq hf rfl rfl rfl (ex_move hf rfl) (fun a hf => ?_)
               refine stq hf rfl rfl rfl (ex_move hf rfl) (fun a hf => ?_)
               refine stq hf rfl rfl rfl (ex_neq hf rfl rfl) (fun a hf => ?_)
               refine stq hf rfl rfl rfl (ex_move hf rfl) (fun a hf => ?_)
               replace hf := hf.castB (t := 201) rfl (ndec_f hc87)
               replace hf := hf.castB (t := 202) rfl (ndec_f hc87)
               refine stq hf rfl rfl rfl (ex_move hf rfl) (fun a hf => ?_)
               refine stq hf rfl rfl rfl (ex_eqp Try.underlying29 hf rfl rfl) (fun a hf => ?_)
               refine stq hf rfl rfl rfl (ex_move hf rfl) (fun a hf => ?_)
               refine stq hf rfl rfl rfl (ex_neq hf rfl rfl) (fun a hf => ?_)
               refine stq hf rfl rfl rfl (ex_neb Try.underlying4 hf rfl rfl) (fun a hf => ?_)
               refine stq hf rfl rfl rfl (ex_pickF hf rfl rfl) (fun a hf => ?_)
               refine stq hf rfl rfl rfl (ex_move hf rfl) (fun a hf => ?_)
               replace hf := hf.castB (t := 207) rfl (nbool_t hc88)
               replace hf := hf.castB (t := 208) rfl (nbool_t hc88)
               replace hf := hf.castB (t := 209) rfl (nbool_t hc88)
               refine stepN hf rfl rfl rfl (fun a hf => ?_)
               refine stepN hf rfl rfl rfl (fun a hf => ?_)
               refine stepN hf rfl rfl rfl (fun a hf => ?_)
               refine stq hf rfl rfl rfl (ex_pickT hf rfl rfl) (fun a hf => ?_)
               refine stq hf rfl rfl rfl (ex_move hf rfl) (fun a hf => ?_)
               refine stepN hf rfl rfl rfl (fun a hf => ?_)
               refine stepN hf rfl rfl rfl (fun a hf => ?_)
               refine stepN hf rfl rfl rfl (fun a hf => ?_)
               refine stq hf rfl rfl rfl (ex_pickT hf rfl rfl) (fun a hf => ?_)
               refine stq hf rfl rfl rfl (ex_move hf rfl) (fun a hf => ?_)
               refine stepN hf rfl rfl rfl (fun a hf => ?_)
               refine stepN hf rfl rfl rfl (fun a hf => ?_)
               refine stepN hf rfl rfl rfl (fun a hf => ?_)
               refine stq hf rfl rfl rfl (ex_pickT hf rfl rfl) (fun a hf => ?_)
               refine stq hf rfl rfl rfl (ex_move hf rfl) (fun a hf => ?_)
               refine stepN hf rfl rfl rfl (fun a hf => ?_)
               refine stepN hf rfl rfl rfl (fun a hf => ?_)
               refine stepN hf rfl rfl rfl (fun a hf => ?_)
               refine stq hf rfl rfl rfl (ex_pickT hf rfl rfl) (fun a hf => ?_)
               refine hK96 _ _ ?_
               replace hs := hs.keep (.d (.d (.k (.k (.k (.k .nil))))))
               have e86 := some_eq H; subst e86
               exact hJ86 _ _ ⟨hf.sub ⟨rfl, rfl, rfl, rfl, trivial⟩, hs⟩
             · -- not s65.2 = x68
              refine region_k (fun K97 hK97 => ?_)
              refine stq hf rfl rfl rfl (ex_move hf rfl) (fun a hf => ?_)
              refine stq hf rfl rfl rfl (ex_move hf rfl) (fun a hf => ?_)
              refine stq hf rfl rfl rfl (ex_neq hf rfl rfl) (fun a hf => ?_)
              refine stq hf rfl rfl rfl (ex_move hf rfl) (fun a hf => ?_)
              replace hf := hf.castB (t := 201) rfl (ndec_t hc87)
              replace hf := hf.castB (t := 202) rfl (ndec_t hc87)
              refine stepN hf rfl rfl rfl (fun a hf => ?_)
              refine stepN hf rfl rfl rfl (fun a hf => ?_)
              refine stepN hf rfl rfl rfl (fun a hf => ?_)
              refine stepN hf rfl rfl rfl (fun a hf => ?_)
              refine stepN hf rfl rfl rfl (fun a hf => ?_)
              refine stq hf rfl rfl rfl (ex_pickT hf rfl rfl) (fun a hf => ?_)
              refine stq hf rfl rfl rfl (ex_move hf rfl) (fun a hf => ?_)
              refine stepN hf rfl rfl rfl (fun a hf => ?_)
              refine stepN hf rfl rfl rfl (fun a hf => ?_)
              refine stepN hf rfl rfl rfl (fun a hf => ?_)
              refine stq hf rfl rfl rfl (ex_pickT hf rfl rfl) (fun a hf => ?_)
              refine stq hf rfl rfl rfl (ex_move hf rfl) (fun a hf => ?_)
              refine stepN hf rfl rfl rfl (fun a hf => ?_)
              refine stepN hf rfl rfl rfl (fun a hf => ?_)
              refine stepN hf rfl rfl rfl (fun a hf => ?_)
              refine stq hf rfl rfl rfl (ex_pickT hf rfl rfl) (fun a hf => ?_)
              refine stq hf rfl rfl rfl (ex_move hf rfl) (fun a hf => ?_)
              refine stepN hf rfl rfl rfl (fun a hf => ?_)
              refine stepN hf rfl rfl rfl (fun a hf => ?_)
              refine stepN hf rfl rfl rfl (fun a hf => ?_)
              refine stq hf rfl rfl rfl (ex_pickT hf rfl rfl) (fun a hf => ?_)
              refine stq hf rfl rfl rfl (ex_move hf rfl) (fun a hf => ?_)
              refine stepN hf rfl rfl rfl (fun a hf => ?_)
              refine stepN hf rfl rfl rfl (fun a hf => ?_)
              refine stepN hf rfl rfl rfl (fun a hf => ?_)
              refine stq hf rfl rfl rfl (ex_pickT hf rfl rfl) (fun a hf => ?_)
              refine hK97 _ _ ?_
              replace hs := hs.keep (.d (.d (.k (.k (.k (.k .nil))))))
              have e86 := some_eq H; subst e86
              exact hJ86 _ _ ⟨hf.sub ⟨rfl, rfl, rfl, rfl, trivial⟩, hs⟩
            ·
             obtain ⟨hf, hs⟩ := hJ
             replace H := HO86
             clear HO86
             refine itt H (fun hc98 H => ?_) (fun hc98 H => ?_)
             · -- x86 = true
              replace hf := hf.castB (t := 228) rfl hc98
              refine cond_T hf rfl ?_
              refine seq_reg (fun K99 hK99 => ?_)
              refine stq hf rfl rfl rfl (ex_assign hf rfl) (fun a hf => ?_)
              refine hK99 _ _ ?_
              refine wp_ret ?_
              refine hR60 _ _ ?_
              have e59 := some_eq H; subst e59; replace H := el_rt HO59
              refine hR59 _ _ ?_
              refine hR55 _ _ ?_
              refine hR52 _ _ ?_
              have e50 := some_eq H; subst e50; replace H := el_rt HO50
              refine hR50 _ _ ?_
              have eR := some_eq H; subst eR
              replace hs := hs.keep (.d (.d (.d (.d .nil))))
              exact ret1 Try.results8 hf rfl ⟨_, rfl, ⟨rfl, hs⟩⟩
             · -- not x86 = true
              replace hf := hf.castB (t := 228) rfl (bool_f hc98)
              refine cond_F hf rfl ?_
              refine wp_skip ?_
              refine hN60 _ _ ?_
              have e59 := some_eq H; subst e59
              exact hJ59 _ _ ⟨_, rfl, hf.sub ⟨rfl, rfl, rfl, trivial⟩, hs⟩
          | some c66 =>
           replace H := elim_s hps65 H
           refine region_k (fun K104 hK104 => ?_)
           refine stq hf rfl rfl rfl (ex_fieldAddrB fa_27_0 rfl hf rfl) (fun a hf => ?_)
           refine stq hf rfl rfl rfl (ex_load sc_22 hf rfl (bx_cell (hs.get (i := 0) rfl) _ rfl)) (fun a hf => ?_)
           refine stq hf rfl rfl rfl (ex_fieldAddrB fa_27_1 rfl hf rfl) (fun a hf => ?_)
           refine stq hf rfl rfl rfl (ex_load sc_23 hf rfl (bx_cell (hs.get (i := 0) rfl) _ rfl)) (fun a hf => ?_)
           refine stq hf rfl rfl rfl (ex_fieldAddrB fa_27_2 rfl hf rfl) (fun a hf => ?_)
           refine stq hf rfl rfl rfl (ex_load sc_2 hf rfl (bx_cell (hs.get (i := 0) rfl) _ rfl)) (fun a hf => ?_)
           refine stepF hf rfl rfl rfl (ex_call cf_13 hf rfl) (heat_New.calls k55 a0 a1 a2 v0 v1 (hs.enter (.k (.k (.k (.k (.k .nil)))))) (Sr.old hr hs (.k (.k (.k (.k (.k .nil))))) (i := 0) rfl (fun _ h => h) (fun _ h => h) (Sr.old hr hs (.k (.k (.k (.k (.k .nil))))) (i := 1) rfl (fun _ h => h) (fun _ h => h) (Sr.nil _ _))) hs65) (fun v w hR a hf => ?_)
           obtain ⟨hc', _⟩ | ⟨cc, hc', b100, v101, v102, v103, rfl, hs'⟩ := hR
           case inl => rw [hps65] at hc'; cases hc'
           obtain rfl : c66 = cc := by rw [hps65] at hc'; exact Option.some.inj hc'
           replace hs := hs.step (.k (.k (.k (.k (.k .nil))))) hs'
           clear hs'
           refine stq hf rfl rfl rfl (ex_move hf rfl) (fun a hf => ?_)
           refine stq hf rfl rfl rfl (ex_extract hf rfl rfl) (fun a hf => ?_)
           refine stq hf rfl rfl rfl (ex_extract hf rfl rfl) (fun a hf => ?_)
           refine stq hf rfl rfl rfl (ex_assign hf rfl) (fun a hf => ?_)
           refine stq hf rfl rfl rfl (ex_assign hf rfl) (fun a hf => ?_)
           refine hK104 _ _ ?_
           refine hN64 _ _ ?_
           refine bnd H (fun x105 H105 HO105 => ?_)
           clear H
           refine seq_cut (fun a w => Fr a 231 [(3, v3), (19, .pointer (some ⟨b62, 0, none⟩)), (20, .pointer (some ⟨b100, 0, none⟩)), (21, .int .i64 s65.2), (23, .int .i64 x105), (126, .agg #[v0, v1, .int .i64 a2, v13, v14, .int .i64 s12.2.2, v18, v25, .int .i64 x24.2.2]), (127, .int .i64 y53)] ∧ St M w0 w [bx b62 27 [v0, v1, .int .i64 a2], bx b100 64 [v101, v102, .int .i64 c66.2.2.1, v103, .int .i64 c66.2.2.2.2], osl K_api_HeatDomain v101 c66.1, osl K_api_HeatLink v102 c66.2.1, osl K_int64 v103 c66.2.2.2.1, osl K_api_HeatDomain v13 s12.1, osl K_api_HeatLink v14 s12.2.1, osl K_api_HeatDomain v18 x24.1, osl K_api_HeatLink v25 x24.2.1]) (fun Q105 hJ105 hR105 hX105 => ?_) (fun a w hJ => ?_)
           ·
            replace H := H105
            refine bnd H (fun s106 hs106 H => ?_)
            cases hps106 : s106.1 with
            | none =>
             replace H := elim_n hps106 H
             refine region_k (fun K108 hK108 => ?_)
             refine stq hf rfl rfl rfl (ex_fieldAddrB fa_27_0 rfl hf rfl) (fun a hf => ?_)
             refine stq hf rfl rfl rfl (ex_load sc_22 hf rfl (bx_cell (hs.get (i := 4) rfl) _ rfl)) (fun a hf => ?_)
             refine stq hf rfl rfl rfl (ex_fieldAddrB fa_27_1 rfl hf rfl) (fun a hf => ?_)
             refine stq hf rfl rfl rfl (ex_load sc_23 hf rfl (bx_cell (hs.get (i := 4) rfl) _ rfl)) (fun a hf => ?_)
             refine stq hf rfl rfl rfl (ex_fieldAddrB fa_27_2 rfl hf rfl) (fun a hf => ?_)
             refine stq hf rfl rfl rfl (ex_load sc_2 hf rfl (bx_cell (hs.get (i := 4) rfl) _ rfl)) (fun a hf => ?_)
             refine stepF hf rfl rfl rfl (ex_call cf_20 hf rfl) (ref38_New.calls k55 a0 a1 a2 v0 v1 (hs.enter (.k (.k (.k (.k (.k (.k (.k (.k (.k .nil)))))))))) (Sr.old hr hs (.k (.k (.k (.k (.k (.k (.k (.k (.k .nil))))))))) (i := 0) rfl (fun _ h => h) (fun _ h => h) (Sr.old hr hs (.k (.k (.k (.k (.k (.k (.k (.k (.k .nil))))))))) (i := 1) rfl (fun _ h => h) (fun _ h => h) (Sr.nil _ _))) hs106) (fun v w hR a hf => ?_)
             obtain ⟨_, rfl, hs'⟩ | ⟨_, hc', _⟩ := hR
             case inr => rw [hps106] at hc'; cases hc'
             replace hs := hs.step (.k (.k (.k (.k (.k (.k (.k (.k (.k .nil))))))))) hs'
             clear hs'
             refine stq hf rfl rfl rfl (ex_move hf rfl) (fun a hf => ?_)
             refine stq hf rfl rfl rfl (ex_extract hf rfl rfl) (fun a hf => ?_)
             refine stq hf rfl rfl rfl (ex_extract hf rfl rfl) (fun a hf => ?_)
             refine stq hf rfl rfl rfl (ex_assign hf rfl) (fun a hf => ?_)
             refine stq hf rfl rfl rfl (ex_assign hf rfl) (fun a hf => ?_)
             refine hK108 _ _ ?_
             replace hs := hs.pick (.k (.k (.k (.k (.k (.k (.k (.k (.c .nil)))))))))
             replace hs := hs.pick (.k (.k (.k (.k (.k (.k (.k (.k (.c .nil)))))))))
             replace hs := hs.pick (.k (.k (.k (.k (.k (.k (.k (.k (.c .nil)))))))))
             replace hs := hs.pick (.k (.k (.k (.k (.k (.k (.k (.k (.c .nil)))))))))
             replace hs := hs.pick (.k (.k (.k (.k (.k (.k (.k (.c (.k .nil)))))))))
             replace hs := hs.pick (.k (.k (.k (.k (.k (.k (.k (.c (.k .nil)))))))))
             replace hs := hs.pick (.k (.k (.k (.k (.k (.k (.k (.c (.k .nil)))))))))
             replace hs := hs.pick (.k (.k (.k (.k (.k (.k (.k (.c (.k .nil)))))))))
             replace hs := hs.pick (.k (.k (.k (.k (.k (.k (.k (.k (.c .nil)))))))))
             have e105 := some_eq H; subst e105
             exact hJ105 _ _ ⟨hf.sub ⟨rfl, rfl, rfl, rfl, rfl, rfl, rfl, trivial⟩, hs⟩
            | some c107 =>
             replace H := elim_s hps106 H
             refine region_k (fun K111 hK111 => ?_)
             refine stq hf rfl rfl rfl (ex_fieldAddrB fa_27_0 rfl hf rfl) (fun a hf => ?_)
             refine stq hf rfl rfl rfl (ex_load sc_22 hf rfl (bx_cell (hs.get (i := 4) rfl) _ rfl)) (fun a hf => ?_)
             refine stq hf rfl rfl rfl (ex_fieldAddrB fa_27_1 rfl hf rfl) (fun a hf => ?_)
             refine stq hf rfl rfl rfl (ex_load sc_23 hf rfl (bx_cell (hs.get (i := 4) rfl) _ rfl)) (fun a hf => ?_)
             refine stq hf rfl rfl rfl (ex_fieldAddrB fa_27_2 rfl hf rfl) (fun a hf => ?_)
             refine stq hf rfl rfl rfl (ex_load sc_2 hf rfl (bx_cell (hs.get (i := 4) rfl) _ rfl)) (fun a hf => ?_)
             refine stepF hf rfl rfl rfl (ex_call cf_20 hf rfl) (ref38_New.calls k55 a0 a1 a2 v0 v1 (hs.enter (.k (.k (.k (.k (.k (.k (.k (.k (.k .nil)))))))))) (Sr.old hr hs (.k (.k (.k (.k (.k (.k (.k (.k (.k .nil))))))))) (i := 0) rfl (fun _ h => h) (fun _ h => h) (Sr.old hr hs (.k (.k (.k (.k (.k (.k (.k (.k (.k .nil))))))))) (i := 1) rfl (fun _ h => h) (fun _ h => h) (Sr.nil _ _))) hs106) (fun v w hR a hf => ?_)
             obtain ⟨hc', _⟩ | ⟨cc, hc', b109, v110, rfl, hs'⟩ := hR
             case inl => rw [hps106] at hc'; cases hc'
             obtain rfl : c107 = cc := by rw [hps106] at hc'; exact Option.some.inj hc'
             replace hs := hs.step (.k (.k (.k (.k (.k (.k (.k (.k (.k .nil))))))))) hs'
             clear hs'
             refine stq hf rfl rfl rfl (ex_move hf rfl) (fun a hf => ?_)
             refine stq hf rfl rfl rfl (ex_extract hf rfl rfl) (fun a hf => ?_)
             refine stq hf rfl rfl rfl (ex_extract hf rfl rfl) (fun a hf => ?_)
             refine stq hf rfl rfl rfl (ex_assign hf rfl) (fun a hf => ?_)
             refine stq hf rfl rfl rfl (ex_assign hf rfl) (fun a hf => ?_)
             refine hK111 _ _ ?_
             replace hs := hs.keep (.d (.d (.k (.k (.k (.k (.k (.k (.k (.k (.k .nil)))))))))))
             replace hs := hs.pick (.k (.k (.k (.k (.k (.k (.k (.k (.c .nil)))))))))
             replace hs := hs.pick (.k (.k (.k (.k (.k (.k (.k (.k (.c .nil)))))))))
             replace hs := hs.pick (.k (.k (.k (.k (.k (.k (.k (.k (.c .nil)))))))))
             replace hs := hs.pick (.k (.k (.k (.k (.k (.k (.k (.k (.c .nil)))))))))
             replace hs := hs.pick (.k (.k (.k (.k (.k (.k (.k (.c (.k .nil)))))))))
             replace hs := hs.pick (.k (.k (.k (.k (.k (.k (.k (.c (.k .nil)))))))))
             replace hs := hs.pick (.k (.k (.k (.k (.k (.k (.k (.c (.k .nil)))))))))
             replace hs := hs.pick (.k (.k (.k (.k (.k (.k (.k (.c (.k .nil)))))))))
             replace hs := hs.pick (.k (.k (.k (.k (.k (.k (.k (.k (.c .nil)))))))))
             have e105 := some_eq H; subst e105
             exact hJ105 _ _ ⟨hf.sub ⟨rfl, rfl, rfl, rfl, rfl, rfl, rfl, trivial⟩, hs⟩
           ·
            obtain ⟨hf, hs⟩ := hJ
            replace H := HO105
            clear HO105
            refine bnd H (fun s112 hs112 H => ?_)
            refine seq_reg (fun K114 hK114 => ?_)
            refine stq hf rfl rfl rfl (ex_move hf rfl) (fun a hf => ?_)
            refine stq hf rfl rfl rfl (ex_fieldAddrB fa_27_0 rfl hf rfl) (fun a hf => ?_)
            refine stq hf rfl rfl rfl (ex_load sc_22 hf rfl (bx_cell (hs.get (i := 0) rfl) _ rfl)) (fun a hf => ?_)
            refine stq hf rfl rfl rfl (ex_lenS Try.underlying22 (rsl_isSl (hr.now hs (i := 0) rfl)) hf rfl) (fun a hf => ?_)
            refine stepF hf rfl rfl rfl (ex_call cf_14 hf rfl) (law38_Powers.calls k55 a3 (a0.length : Int) 200 v3 (hs.enter (.k (.k (.k (.k (.k (.k (.k (.k (.k .nil)))))))))) (Sr.old hr hs (.k (.k (.k (.k (.k (.k (.k (.k (.k .nil))))))))) (i := 2) rfl (fun _ h => h) (fun _ h => h) (Sr.nil _ _)) hs112) (fun v w hR a hf => ?_)
            obtain ⟨v113, rfl, hs'⟩ := hR
            replace hs := hs.step (.k (.k (.k (.k (.k (.k (.k (.k (.k .nil))))))))) hs'
            clear hs'
            refine stq hf rfl rfl rfl (ex_assign hf rfl) (fun a hf => ?_)
            refine hK114 _ _ ?_
            refine bnd H (fun s115 hs115 H => ?_)
            refine seq_reg (fun K116 hK116 => ?_)
            refine stq hf rfl rfl rfl (ex_fieldAddrB fa_27_0 rfl hf rfl) (fun a hf => ?_)
            refine stq hf rfl rfl rfl (ex_load sc_22 hf rfl (bx_cell (hs.get (i := 1) rfl) _ rfl)) (fun a hf => ?_)
            refine stq hf rfl rfl rfl (ex_fieldAddrB fa_27_1 rfl hf rfl) (fun a hf => ?_)
            refine stq hf rfl rfl rfl (ex_load sc_23 hf rfl (bx_cell (hs.get (i := 1) rfl) _ rfl)) (fun a hf => ?_)
            refine stq hf rfl rfl rfl (ex_fieldAddrB fa_27_2 rfl hf rfl) (fun a hf => ?_)
            refine stq hf rfl rfl rfl (ex_load sc_2 hf rfl (bx_cell (hs.get (i := 1) rfl) _ rfl)) (fun a hf => ?_)
            refine stq hf rfl rfl rfl (ex_move hf rfl) (fun a hf => ?_)
            refine stepF hf rfl rfl rfl (ex_call cf_27 hf rfl) (heat_Bound.calls k55 a0 a1 a2 s112 v0 v1 v113 (hs.enter (.k (.k (.k (.k (.k (.k (.k (.k (.k (.k .nil))))))))))) (Sr.old hr hs (.k (.k (.k (.k (.k (.k (.k (.k (.k (.k .nil)))))))))) (i := 0) rfl (fun _ h => h) (fun _ h => h) (Sr.old hr hs (.k (.k (.k (.k (.k (.k (.k (.k (.k (.k .nil)))))))))) (i := 1) rfl (fun _ h => h) (fun _ h => h) (Sr.own hs (.k (.k (.k (.k (.k (.k (.k (.k (.k (.k .nil)))))))))) (i := 0) rfl osl_rsl (fun _ h => h.1) (Sr.nil _ _)))) hs115) (fun v w hR a hf => ?_)
            obtain ⟨rfl, hs'⟩ := hR
            replace hs := hs.step (.k (.k (.k (.k (.k (.k (.k (.k (.k (.k .nil)))))))))) hs'
            clear hs'
            refine stq hf rfl rfl rfl (ex_move hf rfl) (fun a hf => ?_)
            refine stq hf rfl rfl rfl (ex_extract hf rfl rfl) (fun a hf => ?_)
            refine stq hf rfl rfl rfl (ex_extract hf rfl rfl) (fun a hf => ?_)
            refine stq hf rfl rfl rfl (ex_assign hf rfl) (fun a hf => ?_)
            refine stq hf rfl rfl rfl (ex_assign hf rfl) (fun a hf => ?_)
            refine hK116 _ _ ?_
            refine bnd H (fun s117 hs117 H => ?_)
            refine seq_reg (fun K118 hK118 => ?_)
            refine stq hf rfl rfl rfl (ex_fieldAddrB fa_27_0 rfl hf rfl) (fun a hf => ?_)
            refine stq hf rfl rfl rfl (ex_load sc_22 hf rfl (bx_cell (hs.get (i := 1) rfl) _ rfl)) (fun a hf => ?_)
            refine stq hf rfl rfl rfl (ex_fieldAddrB fa_27_1 rfl hf rfl) (fun a hf => ?_)
            refine stq hf rfl rfl rfl (ex_load sc_23 hf rfl (bx_cell (hs.get (i := 1) rfl) _ rfl)) (fun a hf => ?_)
            refine stq hf rfl rfl rfl (ex_fieldAddrB fa_27_2 rfl hf rfl) (fun a hf => ?_)
            refine stq hf rfl rfl rfl (ex_load sc_2 hf rfl (bx_cell (hs.get (i := 1) rfl) _ rfl)) (fun a hf => ?_)
            refine stq hf rfl rfl rfl (ex_move hf rfl) (fun a hf => ?_)
            refine stepF hf rfl rfl rfl (ex_call cf_28 hf rfl) (ref38_Bound.calls k55 a0 a1 a2 s112 v0 v1 v113 (hs.enter (.k (.k (.k (.k (.k (.k (.k (.k (.k (.k .nil))))))))))) (Sr.old hr hs (.k (.k (.k (.k (.k (.k (.k (.k (.k (.k .nil)))))))))) (i := 0) rfl (fun _ h => h) (fun _ h => h) (Sr.old hr hs (.k (.k (.k (.k (.k (.k (.k (.k (.k (.k .nil)))))))))) (i := 1) rfl (fun _ h => h) (fun _ h => h) (Sr.own hs (.k (.k (.k (.k (.k (.k (.k (.k (.k (.k .nil)))))))))) (i := 0) rfl osl_rsl (fun _ h => h.1) (Sr.nil _ _)))) hs117) (fun v w hR a hf => ?_)
            obtain ⟨rfl, hs'⟩ := hR
            replace hs := hs.step (.k (.k (.k (.k (.k (.k (.k (.k (.k (.k .nil)))))))))) hs'
            clear hs'
            refine stq hf rfl rfl rfl (ex_move hf rfl) (fun a hf => ?_)
            refine stq hf rfl rfl rfl (ex_extract hf rfl rfl) (fun a hf => ?_)
            refine stq hf rfl rfl rfl (ex_extract hf rfl rfl) (fun a hf => ?_)
            refine stq hf rfl rfl rfl (ex_assign hf rfl) (fun a hf => ?_)
            refine stq hf rfl rfl rfl (ex_assign hf rfl) (fun a hf => ?_)
            refine hK118 _ _ ?_
            refine bnd H (fun s119 hs119 H => ?_)
            refine seq_reg (fun K120 hK120 => ?_)
            refine stq hf rfl rfl rfl (ex_fieldAddrB fa_27_0 rfl hf rfl) (fun a hf => ?_)
            refine stq hf rfl rfl rfl (ex_load sc_22 hf rfl (bx_cell (hs.get (i := 1) rfl) _ rfl)) (fun a hf => ?_)
            refine stq hf rfl rfl rfl (ex_fieldAddrB fa_27_1 rfl hf rfl) (fun a hf => ?_)
            refine stq hf rfl rfl rfl (ex_load sc_23 hf rfl (bx_cell (hs.get (i := 1) rfl) _ rfl)) (fun a hf => ?_)
            refine stq hf rfl rfl rfl (ex_fieldAddrB fa_27_2 rfl hf rfl) (fun a hf => ?_)
            refine stq hf rfl rfl rfl (ex_load sc_2 hf rfl (bx_cell (hs.get (i := 1) rfl) _ rfl)) (fun a hf => ?_)
            refine stq hf rfl rfl rfl (ex_move hf rfl) (fun a hf => ?_)
            refine stepF hf rfl rfl rfl (ex_call cf_27 hf rfl) (heat_Bound.calls k55 a0 a1 a2 a3 v0 v1 v3 (hs.enter (.k (.k (.k (.k (.k (.k (.k (.k (.k (.k .nil))))))))))) (Sr.old hr hs (.k (.k (.k (.k (.k (.k (.k (.k (.k (.k .nil)))))))))) (i := 0) rfl (fun _ h => h) (fun _ h => h) (Sr.old hr hs (.k (.k (.k (.k (.k (.k (.k (.k (.k (.k .nil)))))))))) (i := 1) rfl (fun _ h => h) (fun _ h => h) (Sr.old hr hs (.k (.k (.k (.k (.k (.k (.k (.k (.k (.k .nil)))))))))) (i := 2) rfl (fun _ h => h) (fun _ h => h) (Sr.nil _ _)))) hs119) (fun v w hR a hf => ?_)
            obtain ⟨rfl, hs'⟩ := hR
            replace hs := hs.step (.k (.k (.k (.k (.k (.k (.k (.k (.k (.k .nil)))))))))) hs'
            clear hs'
            refine stq hf rfl rfl rfl (ex_move hf rfl) (fun a hf => ?_)
            refine stq hf rfl rfl rfl (ex_extract hf rfl rfl) (fun a hf => ?_)
            refine stq hf rfl rfl rfl (ex_extract hf rfl rfl) (fun a hf => ?_)
            refine stq hf rfl rfl rfl (ex_assign hf rfl) (fun a hf => ?_)
            refine stq hf rfl rfl rfl (ex_assign hf rfl) (fun a hf => ?_)
            refine hK120 _ _ ?_
            refine bnd H (fun s121 hs121 H => ?_)
            refine seq_reg (fun K122 hK122 => ?_)
            refine stq hf rfl rfl rfl (ex_fieldAddrB fa_27_0 rfl hf rfl) (fun a hf => ?_)
            refine stq hf rfl rfl rfl (ex_load sc_22 hf rfl (bx_cell (hs.get (i := 1) rfl) _ rfl)) (fun a hf => ?_)
            refine stq hf rfl rfl rfl (ex_fieldAddrB fa_27_1 rfl hf rfl) (fun a hf => ?_)
            refine stq hf rfl rfl rfl (ex_load sc_23 hf rfl (bx_cell (hs.get (i := 1) rfl) _ rfl)) (fun a hf => ?_)
            refine stq hf rfl rfl rfl (ex_fieldAddrB fa_27_2 rfl hf rfl) (fun a hf => ?_)
            refine stq hf rfl rfl rfl (ex_load sc_2 hf rfl (bx_cell (hs.get (i := 1) rfl) _ rfl)) (fun a hf => ?_)
            refine stq hf rfl rfl rfl (ex_move hf rfl) (fun a hf => ?_)
            refine stepF hf rfl rfl rfl (ex_call cf_28 hf rfl) (ref38_Bound.calls k55 a0 a1 a2 a3 v0 v1 v3 (hs.enter (.k (.k (.k (.k (.k (.k (.k (.k (.k (.k .nil))))))))))) (Sr.old hr hs (.k (.k (.k (.k (.k (.k (.k (.k (.k (.k .nil)))))))))) (i := 0) rfl (fun _ h => h) (fun _ h => h) (Sr.old hr hs (.k (.k (.k (.k (.k (.k (.k (.k (.k (.k .nil)))))))))) (i := 1) rfl (fun _ h => h) (fun _ h => h) (Sr.old hr hs (.k (.k (.k (.k (.k (.k (.k (.k (.k (.k .nil)))))))))) (i := 2) rfl (fun _ h => h) (fun _ h => h) (Sr.nil _ _)))) hs121) (fun v w hR a hf => ?_)
            obtain ⟨rfl, hs'⟩ := hR
            replace hs := hs.step (.k (.k (.k (.k (.k (.k (.k (.k (.k (.k .nil)))))))))) hs'
            clear hs'
            refine stq hf rfl rfl rfl (ex_move hf rfl) (fun a hf => ?_)
            refine stq hf rfl rfl rfl (ex_extract hf rfl rfl) (fun a hf => ?_)
            refine stq hf rfl rfl rfl (ex_extract hf rfl rfl) (fun a hf => ?_)
            refine stq hf rfl rfl rfl (ex_assign hf rfl) (fun a hf => ?_)
            refine stq hf rfl rfl rfl (ex_assign hf rfl) (fun a hf => ?_)
            refine hK122 _ _ ?_
            refine bnd H (fun x123 H123 HO123 => ?_)
            clear H
            refine seq_cut (fun a w => Fr a 231 [(3, v3), (126, .agg #[v0, v1, .int .i64 a2, v13, v14, .int .i64 s12.2.2, v18, v25, .int .i64 x24.2.2]), (127, .int .i64 y53), (228, .bool x123)] ∧ St M w0 w [osl K_api_HeatDomain v13 s12.1, osl K_api_HeatLink v14 s12.2.1, osl K_api_HeatDomain v18 x24.1, osl K_api_HeatLink v25 x24.2.1]) (fun Q123 hJ123 hR123 hX123 => ?_) (fun a w hJ => ?_)
            ·
             replace H := H123
             refine itt H (fun hc124 H => ?_) (fun hc124 H => ?_)
             · -- s65.2 = x105
              refine itt H (fun hc125 H => ?_) (fun hc125 H => ?_)
              · -- (false == (!decide (s65.2 = 0))) = true
               refine itt H (fun hc126 H => ?_) (fun hc126 H => ?_)
               · -- s115.1 = s117.1
                refine itt H (fun hc127 H => ?_) (fun hc127 H => ?_)
                · -- s115.2 = s117.2
                 refine itt H (fun hc128 H => ?_) (fun hc128 H => ?_)
                 · -- s119.1 = s121.1
                  refine region_k (fun K129 hK129 => ?_)
                  refine stq hf rfl rfl rfl (ex_move hf rfl) (fun a hf => ?_)
                  refine stq hf rfl rfl rfl (ex_move hf rfl) (fun a hf => ?_)
                  refine stq hf rfl rfl rfl (ex_neq hf rfl rfl) (fun a hf => ?_)
                  refine stq hf rfl rfl rfl (ex_move hf rfl) (fun a hf => ?_)
                  replace hf := hf.castB (t := 201) rfl (ndec_f hc124)
                  replace hf := hf.castB (t := 202) rfl (ndec_f hc124)
                  refine stq hf rfl rfl rfl (ex_move hf rfl) (fun a hf => ?_)
                  refine stq hf rfl rfl rfl (ex_eqp Try.underlying29 hf rfl rfl) (fun a hf => ?_)
                  refine stq hf rfl rfl rfl (ex_move hf rfl) (fun a hf => ?_)
                  refine stq hf rfl rfl rfl (ex_neq hf rfl rfl) (fun a hf => ?_)
                  refine stq hf rfl rfl rfl (ex_neb Try.underlying4 hf rfl rfl) (fun a hf => ?_)
                  refine stq hf rfl rfl rfl (ex_pickF hf rfl rfl) (fun a hf => ?_)
                  refine stq hf rfl rfl rfl (ex_move hf rfl) (fun a hf => ?_)
                  replace hf := hf.castB (t := 207) rfl (nbool_f hc125)
                  replace hf := hf.castB (t := 208) rfl (nbool_f hc125)
                  replace hf := hf.castB (t := 209) rfl (nbool_f hc125)
                  refine stq hf rfl rfl rfl (ex_move hf rfl) (fun a hf => ?_)
                  refine stq hf rfl rfl rfl (ex_move hf rfl) (fun a hf => ?_)
                  refine stq hf rfl rfl rfl (ex_neq hf rfl rfl) (fun a hf => ?_)
                  refine stq hf rfl rfl rfl (ex_pickF hf rfl rfl) (fun a hf => ?_)
                  refine stq hf rfl rfl rfl (ex_move hf rfl) (fun a hf => ?_)
                  replace hf := hf.castB (t := 212) rfl (ndec_f hc126)
                  replace hf := hf.castB (t := 213) rfl (ndec_f hc126)
                  replace hf := hf.castB (t := 214) rfl (ndec_f hc126)
                  refine stq hf rfl rfl rfl (ex_move hf rfl) (fun a hf => ?_)
                  refine stq hf rfl rfl rfl (ex_move hf rfl) (fun a hf => ?_)
                  refine stq hf rfl rfl rfl (ex_neq hf rfl rfl) (fun a hf => ?_)
                  refine stq hf rfl rfl rfl (ex_pickF hf rfl rfl) (fun a hf => ?_)
                  refine stq hf rfl rfl rfl (ex_move hf rfl) (fun a hf => ?_)
                  replace hf := hf.castB (t := 217) rfl (ndec_f hc127)
                  replace hf := hf.castB (t := 218) rfl (ndec_f hc127)
                  replace hf := hf.castB (t := 219) rfl (ndec_f hc127)
                  refine stq hf rfl rfl rfl (ex_move hf rfl) (fun a hf => ?_)
                  refine stq hf rfl rfl rfl (ex_move hf rfl) (fun a hf => ?_)
                  refine stq hf rfl rfl rfl (ex_neq hf rfl rfl) (fun a hf => ?_)
                  refine stq hf rfl rfl rfl (ex_pickF hf rfl rfl) (fun a hf => ?_)
                  refine stq hf rfl rfl rfl (ex_move hf rfl) (fun a hf => ?_)
                  replace hf := hf.castB (t := 222) rfl (ndec_f hc128)
                  replace hf := hf.castB (t := 223) rfl (ndec_f hc128)
                  replace hf := hf.castB (t := 224) rfl (ndec_f hc128)
                  refine stq hf rfl rfl rfl (ex_move hf rfl) (fun a hf => ?_)
                  refine stq hf rfl rfl rfl (ex_move hf rfl) (fun a hf => ?_)
                  refine stq hf rfl rfl rfl (ex_neq hf rfl rfl) (fun a hf => ?_)
                  refine stq hf rfl rfl rfl (ex_pickF hf rfl rfl) (fun a hf => ?_)
                  refine hK129 _ _ ?_
                  replace hs := hs.keep (.d (.d (.d (.d (.d (.d (.k (.k (.k (.k .nil))))))))))
                  have e123 := some_eq H; subst e123
                  exact hJ123 _ _ ⟨hf.sub ⟨rfl, rfl, rfl, rfl, trivial⟩, hs⟩
                 · -- not s119.1 = s121.1
                  refine region_k (fun K130 hK130 => ?_)
                  refine stq hf rfl rfl rfl (ex_move hf rfl) (fun a hf => ?_)
                  refine stq hf rfl rfl rfl (ex_move hf rfl) (fun a hf => ?_)
                  refine stq hf rfl rfl rfl (ex_neq hf rfl rfl) (fun a hf => ?_)
                  refine stq hf rfl rfl rfl (ex_move hf rfl) (fun a hf => ?_)
                  replace hf := hf.castB (t := 201) rfl (ndec_f hc124)
                  replace hf := hf.castB (t := 202) rfl (ndec_f hc124)
                  refine stq hf rfl rfl rfl (ex_move hf rfl) (fun a hf => ?_)
                  refine stq hf rfl rfl rfl (ex_eqp Try.underlying29 hf rfl rfl) (fun a hf => ?_)
                  refine stq hf rfl rfl rfl (ex_move hf rfl) (fun a hf => ?_)
                  refine stq hf rfl rfl rfl (ex_neq hf rfl rfl) (fun a hf => ?_)
                  refine stq hf rfl rfl rfl (ex_neb Try.underlying4 hf rfl rfl) (fun a hf => ?_)
                  refine stq hf rfl rfl rfl (ex_pickF hf rfl rfl) (fun a hf => ?_)
                  refine stq hf rfl rfl rfl (ex_move hf rfl) (fun a hf => ?_)
                  replace hf := hf.castB (t := 207) rfl (nbool_f hc125)
                  replace hf := hf.castB (t := 208) rfl (nbool_f hc125)
                  replace hf := hf.castB (t := 209) rfl (nbool_f hc125)
                  refine stq hf rfl rfl rfl (ex_move hf rfl) (fun a hf => ?_)
                  refine stq hf rfl rfl rfl (ex_move hf rfl) (fun a hf => ?_)
                  refine stq hf rfl rfl rfl (ex_neq hf rfl rfl) (fun a hf => ?_)
                  refine stq hf rfl rfl rfl (ex_pickF hf rfl rfl) (fun a hf => ?_)
                  refine stq hf rfl rfl rfl (ex_move hf rfl) (fun a hf => ?_)
                  replace hf := hf.castB (t := 212) rfl (ndec_f hc126)
                  replace hf := hf.castB (t := 213) rfl (ndec_f hc126)
                  replace hf := hf.castB (t := 214) rfl (ndec_f hc126)
                  refine stq hf rfl rfl rfl (ex_move hf rfl) (fun a hf => ?_)
                  refine stq hf rfl rfl rfl (ex_move hf rfl) (fun a hf => ?_)
                  refine stq hf rfl rfl rfl (ex_neq hf rfl rfl) (fun a hf => ?_)
                  refine stq hf rfl rfl rfl (ex_pickF hf rfl rfl) (fun a hf => ?_)
                  refine stq hf rfl rfl rfl (ex_move hf rfl) (fun a hf => ?_)
                  replace hf := hf.castB (t := 217) rfl (ndec_f hc127)
                  replace hf := hf.castB (t := 218) rfl (ndec_f hc127)
                  replace hf := hf.castB (t := 219) rfl (ndec_f hc127)
                  refine stq hf rfl rfl rfl (ex_move hf rfl) (fun a hf => ?_)
                  refine stq hf rfl rfl rfl (ex_move hf rfl) (fun a hf => ?_)
                  refine stq hf rfl rfl rfl (ex_neq hf rfl rfl) (fun a hf => ?_)
                  refine stq hf rfl rfl rfl (ex_pickF hf rfl rfl) (fun a hf => ?_)
                  refine stq hf rfl rfl rfl (ex_move hf rfl) (fun a hf => ?_)
                  replace hf := hf.castB (t := 222) rfl (ndec_t hc128)
                  replace hf := hf.castB (t := 223) rfl (ndec_t hc128)
                  replace hf := hf.castB (t := 224) rfl (ndec_t hc128)
                  refine stepN hf rfl rfl rfl (fun a hf => ?_)
                  refine stepN hf rfl rfl rfl (fun a hf => ?_)
                  refine stepN hf rfl rfl rfl (fun a hf => ?_)
                  refine stq hf rfl rfl rfl (ex_pickT hf rfl rfl) (fun a hf => ?_)
                  refine hK130 _ _ ?_
                  replace hs := hs.keep (.d (.d (.d (.d (.d (.d (.k (.k (.k (.k .nil))))))))))
                  have e123 := some_eq H; subst e123
                  exact hJ123 _ _ ⟨hf.sub ⟨rfl, rfl, rfl, rfl, trivial⟩, hs⟩
                · -- not s115.2 = s117.2
                 refine region_k (fun K131 hK131 => ?_)
                 refine stq hf rfl rfl rfl (ex_move hf rfl) (fun a hf => ?_)
                 refine stq hf rfl rfl rfl (ex_move hf rfl) (fun a hf => ?_)
                 refine stq hf rfl rfl rfl (ex_neq hf rfl rfl) (fun a hf => ?_)
                 refine stq hf rfl rfl rfl (ex_move hf rfl) (fun a hf => ?_)
                 replace hf := hf.castB (t := 201) rfl (ndec_f hc124)
                 replace hf := hf.castB (t := 202) rfl (ndec_f hc124)
                 refine stq hf rfl rfl rfl (ex_move hf rfl) (fun a hf => ?_)
                 refine stq hf rfl rfl rfl (ex_eqp Try.underlying29 hf rfl rfl) (fun a hf => ?_)
                 refine stq hf rfl rfl rfl (ex_move hf rfl) (fun a hf => ?_)
                 refine stq hf rfl rfl rfl (ex_neq hf rfl rfl) (fun a hf => ?_)
                 refine stq hf rfl rfl rfl (ex_neb Try.underlying4 hf rfl rfl) (fun a hf => ?_)
                 refine stq hf rfl rfl rfl (ex_pickF hf rfl rfl) (fun a hf => ?_)
                 refine stq hf rfl rfl rfl (ex_move hf rfl) (fun a hf => ?_)
                 replace hf := hf.castB (t := 207) rfl (nbool_f hc125)
                 replace hf := hf.castB (t := 208) rfl (nbool_f hc125)
                 replace hf := hf.castB (t := 209) rfl (nbool_f hc125)
                 refine stq hf rfl rfl rfl (ex_move hf rfl) (fun a hf => ?_)
                 refine stq hf rfl rfl rfl (ex_move hf rfl) (fun a hf => ?_)
                 refine stq hf rfl rfl rfl (ex_neq hf rfl rfl) (fun a hf => ?_)
                 refine stq hf rfl rfl rfl (ex_pickF hf rfl rfl) (fun a hf => ?_)
                 refine stq hf rfl rfl rfl (ex_move hf rfl) (fun a hf => ?_)
                 replace hf := hf.castB (t := 212) rfl (ndec_f hc126)
                 replace hf := hf.castB (t := 213) rfl (ndec_f hc126)
                 replace hf := hf.castB (t := 214) rfl (ndec_f hc126)
                 refine stq hf rfl rfl rfl (ex_move hf rfl) (fun a hf => ?_)
                 refine stq hf rfl rfl rfl (ex_move hf rfl) (fun a hf => ?_)
                 refine stq hf rfl rfl rfl (ex_neq hf rfl rfl) (fun a hf => ?_)
                 refine stq hf rfl rfl rfl (ex_pickF hf rfl rfl) (fun a hf => ?_)
                 refine stq hf rfl rfl rfl (ex_move hf rfl) (fun a hf => ?_)
                 replace hf := hf.castB (t := 217) rfl (ndec_t hc127)
                 replace hf := hf.castB (t := 218) rfl (ndec_t hc127)
                 replace hf := hf.castB (t := 219) rfl (ndec_t hc127)
                 refine stepN hf rfl rfl rfl (fun a hf => ?_)
                 refine stepN hf rfl rfl rfl (fun a hf => ?_)
                 refine stepN hf rfl rfl rfl (fun a hf => ?_)
                 refine stq hf rfl rfl rfl (ex_pickT hf rfl rfl) (fun a hf => ?_)
                 refine stq hf rfl rfl rfl (ex_move hf rfl) (fun a hf => ?_)
                 refine stepN hf rfl rfl rfl (fun a hf => ?_)
                 refine stepN hf rfl rfl rfl (fun a hf => ?_)
                 refine stepN hf rfl rfl rfl (fun a hf => ?_)
                 refine stq hf rfl rfl rfl (ex_pickT hf rfl rfl) (fun a hf => ?_)
                 refine hK131 _ _ ?_
                 replace hs := hs.keep (.d (.d (.d (.d (.d (.d (.k (.k (.k (.k .nil))))))))))
                 have e123 := some_eq H; subst e123
                 exact hJ123 _ _ ⟨hf.sub ⟨rfl, rfl, rfl, rfl, trivial⟩, hs⟩
               · -- not s115.1 = s117.1
                refine region_k (fun K132 hK132 => ?_)
                refine stq hf rfl rfl rfl (ex_move hf rfl) (fun a hf => ?_)
                refine stq hf rfl rfl rfl (ex_move hf rfl) (fun a hf => ?_)
                refine stq hf rfl rfl rfl (ex_neq hf rfl rfl) (fun a hf => ?_)
                refine stq hf rfl rfl rfl (ex_move hf rfl) (fun a hf => ?_)
                replace hf := hf.castB (t := 201) rfl (ndec_f hc124)
                replace hf := hf.castB (t := 202) rfl (ndec_f hc124)
                refine stq hf rfl rfl rfl (ex_move hf rfl) (fun a hf => ?_)
                refine stq hf rfl rfl rfl (ex_eqp Try.underlying29 hf rfl rfl) (fun a hf => ?_)
                refine stq hf rfl rfl rfl (ex_move hf rfl) (fun a hf => ?_)
                refine stq hf rfl rfl rfl (ex_neq hf rfl rfl) (fun a hf => ?_)
                refine stq hf rfl rfl rfl (ex_neb Try.underlying4 hf rfl rfl) (fun a hf => ?_)
                refine stq hf rfl rfl rfl (ex_pickF hf rfl rfl) (fun a hf => ?_)
                refine stq hf rfl rfl rfl (ex_move hf rfl) (fun a hf => ?_)
                replace hf := hf.castB (t := 207) rfl (nbool_f hc125)
                replace hf := hf.castB (t := 208) rfl (nbool_f hc125)
                replace hf := hf.castB (t := 209) rfl (nbool_f hc125)
                refine stq hf rfl rfl rfl (ex_move hf rfl) (fun a hf => ?_)
                refine stq hf rfl rfl rfl (ex_move hf rfl) (fun a hf => ?_)
                refine stq hf rfl rfl rfl (ex_neq hf rfl rfl) (fun a hf => ?_)
                refine stq hf rfl rfl rfl (ex_pickF hf rfl rfl) (fun a hf => ?_)
                refine stq hf rfl rfl rfl (ex_move hf rfl) (fun a hf => ?_)
                replace hf := hf.castB (t := 212) rfl (ndec_t hc126)
                replace hf := hf.castB (t := 213) rfl (ndec_t hc126)
                replace hf := hf.castB (t := 214) rfl (ndec_t hc126)
                refine stepN hf rfl rfl rfl (fun a hf => ?_)
                refine stepN hf rfl rfl rfl (fun a hf => ?_)
                refine stepN hf rfl rfl rfl (fun a hf => ?_)
                refine stq hf rfl rfl rfl (ex_pickT hf rfl rfl) (fun a hf => ?_)
                refine stq hf rfl rfl rfl (ex_move hf rfl) (fun a hf => ?_)
                refine stepN hf rfl rfl rfl (fun a hf => ?_)
                refine stepN hf rfl rfl rfl (fun a hf => ?_)
                refine stepN hf rfl rfl rfl (fun a hf => ?_)
                refine stq hf rfl rfl rfl (ex_pickT hf rfl rfl) (fun a hf => ?_)
                refine stq hf rfl rfl rfl (ex_move hf rfl) (fun a hf => ?_)
                refine stepN hf rfl rfl rfl (fun a hf => ?_)
                refine stepN hf rfl rfl rfl (fun a hf => ?_)
                refine stepN hf rfl rfl rfl (fun a hf => ?_)
                refine stq hf rfl rfl rfl (ex_pickT hf rfl rfl) (fun a hf => ?_)
                refine hK132 _ _ ?_
                replace hs := hs.keep (.d (.d (.d (.d (.d (.d (.k (.k (.k (.k .nil))))))))))
                have e123 := some_eq H; subst e123
                exact hJ123 _ _ ⟨hf.sub ⟨rfl, rfl, rfl, rfl, trivial⟩, hs⟩
              · -- not (false == (!decide (s65.2 = 0))) = true
               refine region_k (fun K133 hK133 => ?_)
               refine stq hf rfl rfl rfl (ex_move hf rfl) (fun a hf => ?_)
               refine stq hf rfl rfl rfl (ex_move hf rfl) (fun a hf => ?_)
               refine stq hf rfl rfl rfl (ex_neq hf rfl rfl) (fun a hf => ?_)
               refine stq hf rfl rfl rfl (ex_move hf rfl) (fun a hf => ?_)
               replace hf := hf.castB (t := 201) rfl (ndec_f hc124)
               replace hf := hf.castB (t := 202) rfl (ndec_f hc124)
               refine stq hf rfl rfl rfl (ex_move hf rfl) (fun a hf => ?_)
               refine stq hf rfl rfl rfl (ex_eqp Try.underlying29 hf rfl rfl) (fun a hf => ?_)
               refine stq hf rfl rfl rfl (ex_move hf rfl) (fun a hf => ?_)
               refine stq hf rfl rfl rfl (ex_neq hf rfl rfl) (fun a hf => ?_)
               refine stq hf rfl rfl rfl (ex_neb Try.underlying4 hf rfl rfl) (fun a hf => ?_)
               refine stq hf rfl rfl rfl (ex_pickF hf rfl rfl) (fun a hf => ?_)
               refine stq hf rfl rfl rfl (ex_move hf rfl) (fun a hf => ?_)
               replace hf := hf.castB (t := 207) rfl (nbool_t hc125)
               replace hf := hf.castB (t := 208) rfl (nbool_t hc125)
               replace hf := hf.castB (t := 209) rfl (nbool_t hc125)
               refine stepN hf rfl rfl rfl (fun a hf => ?_)
               refine stepN hf rfl rfl rfl (fun a hf => ?_)
               refine stepN hf rfl rfl rfl (fun a hf => ?_)
               refine stq hf rfl rfl rfl (ex_pickT hf rfl rfl) (fun a hf => ?_)
               refine stq hf rfl rfl rfl (ex_move hf rfl) (fun a hf => ?_)
               refine stepN hf rfl rfl rfl (fun a hf => ?_)
               refine stepN hf rfl rfl rfl (fun a hf => ?_)
               refine stepN hf rfl rfl rfl (fun a hf => ?_)
               refine stq hf rfl rfl rfl (ex_pickT hf rfl rfl) (fun a hf => ?_)
               refine stq hf rfl rfl rfl (ex_move hf rfl) (fun a hf => ?_)
               refine stepN hf rfl rfl rfl (fun a hf => ?_)
               refine stepN hf rfl rfl rfl (fun a hf => ?_)
               refine stepN hf rfl rfl rfl (fun a hf => ?_)
               refine stq hf rfl rfl rfl (ex_pickT hf rfl rfl) (fun a hf => ?_)
               refine stq hf rfl rfl rfl (ex_move hf rfl) (fun a hf => ?_)
               refine stepN hf rfl rfl rfl (fun a hf => ?_)
               refine stepN hf rfl rfl rfl (fun a hf => ?_)
               refine stepN hf rfl rfl rfl (fun a hf => ?_)
               refine stq hf rfl rfl rfl (ex_pickT hf rfl rfl) (fun a hf => ?_)
               refine hK133 _ _ ?_
               replace hs := hs.keep (.d (.d (.d (.d (.d (.d (.k (.k (.k (.k .nil))))))))))
               have e123 := some_eq H; subst e123
               exact hJ123 _ _ ⟨hf.sub ⟨rfl, rfl, rfl, rfl, trivial⟩, hs⟩
             · -- not s65.2 = x105
              refine region_k (fun K134 hK134 => ?_)
              refine stq hf rfl rfl rfl (ex_move hf rfl) (fun a hf => ?_)
              refine stq hf rfl rfl rfl (ex_move hf rfl) (fun a hf => ?_)
              refine stq hf rfl rfl rfl (ex_neq hf rfl rfl) (fun a hf => ?_)
              refine stq hf rfl rfl rfl (ex_move hf rfl) (fun a hf => ?_)
              replace hf := hf.castB (t := 201) rfl (ndec_t hc124)
              replace hf := hf.castB (t := 202) rfl (ndec_t hc124)
              refine stepN hf rfl rfl rfl (fun a hf => ?_)
              refine stepN hf rfl rfl rfl (fun a hf => ?_)
              refine stepN hf rfl rfl rfl (fun a hf => ?_)
              refine stepN hf rfl rfl rfl (fun a hf => ?_)
              refine stepN hf rfl rfl rfl (fun a hf => ?_)
              refine stq hf rfl rfl rfl (ex_pickT hf rfl rfl) (fun a hf => ?_)
              refine stq hf rfl rfl rfl (ex_move hf rfl) (fun a hf => ?_)
              refine stepN hf rfl rfl rfl (fun a hf => ?_)
              refine stepN hf rfl rfl rfl (fun a hf => ?_)
              refine stepN hf rfl rfl rfl (fun a hf => ?_)
              refine stq hf rfl rfl rfl (ex_pickT hf rfl rfl) (fun a hf => ?_)
              refine stq hf rfl rfl rfl (ex_move hf rfl) (fun a hf => ?_)
              refine stepN hf rfl rfl rfl (fun a hf => ?_)
              refine stepN hf rfl rfl rfl (fun a hf => ?_)
              refine stepN hf rfl rfl rfl (fun a hf => ?_)
              refine stq hf rfl rfl rfl (ex_pickT hf rfl rfl) (fun a hf => ?_)
              refine stq hf rfl rfl rfl (ex_move hf rfl) (fun a hf => ?_)
              refine stepN hf rfl rfl rfl (fun a hf => ?_)
              refine stepN hf rfl rfl rfl (fun a hf => ?_)
              refine stepN hf rfl rfl rfl (fun a hf => ?_)
              refine stq hf rfl rfl rfl (ex_pickT hf rfl rfl) (fun a hf => ?_)
              refine stq hf rfl rfl rfl (ex_move hf rfl) (fun a hf => ?_)
              refine stepN hf rfl rfl rfl (fun a hf => ?_)
              refine stepN hf rfl rfl rfl (fun a hf => ?_)
              refine stepN hf rfl rfl rfl (fun a hf => ?_)
              refine stq hf rfl rfl rfl (ex_pickT hf rfl rfl) (fun a hf => ?_)
              refine hK134 _ _ ?_
              replace hs := hs.keep (.d (.d (.d (.d (.d (.d (.k (.k (.k (.k .nil))))))))))
              have e123 := some_eq H; subst e123
              exact hJ123 _ _ ⟨hf.sub ⟨rfl, rfl, rfl, rfl, trivial⟩, hs⟩
            ·
             obtain ⟨hf, hs⟩ := hJ
             replace H := HO123
             clear HO123
             refine itt H (fun hc135 H => ?_) (fun hc135 H => ?_)
             · -- x123 = true
              replace hf := hf.castB (t := 228) rfl hc135
              refine cond_T hf rfl ?_
              refine seq_reg (fun K136 hK136 => ?_)
              refine stq hf rfl rfl rfl (ex_assign hf rfl) (fun a hf => ?_)
              refine hK136 _ _ ?_
              refine wp_ret ?_
              refine hR60 _ _ ?_
              have e59 := some_eq H; subst e59; replace H := el_rt HO59
              refine hR59 _ _ ?_
              refine hR55 _ _ ?_
              refine hR52 _ _ ?_
              have e50 := some_eq H; subst e50; replace H := el_rt HO50
              refine hR50 _ _ ?_
              have eR := some_eq H; subst eR
              replace hs := hs.keep (.d (.d (.d (.d .nil))))
              exact ret1 Try.results8 hf rfl ⟨_, rfl, ⟨rfl, hs⟩⟩
             · -- not x123 = true
              replace hf := hf.castB (t := 228) rfl (bool_f hc135)
              refine cond_F hf rfl ?_
              refine wp_skip ?_
              refine hN60 _ _ ?_
              have e59 := some_eq H; subst e59
              exact hJ59 _ _ ⟨_, rfl, hf.sub ⟨rfl, rfl, rfl, trivial⟩, hs⟩
         · -- not y53 = 0
          refine itt H (fun hc137 H => ?_) (fun hc137 H => ?_)
          · -- y53 = 1
           refine seq_reg (fun K139 hK139 => ?_)
           refine stq hf rfl rfl rfl (ex_indexG (cs := [v0, v1, .int .i64 a2, v13, v14, .int .i64 s12.2.2, v18, v25, .int .i64 x24.2.2]) 1 ia_53 ag_27 hc137 (by decide) hf rfl rfl rfl) (fun a hf => ?_)
           refine stepV hf rfl rfl rfl (er_alloc hs ti_27 (cs := [(.slice none 0 0), (.slice none 0 0), .int .i64 0]) rfl) (fun v w hR a hf => ?_)
           obtain ⟨b138, rfl, hs⟩ := hR
           refine stepS hf rfl rfl (er_storeAB (vs := [v13, v14, .int .i64 s12.2.2]) (cs' := [v13, v14, .int .i64 s12.2.2]) hs (.c (.k (.k (.k (.k .nil))))) sz_27 hf rfl rfl (all1 (IsSl.one (rsl_isSl (osl_rsl _ (hs.get (i := 1) rfl)))) (all1 (IsSl.one (rsl_isSl (osl_rsl _ (hs.get (i := 2) rfl)))) (all1 rfl (all1_nil)))) rfl rfl) (fun w hs => ?_)
           refine hK139 _ _ ?_
           refine seq_n (fun Q140 hN140 hR140 hX140 => ?_)
           refine bnd H (fun s141 hs141 H => ?_)
           cases hps141 : s141.1 with
           | none =>
            replace H := elim_n hps141 H
            refine region_k (fun K143 hK143 => ?_)
            refine stq hf rfl rfl rfl (ex_fieldAddrB fa_27_0 rfl hf rfl) (fun a hf => ?_)
            refine stq hf rfl rfl rfl (ex_load sc_22 hf rfl (bx_cell (hs.get (i := 0) rfl) _ rfl)) (fun a hf => ?_)
            refine stq hf rfl rfl rfl (ex_fieldAddrB fa_27_1 rfl hf rfl) (fun a hf => ?_)
            refine stq hf rfl rfl rfl (ex_load sc_23 hf rfl (bx_cell (hs.get (i := 0) rfl) _ rfl)) (fun a hf => ?_)
            refine stq hf rfl rfl rfl (ex_fieldAddrB fa_27_2 rfl hf rfl) (fun a hf => ?_)
            refine stq hf rfl rfl rfl (ex_load sc_2 hf rfl (bx_cell (hs.get (i := 0) rfl) _ rfl)) (fun a hf => ?_)
            refine stepF hf rfl rfl rfl (ex_call cf_13 hf rfl) (heat_New.calls k55 s12.1 s12.2.1 s12.2.2 v13 v14 (hs.enter (.k (.k (.k (.k (.k .nil)))))) (Sr.own hs (.k (.k (.k (.k (.k .nil))))) (i := 1) rfl osl_rsl (fun _ h => h.1) (Sr.own hs (.k (.k (.k (.k (.k .nil))))) (i := 2) rfl osl_rsl (fun _ h => h.1) (Sr.nil _ _))) hs141) (fun v w hR a hf => ?_)
            obtain ⟨_, rfl, hs'⟩ | ⟨_, hc', _⟩ := hR
            case inr => rw [hps141] at hc'; cases hc'
            replace hs := hs.step (.k (.k (.k (.k (.k .nil))))) hs'
            clear hs'
            refine stq hf rfl rfl rfl (ex_move hf rfl) (fun a hf => ?_)
            refine stq hf rfl rfl rfl (ex_extract hf rfl rfl) (fun a hf => ?_)
            refine stq hf rfl rfl rfl (ex_extract hf rfl rfl) (fun a hf => ?_)
            refine stq hf rfl rfl rfl (ex_assign hf rfl) (fun a hf => ?_)
            refine stq hf rfl rfl rfl (ex_assign hf rfl) (fun a hf => ?_)
            refine hK143 _ _ ?_
            refine hN140 _ _ ?_
            refine bnd H (fun x144 H144 HO144 => ?_)
            clear H
            refine seq_cut (fun a w => Fr a 231 [(3, v3), (19, .pointer (some ⟨b138, 0, none⟩)), (20, .pointer none), (21, .int .i64 s141.2), (23, .int .i64 x144), (126, .agg #[v0, v1, .int .i64 a2, v13, v14, .int .i64 s12.2.2, v18, v25, .int .i64 x24.2.2]), (127, .int .i64 y53)] ∧ St M w0 w [bx b138 27 [v13, v14, .int .i64 s12.2.2], osl K_api_HeatDomain v13 s12.1, osl K_api_HeatLink v14 s12.2.1, osl K_api_HeatDomain v18 x24.1, osl K_api_HeatLink v25 x24.2.1]) (fun Q144 hJ144 hR144 hX144 => ?_) (fun a w hJ => ?_)
            ·
             replace H := H144
             refine bnd H (fun s145 hs145 H => ?_)
             cases hps145 : s145.1 with
             | none =>
              replace H := elim_n hps145 H
              refine region_k (fun K147 hK147 => ?_)
              refine stq hf rfl rfl rfl (ex_fieldAddrB fa_27_0 rfl hf rfl) (fun a hf => ?_)
              refine stq hf rfl rfl rfl (ex_load sc_22 hf rfl (bx_cell (hs.get (i := 0) rfl) _ rfl)) (fun a hf => ?_)
              refine stq hf rfl rfl rfl (ex_fieldAddrB fa_27_1 rfl hf rfl) (fun a hf => ?_)
              refine stq hf rfl rfl rfl (ex_load sc_23 hf rfl (bx_cell (hs.get (i := 0) rfl) _ rfl)) (fun a hf => ?_)
              refine stq hf rfl rfl rfl (ex_fieldAddrB fa_27_2 rfl hf rfl) (fun a hf => ?_)
              refine stq hf rfl rfl rfl (ex_load sc_2 hf rfl (bx_cell (hs.get (i := 0) rfl) _ rfl)) (fun a hf => ?_)
              refine stepF hf rfl rfl rfl (ex_call cf_20 hf rfl) (ref38_New.calls k55 s12.1 s12.2.1 s12.2.2 v13 v14 (hs.enter (.k (.k (.k (.k (.k .nil)))))) (Sr.own hs (.k (.k (.k (.k (.k .nil))))) (i := 1) rfl osl_rsl (fun _ h => h.1) (Sr.own hs (.k (.k (.k (.k (.k .nil))))) (i := 2) rfl osl_rsl (fun _ h => h.1) (Sr.nil _ _))) hs145) (fun v w hR a hf => ?_)
              obtain ⟨_, rfl, hs'⟩ | ⟨_, hc', _⟩ := hR
              case inr => rw [hps145] at hc'; cases hc'
              replace hs := hs.step (.k (.k (.k (.k (.k .nil))))) hs'
              clear hs'
              refine stq hf rfl rfl rfl (ex_move hf rfl) (fun a hf => ?_)
              refine stq hf rfl rfl rfl (ex_extract hf rfl rfl) (fun a hf => ?_)
              refine stq hf rfl rfl rfl (ex_extract hf rfl rfl) (fun a hf => ?_)
              refine stq hf rfl rfl rfl (ex_assign hf rfl) (fun a hf => ?_)
              refine stq hf rfl rfl rfl (ex_assign hf rfl) (fun a hf => ?_)
              refine hK147 _ _ ?_
              have e144 := some_eq H; subst e144
              exact hJ144 _ _ ⟨hf.sub ⟨rfl, rfl, rfl, rfl, rfl, rfl, rfl, trivial⟩, hs⟩
             | some c146 =>
              replace H := elim_s hps145 H
              refine region_k (fun K150 hK150 => ?_)
              refine stq hf rfl rfl rfl (ex_fieldAddrB fa_27_0 rfl hf rfl) (fun a hf => ?_)
              refine stq hf rfl rfl rfl (ex_load sc_22 hf rfl (bx_cell (hs.get (i := 0) rfl) _ rfl)) (fun a hf => ?_)
              refine stq hf rfl rfl rfl (ex_fieldAddrB fa_27_1 rfl hf rfl) (fun a hf => ?_)
              refine stq hf rfl rfl rfl (ex_load sc_23 hf rfl (bx_cell (hs.get (i := 0) rfl) _ rfl)) (fun a hf => ?_)
              refine stq hf rfl rfl rfl (ex_fieldAddrB fa_27_2 rfl hf rfl) (fun a hf => ?_)
              refine stq hf rfl rfl rfl (ex_load sc_2 hf rfl (bx_cell (hs.get (i := 0) rfl) _ rfl)) (fun a hf => ?_)
              refine stepF hf rfl rfl rfl (ex_call cf_20 hf rfl) (ref38_New.calls k55 s12.1 s12.2.1 s12.2.2 v13 v14 (hs.enter (.k (.k (.k (.k (.k .nil)))))) (Sr.own hs (.k (.k (.k (.k (.k .nil))))) (i := 1) rfl osl_rsl (fun _ h => h.1) (Sr.own hs (.k (.k (.k (.k (.k .nil))))) (i := 2) rfl osl_rsl (fun _ h => h.1) (Sr.nil _ _))) hs145) (fun v w hR a hf => ?_)
              obtain ⟨hc', _⟩ | ⟨cc, hc', b148, v149, rfl, hs'⟩ := hR
              case inl => rw [hps145] at hc'; cases hc'
              obtain rfl : c146 = cc := by rw [hps145] at hc'; exact Option.some.inj hc'
              replace hs := hs.step (.k (.k (.k (.k (.k .nil))))) hs'
              clear hs'
              refine stq hf rfl rfl rfl (ex_move hf rfl) (fun a hf => ?_)
              refine stq hf rfl rfl rfl (ex_extract hf rfl rfl) (fun a hf => ?_)
              refine stq hf rfl rfl rfl (ex_extract hf rfl rfl) (fun a hf => ?_)
              refine stq hf rfl rfl rfl (ex_assign hf rfl) (fun a hf => ?_)
              refine stq hf rfl rfl rfl (ex_assign hf rfl) (fun a hf => ?_)
              refine hK150 _ _ ?_
              replace hs := hs.keep (.d (.d (.k (.k (.k (.k (.k .nil)))))))
              have e144 := some_eq H; subst e144
              exact hJ144 _ _ ⟨hf.sub ⟨rfl, rfl, rfl, rfl, rfl, rfl, rfl, trivial⟩, hs⟩
            ·
             obtain ⟨hf, hs⟩ := hJ
             replace H := HO144
             clear HO144
             refine bnd H (fun s151 hs151 H => ?_)
             refine seq_reg (fun K153 hK153 => ?_)
             refine stq hf rfl rfl rfl (ex_move hf rfl) (fun a hf => ?_)
             refine stq hf rfl rfl rfl (ex_fieldAddrB fa_27_0 rfl hf rfl) (fun a hf => ?_)
             refine stq hf rfl rfl rfl (ex_load sc_22 hf rfl (bx_cell (hs.get (i := 0) rfl) _ rfl)) (fun a hf => ?_)
             refine stq hf rfl rfl rfl (ex_lenS Try.underlying22 (rsl_isSl (osl_rsl _ (hs.get (i := 1) rfl))) hf rfl) (fun a hf => ?_)
             refine stepF hf rfl rfl rfl (ex_call cf_14 hf rfl) (law38_Powers.calls k55 a3 (s12.1.length : Int) 200 v3 (hs.enter (.k (.k (.k (.k (.k .nil)))))) (Sr.old hr hs (.k (.k (.k (.k (.k .nil))))) (i := 2) rfl (fun _ h => h) (fun _ h => h) (Sr.nil _ _)) hs151) (fun v w hR a hf => ?_)
             obtain ⟨v152, rfl, hs'⟩ := hR
             replace hs := hs.step (.k (.k (.k (.k (.k .nil))))) hs'
             clear hs'
             refine stq hf rfl rfl rfl (ex_assign hf rfl) (fun a hf => ?_)
             refine hK153 _ _ ?_
             refine bnd H (fun s154 hs154 H => ?_)
             refine seq_reg (fun K155 hK155 => ?_)
             refine stq hf rfl rfl rfl (ex_fieldAddrB fa_27_0 rfl hf rfl) (fun a hf => ?_)
             refine stq hf rfl rfl rfl (ex_load sc_22 hf rfl (bx_cell (hs.get (i := 1) rfl) _ rfl)) (fun a hf => ?_)
             refine stq hf rfl rfl rfl (ex_fieldAddrB fa_27_1 rfl hf rfl) (fun a hf => ?_)
             refine stq hf rfl rfl rfl (ex_load sc_23 hf rfl (bx_cell (hs.get (i := 1) rfl) _ rfl)) (fun a hf => ?_)
             refine stq hf rfl rfl rfl (ex_fieldAddrB fa_27_2 rfl hf rfl) (fun a hf => ?_)
             refine stq hf rfl rfl rfl (ex_load sc_2 hf rfl (bx_cell (hs.get (i := 1) rfl) _ rfl)) (fun a hf => ?_)
             refine stq hf rfl rfl rfl (ex_move hf rfl) (fun a hf => ?_)
             refine stepF hf rfl rfl rfl (ex_call cf_27 hf rfl) (heat_Bound.calls k55 s12.1 s12.2.1 s12.2.2 s151 v13 v14 v152 (hs.enter (.k (.k (.k (.k (.k (.k .nil))))))) (Sr.own hs (.k (.k (.k (.k (.k (.k .nil)))))) (i := 2) rfl osl_rsl (fun _ h => h.1) (Sr.own hs (.k (.k (.k (.k (.k (.k .nil)))))) (i := 3) rfl osl_rsl (fun _ h => h.1) (Sr.own hs (.k (.k (.k (.k (.k (.k .nil)))))) (i := 0) rfl osl_rsl (fun _ h => h.1) (Sr.nil _ _)))) hs154) (fun v w hR a hf => ?_)
             obtain ⟨rfl, hs'⟩ := hR
             replace hs := hs.step (.k (.k (.k (.k (.k (.k .nil)))))) hs'
             clear hs'
             refine stq hf rfl rfl rfl (ex_move hf rfl) (fun a hf => ?_)
             refine stq hf rfl rfl rfl (ex_extract hf rfl rfl) (fun a hf => ?_)
             refine stq hf rfl rfl rfl (ex_extract hf rfl rfl) (fun a hf => ?_)
             refine stq hf rfl rfl rfl (ex_assign hf rfl) (fun a hf => ?_)
             refine stq hf rfl rfl rfl (ex_assign hf rfl) (fun a hf => ?_)
             refine hK155 _ _ ?_
             refine bnd H (fun s156 hs156 H => ?_)
             refine seq_reg (fun K157 hK157 => ?_)
             refine stq hf rfl rfl rfl (ex_fieldAddrB fa_27_0 rfl hf rfl) (fun a hf => ?_)
             refine stq hf rfl rfl rfl (ex_load sc_22 hf rfl (bx_cell (hs.get (i := 1) rfl) _ rfl)) (fun a hf => ?_)
             refine stq hf rfl rfl rfl (ex_fieldAddrB fa_27_1 rfl hf rfl) (fun a hf => ?_)
             refine stq hf rfl rfl rfl (ex_load sc_23 hf rfl (bx_cell (hs.get (i := 1) rfl) _ rfl)) (fun a hf => ?_)
             refine stq hf rfl rfl rfl (ex_fieldAddrB fa_27_2 rfl hf rfl) (fun a hf => ?_)
             refine stq hf rfl rfl rfl (ex_load sc_2 hf rfl (bx_cell (hs.get (i := 1) rfl) _ rfl)) (fun a hf => ?_)
             refine stq hf rfl rfl rfl (ex_move hf rfl) (fun a hf => ?_)
             refine stepF hf rfl rfl rfl (ex_call cf_28 hf rfl) (ref38_Bound.calls k55 s12.1 s12.2.1 s12.2.2 s151 v13 v14 v152 (hs.enter (.k (.k (.k (.k (.k (.k .nil))))))) (Sr.own hs (.k (.k (.k (.k (.k (.k .nil)))))) (i := 2) rfl osl_rsl (fun _ h => h.1) (Sr.own hs (.k (.k (.k (.k (.k (.k .nil)))))) (i := 3) rfl osl_rsl (fun _ h => h.1) (Sr.own hs (.k (.k (.k (.k (.k (.k .nil)))))) (i := 0) rfl osl_rsl (fun _ h => h.1) (Sr.nil _ _)))) hs156) (fun v w hR a hf => ?_)
             obtain ⟨rfl, hs'⟩ := hR
             replace hs := hs.step (.k (.k (.k (.k (.k (.k .nil)))))) hs'
             clear hs'
             refine stq hf rfl rfl rfl (ex_move hf rfl) (fun a hf => ?_)
             refine stq hf rfl rfl rfl (ex_extract hf rfl rfl) (fun a hf => ?_)
             refine stq hf rfl rfl rfl (ex_extract hf rfl rfl) (fun a hf => ?_)
             refine stq hf rfl rfl rfl (ex_assign hf rfl) (fun a hf => ?_)
             refine stq hf rfl rfl rfl (ex_assign hf rfl) (fun a hf => ?_)
             refine hK157 _ _ ?_
             refine bnd H (fun s158 hs158 H => ?_)
             refine seq_reg (fun K159 hK159 => ?_)
             refine stq hf rfl rfl rfl (ex_fieldAddrB fa_27_0 rfl hf rfl) (fun a hf => ?_)
             refine stq hf rfl rfl rfl (ex_load sc_22 hf rfl (bx_cell (hs.get (i := 1) rfl) _ rfl)) (fun a hf => ?_)
             refine stq hf rfl rfl rfl (ex_fieldAddrB fa_27_1 rfl hf rfl) (fun a hf => ?_)
             refine stq hf rfl rfl rfl (ex_load sc_23 hf rfl (bx_cell (hs.get (i := 1) rfl) _ rfl)) (fun a hf => ?_)
             refine stq hf rfl rfl rfl (ex_fieldAddrB fa_27_2 rfl hf rfl) (fun a hf => ?_)
             refine stq hf rfl rfl rfl (ex_load sc_2 hf rfl (bx_cell (hs.get (i := 1) rfl) _ rfl)) (fun a hf => ?_)
             refine stq hf rfl rfl rfl (ex_move hf rfl) (fun a hf => ?_)
             refine stepF hf rfl rfl rfl (ex_call cf_27 hf rfl) (heat_Bound.calls k55 s12.1 s12.2.1 s12.2.2 a3 v13 v14 v3 (hs.enter (.k (.k (.k (.k (.k (.k .nil))))))) (Sr.own hs (.k (.k (.k (.k (.k (.k .nil)))))) (i := 2) rfl osl_rsl (fun _ h => h.1) (Sr.own hs (.k (.k (.k (.k (.k (.k .nil)))))) (i := 3) rfl osl_rsl (fun _ h => h.1) (Sr.old hr hs (.k (.k (.k (.k (.k (.k .nil)))))) (i := 2) rfl (fun _ h => h) (fun _ h => h) (Sr.nil _ _)))) hs158) (fun v w hR a hf => ?_)
             obtain ⟨rfl, hs'⟩ := hR
             replace hs := hs.step (.k (.k (.k (.k (.k (.k .nil)))))) hs'
             clear hs'
             refine stq hf rfl rfl rfl (ex_move hf rfl) (fun a hf => ?_)
             refine stq hf rfl rfl rfl (ex_extract hf rfl rfl) (fun a hf => ?_)
             refine stq hf rfl rfl rfl (ex_extract hf rfl rfl) (fun a hf => ?_)
             refine stq hf rfl rfl rfl (ex_assign hf rfl) (fun a hf => ?_)
             refine stq hf rfl rfl rfl (ex_assign hf rfl) (fun a hf => ?_)
             refine hK159 _ _ ?_
             refine bnd H (fun s160 hs160 H => ?_)
             refine seq_reg (fun K161 hK161 => ?_)
             refine stq hf rfl rfl rfl (ex_fieldAddrB fa_27_0 rfl hf rfl) (fun a hf => ?_)
             refine stq hf rfl rfl rfl (ex_load sc_22 hf rfl (bx_cell (hs.get (i := 1) rfl) _ rfl)) (fun a hf => ?_)
             refine stq hf rfl rfl rfl (ex_fieldAddrB fa_27_1 rfl hf rfl) (fun a hf => ?_)
             refine stq hf rfl rfl rfl (ex_load sc_23 hf rfl (bx_cell (hs.get (i := 1) rfl) _ rfl)) (fun a hf => ?_)
             refine stq hf rfl rfl rfl (ex_fieldAddrB fa_27_2 rfl hf rfl) (fun a hf => ?_)
             refine stq hf rfl rfl rfl (ex_load sc_2 hf rfl (bx_cell (hs.get (i := 1) rfl) _ rfl)) (fun a hf => ?_)
             refine stq hf rfl rfl rfl (ex_move hf rfl) (fun a hf => ?_)
             refine stepF hf rfl rfl rfl (ex_call cf_28 hf rfl) (ref38_Bound.calls k55 s12.1 s12.2.1 s12.2.2 a3 v13 v14 v3 (hs.enter (.k (.k (.k (.k (.k (.k .nil))))))) (Sr.own hs (.k (.k (.k (.k (.k (.k .nil)))))) (i := 2) rfl osl_rsl (fun _ h => h.1) (Sr.own hs (.k (.k (.k (.k (.k (.k .nil)))))) (i := 3) rfl osl_rsl (fun _ h => h.1) (Sr.old hr hs (.k (.k (.k (.k (.k (.k .nil)))))) (i := 2) rfl (fun _ h => h) (fun _ h => h) (Sr.nil _ _)))) hs160) (fun v w hR a hf => ?_)
             obtain ⟨rfl, hs'⟩ := hR
             replace hs := hs.step (.k (.k (.k (.k (.k (.k .nil)))))) hs'
             clear hs'
             refine stq hf rfl rfl rfl (ex_move hf rfl) (fun a hf => ?_)
             refine stq hf rfl rfl rfl (ex_extract hf rfl rfl) (fun a hf => ?_)
             refine stq hf rfl rfl rfl (ex_extract hf rfl rfl) (fun a hf => ?_)
             refine stq hf rfl rfl rfl (ex_assign hf rfl) (fun a hf => ?_)
             refine stq hf rfl rfl rfl (ex_assign hf rfl) (fun a hf => ?_)
             refine hK161 _ _ ?_
             refine bnd H (fun x162 H162 HO162 => ?_)
             clear H
             refine seq_cut (fun a w => Fr a 231 [(3, v3), (126, .agg #[v0, v1, .int .i64 a2, v13, v14, .int .i64 s12.2.2, v18, v25, .int .i64 x24.2.2]), (127, .int .i64 y53), (228, .bool x162)] ∧ St M w0 w [osl K_api_HeatDomain v13 s12.1, osl K_api_HeatLink v14 s12.2.1, osl K_api_HeatDomain v18 x24.1, osl K_api_HeatLink v25 x24.2.1]) (fun Q162 hJ162 hR162 hX162 => ?_) (fun a w hJ => ?_)
             ·
              replace H := H162
              refine itt H (fun hc163 H => ?_) (fun hc163 H => ?_)
              · -- s141.2 = x144
               refine itt H (fun hc164 H => ?_) (fun hc164 H => ?_)
               · -- (true == (!decide (s141.2 = 0))) = true
                refine itt H (fun hc165 H => ?_) (fun hc165 H => ?_)
                · -- s154.1 = s156.1
                 refine itt H (fun hc166 H => ?_) (fun hc166 H => ?_)
                 · -- s154.2 = s156.2
                  refine itt H (fun hc167 H => ?_) (fun hc167 H => ?_)
                  · -- s158.1 = s160.1
                   refine region_k (fun K168 hK168 => ?_)
                   refine stq hf rfl rfl rfl (ex_move hf rfl) (fun a hf => ?_)
                   refine stq hf rfl rfl rfl (ex_move hf rfl) (fun a hf => ?_)
                   refine stq hf rfl rfl rfl (ex_neq hf rfl rfl) (fun a hf => ?_)
                   refine stq hf rfl rfl rfl (ex_move hf rfl) (fun a hf => ?_)
                   replace hf := hf.castB (t := 201) rfl (ndec_f hc163)
                   replace hf := hf.castB (t := 202) rfl (ndec_f hc163)
                   refine stq hf rfl rfl rfl (ex_move hf rfl) (fun a hf => ?_)
                   refine stq hf rfl rfl rfl (ex_eqp Try.underlying29 hf rfl rfl) (fun a hf => ?_)
                   refine stq hf rfl rfl rfl (ex_move hf rfl) (fun a hf => ?_)
                   refine stq hf rfl rfl rfl (ex_neq hf rfl rfl) (fun a hf => ?_)
                   refine stq hf rfl rfl rfl (ex_neb Try.underlying4 hf rfl rfl) (fun a hf => ?_)
                   refine stq hf rfl rfl rfl (ex_pickF hf rfl rfl) (fun a hf => ?_)
                   refine stq hf rfl rfl rfl (ex_move hf rfl) (fun a hf => ?_)
                   replace hf := hf.castB (t := 207) rfl (nbool_f hc164)
                   replace hf := hf.castB (t := 208) rfl (nbool_f hc164)
                   replace hf := hf.castB (t := 209) rfl (nbool_f hc164)
                   refine stq hf rfl rfl rfl (ex_move hf rfl) (fun a hf => ?_)
                   refine stq hf rfl rfl rfl (ex_move hf rfl) (fun a hf => ?_)
                   refine stq hf rfl rfl rfl (ex_neq hf rfl rfl) (fun a hf => ?_)
                   refine stq hf rfl rfl rfl (ex_pickF hf rfl rfl) (fun a hf => ?_)
                   refine stq hf rfl rfl rfl (ex_move hf rfl) (fun a hf => ?_)
                   replace hf := hf.castB (t := 212) rfl (ndec_f hc165)
                   replace hf := hf.castB (t := 213) rfl (ndec_f hc165)
                   replace hf := hf.castB (t := 214) rfl (ndec_f hc165)
                   refine stq hf rfl rfl rfl (ex_move hf rfl) (fun a hf => ?_)
                   refine stq hf rfl rfl rfl (ex_move hf rfl) (fun a hf => ?_)
                   refine stq hf rfl rfl rfl (ex_neq hf rfl rfl) (fun a hf => ?_)
                   refine stq hf rfl rfl rfl (ex_pickF hf rfl rfl) (fun a hf => ?_)
                   refine stq hf rfl rfl rfl (ex_move hf rfl) (fun a hf => ?_)
                   replace hf := hf.castB (t := 217) rfl (ndec_f hc166)
                   replace hf := hf.castB (t := 218) rfl (ndec_f hc166)
                   replace hf := hf.castB (t := 219) rfl (ndec_f hc166)
                   refine stq hf rfl rfl rfl (ex_move hf rfl) (fun a hf => ?_)
                   refine stq hf rfl rfl rfl (ex_move hf rfl) (fun a hf => ?_)
                   refine stq hf rfl rfl rfl (ex_neq hf rfl rfl) (fun a hf => ?_)
                   refine stq hf rfl rfl rfl (ex_pickF hf rfl rfl) (fun a hf => ?_)
                   refine stq hf rfl rfl rfl (ex_move hf rfl) (fun a hf => ?_)
                   replace hf := hf.castB (t := 222) rfl (ndec_f hc167)
                   replace hf := hf.castB (t := 223) rfl (ndec_f hc167)
                   replace hf := hf.castB (t := 224) rfl (ndec_f hc167)
                   refine stq hf rfl rfl rfl (ex_move hf rfl) (fun a hf => ?_)
                   refine stq hf rfl rfl rfl (ex_move hf rfl) (fun a hf => ?_)
                   refine stq hf rfl rfl rfl (ex_neq hf rfl rfl) (fun a hf => ?_)
                   refine stq hf rfl rfl rfl (ex_pickF hf rfl rfl) (fun a hf => ?_)
                   refine hK168 _ _ ?_
                   replace hs := hs.keep (.d (.d (.k (.k (.k (.k .nil))))))
                   have e162 := some_eq H; subst e162
                   exact hJ162 _ _ ⟨hf.sub ⟨rfl, rfl, rfl, rfl, trivial⟩, hs⟩
                  · -- not s158.1 = s160.1
                   refine region_k (fun K169 hK169 => ?_)
                   refine stq hf rfl rfl rfl (ex_move hf rfl) (fun a hf => ?_)
                   refine stq hf rfl rfl rfl (ex_move hf rfl) (fun a hf => ?_)
                   refine stq hf rfl rfl rfl (ex_neq hf rfl rfl) (fun a hf => ?_)
                   refine stq hf rfl rfl rfl (ex_move hf rfl) (fun a hf => ?_)
                   replace hf := hf.castB (t := 201) rfl (ndec_f hc163)
                   replace hf := hf.castB (t := 202) rfl (ndec_f hc163)
                   refine stq hf rfl rfl rfl (ex_move hf rfl) (fun a hf => ?_)
                   refine stq hf rfl rfl rfl (ex_eqp Try.underlying29 hf rfl rfl) (fun a hf => ?_)
                   refine stq hf rfl rfl rfl (ex_move hf rfl) (fun a hf => ?_)
                   refine stq hf rfl rfl rfl (ex_neq hf rfl rfl) (fun a hf => ?_)
                   refine stq hf rfl rfl rfl (ex_neb Try.underlying4 hf rfl rfl) (fun a hf => ?_)
                   refine stq hf rfl rfl rfl (ex_pickF hf rfl rfl) (fun a hf => ?_)
                   refine stq hf rfl rfl rfl (ex_move hf rfl) (fun a hf => ?_)
                   replace hf := hf.castB (t := 207) rfl (nbool_f hc164)
                   replace hf := hf.castB (t := 208) rfl (nbool_f hc164)
                   replace hf := hf.castB (t := 209) rfl (nbool_f hc164)
                   refine stq hf rfl rfl rfl (ex_move hf rfl) (fun a hf => ?_)
                   refine stq hf rfl rfl rfl (ex_move hf rfl) (fun a hf => ?_)
                   refine stq hf rfl rfl rfl (ex_neq hf rfl rfl) (fun a hf => ?_)
                   refine stq hf rfl rfl rfl (ex_pickF hf rfl rfl) (fun a hf => ?_)
                   refine stq hf rfl rfl rfl (ex_move hf rfl) (fun a hf => ?_)
                   replace hf := hf.castB (t := 212) rfl (ndec_f hc165)
                   replace hf := hf.castB (t := 213) rfl (ndec_f hc165)
                   replace hf := hf.castB (t := 214) rfl (ndec_f hc165)
                   refine stq hf rfl rfl rfl (ex_move hf rfl) (fun a hf => ?_)
                   refine stq hf rfl rfl rfl (ex_move hf rfl) (fun a hf => ?_)
                   refine stq hf rfl rfl rfl (ex_neq hf rfl rfl) (fun a hf => ?_)
                   refine stq hf rfl rfl rfl (ex_pickF hf rfl rfl) (fun a hf => ?_)
                   refine stq hf rfl rfl rfl (ex_move hf rfl) (fun a hf => ?_)
                   replace hf := hf.castB (t := 217) rfl (ndec_f hc166)
                   replace hf := hf.castB (t := 218) rfl (ndec_f hc166)
                   replace hf := hf.castB (t := 219) rfl (ndec_f hc166)
                   refine stq hf rfl rfl rfl (ex_move hf rfl) (fun a hf => ?_)
                   refine stq hf rfl rfl rfl (ex_move hf rfl) (fun a hf => ?_)
                   refine stq hf rfl rfl rfl (ex_neq hf rfl rfl) (fun a hf => ?_)
                   refine stq hf rfl rfl rfl (ex_pickF hf rfl rfl) (fun a hf => ?_)
                   refine stq hf rfl rfl rfl (ex_move hf rfl) (fun a hf => ?_)
                   replace hf := hf.castB (t := 222) rfl (ndec_t hc167)
                   replace hf := hf.castB (t := 223) rfl (ndec_t hc167)
                   replace hf := hf.castB (t := 224) rfl (ndec_t hc167)
                   refine stepN hf rfl rfl rfl (fun a hf => ?_)
                   refine stepN hf rfl rfl rfl (fun a hf => ?_)
                   refine stepN hf rfl rfl rfl (fun a hf => ?_)
                   refine stq hf rfl rfl rfl (ex_pickT hf rfl rfl) (fun a hf => ?_)
                   refine hK169 _ _ ?_
                   replace hs := hs.keep (.d (.d (.k (.k (.k (.k .nil))))))
                   have e162 := some_eq H; subst e162
                   exact hJ162 _ _ ⟨hf.sub ⟨rfl, rfl, rfl, rfl, trivial⟩, hs⟩
                 · -- not s154.2 = s156.2
                  refine region_k (fun K170 hK170 => ?_)
                  refine stq hf rfl rfl rfl (ex_move hf rfl) (fun a hf => ?_)
                  refine stq hf rfl rfl rfl (ex_move hf rfl) (fun a hf => ?_)
                  refine stq hf rfl rfl rfl (ex_neq hf rfl rfl) (fun a hf => ?_)
                  refine stq hf rfl rfl rfl (ex_move hf rfl) (fun a hf => ?_)
                  replace hf := hf.castB (t := 201) rfl (ndec_f hc163)
                  replace hf := hf.castB (t := 202) rfl (ndec_f hc163)
                  refine stq hf rfl rfl rfl (ex_move hf rfl) (fun a hf => ?_)
                  refine stq hf rfl rfl rfl (ex_eqp Try.underlying29 hf rfl rfl) (fun a hf => ?_)
                  refine stq hf rfl rfl rfl (ex_move hf rfl) (fun a hf => ?_)
                  refine stq hf rfl rfl rfl (ex_neq hf rfl rfl) (fun a hf => ?_)
                  refine stq hf rfl rfl rfl (ex_neb Try.underlying4 hf rfl rfl) (fun a hf => ?_)
                  refine stq hf rfl rfl rfl (ex_pickF hf rfl rfl) (fun a hf => ?_)
                  refine stq hf rfl rfl rfl (ex_move hf rfl) (fun a hf => ?_)
                  replace hf := hf.castB (t := 207) rfl (nbool_f hc164)
                  replace hf := hf.castB (t := 208) rfl (nbool_f hc164)
                  replace hf := hf.castB (t := 209) rfl (nbool_f hc164)
                  refine stq hf rfl rfl rfl (ex_move hf rfl) (fun a hf => ?_)
                  refine stq hf rfl rfl rfl (ex_move hf rfl) (fun a hf => ?_)
                  refine stq hf rfl rfl rfl (ex_neq hf rfl rfl) (fun a hf => ?_)
                  refine stq hf rfl rfl rfl (ex_pickF hf rfl rfl) (fun a hf => ?_)
                  refine stq hf rfl rfl rfl (ex_move hf rfl) (fun a hf => ?_)
                  replace hf := hf.castB (t := 212) rfl (ndec_f hc165)
                  replace hf := hf.castB (t := 213) rfl (ndec_f hc165)
                  replace hf := hf.castB (t := 214) rfl (ndec_f hc165)
                  refine stq hf rfl rfl rfl (ex_move hf rfl) (fun a hf => ?_)
                  refine stq hf rfl rfl rfl (ex_move hf rfl) (fun a hf => ?_)
                  refine stq hf rfl rfl rfl (ex_neq hf rfl rfl) (fun a hf => ?_)
                  refine stq hf rfl rfl rfl (ex_pickF hf rfl rfl) (fun a hf => ?_)
                  refine stq hf rfl rfl rfl (ex_move hf rfl) (fun a hf => ?_)
                  replace hf := hf.castB (t := 217) rfl (ndec_t hc166)
                  replace hf := hf.castB (t := 218) rfl (ndec_t hc166)
                  replace hf := hf.castB (t := 219) rfl (ndec_t hc166)
                  refine stepN hf rfl rfl rfl (fun a hf => ?_)
                  refine stepN hf rfl rfl rfl (fun a hf => ?_)
                  refine stepN hf rfl rfl rfl (fun a hf => ?_)
                  refine stq hf rfl rfl rfl (ex_pickT hf rfl rfl) (fun a hf => ?_)
                  refine stq hf rfl rfl rfl (ex_move hf rfl) (fun a hf => ?_)
                  refine stepN hf rfl rfl rfl (fun a hf => ?_)
                  refine stepN hf rfl rfl rfl (fun a hf => ?_)
                  refine stepN hf rfl rfl rfl (fun a hf => ?_)
                  refine stq hf rfl rfl rfl (ex_pickT hf rfl rfl) (fun a hf => ?_)
                  refine hK170 _ _ ?_
                  replace hs := hs.keep (.d (.d (.k (.k (.k (.k .nil))))))
                  have e162 := some_eq H; subst e162
                  exact hJ162 _ _ ⟨hf.sub ⟨rfl, rfl, rfl, rfl, trivial⟩, hs⟩
                · -- not s154.1 = s156.1
                 refine region_k (fun K171 hK171 => ?_)
                 refine stq hf rfl rfl rfl (ex_move hf rfl) (fun a hf => ?_)
                 refine stq hf rfl rfl rfl (ex_move hf rfl) (fun a hf => ?_)
                 refine stq hf rfl rfl rfl (ex_neq hf rfl rfl) (fun a hf => ?_)
                 refine stq hf rfl rfl rfl (ex_move hf rfl) (fun a hf => ?_)
                 replace hf := hf.castB (t := 201) rfl (ndec_f hc163)
                 replace hf := hf.castB (t := 202) rfl (ndec_f hc163)
                 refine stq hf rfl rfl rfl (ex_move hf rfl) (fun a hf => ?_)
                 refine stq hf rfl rfl rfl (ex_eqp Try.underlying29 hf rfl rfl) (fun a hf => ?_)
                 refine stq hf rfl rfl rfl (ex_move hf rfl) (fun a hf => ?_)
                 refine stq hf rfl rfl rfl (ex_neq hf rfl rfl) (fun a hf => ?_)
                 refine stq hf rfl rfl rfl (ex_neb Try.underlying4 hf rfl rfl) (fun a hf => ?_)
                 refine stq hf rfl rfl rfl (ex_pickF hf rfl rfl) (fun a hf => ?_)
                 refine stq hf rfl rfl rfl (ex_move hf rfl) (fun a hf => ?_)
                 replace hf := hf.castB (t := 207) rfl (nbool_f hc164)
                 replace hf := hf.castB (t := 208) rfl (nbool_f hc164)
                 replace hf := hf.castB (t := 209) rfl (nbool_f hc164)
                 refine stq hf rfl rfl rfl (ex_move hf rfl) (fun a hf => ?_)
                 refine stq hf rfl rfl rfl (ex_move hf rfl) (fun a hf => ?_)
                 refine stq hf rfl rfl rfl (ex_neq hf rfl rfl) (fun a hf => ?_)
                 refine stq hf rfl rfl rfl (ex_pickF hf rfl rfl) (fun a hf => ?_)
                 refine stq hf rfl rfl rfl (ex_move hf rfl) (fun a hf => ?_)
                 replace hf := hf.castB (t := 212) rfl (ndec_t hc165)
                 replace hf := hf.castB (t := 213) rfl (ndec_t hc165)
                 replace hf := hf.castB (t := 214) rfl (ndec_t hc165)
                 refine stepN hf rfl rfl rfl (fun a hf => ?_)
                 refine stepN hf rfl rfl rfl (fun a hf => ?_)
                 refine stepN hf rfl rfl rfl (fun a hf => ?_)
                 refine stq hf rfl rfl rfl (ex_pickT hf rfl rfl) (fun a hf => ?_)
                 refine stq hf rfl rfl rfl (ex_move hf rfl) (fun a hf => ?_)
                 refine stepN hf rfl rfl rfl (fun a hf => ?_)
                 refine stepN hf rfl rfl rfl (fun a hf => ?_)
                 refine stepN hf rfl rfl rfl (fun a hf => ?_)
                 refine stq hf rfl rfl rfl (ex_pickT hf rfl rfl) (fun a hf => ?_)
                 refine stq hf rfl rfl rfl (ex_move hf rfl) (fun a hf => ?_)
                 refine stepN hf rfl rfl rfl (fun a hf => ?_)
                 refine stepN hf rfl rfl rfl (fun a hf => ?_)
                 refine stepN hf rfl rfl rfl (fun a hf => ?_)
                 refine stq hf rfl rfl rfl (ex_pickT hf rfl rfl) (fun a hf => ?_)
                 refine hK171 _ _ ?_
                 replace hs := hs.keep (.d (.d (.k (.k (.k (.k .nil))))))
                 have e162 := some_eq H; subst e162
                 exact hJ162 _ _ ⟨hf.sub ⟨rfl, rfl, rfl, rfl, trivial⟩, hs⟩
               · -- not (true == (!decide (s141.2 = 0))) = true
                refine region_k (fun K172 hK172 => ?_)
                refine stq hf rfl rfl rfl (ex_move hf rfl) (fun a hf => ?_)
                refine stq hf rfl rfl rfl (ex_move hf rfl) (fun a hf => ?_)
                refine stq hf rfl rfl rfl (ex_neq hf rfl rfl) (fun a hf => ?_)
                refine stq hf rfl rfl rfl (ex_move hf rfl) (fun a hf => ?_)
                replace hf := hf.castB (t := 201) rfl (ndec_f hc163)
                replace hf := hf.castB (t := 202) rfl (ndec_f hc163)
                refine stq hf rfl rfl rfl (ex_move hf rfl) (fun a hf => ?_)
                refine stq hf rfl rfl rfl (ex_eqp Try.underlying29 hf rfl rfl) (fun a hf => ?_)
                refine stq hf rfl rfl rfl (ex_move hf rfl) (fun a hf => ?_)
                refine stq hf rfl rfl rfl (ex_neq hf rfl rfl) (fun a hf => ?_)
                refine stq hf rfl rfl rfl (ex_neb Try.underlying4 hf rfl rfl) (fun a hf => ?_)
                refine stq hf rfl rfl rfl (ex_pickF hf rfl rfl) (fun a hf => ?_)
                refine stq hf rfl rfl rfl (ex_move hf rfl) (fun a hf => ?_)
                replace hf := hf.castB (t := 207) rfl (nbool_t hc164)
                replace hf := hf.castB (t := 208) rfl (nbool_t hc164)
                replace hf := hf.castB (t := 209) rfl (nbool_t hc164)
                refine stepN hf rfl rfl rfl (fun a hf => ?_)
                refine stepN hf rfl rfl rfl (fun a hf => ?_)
                refine stepN hf rfl rfl rfl (fun a hf => ?_)
                refine stq hf rfl rfl rfl (ex_pickT hf rfl rfl) (fun a hf => ?_)
                refine stq hf rfl rfl rfl (ex_move hf rfl) (fun a hf => ?_)
                refine stepN hf rfl rfl rfl (fun a hf => ?_)
                refine stepN hf rfl rfl rfl (fun a hf => ?_)
                refine stepN hf rfl rfl rfl (fun a hf => ?_)
                refine stq hf rfl rfl rfl (ex_pickT hf rfl rfl) (fun a hf => ?_)
                refine stq hf rfl rfl rfl (ex_move hf rfl) (fun a hf => ?_)
                refine stepN hf rfl rfl rfl (fun a hf => ?_)
                refine stepN hf rfl rfl rfl (fun a hf => ?_)
                refine stepN hf rfl rfl rfl (fun a hf => ?_)
                refine stq hf rfl rfl rfl (ex_pickT hf rfl rfl) (fun a hf => ?_)
                refine stq hf rfl rfl rfl (ex_move hf rfl) (fun a hf => ?_)
                refine stepN hf rfl rfl rfl (fun a hf => ?_)
                refine stepN hf rfl rfl rfl (fun a hf => ?_)
                refine stepN hf rfl rfl rfl (fun a hf => ?_)
                refine stq hf rfl rfl rfl (ex_pickT hf rfl rfl) (fun a hf => ?_)
                refine hK172 _ _ ?_
                replace hs := hs.keep (.d (.d (.k (.k (.k (.k .nil))))))
                have e162 := some_eq H; subst e162
                exact hJ162 _ _ ⟨hf.sub ⟨rfl, rfl, rfl, rfl, trivial⟩, hs⟩
              · -- not s141.2 = x144
               refine region_k (fun K173 hK173 => ?_)
               refine stq hf rfl rfl rfl (ex_move hf rfl) (fun a hf => ?_)
               refine stq hf rfl rfl rfl (ex_move hf rfl) (fun a hf => ?_)
               refine stq hf rfl rfl rfl (ex_neq hf rfl rfl) (fun a hf => ?_)
               refine stq hf rfl rfl rfl (ex_move hf rfl) (fun a hf => ?_)
               replace hf := hf.castB (t := 201) rfl (ndec_t hc163)
               replace hf := hf.castB (t := 202) rfl (ndec_t hc163)
               refine stepN hf rfl rfl rfl (fun a hf => ?_)
               refine stepN hf rfl rfl rfl (fun a hf => ?_)
               refine stepN hf rfl rfl rfl (fun a hf => ?_)
               refine stepN hf rfl rfl rfl (fun a hf => ?_)
               refine stepN hf rfl rfl rfl (fun a hf => ?_)
               refine stq hf rfl rfl rfl (ex_pickT hf rfl rfl) (fun a hf => ?_)
               refine stq hf rfl rfl rfl (ex_move hf rfl) (fun a hf => ?_)
               refine stepN hf rfl rfl rfl (fun a hf => ?_)
               refine stepN hf rfl rfl rfl (fun a hf => ?_)
               refine stepN hf rfl rfl rfl (fun a hf => ?_)
               refine stq hf rfl rfl rfl (ex_pickT hf rfl rfl) (fun a hf => ?_)
               refine stq hf rfl rfl rfl (ex_move hf rfl) (fun a hf => ?_)
               refine stepN hf rfl rfl rfl (fun a hf => ?_)
               refine stepN hf rfl rfl rfl (fun a hf => ?_)
               refine stepN hf rfl rfl rfl (fun a hf => ?_)
               refine stq hf rfl rfl rfl (ex_pickT hf rfl rfl) (fun a hf => ?_)
               refine stq hf rfl rfl rfl (ex_move hf rfl) (fun a hf => ?_)
               refine stepN hf rfl rfl rfl (fun a hf => ?_)
               refine stepN hf rfl rfl rfl (fun a hf => ?_)
               refine stepN hf rfl rfl rfl (fun a hf => ?_)
               refine stq hf rfl rfl rfl (ex_pickT hf rfl rfl) (fun a hf => ?_)
               refine stq hf rfl rfl rfl (ex_move hf rfl) (fun a hf => ?_)
               refine stepN hf rfl rfl rfl (fun a hf => ?_)
               refine stepN hf rfl rfl rfl (fun a hf => ?_)
               refine stepN hf rfl rfl rfl (fun a hf => ?_)
               refine stq hf rfl rfl rfl (ex_pickT hf rfl rfl) (fun a hf => ?_)
               refine hK173 _ _ ?_
               replace hs := hs.keep (.d (.d (.k (.k (.k (.k .nil))))))
               have e162 := some_eq H; subst e162
               exact hJ162 _ _ ⟨hf.sub ⟨rfl, rfl, rfl, rfl, trivial⟩, hs⟩
             ·
              obtain ⟨hf, hs⟩ := hJ
              replace H := HO162
              clear HO162
              refine itt H (fun hc174 H => ?_) (fun hc174 H => ?_)
              · -- x162 = true
               replace hf := hf.castB (t := 228) rfl hc174
               refine cond_T hf rfl ?_
               refine seq_reg (fun K175 hK175 => ?_)
               refine stq hf rfl rfl rfl (ex_assign hf rfl) (fun a hf => ?_)
               refine hK175 _ _ ?_
               refine wp_ret ?_
               refine hR60 _ _ ?_
               have e59 := some_eq H; subst e59; replace H := el_rt HO59
               refine hR59 _ _ ?_
               refine hR55 _ _ ?_
               refine hR52 _ _ ?_
               have e50 := some_eq H; subst e50; replace H := el_rt HO50
               refine hR50 _ _ ?_
               have eR := some_eq H; subst eR
               replace hs := hs.keep (.d (.d (.d (.d .nil))))
               exact ret1 Try.results8 hf rfl ⟨_, rfl, ⟨rfl, hs⟩⟩
              · -- not x162 = true
               replace hf := hf.castB (t := 228) rfl (bool_f hc174)
               refine cond_F hf rfl ?_
               refine wp_skip ?_
               refine hN60 _ _ ?_
               have e59 := some_eq H; subst e59
               exact hJ59 _ _ ⟨_, rfl, hf.sub ⟨rfl, rfl, rfl, trivial⟩, hs⟩
           | some c142 =>
            replace H := elim_s hps141 H
            refine region_k (fun K180 hK180 => ?_)
            refine stq hf rfl rfl rfl (ex_fieldAddrB fa_27_0 rfl hf rfl) (fun a hf => ?_)
            refine stq hf rfl rfl rfl (ex_load sc_22 hf rfl (bx_cell (hs.get (i := 0) rfl) _ rfl)) (fun a hf => ?_)
            refine stq hf rfl rfl rfl (ex_fieldAddrB fa_27_1 rfl hf rfl) (fun a hf => ?_)
            refine stq hf rfl rfl rfl (ex_load sc_23 hf rfl (bx_cell (hs.get (i := 0) rfl) _ rfl)) (fun a hf => ?_)
            refine stq hf rfl rfl rfl (ex_fieldAddrB fa_27_2 rfl hf rfl) (fun a hf => ?_)
            refine stq hf rfl rfl rfl (ex_load sc_2 hf rfl (bx_cell (hs.get (i := 0) rfl) _ rfl)) (fun a hf => ?_)
            refine stepF hf rfl rfl rfl (ex_call cf_13 hf rfl) (heat_New.calls k55 s12.1 s12.2.1 s12.2.2 v13 v14 (hs.enter (.k (.k (.k (.k (.k .nil)))))) (Sr.own hs (.k (.k (.k (.k (.k .nil))))) (i := 1) rfl osl_rsl (fun _ h => h.1) (Sr.own hs (.k (.k (.k (.k (.k .nil))))) (i := 2) rfl osl_rsl (fun _ h => h.1) (Sr.nil _ _))) hs141) (fun v w hR a hf => ?_)
            obtain ⟨hc', _⟩ | ⟨cc, hc', b176, v177, v178, v179, rfl, hs'⟩ := hR
            case inl => rw [hps141] at hc'; cases hc'
            obtain rfl : c142 = cc := by rw [hps141] at hc'; exact Option.some.inj hc'
            replace hs := hs.step (.k (.k (.k (.k (.k .nil))))) hs'
            clear hs'
            refine stq hf rfl rfl rfl (ex_move hf rfl) (fun a hf => ?_)
            refine stq hf rfl rfl rfl (ex_extract hf rfl rfl) (fun a hf => ?_)
            refine stq hf rfl rfl rfl (ex_extract hf rfl rfl) (fun a hf => ?_)
            refine stq hf rfl rfl rfl (ex_assign hf rfl) (fun a hf => ?_)
            refine stq hf rfl rfl rfl (ex_assign hf rfl) (fun a hf => ?_)
            refine hK180 _ _ ?_
            refine hN140 _ _ ?_
            refine bnd H (fun x181 H181 HO181 => ?_)
            clear H
            refine seq_cut (fun a w => Fr a 231 [(3, v3), (19, .pointer (some ⟨b138, 0, none⟩)), (20, .pointer (some ⟨b176, 0, none⟩)), (21, .int .i64 s141.2), (23, .int .i64 x181), (126, .agg #[v0, v1, .int .i64 a2, v13, v14, .int .i64 s12.2.2, v18, v25, .int .i64 x24.2.2]), (127, .int .i64 y53)] ∧ St M w0 w [bx b138 27 [v13, v14, .int .i64 s12.2.2], osl K_api_HeatDomain v13 s12.1, osl K_api_HeatLink v14 s12.2.1, bx b176 64 [v177, v178, .int .i64 c142.2.2.1, v179, .int .i64 c142.2.2.2.2], osl K_api_HeatDomain v177 c142.1, osl K_api_HeatLink v178 c142.2.1, osl K_int64 v179 c142.2.2.2.1, osl K_api_HeatDomain v18 x24.1, osl K_api_HeatLink v25 x24.2.1]) (fun Q181 hJ181 hR181 hX181 => ?_) (fun a w hJ => ?_)
            ·
             replace H := H181
             refine bnd H (fun s182 hs182 H => ?_)
             cases hps182 : s182.1 with
             | none =>
              replace H := elim_n hps182 H
              refine region_k (fun K184 hK184 => ?_)
              refine stq hf rfl rfl rfl (ex_fieldAddrB fa_27_0 rfl hf rfl) (fun a hf => ?_)
              refine stq hf rfl rfl rfl (ex_load sc_22 hf rfl (bx_cell (hs.get (i := 4) rfl) _ rfl)) (fun a hf => ?_)
              refine stq hf rfl rfl rfl (ex_fieldAddrB fa_27_1 rfl hf rfl) (fun a hf => ?_)
              refine stq hf rfl rfl rfl (ex_load sc_23 hf rfl (bx_cell (hs.get (i := 4) rfl) _ rfl)) (fun a hf => ?_)
              refine stq hf rfl rfl rfl (ex_fieldAddrB fa_27_2 rfl hf rfl) (fun a hf => ?_)
              refine stq hf rfl rfl rfl (ex_load sc_2 hf rfl (bx_cell (hs.get (i := 4) rfl) _ rfl)) (fun a hf => ?_)
              refine stepF hf rfl rfl rfl (ex_call cf_20 hf rfl) (ref38_New.calls k55 s12.1 s12.2.1 s12.2.2 v13 v14 (hs.enter (.k (.k (.k (.k (.k (.k (.k (.k (.k .nil)))))))))) (Sr.own hs (.k (.k (.k (.k (.k (.k (.k (.k (.k .nil))))))))) (i := 5) rfl osl_rsl (fun _ h => h.1) (Sr.own hs (.k (.k (.k (.k (.k (.k (.k (.k (.k .nil))))))))) (i := 6) rfl osl_rsl (fun _ h => h.1) (Sr.nil _ _))) hs182) (fun v w hR a hf => ?_)
              obtain ⟨_, rfl, hs'⟩ | ⟨_, hc', _⟩ := hR
              case inr => rw [hps182] at hc'; cases hc'
              replace hs := hs.step (.k (.k (.k (.k (.k (.k (.k (.k (.k .nil))))))))) hs'
              clear hs'
              refine stq hf rfl rfl rfl (ex_move hf rfl) (fun a hf => ?_)
              refine stq hf rfl rfl rfl (ex_extract hf rfl rfl) (fun a hf => ?_)
              refine stq hf rfl rfl rfl (ex_extract hf rfl rfl) (fun a hf => ?_)
              refine stq hf rfl rfl rfl (ex_assign hf rfl) (fun a hf => ?_)
              refine stq hf rfl rfl rfl (ex_assign hf rfl) (fun a hf => ?_)
              refine hK184 _ _ ?_
              replace hs := hs.pick (.k (.k (.k (.k (.k (.k (.k (.k (.c .nil)))))))))
              replace hs := hs.pick (.k (.k (.k (.k (.k (.k (.k (.k (.c .nil)))))))))
              replace hs := hs.pick (.k (.k (.k (.k (.k (.c (.k (.k (.k .nil)))))))))
              replace hs := hs.pick (.k (.k (.k (.k (.k (.c (.k (.k (.k .nil)))))))))
              replace hs := hs.pick (.k (.k (.k (.k (.k (.c (.k (.k (.k .nil)))))))))
              replace hs := hs.pick (.k (.k (.k (.k (.k (.c (.k (.k (.k .nil)))))))))
              replace hs := hs.pick (.k (.k (.k (.k (.k (.k (.k (.k (.c .nil)))))))))
              replace hs := hs.pick (.k (.k (.k (.k (.k (.k (.k (.k (.c .nil)))))))))
              replace hs := hs.pick (.k (.k (.k (.k (.k (.k (.k (.k (.c .nil)))))))))
              have e181 := some_eq H; subst e181
              exact hJ181 _ _ ⟨hf.sub ⟨rfl, rfl, rfl, rfl, rfl, rfl, rfl, trivial⟩, hs⟩
             | some c183 =>
              replace H := elim_s hps182 H
              refine region_k (fun K187 hK187 => ?_)
              refine stq hf rfl rfl rfl (ex_fieldAddrB fa_27_0 rfl hf rfl) (fun a hf => ?_)
              refine stq hf rfl rfl rfl (ex_load sc_22 hf rfl (bx_cell (hs.get (i := 4) rfl) _ rfl)) (fun a hf => ?_)
              refine stq hf rfl rfl rfl (ex_fieldAddrB fa_27_1 rfl hf rfl) (fun a hf => ?_)
              refine stq hf rfl rfl rfl (ex_load sc_23 hf rfl (bx_cell (hs.get (i := 4) rfl) _ rfl)) (fun a hf => ?_)
              refine stq hf rfl rfl rfl (ex_fieldAddrB fa_27_2 rfl hf rfl) (fun a hf => ?_)
              refine stq hf rfl rfl rfl (ex_load sc_2 hf rfl (bx_cell (hs.get (i := 4) rfl) _ rfl)) (fun a hf => ?_)
              refine stepF hf rfl rfl rfl (ex_call cf_20 hf rfl) (ref38_New.calls k55 s12.1 s12.2.1 s12.2.2 v13 v14 (hs.enter (.k (.k (.k (.k (.k (.k (.k (.k (.k .nil)))))))))) (Sr.own hs (.k (.k (.k (.k (.k (.k (.k (.k (.k .nil))))))))) (i := 5) rfl osl_rsl (fun _ h => h.1) (Sr.own hs (.k (.k (.k (.k (.k (.k (.k (.k (.k .nil))))))))) (i := 6) rfl osl_rsl (fun _ h => h.1) (Sr.nil _ _))) hs182) (fun v w hR a hf => ?_)
              obtain ⟨hc', _⟩ | ⟨cc, hc', b185, v186, rfl, hs'⟩ := hR
              case inl => rw [hps182] at hc'; cases hc'
              obtain rfl : c183 = cc := by rw [hps182] at hc'; exact Option.some.inj hc'
              replace hs := hs.step (.k (.k (.k (.k (.k (.k (.k (.k (.k .nil))))))))) hs'
              clear hs'
              refine stq hf rfl rfl rfl (ex_move hf rfl) (fun a hf => ?_)
              refine stq hf rfl rfl rfl (ex_extract hf rfl rfl) (fun a hf => ?_)
              refine stq hf rfl rfl rfl (ex_extract hf rfl rfl) (fun a hf => ?_)
              refine stq hf rfl rfl rfl (ex_assign hf rfl) (fun a hf => ?_)
              refine stq hf rfl rfl rfl (ex_assign hf rfl) (fun a hf => ?_)
              refine hK187 _ _ ?_
              replace hs := hs.keep (.d (.d (.k (.k (.k (.k (.k (.k (.k (.k (.k .nil)))))))))))
              replace hs := hs.pick (.k (.k (.k (.k (.k (.k (.k (.k (.c .nil)))))))))
              replace hs := hs.pick (.k (.k (.k (.k (.k (.k (.k (.k (.c .nil)))))))))
              replace hs := hs.pick (.k (.k (.k (.k (.k (.c (.k (.k (.k .nil)))))))))
              replace hs := hs.pick (.k (.k (.k (.k (.k (.c (.k (.k (.k .nil)))))))))
              replace hs := hs.pick (.k (.k (.k (.k (.k (.c (.k (.k (.k .nil)))))))))
              replace hs := hs.pick (.k (.k (.k (.k (.k (.c (.k (.k (.k .nil)))))))))
              replace hs := hs.pick (.k (.k (.k (.k (.k (.k (.k (.k (.c .nil)))))))))
              replace hs := hs.pick (.k (.k (.k (.k (.k (.k (.k (.k (.c .nil)))))))))
              replace hs := hs.pick (.k (.k (.k (.k (.k (.k (.k (.k (.c .nil)))))))))
              have e181 := some_eq H; subst e181
              exact hJ181 _ _ ⟨hf.sub ⟨rfl, rfl, rfl, rfl, rfl, rfl, rfl, trivial⟩, hs⟩
            ·
             obtain ⟨hf, hs⟩ := hJ
             replace H := HO181
             clear HO181
             refine bnd H (fun s188 hs188 H => ?_)
             refine seq_reg (fun K190 hK190 => ?_)
             refine stq hf rfl rfl rfl (ex_move hf rfl) (fun a hf => ?_)
             refine stq hf rfl rfl rfl (ex_fieldAddrB fa_27_0 rfl hf rfl) (fun a hf => ?_)
             refine stq hf rfl rfl rfl (ex_load sc_22 hf rfl (bx_cell (hs.get (i := 0) rfl) _ rfl)) (fun a hf => ?_)
             refine stq hf rfl rfl rfl (ex_lenS Try.underlying22 (rsl_isSl (osl_rsl _ (hs.get (i := 1) rfl))) hf rfl) (fun a hf => ?_)
             refine stepF hf rfl rfl rfl (ex_call cf_14 hf rfl) (law38_Powers.calls k55 a3 (s12.1.length : Int) 200 v3 (hs.enter (.k (.k (.k (.k (.k (.k (.k (.k (.k .nil)))))))))) (Sr.old hr hs (.k (.k (.k (.k (.k (.k (.k (.k (.k .nil))))))))) (i := 2) rfl (fun _ h => h) (fun _ h => h) (Sr.nil _ _)) hs188) (fun v w hR a hf => ?_)
             obtain ⟨v189, rfl, hs'⟩ := hR
             replace hs := hs.step (.k (.k (.k (.k (.k (.k (.k (.k (.k .nil))))))))) hs'
             clear hs'
             refine stq hf rfl rfl rfl (ex_assign hf rfl) (fun a hf => ?_)
             refine hK190 _ _ ?_
             refine bnd H (fun s191 hs191 H => ?_)
             refine seq_reg (fun K192 hK192 => ?_)
             refine stq hf rfl rfl rfl (ex_fieldAddrB fa_27_0 rfl hf rfl) (fun a hf => ?_)
             refine stq hf rfl rfl rfl (ex_load sc_22 hf rfl (bx_cell (hs.get (i := 1) rfl) _ rfl)) (fun a hf => ?_)
             refine stq hf rfl rfl rfl (ex_fieldAddrB fa_27_1 rfl hf rfl) (fun a hf => ?_)
             refine stq hf rfl rfl rfl (ex_load sc_23 hf rfl (bx_cell (hs.get (i := 1) rfl) _ rfl)) (fun a hf => ?_)
             refine stq hf rfl rfl rfl (ex_fieldAddrB fa_27_2 rfl hf rfl) (fun a hf => ?_)
             refine stq hf rfl rfl rfl (ex_load sc_2 hf rfl (bx_cell (hs.get (i := 1) rfl) _ rfl)) (fun a hf => ?_)
             refine stq hf rfl rfl rfl (ex_move hf rfl) (fun a hf => ?_)
             refine stepF hf rfl rfl rfl (ex_call cf_27 hf rfl) (heat_Bound.calls k55 s12.1 s12.2.1 s12.2.2 s188 v13 v14 v189 (hs.enter (.k (.k (.k (.k (.k (.k (.k (.k (.k (.k .nil))))))))))) (Sr.own hs (.k (.k (.k (.k (.k (.k (.k (.k (.k (.k .nil)))))))))) (i := 2) rfl osl_rsl (fun _ h => h.1) (Sr.own hs (.k (.k (.k (.k (.k (.k (.k (.k (.k (.k .nil)))))))))) (i := 3) rfl osl_rsl (fun _ h => h.1) (Sr.own hs (.k (.k (.k (.k (.k (.k (.k (.k (.k (.k .nil)))))))))) (i := 0) rfl osl_rsl (fun _ h => h.1) (Sr.nil _ _)))) hs191) (fun v w hR a hf => ?_)
             obtain ⟨rfl, hs'⟩ := hR
             replace hs := hs.step (.k (.k (.k (.k (.k (.k (.k (.k (.k (.k .nil)))))))))) hs'
             clear hs'
             refine stq hf rfl rfl rfl (ex_move hf rfl) (fun a hf => ?_)
             refine stq hf rfl rfl rfl (ex_extract hf rfl rfl) (fun a hf => ?_)
             refine stq hf rfl rfl rfl (ex_extract hf rfl rfl) (fun a hf => ?_)
             refine stq hf rfl rfl rfl (ex_assign hf rfl) (fun a hf => ?_)
             refine stq hf rfl rfl rfl (ex_assign hf rfl) (fun a hf => ?_)
             refine hK192 _ _ ?_
             refine bnd H (fun s193 hs193 H => ?_)
             refine seq_reg (fun K194 hK194 => ?_)
             refine stq hf rfl rfl rfl (ex_fieldAddrB fa_27_0 rfl hf rfl) (fun a hf => ?_)
             refine stq hf rfl rfl rfl (ex_load sc_22 hf rfl (bx_cell (hs.get (i := 1) rfl) _ rfl)) (fun a hf => ?_)
             refine stq hf rfl rfl rfl (ex_fieldAddrB fa_27_1 rfl hf rfl) (fun a hf => ?_)
             refine stq hf rfl rfl rfl (ex_load sc_23 hf rfl (bx_cell (hs.get (i := 1) rfl) _ rfl)) (fun a hf => ?_)
             refine stq hf rfl rfl rfl (ex_fieldAddrB fa_27_2 rfl hf rfl) (fun a hf => ?_)
             refine stq hf rfl rfl rfl (ex_load sc_2 hf rfl (bx_cell (hs.get (i := 1) rfl) _ rfl)) (fun a hf => ?_)
             refine stq hf rfl rfl rfl (ex_move hf rfl) (fun a hf => ?_)
             refine stepF hf rfl rfl rfl (ex_call cf_28 hf rfl) (ref38_Bound.calls k55 s12.1 s12.2.1 s12.2.2 s188 v13 v14 v189 (hs.enter (.k (.k (.k (.k (.k (.k (.k (.k (.k (.k .nil))))))))))) (Sr.own hs (.k (.k (.k (.k (.k (.k (.k (.k (.k (.k .nil)))))))))) (i := 2) rfl osl_rsl (fun _ h => h.1) (Sr.own hs (.k (.k (.k (.k (.k (.k (.k (.k (.k (.k .nil)))))))))) (i := 3) rfl osl_rsl (fun _ h => h.1) (Sr.own hs (.k (.k (.k (.k (.k (.k (.k (.k (.k (.k .nil)))))))))) (i := 0) rfl osl_rsl (fun _ h => h.1) (Sr.nil _ _)))) hs193) (fun v w hR a hf => ?_)
             obtain ⟨rfl, hs'⟩ := hR
             replace hs := hs.step (.k (.k (.k (.k (.k (.k (.k (.k (.k (.k .nil)))))))))) hs'
             clear hs'
             refine stq hf rfl rfl rfl (ex_move hf rfl) (fun a hf => ?_)
             refine stq hf rfl rfl rfl (ex_extract hf rfl rfl) (fun a hf => ?_)
             refine stq hf rfl rfl rfl (ex_extract hf rfl rfl) (fun a hf => ?_)
             refine stq hf rfl rfl rfl (ex_assign hf rfl) (fun a hf => ?_)
             refine stq hf rfl rfl rfl (ex_assign hf rfl) (fun a hf => ?_)
             refine hK194 _ _ ?_
             refine bnd H (fun s195 hs195 H => ?_)
             refine seq_reg (fun K196 hK196 => ?_)
             refine stq hf rfl rfl rfl (ex_fieldAddrB fa_27_0 rfl hf rfl) (fun a hf => ?_)
             refine stq hf rfl rfl rfl (ex_load sc_22 hf rfl (bx_cell (hs.get (i := 1) rfl) _ rfl)) (fun a hf => ?_)
             refine stq hf rfl rfl rfl (ex_fieldAddrB fa_27_1 rfl hf rfl) (fun a hf => ?_)
             refine stq hf rfl rfl rfl (ex_load sc_23 hf rfl (bx_cell (hs.get (i := 1) rfl) _ rfl)) (fun a hf => ?_)
             refine stq hf rfl rfl rfl (ex_fieldAddrB fa_27_2 rfl hf rfl) (fun a hf => ?_)
             refine stq hf rfl rfl rfl (ex_load sc_2 hf rfl (bx_cell (hs.get (i := 1) rfl) _ rfl)) (fun a hf => ?_)
             refine stq hf rfl rfl rfl (ex_move hf rfl) (fun a hf => ?_)
             refine stepF hf rfl rfl rfl (ex_call cf_27 hf rfl) (heat_Bound.calls k55 s12.1 s12.2.1 s12.2.2 a3 v13 v14 v3 (hs.enter (.k (.k (.k (.k (.k (.k (.k (.k (.k (.k .nil))))))))))) (Sr.own hs (.k (.k (.k (.k (.k (.k (.k (.k (.k (.k .nil)))))))))) (i := 2) rfl osl_rsl (fun _ h => h.1) (Sr.own hs (.k (.k (.k (.k (.k (.k (.k (.k (.k (.k .nil)))))))))) (i := 3) rfl osl_rsl (fun _ h => h.1) (Sr.old hr hs (.k (.k (.k (.k (.k (.k (.k (.k (.k (.k .nil)))))))))) (i := 2) rfl (fun _ h => h) (fun _ h => h) (Sr.nil _ _)))) hs195) (fun v w hR a hf => ?_)
             obtain ⟨rfl, hs'⟩ := hR
             replace hs := hs.step (.k (.k (.k (.k (.k (.k (.k (.k (.k (.k .nil)))))))))) hs'
             clear hs'
             refine stq hf rfl rfl rfl (ex_move hf rfl) (fun a hf => ?_)
             refine stq hf rfl rfl rfl (ex_extract hf rfl rfl) (fun a hf => ?_)
             refine stq hf rfl rfl rfl (ex_extract hf rfl rfl) (fun a hf => ?_)
             refine stq hf rfl rfl rfl (ex_assign hf rfl) (fun a hf => ?_)
             refine stq hf rfl rfl rfl (ex_assign hf rfl) (fun a hf => ?_)
             refine hK196 _ _ ?_
             refine bnd H (fun s197 hs197 H => ?_)
             refine seq_reg (fun K198 hK198 => ?_)
             refine stq hf rfl rfl rfl (ex_fieldAddrB fa_27_0 rfl hf rfl) (fun a hf => ?_)
             refine stq hf rfl rfl rfl (ex_load sc_22 hf rfl (bx_cell (hs.get (i := 1) rfl) _ rfl)) (fun a hf => ?_)
             refine stq hf rfl rfl rfl (ex_fieldAddrB fa_27_1 rfl hf rfl) (fun a hf => ?_)
             refine stq hf rfl rfl rfl (ex_load sc_23 hf rfl (bx_cell (hs.get (i := 1) rfl) _ rfl)) (fun a hf => ?_)
             refine stq hf rfl rfl rfl (ex_fieldAddrB fa_27_2 rfl hf rfl) (fun a hf => ?_)
             refine stq hf rfl rfl rfl (ex_load sc_2 hf rfl (bx_cell (hs.get (i := 1) rfl) _ rfl)) (fun a hf => ?_)
             refine stq hf rfl rfl rfl (ex_move hf rfl) (fun a hf => ?_)
             refine stepF hf rfl rfl rfl (ex_call cf_28 hf rfl) (ref38_Bound.calls k55 s12.1 s12.2.1 s12.2.2 a3 v13 v14 v3 (hs.enter (.k (.k (.k (.k (.k (.k (.k (.k (.k (.k .nil))))))))))) (Sr.own hs (.k (.k (.k (.k (.k (.k (.k (.k (.k (.k .nil)))))))))) (i := 2) rfl osl_rsl (fun _ h => h.1) (Sr.own hs (.k (.k (.k (.k (.k (.k (.k (.k (.k (.k .nil)))))))))) (i := 3) rfl osl_rsl (fun _ h => h.1) (Sr.old hr hs (.k (.k (.k (.k (.k (.k (.k (.k (.k (.k .nil)))))))))) (i := 2) rfl (fun _ h => h) (fun _ h => h) (Sr.nil _ _)))) hs197) (fun v w hR a hf => ?_)
             obtain ⟨rfl, hs'⟩ := hR
             replace hs := hs.step (.k (.k (.k (.k (.k (.k (.k (.k (.k (.k .nil)))))))))) hs'
             clear hs'
             refine stq hf rfl rfl rfl (ex_move hf rfl) (fun a hf => ?_)
             refine stq hf rfl rfl rfl (ex_extract hf rfl rfl) (fun a hf => ?_)
             refine stq hf rfl rfl rfl (ex_extract hf rfl rfl) (fun a hf => ?_)
             refine stq hf rfl rfl rfl (ex_assign hf rfl) (fun a hf => ?_)
             refine stq hf rfl rfl rfl (ex_assign hf rfl) (fun a hf => ?_)
             refine hK198 _ _ ?_
             refine bnd H (fun x199 H199 HO199 => ?_)
             clear H
             refine seq_cut (fun a w => Fr a 231 [(3, v3), (126, .agg #[v0, v1, .int .i64 a2, v13, v14, .int .i64 s12.2.2, v18, v25, .int .i64 x24.2.2]), (127, .int .i64 y53), (228, .bool x199)] ∧ St M w0 w [osl K_api_HeatDomain v13 s12.1, osl K_api_HeatLink v14 s12.2.1, osl K_api_HeatDomain v18 x24.1, osl K_api_HeatLink v25 x24.2.1]) (fun Q199 hJ199 hR199 hX199 => ?_) (fun a w hJ => ?_)
             ·
              replace H := H199
              refine itt H (fun hc200 H => ?_) (fun hc200 H => ?_)
              · -- s141.2 = x181
               refine itt H (fun hc201 H => ?_) (fun hc201 H => ?_)
               · -- (false == (!decide (s141.2 = 0))) = true
                refine itt H (fun hc202 H => ?_) (fun hc202 H => ?_)
                · -- s191.1 = s193.1
                 refine itt H (fun hc203 H => ?_) (fun hc203 H => ?_)
                 · -- s191.2 = s193.2
                  refine itt H (fun hc204 H => ?_) (fun hc204 H => ?_)
                  · -- s195.1 = s197.1
                   refine region_k (fun K205 hK205 => ?_)
                   refine stq hf rfl rfl rfl (ex_move hf rfl) (fun a hf => ?_)
                   refine stq hf rfl rfl rfl (ex_move hf rfl) (fun a hf => ?_)
                   refine stq hf rfl rfl rfl (ex_neq hf rfl rfl) (fun a hf => ?_)
                   refine stq hf rfl rfl rfl (ex_move hf rfl) (fun a hf => ?_)
                   replace hf := hf.castB (t := 201) rfl (ndec_f hc200)
                   replace hf := hf.castB (t := 202) rfl (ndec_f hc200)
                   refine stq hf rfl rfl rfl (ex_move hf rfl) (fun a hf => ?_)
                   refine stq hf rfl rfl rfl (ex_eqp Try.underlying29 hf rfl rfl) (fun a hf => ?_)
                   refine stq hf rfl rfl rfl (ex_move hf rfl) (fun a hf => ?_)
                   refine stq hf rfl rfl rfl (ex_neq hf rfl rfl) (fun a hf => ?_)
                   refine stq hf rfl rfl rfl (ex_neb Try.underlying4 hf rfl rfl) (fun a hf => ?_)
                   refine stq hf rfl rfl rfl (ex_pickF hf rfl rfl) (fun a hf => ?_)
                   refine stq hf rfl rfl rfl (ex_move hf rfl) (fun a hf => ?_)
                   replace hf := hf.castB (t := 207) rfl (nbool_f hc201)
                   replace hf := hf.castB (t := 208) rfl (nbool_f hc201)
                   replace hf := hf.castB (t := 209) rfl (nbool_f hc201)
                   refine stq hf rfl rfl rfl (ex_move hf rfl) (fun a hf => ?_)
                   refine stq hf rfl rfl rfl (ex_move hf rfl) (fun a hf => ?_)
                   refine stq hf rfl rfl rfl (ex_neq hf rfl rfl) (fun a hf => ?_)
                   refine stq hf rfl rfl rfl (ex_pickF hf rfl rfl) (fun a hf => ?_)
                   refine stq hf rfl rfl rfl (ex_move hf rfl) (fun a hf => ?_)
                   replace hf := hf.castB (t := 212) rfl (ndec_f hc202)
                   replace hf := hf.castB (t := 213) rfl (ndec_f hc202)
                   replace hf := hf.castB (t := 214) rfl (ndec_f hc202)
                   refine stq hf rfl rfl rfl (ex_move hf rfl) (fun a hf => ?_)
                   refine stq hf rfl rfl rfl (ex_move hf rfl) (fun a hf => ?_)
                   refine stq hf rfl rfl rfl (ex_neq hf rfl rfl) (fun a hf => ?_)
                   refine stq hf rfl rfl rfl (ex_pickF hf rfl rfl) (fun a hf => ?_)
                   refine stq hf rfl rfl rfl (ex_move hf rfl) (fun a hf => ?_)
                   replace hf := hf.castB (t := 217) rfl (ndec_f hc203)
                   replace hf := hf.castB (t := 218) rfl (ndec_f hc203)
                   replace hf := hf.castB (t := 219) rfl (ndec_f hc203)
                   refine stq hf rfl rfl rfl (ex_move hf rfl) (fun a hf => ?_)
                   refine stq hf rfl rfl rfl (ex_move hf rfl) (fun a hf => ?_)
                   refine stq hf rfl rfl rfl (ex_neq hf rfl rfl) (fun a hf => ?_)
                   refine stq hf rfl rfl rfl (ex_pickF hf rfl rfl) (fun a hf => ?_)
                   refine stq hf rfl rfl rfl (ex_move hf rfl) (fun a hf => ?_)
                   replace hf := hf.castB (t := 222) rfl (ndec_f hc204)
                   replace hf := hf.castB (t := 223) rfl (ndec_f hc204)
                   replace hf := hf.castB (t := 224) rfl (ndec_f hc204)
                   refine stq hf rfl rfl rfl (ex_move hf rfl) (fun a hf => ?_)
                   refine stq hf rfl rfl rfl (ex_move hf rfl) (fun a hf => ?_)
                   refine stq hf rfl rfl rfl (ex_neq hf rfl rfl) (fun a hf => ?_)
                   refine stq hf rfl rfl rfl (ex_pickF hf rfl rfl) (fun a hf => ?_)
                   refine hK205 _ _ ?_
                   replace hs := hs.keep (.d (.d (.k (.k (.d (.d (.d (.d (.k (.k .nil))))))))))
                   have e199 := some_eq H; subst e199
                   exact hJ199 _ _ ⟨hf.sub ⟨rfl, rfl, rfl, rfl, trivial⟩, hs⟩
                  · -- not s195.1 = s197.1
                   refine region_k (fun K206 hK206 => ?_)
                   refine stq hf rfl rfl rfl (ex_move hf rfl) (fun a hf => ?_)
                   refine stq hf rfl rfl rfl (ex_move hf rfl) (fun a hf => ?_)
                   refine stq hf rfl rfl rfl (ex_neq hf rfl rfl) (fun a hf => ?_)
                   refine stq hf rfl rfl rfl (ex_move hf rfl) (fun a hf => ?_)
                   replace hf := hf.castB (t := 201) rfl (ndec_f hc200)
                   replace hf := hf.castB (t := 202) rfl (ndec_f hc200)
                   refine stq hf rfl rfl rfl (ex_move hf rfl) (fun a hf => ?_)
                   refine stq hf rfl rfl rfl (ex_eqp Try.underlying29 hf rfl rfl) (fun a hf => ?_)
                   refine stq hf rfl rfl rfl (ex_move hf rfl) (fun a hf => ?_)
                   refine stq hf rfl rfl rfl (ex_neq hf rfl rfl) (fun a hf => ?_)
                   refine stq hf rfl rfl rfl (ex_neb Try.underlying4 hf rfl rfl) (fun a hf => ?_)
                   refine stq hf rfl rfl rfl (ex_pickF hf rfl rfl) (fun a hf => ?_)
                   refine stq hf rfl rfl rfl (ex_move hf rfl) (fun a hf => ?_)
                   replace hf := hf.castB (t := 207) rfl (nbool_f hc201)
                   replace hf := hf.castB (t := 208) rfl (nbool_f hc201)
                   replace hf := hf.castB (t := 209) rfl (nbool_f hc201)
                   refine stq hf rfl rfl rfl (ex_move hf rfl) (fun a hf => ?_)
                   refine stq hf rfl rfl rfl (ex_move hf rfl) (fun a hf => ?_)
                   refine stq hf rfl rfl rfl (ex_neq hf rfl rfl) (fun a hf => ?_)
                   refine stq hf rfl rfl rfl (ex_pickF hf rfl rfl) (fun a hf => ?_)
                   refine stq hf rfl rfl rfl (ex_move hf rfl) (fun a hf => ?_)
                   replace hf := hf.castB (t := 212) rfl (ndec_f hc202)
                   replace hf := hf.castB (t := 213) rfl (ndec_f hc202)
                   replace hf := hf.castB (t := 214) rfl (ndec_f hc202)
                   refine stq hf rfl rfl rfl (ex_move hf rfl) (fun a hf => ?_)
                   refine stq hf rfl rfl rfl (ex_move hf rfl) (fun a hf => ?_)
                   refine stq hf rfl rfl rfl (ex_neq hf rfl rfl) (fun a hf => ?_)
                   refine stq hf rfl rfl rfl (ex_pickF hf rfl rfl) (fun a hf => ?_)
                   refine stq hf rfl rfl rfl (ex_move hf rfl) (fun a hf => ?_)
                   replace hf := hf.castB (t := 217) rfl (ndec_f hc203)
                   replace hf := hf.castB (t := 218) rfl (ndec_f hc203)
                   replace hf := hf.castB (t := 219) rfl (ndec_f hc203)
                   refine stq hf rfl rfl rfl (ex_move hf rfl) (fun a hf => ?_)
                   refine stq hf rfl rfl rfl (ex_move hf rfl) (fun a hf => ?_)
                   refine stq hf rfl rfl rfl (ex_neq hf rfl rfl) (fun a hf => ?_)
                   refine stq hf rfl rfl rfl (ex_pickF hf rfl rfl) (fun a hf => ?_)
                   refine stq hf rfl rfl rfl (ex_move hf rfl) (fun a hf => ?_)
                   replace hf := hf.castB (t := 222) rfl (ndec_t hc204)
                   replace hf := hf.castB (t := 223) rfl (ndec_t hc204)
                   replace hf := hf.castB (t := 224) rfl (ndec_t hc204)
                   refine stepN hf rfl rfl rfl (fun a hf => ?_)
                   refine stepN hf rfl rfl rfl (fun a hf => ?_)
                   refine stepN hf rfl rfl rfl (fun a hf => ?_)
                   refine stq hf rfl rfl rfl (ex_pickT hf rfl rfl) (fun a hf => ?_)
                   refine hK206 _ _ ?_
                   replace hs := hs.keep (.d (.d (.k (.k (.d (.d (.d (.d (.k (.k .nil))))))))))
                   have e199 := some_eq H; subst e199
                   exact hJ199 _ _ ⟨hf.sub ⟨rfl, rfl, rfl, rfl, trivial⟩, hs⟩
                 · -- not s191.2 = s193.2
                  refine region_k (fun K207 hK207 => ?_)
                  refine stq hf rfl rfl rfl (ex_move hf rfl) (fun a hf => ?_)
                  refine stq hf rfl rfl rfl (ex_move hf rfl) (fun a hf => ?_)
                  refine stq hf rfl rfl rfl (ex_neq hf rfl rfl) (fun a hf => ?_)
                  refine stq hf rfl rfl rfl (ex_move hf rfl) (fun a hf => ?_)
                  replace hf := hf.castB (t := 201) rfl (ndec_f hc200)
                  replace hf := hf.castB (t := 202) rfl (ndec_f hc200)
                  refine stq hf rfl rfl rfl (ex_move hf rfl) (fun a hf => ?_)
                  refine stq hf rfl rfl rfl (ex_eqp Try.underlying29 hf rfl rfl) (fun a hf => ?_)
                  refine stq hf rfl rfl rfl (ex_move hf rfl) (fun a hf => ?_)
                  refine stq hf rfl rfl rfl (ex_neq hf rfl rfl) (fun a hf => ?_)
                  refine stq hf rfl rfl rfl (ex_neb Try.underlying4 hf rfl rfl) (fun a hf => ?_)
                  refine stq hf rfl rfl rfl (ex_pickF hf rfl rfl) (fun a hf => ?_)
                  refine stq hf rfl rfl rfl (ex_move hf rfl) (fun a hf => ?_)
                  replace hf := hf.castB (t := 207) rfl (nbool_f hc201)
                  replace hf := hf.castB (t := 208) rfl (nbool_f hc201)
                  replace hf := hf.castB (t := 209) rfl (nbool_f hc201)
                  refine stq hf rfl rfl rfl (ex_move hf rfl) (fun a hf => ?_)
                  refine stq hf rfl rfl rfl (ex_move hf rfl) (fun a hf => ?_)
                  refine stq hf rfl rfl rfl (ex_neq hf rfl rfl) (fun a hf => ?_)
                  refine stq hf rfl rfl rfl (ex_pickF hf rfl rfl) (fun a hf => ?_)
                  refine stq hf rfl rfl rfl (ex_move hf rfl) (fun a hf => ?_)
                  replace hf := hf.castB (t := 212) rfl (ndec_f hc202)
                  replace hf := hf.castB (t := 213) rfl (ndec_f hc202)
                  replace hf := hf.castB (t := 214) rfl (ndec_f hc202)
                  refine stq hf rfl rfl rfl (ex_move hf rfl) (fun a hf => ?_)
                  refine stq hf rfl rfl rfl (ex_move hf rfl) (fun a hf => ?_)
                  refine stq hf rfl rfl rfl (ex_neq hf rfl rfl) (fun a hf => ?_)
                  refine stq hf rfl rfl rfl (ex_pickF hf rfl rfl) (fun a hf => ?_)
                  refine stq hf rfl rfl rfl (ex_move hf rfl) (fun a hf => ?_)
                  replace hf := hf.castB (t := 217) rfl (ndec_t hc203)
                  replace hf := hf.castB (t := 218) rfl (ndec_t hc203)
                  replace hf := hf.castB (t := 219) rfl (ndec_t hc203)
                  refine stepN hf rfl rfl rfl (fun a hf => ?_)
                  refine stepN hf rfl rfl rfl (fun a hf => ?_)
                  refine stepN hf rfl rfl rfl (fun a hf => ?_)
                  refine stq hf rfl rfl rfl (ex_pickT hf rfl rfl) (fun a hf => ?_)
                  refine stq hf rfl rfl rfl (ex_move hf rfl) (fun a hf => ?_)
                  refine stepN hf rfl rfl rfl (fun a hf => ?_)
                  refine stepN hf rfl rfl rfl (fun a hf => ?_)
                  refine stepN hf rfl rfl rfl (fun a hf => ?_)
                  refine stq hf rfl rfl rfl (ex_pickT hf rfl rfl) (fun a hf => ?_)
                  refine hK207 _ _ ?_
                  replace hs := hs.keep (.d (.d (.k (.k (.d (.d (.d (.d (.k (.k .nil))))))))))
                  have e199 := some_eq H; subst e199
                  exact hJ199 _ _ ⟨hf.sub ⟨rfl, rfl, rfl, rfl, trivial⟩, hs⟩
                · -- not s191.1 = s193.1
                 refine region_k (fun K208 hK208 => ?_)
                 refine stq hf rfl rfl rfl (ex_move hf rfl) (fun a hf => ?_)
                 refine stq hf rfl rfl rfl (ex_move hf rfl) (fun a hf => ?_)
                 refine stq hf rfl rfl rfl (ex_neq hf rfl rfl) (fun a hf => ?_)
                 refine stq hf rfl rfl rfl (ex_move hf rfl) (fun a hf => ?_)
                 replace hf := hf.castB (t := 201) rfl (ndec_f hc200)
                 replace hf := hf.castB (t := 202) rfl (ndec_f hc200)
                 refine stq hf rfl rfl rfl (ex_move hf rfl) (fun a hf => ?_)
                 refine stq hf rfl rfl rfl (ex_eqp Try.underlying29 hf rfl rfl) (fun a hf => ?_)
                 refine stq hf rfl rfl rfl (ex_move hf rfl) (fun a hf => ?_)
                 refine stq hf rfl rfl rfl (ex_neq hf rfl rfl) (fun a hf => ?_)
                 refine stq hf rfl rfl rfl (ex_neb Try.underlying4 hf rfl rfl) (fun a hf => ?_)
                 refine stq hf rfl rfl rfl (ex_pickF hf rfl rfl) (fun a hf => ?_)
                 refine stq hf rfl rfl rfl (ex_move hf rfl) (fun a hf => ?_)
                 replace hf := hf.castB (t := 207) rfl (nbool_f hc201)
                 replace hf := hf.castB (t := 208) rfl (nbool_f hc201)
                 replace hf := hf.castB (t := 209) rfl (nbool_f hc201)
                 refine stq hf rfl rfl rfl (ex_move hf rfl) (fun a hf => ?_)
                 refine stq hf rfl rfl rfl (ex_move hf rfl) (fun a hf => ?_)
                 refine stq hf rfl rfl rfl (ex_neq hf rfl rfl) (fun a hf => ?_)
                 refine stq hf rfl rfl rfl (ex_pickF hf rfl rfl) (fun a hf => ?_)
                 refine stq hf rfl rfl rfl (ex_move hf rfl) (fun a hf => ?_)
                 replace hf := hf.castB (t := 212) rfl (ndec_t hc202)
                 replace hf := hf.castB (t := 213) rfl (ndec_t hc202)
                 replace hf := hf.castB (t := 214) rfl (ndec_t hc202)
                 refine stepN hf rfl rfl rfl (fun a hf => ?_)
                 refine stepN hf rfl rfl rfl (fun a hf => ?_)
                 refine stepN hf rfl rfl rfl (fun a hf => ?_)
                 refine stq hf rfl rfl rfl (ex_pickT hf rfl rfl) (fun a hf => ?_)
                 refine stq hf rfl rfl rfl (ex_move hf rfl) (fun a hf => ?_)
                 refine stepN hf rfl rfl rfl (fun a hf => ?_)
                 refine stepN hf rfl rfl rfl (fun a hf => ?_)
                 refine stepN hf rfl rfl rfl (fun a hf => ?_)
                 refine stq hf rfl rfl rfl (ex_pickT hf rfl rfl) (fun a hf => ?_)
                 refine stq hf rfl rfl rfl (ex_move hf rfl) (fun a hf => ?_)
                 refine stepN hf rfl rfl rfl (fun a hf => ?_)
                 refine stepN hf rfl rfl rfl (fun a hf => ?_)
                 refine stepN hf rfl rfl rfl (fun a hf => ?_)
                 refine stq hf rfl rfl rfl (ex_pickT hf rfl rfl) (fun a hf => ?_)
                 refine hK208 _ _ ?_
                 replace hs := hs.keep (.d (.d (.k (.k (.d (.d (.d (.d (.k (.k .nil))))))))))
                 have e199 := some_eq H; subst e199
                 exact hJ199 _ _ ⟨hf.sub ⟨rfl, rfl, rfl, rfl, trivial⟩, hs⟩
               · -- not (false == (!decide (s141.2 = 0))) = true
                refine region_k (fun K209 hK209 => ?_)
                refine stq hf rfl rfl rfl (ex_move hf rfl) (fun a hf => ?_)
                refine stq hf rfl rfl rfl (ex_move hf rfl) (fun a hf => ?_)
                refine stq hf rfl rfl rfl (ex_neq hf rfl rfl) (fun a hf => ?_)
                refine stq hf rfl rfl rfl (ex_move hf rfl) (fun a hf => ?_)
                replace hf := hf.castB (t := 201) rfl (ndec_f hc200)
                replace hf := hf.castB (t := 202) rfl (ndec_f hc200)
                refine stq hf rfl rfl rfl (ex_move hf rfl) (fun a hf => ?_)
                refine stq hf rfl rfl rfl (ex_eqp Try.underlying29 hf rfl rfl) (fun a hf => ?_)
                refine stq hf rfl rfl rfl (ex_move hf rfl) (fun a hf => ?_)
                refine stq hf rfl rfl rfl (ex_neq hf rfl rfl) (fun a hf => ?_)
                refine stq hf rfl rfl rfl (ex_neb Try.underlying4 hf rfl rfl) (fun a hf => ?_)
                refine stq hf rfl rfl rfl (ex_pickF hf rfl rfl) (fun a hf => ?_)
                refine stq hf rfl rfl rfl (ex_move hf rfl) (fun a hf => ?_)
                replace hf := hf.castB (t := 207) rfl (nbool_t hc201)
                replace hf := hf.castB (t := 208) rfl (nbool_t hc201)
                replace hf := hf.castB (t := 209) rfl (nbool_t hc201)
                refine stepN hf rfl rfl rfl (fun a hf => ?_)
                refine stepN hf rfl rfl rfl (fun a hf => ?_)
                refine stepN hf rfl rfl rfl (fun a hf => ?_)
                refine stq hf rfl rfl rfl (ex_pickT hf rfl rfl) (fun a hf => ?_)
                refine stq hf rfl rfl rfl (ex_move hf rfl) (fun a hf => ?_)
                refine stepN hf rfl rfl rfl (fun a hf => ?_)
                refine stepN hf rfl rfl rfl (fun a hf => ?_)
                refine stepN hf rfl rfl rfl (fun a hf => ?_)
                refine stq hf rfl rfl rfl (ex_pickT hf rfl rfl) (fun a hf => ?_)
                refine stq hf rfl rfl rfl (ex_move hf rfl) (fun a hf => ?_)
                refine stepN hf rfl rfl rfl (fun a hf => ?_)
                refine stepN hf rfl rfl rfl (fun a hf => ?_)
                refine stepN hf rfl rfl rfl (fun a hf => ?_)
                refine stq hf rfl rfl rfl (ex_pickT hf rfl rfl) (fun a hf => ?_)
                refine stq hf rfl rfl rfl (ex_move hf rfl) (fun a hf => ?_)
                refine stepN hf rfl rfl rfl (fun a hf => ?_)
                refine stepN hf rfl rfl rfl (fun a hf => ?_)
                refine stepN hf rfl rfl rfl (fun a hf => ?_)
                refine stq hf rfl rfl rfl (ex_pickT hf rfl rfl) (fun a hf => ?_)
                refine hK209 _ _ ?_
                replace hs := hs.keep (.d (.d (.k (.k (.d (.d (.d (.d (.k (.k .nil))))))))))
                have e199 := some_eq H; subst e199
                exact hJ199 _ _ ⟨hf.sub ⟨rfl, rfl, rfl, rfl, trivial⟩, hs⟩
              · -- not s141.2 = x181
               refine region_k (fun K210 hK210 => ?_)
               refine stq hf rfl rfl rfl (ex_move hf rfl) (fun a hf => ?_)
               refine stq hf rfl rfl rfl (ex_move hf rfl) (fun a hf => ?_)
               refine stq hf rfl rfl rfl (ex_neq hf rfl rfl) (fun a hf => ?_)
               refine stq hf rfl rfl rfl (ex_move hf rfl) (fun a hf => ?_)
               replace hf := hf.castB (t := 201) rfl (ndec_t hc200)
               replace hf := hf.castB (t := 202) rfl (ndec_t hc200)
               refine stepN hf rfl rfl rfl (fun a hf => ?_)
               refine stepN hf rfl rfl rfl (fun a hf => ?_)
               refine stepN hf rfl rfl rfl (fun a hf => ?_)
               refine stepN hf rfl rfl rfl (fun a hf => ?_)
               refine stepN hf rfl rfl rfl (fun a hf => ?_)
               refine stq hf rfl rfl rfl (ex_pickT hf rfl rfl) (fun a hf => ?_)
               refine stq hf rfl rfl rfl (ex_move hf rfl) (fun a hf => ?_)
               refine stepN hf rfl rfl rfl (fun a hf => ?_)
               refine stepN hf rfl rfl rfl (fun a hf => ?_)
               refine stepN hf rfl rfl rfl (fun a hf => ?_)
               refine stq hf rfl rfl rfl (ex_pickT hf rfl rfl) (fun a hf => ?_)
               refine stq hf rfl rfl rfl (ex_move hf rfl) (fun a hf => ?_)
               refine stepN hf rfl rfl rfl (fun a hf => ?_)
               refine stepN hf rfl rfl rfl (fun a hf => ?_)
               refine stepN hf rfl rfl rfl (fun a hf => ?_)
               refine stq hf rfl rfl rfl (ex_pickT hf rfl rfl) (fun a hf => ?_)
               refine stq hf rfl rfl rfl (ex_move hf rfl) (fun a hf => ?_)
               refine stepN hf rfl rfl rfl (fun a hf => ?_)
               refine stepN hf rfl rfl rfl (fun a hf => ?_)
               refine stepN hf rfl rfl rfl (fun a hf => ?_)
               refine stq hf rfl rfl rfl (ex_pickT hf rfl rfl) (fun a hf => ?_)
               refine stq hf rfl rfl rfl (ex_move hf rfl) (fun a hf => ?_)
               refine stepN hf rfl rfl rfl (fun a hf => ?_)
               refine stepN hf rfl rfl rfl (fun a hf => ?_)
               refine stepN hf rfl rfl rfl (fun a hf => ?_)
               refine stq hf rfl rfl rfl (ex_pickT hf rfl rfl) (fun a hf => ?_)
               refine hK210 _ _ ?_
               replace hs := hs.keep (.d (.d (.k (.k (.d (.d (.d (.d (.k (.k .nil))))))))))
               have e199 := some_eq H; subst e199
               exact hJ199 _ _ ⟨hf.sub ⟨rfl, rfl, rfl, rfl, trivial⟩, hs⟩
             ·
              obtain ⟨hf, hs⟩ := hJ
              replace H := HO199
              clear HO199
              refine itt H (fun hc211 H => ?_) (fun hc211 H => ?_)
              · -- x199 = true
               replace hf := hf.castB (t := 228) rfl hc211
               refine cond_T hf rfl ?_
               refine seq_reg (fun K212 hK212 => ?_)
               refine stq hf rfl rfl rfl (ex_assign hf rfl) (fun a hf => ?_)
               refine hK212 _ _ ?_
               refine wp_ret ?_
               refine hR60 _ _ ?_
               have e59 := some_eq H; subst e59; replace H := el_rt HO59
               refine hR59 _ _ ?_
               refine hR55 _ _ ?_
               refine hR52 _ _ ?_
               have e50 := some_eq H; subst e50; replace H := el_rt HO50
               refine hR50 _ _ ?_
               have eR := some_eq H; subst eR
               replace hs := hs.keep (.d (.d (.d (.d .nil))))
               exact ret1 Try.results8 hf rfl ⟨_, rfl, ⟨rfl, hs⟩⟩
              · -- not x199 = true
               replace hf := hf.castB (t := 228) rfl (bool_f hc211)
               refine cond_F hf rfl ?_
               refine wp_skip ?_
               refine hN60 _ _ ?_
               have e59 := some_eq H; subst e59
               exact hJ59 _ _ ⟨_, rfl, hf.sub ⟨rfl, rfl, rfl, trivial⟩, hs⟩
          · -- not y53 = 1
           refine itt H (fun hc213 H => ?_) (fun hc213 H => ?_)
           · -- y53 = 2
            refine seq_reg (fun K215 hK215 => ?_)
            refine stq hf rfl rfl rfl (ex_indexG (cs := [v0, v1, .int .i64 a2, v13, v14, .int .i64 s12.2.2, v18, v25, .int .i64 x24.2.2]) 2 ia_53 ag_27 hc213 (by decide) hf rfl rfl rfl) (fun a hf => ?_)
            refine stepV hf rfl rfl rfl (er_alloc hs ti_27 (cs := [(.slice none 0 0), (.slice none 0 0), .int .i64 0]) rfl) (fun v w hR a hf => ?_)
            obtain ⟨b214, rfl, hs⟩ := hR
            refine stepS hf rfl rfl (er_storeAB (vs := [v18, v25, .int .i64 x24.2.2]) (cs' := [v18, v25, .int .i64 x24.2.2]) hs (.c (.k (.k (.k (.k .nil))))) sz_27 hf rfl rfl (all1 (IsSl.one (rsl_isSl (osl_rsl _ (hs.get (i := 3) rfl)))) (all1 (IsSl.one (rsl_isSl (osl_rsl _ (hs.get (i := 4) rfl)))) (all1 rfl (all1_nil)))) rfl rfl) (fun w hs => ?_)
            refine hK215 _ _ ?_
            refine seq_n (fun Q216 hN216 hR216 hX216 => ?_)
            refine bnd H (fun s217 hs217 H => ?_)
            cases hps217 : s217.1 with
            | none =>
             replace H := elim_n hps217 H
             refine region_k (fun K219 hK219 => ?_)
             refine stq hf rfl rfl rfl (ex_fieldAddrB fa_27_0 rfl hf rfl) (fun a hf => ?_)
             refine stq hf rfl rfl rfl (ex_load sc_22 hf rfl (bx_cell (hs.get (i := 0) rfl) _ rfl)) (fun a hf => ?_)
             refine stq hf rfl rfl rfl (ex_fieldAddrB fa_27_1 rfl hf rfl) (fun a hf => ?_)
             refine stq hf rfl rfl rfl (ex_load sc_23 hf rfl (bx_cell (hs.get (i := 0) rfl) _ rfl)) (fun a hf => ?_)
             refine stq hf rfl rfl rfl (ex_fieldAddrB fa_27_2 rfl hf rfl) (fun a hf => ?_)
             refine stq hf rfl rfl rfl (ex_load sc_2 hf rfl (bx_cell (hs.get (i := 0) rfl) _ rfl)) (fun a hf => ?_)
             refine stepF hf rfl rfl rfl (ex_call cf_13 hf rfl) (heat_New.calls k55 x24.1 x24.2.1 x24.2.2 v18 v25 (hs.enter (.k (.k (.k (.k (.k .nil)))))) (Sr.own hs (.k (.k (.k (.k (.k .nil))))) (i := 3) rfl osl_rsl (fun _ h => h.1) (Sr.own hs (.k (.k (.k (.k (.k .nil))))) (i := 4) rfl osl_rsl (fun _ h => h.1) (Sr.nil _ _))) hs217) (fun v w hR a hf => ?_)
             obtain ⟨_, rfl, hs'⟩ | ⟨_, hc', _⟩ := hR
             case inr => rw [hps217] at hc'; cases hc'
             replace hs := hs.step (.k (.k (.k (.k (.k .nil))))) hs'
             clear hs'
             refine stq hf rfl rfl rfl (ex_move hf rfl) (fun a hf => ?_)
             refine stq hf rfl rfl rfl (ex_extract hf rfl rfl) (fun a hf => ?_)
             refine stq hf rfl rfl rfl (ex_extract hf rfl rfl) (fun a hf => ?_)
             refine stq hf rfl rfl rfl (ex_assign hf rfl) (fun a hf => ?_)
             refine stq hf rfl rfl rfl (ex_assign hf rfl) (fun a hf => ?_)
             refine hK219 _ _ ?_
             refine hN216 _ _ ?_
             refine bnd H (fun x220 H220 HO220 => ?_)
             clear H
             refine seq_cut (fun a w => Fr a 231 [(3, v3), (19, .pointer (some ⟨b214, 0, none⟩)), (20, .pointer none), (21, .int .i64 s217.2), (23, .int .i64 x220), (126, .agg #[v0, v1, .int .i64 a2, v13, v14, .int .i64 s12.2.2, v18, v25, .int .i64 x24.2.2]), (127, .int .i64 y53)] ∧ St M w0 w [bx b214 27 [v18, v25, .int .i64 x24.2.2], osl K_api_HeatDomain v18 x24.1, osl K_api_HeatLink v25 x24.2.1, osl K_api_HeatDomain v13 s12.1, osl K_api_HeatLink v14 s12.2.1]) (fun Q220 hJ220 hR220 hX220 => ?_) (fun a w hJ => ?_)
             ·
              replace H := H220
              refine bnd H (fun s221 hs221 H => ?_)
              cases hps221 : s221.1 with
              | none =>
               replace H := elim_n hps221 H
               refine region_k (fun K223 hK223 => ?_)
               refine stq hf rfl rfl rfl (ex_fieldAddrB fa_27_0 rfl hf rfl) (fun a hf => ?_)
               refine stq hf rfl rfl rfl (ex_load sc_22 hf rfl (bx_cell (hs.get (i := 0) rfl) _ rfl)) (fun a hf => ?_)
               refine stq hf rfl rfl rfl (ex_fieldAddrB fa_27_1 rfl hf rfl) (fun a hf => ?_)
               refine stq hf rfl rfl rfl (ex_load sc_23 hf rfl (bx_cell (hs.get (i := 0) rfl) _ rfl)) (fun a hf => ?_)
               refine stq hf rfl rfl rfl (ex_fieldAddrB fa_27_2 rfl hf rfl) (fun a hf => ?_)
               refine stq hf rfl rfl rfl (ex_load sc_2 hf rfl (bx_cell (hs.get (i := 0) rfl) _ rfl)) (fun a hf => ?_)
               refine stepF hf rfl rfl rfl (ex_call cf_20 hf rfl) (ref38_New.calls k55 x24.1 x24.2.1 x24.2.2 v18 v25 (hs.enter (.k (.k (.k (.k (.k .nil)))))) (Sr.own hs (.k (.k (.k (.k (.k .nil))))) (i := 3) rfl osl_rsl (fun _ h => h.1) (Sr.own hs (.k (.k (.k (.k (.k .nil))))) (i := 4) rfl osl_rsl (fun _ h => h.1) (Sr.nil _ _))) hs221) (fun v w hR a hf => ?_)
               obtain ⟨_, rfl, hs'⟩ | ⟨_, hc', _⟩ := hR
               case inr => rw [hps221] at hc'; cases hc'
               replace hs := hs.step (.k (.k (.k (.k (.k .nil))))) hs'
               clear hs'
               refine stq hf rfl rfl rfl (ex_move hf rfl) (fun a hf => ?_)
               refine stq hf rfl rfl rfl (ex_extract hf rfl rfl) (fun a hf => ?_)
               refine stq hf rfl rfl rfl (ex_extract hf rfl rfl) (fun a hf => ?_)
               refine stq hf rfl rfl rfl (ex_assign hf rfl) (fun a hf => ?_)
               refine stq hf rfl rfl rfl (ex_assign hf rfl) (fun a hf => ?_)
               refine hK223 _ _ ?_
               replace hs := hs.pick (.k (.k (.c (.k (.k .nil)))))
               replace hs := hs.pick (.k (.k (.c (.k (.k .nil)))))
               replace hs := hs.pick (.k (.k (.k (.k (.c .nil)))))
               replace hs := hs.pick (.k (.k (.k (.k (.c .nil)))))
               replace hs := hs.pick (.k (.k (.k (.k (.c .nil)))))
               have e220 := some_eq H; subst e220
               exact hJ220 _ _ ⟨hf.sub ⟨rfl, rfl, rfl, rfl, rfl, rfl, rfl, trivial⟩, hs⟩
              | some c222 =>
               replace H := elim_s hps221 H
               refine region_k (fun K226 hK226 => ?_)
               refine stq hf rfl rfl rfl (ex_fieldAddrB fa_27_0 rfl hf rfl) (fun a hf => ?_)
               refine stq hf rfl rfl rfl (ex_load sc_22 hf rfl (bx_cell (hs.get (i := 0) rfl) _ rfl)) (fun a hf => ?_)
               refine stq hf rfl rfl rfl (ex_fieldAddrB fa_27_1 rfl hf rfl) (fun a hf => ?_)
               refine stq hf rfl rfl rfl (ex_load sc_23 hf rfl (bx_cell (hs.get (i := 0) rfl) _ rfl)) (fun a hf => ?_)
               refine stq hf rfl rfl rfl (ex_fieldAddrB fa_27_2 rfl hf rfl) (fun a hf => ?_)
               refine stq hf rfl rfl rfl (ex_load sc_2 hf rfl (bx_cell (hs.get (i := 0) rfl) _ rfl)) (fun a hf => ?_)
               refine stepF hf rfl rfl rfl (ex_call cf_20 hf rfl) (ref38_New.calls k55 x24.1 x24.2.1 x24.2.2 v18 v25 (hs.enter (.k (.k (.k (.k (.k .nil)))))) (Sr.own hs (.k (.k (.k (.k (.k .nil))))) (i := 3) rfl osl_rsl (fun _ h => h.1) (Sr.own hs (.k (.k (.k (.k (.k .nil))))) (i := 4) rfl osl_rsl (fun _ h => h.1) (Sr.nil _ _))) hs221) (fun v w hR a hf => ?_)
               obtain ⟨hc', _⟩ | ⟨cc, hc', b224, v225, rfl, hs'⟩ := hR
               case inl => rw [hps221] at hc'; cases hc'
               obtain rfl : c222 = cc := by rw [hps221] at hc'; exact Option.some.inj hc'
               replace hs := hs.step (.k (.k (.k (.k (.k .nil))))) hs'
               clear hs'
               refine stq hf rfl rfl rfl (ex_move hf rfl) (fun a hf => ?_)
               refine stq hf rfl rfl rfl (ex_extract hf rfl rfl) (fun a hf => ?_)
               refine stq hf rfl rfl rfl (ex_extract hf rfl rfl) (fun a hf => ?_)
               refine stq hf rfl rfl rfl (ex_assign hf rfl) (fun a hf => ?_)
               refine stq hf rfl rfl rfl (ex_assign hf rfl) (fun a hf => ?_)
               refine hK226 _ _ ?_
               replace hs := hs.keep (.d (.d (.k (.k (.k (.k (.k .nil)))))))
               replace hs := hs.pick (.k (.k (.c (.k (.k .nil)))))
               replace hs := hs.pick (.k (.k (.c (.k (.k .nil)))))
               replace hs := hs.pick (.k (.k (.k (.k (.c .nil)))))
               replace hs := hs.pick (.k (.k (.k (.k (.c .nil)))))
               replace hs := hs.pick (.k (.k (.k (.k (.c .nil)))))
               have e220 := some_eq H; subst e220
               exact hJ220 _ _ ⟨hf.sub ⟨rfl, rfl, rfl, rfl, rfl, rfl, rfl, trivial⟩, hs⟩
             ·
              obtain ⟨hf, hs⟩ := hJ
              replace H := HO220
              clear HO220
              refine bnd H (fun s227 hs227 H => ?_)
              refine seq_reg (fun K229 hK229 => ?_)
              refine stq hf rfl rfl rfl (ex_move hf rfl) (fun a hf => ?_)
              refine stq hf rfl rfl rfl (ex_fieldAddrB fa_27_0 rfl hf rfl) (fun a hf => ?_)
              refine stq hf rfl rfl rfl (ex_load sc_22 hf rfl (bx_cell (hs.get (i := 0) rfl) _ rfl)) (fun a hf => ?_)
              refine stq hf rfl rfl rfl (ex_lenS Try.underlying22 (rsl_isSl (osl_rsl _ (hs.get (i := 1) rfl))) hf rfl) (fun a hf => ?_)
              refine stepF hf rfl rfl rfl (ex_call cf_14 hf rfl) (law38_Powers.calls k55 a3 (x24.1.length : Int) 200 v3 (hs.enter (.k (.k (.k (.k (.k .nil)))))) (Sr.old hr hs (.k (.k (.k (.k (.k .nil))))) (i := 2) rfl (fun _ h => h) (fun _ h => h) (Sr.nil _ _)) hs227) (fun v w hR a hf => ?_)
              obtain ⟨v228, rfl, hs'⟩ := hR
              replace hs := hs.step (.k (.k (.k (.k (.k .nil))))) hs'
              clear hs'
              refine stq hf rfl rfl rfl (ex_assign hf rfl) (fun a hf => ?_)
              refine hK229 _ _ ?_
              refine bnd H (fun s230 hs230 H => ?_)
              refine seq_reg (fun K231 hK231 => ?_)
              refine stq hf rfl rfl rfl (ex_fieldAddrB fa_27_0 rfl hf rfl) (fun a hf => ?_)
              refine stq hf rfl rfl rfl (ex_load sc_22 hf rfl (bx_cell (hs.get (i := 1) rfl) _ rfl)) (fun a hf => ?_)
              refine stq hf rfl rfl rfl (ex_fieldAddrB fa_27_1 rfl hf rfl) (fun a hf => ?_)
              refine stq hf rfl rfl rfl (ex_load sc_23 hf rfl (bx_cell (hs.get (i := 1) rfl) _ rfl)) (fun a hf => ?_)
              refine stq hf rfl rfl rfl (ex_fieldAddrB fa_27_2 rfl hf rfl) (fun a hf => ?_)
              refine stq hf rfl rfl rfl (ex_load sc_2 hf rfl (bx_cell (hs.get (i := 1) rfl) _ rfl)) (fun a hf => ?_)
              refine stq hf rfl rfl rfl (ex_move hf rfl) (fun a hf => ?_)
              refine stepF hf rfl rfl rfl (ex_call cf_27 hf rfl) (heat_Bound.calls k55 x24.1 x24.2.1 x24.2.2 s227 v18 v25 v228 (hs.enter (.k (.k (.k (.k (.k (.k .nil))))))) (Sr.own hs (.k (.k (.k (.k (.k (.k .nil)))))) (i := 2) rfl osl_rsl (fun _ h => h.1) (Sr.own hs (.k (.k (.k (.k (.k (.k .nil)))))) (i := 3) rfl osl_rsl (fun _ h => h.1) (Sr.own hs (.k (.k (.k (.k (.k (.k .nil)))))) (i := 0) rfl osl_rsl (fun _ h => h.1) (Sr.nil _ _)))) hs230) (fun v w hR a hf => ?_)
              obtain ⟨rfl, hs'⟩ := hR
              replace hs := hs.step (.k (.k (.k (.k (.k (.k .nil)))))) hs'
              clear hs'
              refine stq hf rfl rfl rfl (ex_move hf rfl) (fun a hf => ?_)
              refine stq hf rfl rfl rfl (ex_extract hf rfl rfl) (fun a hf => ?_)
              refine stq hf rfl rfl rfl (ex_extract hf rfl rfl) (fun a hf => ?_)
              refine stq hf rfl rfl rfl (ex_assign hf rfl) (fun a hf => ?_)
              refine stq hf rfl rfl rfl (ex_assign hf rfl) (fun a hf => ?_)
              refine hK231 _ _ ?_
              refine bnd H (fun s232 hs232 H => ?_)
              refine seq_reg (fun K233 hK233 => ?_)
              refine stq hf rfl rfl rfl (ex_fieldAddrB fa_27_0 rfl hf rfl) (fun a hf => ?_)
              refine stq hf rfl rfl rfl (ex_load sc_22 hf rfl (bx_cell (hs.get (i := 1) rfl) _ rfl)) (fun a hf => ?_)
              refine stq hf rfl rfl rfl (ex_fieldAddrB fa_27_1 rfl hf rfl) (fun a hf => ?_)
              refine stq hf rfl rfl rfl (ex_load sc_23 hf rfl (bx_cell (hs.get (i := 1) rfl) _ rfl)) (fun a hf => ?_)
              refine stq hf rfl rfl rfl (ex_fieldAddrB fa_27_2 rfl hf rfl) (fun a hf => ?_)
              refine stq hf rfl rfl rfl (ex_load sc_2 hf rfl (bx_cell (hs.get (i := 1) rfl) _ rfl)) (fun a hf => ?_)
              refine stq hf rfl rfl rfl (ex_move hf rfl) (fun a hf => ?_)
              refine stepF hf rfl rfl rfl (ex_call cf_28 hf rfl) (ref38_Bound.calls k55 x24.1 x24.2.1 x24.2.2 s227 v18 v25 v228 (hs.enter (.k (.k (.k (.k (.k (.k .nil))))))) (Sr.own hs (.k (.k (.k (.k (.k (.k .nil)))))) (i := 2) rfl osl_rsl (fun _ h => h.1) (Sr.own hs (.k (.k (.k (.k (.k (.k .nil)))))) (i := 3) rfl osl_rsl (fun _ h => h.1) (Sr.own hs (.k (.k (.k (.k (.k (.k .nil)))))) (i := 0) rfl osl_rsl (fun _ h => h.1) (Sr.nil _ _)))) hs232) (fun v w hR a hf => ?_)
              obtain ⟨rfl, hs'⟩ := hR
              replace hs := hs.step (.k (.k (.k (.k (.k (.k .nil)))))) hs'
              clear hs'
              refine stq hf rfl rfl rfl (ex_move hf rfl) (fun a hf => ?_)
              refine stq hf rfl rfl rfl (ex_extract hf rfl rfl) (fun a hf => ?_)
              refine stq hf rfl rfl rfl (ex_extract hf rfl rfl) (fun a hf => ?_)
              refine stq hf rfl rfl rfl (ex_assign hf rfl) (fun a hf => ?_)
              refine stq hf rfl rfl rfl (ex_assign hf rfl) (fun a hf => ?_)
              refine hK233 _ _ ?_
              refine bnd H (fun s234 hs234 H => ?_)
              refine seq_reg (fun K235 hK235 => ?_)
              refine stq hf rfl rfl rfl (ex_fieldAddrB fa_27_0 rfl hf rfl) (fun a hf => ?_)
              refine stq hf rfl rfl rfl (ex_load sc_22 hf rfl (bx_cell (hs.get (i := 1) rfl) _ rfl)) (fun a hf => ?_)
              refine stq hf rfl rfl rfl (ex_fieldAddrB fa_27_1 rfl hf rfl) (fun a hf => ?_)
              refine stq hf rfl rfl rfl (ex_load sc_23 hf rfl (bx_cell (hs.get (i := 1) rfl) _ rfl)) (fun a hf => ?_)
              refine stq hf rfl rfl rfl (ex_fieldAddrB fa_27_2 rfl hf rfl) (fun a hf => ?_)
              refine stq hf rfl rfl rfl (ex_load sc_2 hf rfl (bx_cell (hs.get (i := 1) rfl) _ rfl)) (fun a hf => ?_)
              refine stq hf rfl rfl rfl (ex_move hf rfl) (fun a hf => ?_)
              refine stepF hf rfl rfl rfl (ex_call cf_27 hf rfl) (heat_Bound.calls k55 x24.1 x24.2.1 x24.2.2 a3 v18 v25 v3 (hs.enter (.k (.k (.k (.k (.k (.k .nil))))))) (Sr.own hs (.k (.k (.k (.k (.k (.k .nil)))))) (i := 2) rfl osl_rsl (fun _ h => h.1) (Sr.own hs (.k (.k (.k (.k (.k (.k .nil)))))) (i := 3) rfl osl_rsl (fun _ h => h.1) (Sr.old hr hs (.k (.k (.k (.k (.k (.k .nil)))))) (i := 2) rfl (fun _ h => h) (fun _ h => h) (Sr.nil _ _)))) hs234) (fun v w hR a hf => ?_)
              obtain ⟨rfl, hs'⟩ := hR
              replace hs := hs.step (.k (.k (.k (.k (.k (.k .nil)))))) hs'
              clear hs'
              refine stq hf rfl rfl rfl (ex_move hf rfl) (fun a hf => ?_)
              refine stq hf rfl rfl rfl (ex_extract hf rfl rfl) (fun a hf => ?_)
              refine stq hf rfl rfl rfl (ex_extract hf rfl rfl) (fun a hf => ?_)
              refine stq hf rfl rfl rfl (ex_assign hf rfl) (fun a hf => ?_)
              refine stq hf rfl rfl rfl (ex_assign hf rfl) (fun a hf => ?_)
              refine hK235 _ _ ?_
              refine bnd H (fun s236 hs236 H => ?_)
              refine seq_reg (fun K237 hK237 => ?_)
              refine stq hf rfl rfl rfl (ex_fieldAddrB fa_27_0 rfl hf rfl) (fun a hf => ?_)
              refine stq hf rfl rfl rfl (ex_load sc_22 hf rfl (bx_cell (hs.get (i := 1) rfl) _ rfl)) (fun a hf => ?_)
              refine stq hf rfl rfl rfl (ex_fieldAddrB fa_27_1 rfl hf rfl) (fun a hf => ?_)
              refine stq hf rfl rfl rfl (ex_load sc_23 hf rfl (bx_cell (hs.get (i := 1) rfl) _ rfl)) (fun a hf => ?_)
              refine stq hf rfl rfl rfl (ex_fieldAddrB fa_27_2 rfl hf rfl) (fun a hf => ?_)
              refine stq hf rfl rfl rfl (ex_load sc_2 hf rfl (bx_cell (hs.get (i := 1) rfl) _ rfl)) (fun a hf => ?_)
              refine stq hf rfl rfl rfl (ex_move hf rfl) (fun a hf => ?_)
              refine stepF hf rfl rfl rfl (ex_call cf_28 hf rfl) (ref38_Bound.calls k55 x24.1 x24.2.1 x24.2.2 a3 v18 v25 v3 (hs.enter (.k (.k (.k (.k (.k (.k .nil))))))) (Sr.own hs (.k (.k (.k (.k (.k (.k .nil)))))) (i := 2) rfl osl_rsl (fun _ h => h.1) (Sr.own hs (.k (.k (.k (.k (.k (.k .nil)))))) (i := 3) rfl osl_rsl (fun _ h => h.1) (Sr.old hr hs (.k (.k (.k (.k (.k (.k .nil)))))) (i := 2) rfl (fun _ h => h) (fun _ h => h) (Sr.nil _ _)))) hs236) (fun v w hR a hf => ?_)
              obtain ⟨rfl, hs'⟩ := hR
              replace hs := hs.step (.k (.k (.k (.k (.k (.k .nil)))))) hs'
              clear hs'
              refine stq hf rfl rfl rfl (ex_move hf rfl) (fun a hf => ?_)
              refine stq hf rfl rfl rfl (ex_extract hf rfl rfl) (fun a hf => ?_)
              refine stq hf rfl rfl rfl (ex_extract hf rfl rfl) (fun a hf => ?_)
              refine stq hf rfl rfl rfl (ex_assign hf rfl) (fun a hf => ?_)
              refine stq hf rfl rfl rfl (ex_assign hf rfl) (fun a hf => ?_)
              refine hK237 _ _ ?_
              refine bnd H (fun x238 H238 HO238 => ?_)
              clear H
              refine seq_cut (fun a w => Fr a 231 [(3, v3), (126, .agg #[v0, v1, .int .i64 a2, v13, v14, .int .i64 s12.2.2, v18, v25, .int .i64 x24.2.2]), (127, .int .i64 y53), (228, .bool x238)] ∧ St M w0 w [osl K_api_HeatDomain v13 s12.1, osl K_api_HeatLink v14 s12.2.1, osl K_api_HeatDomain v18 x24.1, osl K_api_HeatLink v25 x24.2.1]) (fun Q238 hJ238 hR238 hX238 => ?_) (fun a w hJ => ?_)
              ·
               replace H := H238
               refine itt H (fun hc239 H => ?_) (fun hc239 H => ?_)
               · -- s217.2 = x220
                refine itt H (fun hc240 H => ?_) (fun hc240 H => ?_)
                · -- (true == (!decide (s217.2 = 0))) = true
                 refine itt H (fun hc241 H => ?_) (fun hc241 H => ?_)
                 · -- s230.1 = s232.1
                  refine itt H (fun hc242 H => ?_) (fun hc242 H => ?_)
                  · -- s230.2 = s232.2
                   refine itt H (fun hc243 H => ?_) (fun hc243 H => ?_)
                   · -- s234.1 = s236.1
                    refine region_k (fun K244 hK244 => ?_)
                    refine stq hf rfl rfl rfl (ex_move hf rfl) (fun a hf => ?_)
                    refine stq hf rfl rfl rfl (ex_move hf rfl) (fun a hf => ?_)
                    refine stq hf rfl rfl rfl (ex_neq hf rfl rfl) (fun a hf => ?_)
                    refine stq hf rfl rfl rfl (ex_move hf rfl) (fun a hf => ?_)
                    replace hf := hf.castB (t := 201) rfl (ndec_f hc239)
                    replace hf := hf.castB (t := 202) rfl (ndec_f hc239)
                    refine stq hf rfl rfl rfl (ex_move hf rfl) (fun a hf => ?_)
                    refine stq hf rfl rfl rfl (ex_eqp Try.underlying29 hf rfl rfl) (fun a hf => ?_)
                    refine stq hf rfl rfl rfl (ex_move hf rfl) (fun a hf => ?_)
                    refine stq hf rfl rfl rfl (ex_neq hf rfl rfl) (fun a hf => ?_)
                    refine stq hf rfl rfl rfl (ex_neb Try.underlying4 hf rfl rfl) (fun a hf => ?_)
                    refine stq hf rfl rfl rfl (ex_pickF hf rfl rfl) (fun a hf => ?_)
                    refine stq hf rfl rfl rfl (ex_move hf rfl) (fun a hf => ?_)
                    replace hf := hf.castB (t := 207) rfl (nbool_f hc240)
                    replace hf := hf.castB (t := 208) rfl (nbool_f hc240)
                    replace hf := hf.castB (t := 209) rfl (nbool_f hc240)
                    refine stq hf rfl rfl rfl (ex_move hf rfl) (fun a hf => ?_)
                    refine stq hf rfl rfl rfl (ex_move hf rfl) (fun a hf => ?_)
                    refine stq hf rfl rfl rfl (ex_neq hf rfl rfl) (fun a hf => ?_)
                    refine stq hf rfl rfl rfl (ex_pickF hf rfl rfl) (fun a hf => ?_)
                    refine stq hf rfl rfl rfl (ex_move hf rfl) (fun a hf => ?_)
                    replace hf := hf.castB (t := 212) rfl (ndec_f hc241)
                    replace hf := hf.castB (t := 213) rfl (ndec_f hc241)
                    replace hf := hf.castB (t := 214) rfl (ndec_f hc241)
                    refine stq hf rfl rfl rfl (ex_move hf rfl) (fun a hf => ?_)
                    refine stq hf rfl rfl rfl (ex_move hf rfl) (fun a hf => ?_)
                    refine stq hf rfl rfl rfl (ex_neq hf rfl rfl) (fun a hf => ?_)
                    refine stq hf rfl rfl rfl (ex_pickF hf rfl rfl) (fun a hf => ?_)
                    refine stq hf rfl rfl rfl (ex_move hf rfl) (fun a hf => ?_)
                    replace hf := hf.castB (t := 217) rfl (ndec_f hc242)
                    replace hf := hf.castB (t := 218) rfl (ndec_f hc242)
                    replace hf := hf.castB (t := 219) rfl (ndec_f hc242)
                    refine stq hf rfl rfl rfl (ex_move hf rfl) (fun a hf => ?_)
                    refine stq hf rfl rfl rfl (ex_move hf rfl) (fun a hf => ?_)
                    refine stq hf rfl rfl rfl (ex_neq hf rfl rfl) (fun a hf => ?_)
                    refine stq hf rfl rfl rfl (ex_pickF hf rfl rfl) (fun a hf => ?_)
                    refine stq hf rfl rfl rfl (ex_move hf rfl) (fun a hf => ?_)
                    replace hf := hf.castB (t := 222) rfl (ndec_f hc243)
                    replace hf := hf.castB (t := 223) rfl (ndec_f hc243)
                    replace hf := hf.castB (t := 224) rfl (ndec_f hc243)
                    refine stq hf rfl rfl rfl (ex_move hf rfl) (fun a hf => ?_)
                    refine stq hf rfl rfl rfl (ex_move hf rfl) (fun a hf => ?_)
                    refine stq hf rfl rfl rfl (ex_neq hf rfl rfl) (fun a hf => ?_)
                    refine stq hf rfl rfl rfl (ex_pickF hf rfl rfl) (fun a hf => ?_)
                    refine hK244 _ _ ?_
                    replace hs := hs.keep (.d (.d (.k (.k (.k (.k .nil))))))
                    replace hs := hs.pick (.k (.c (.k (.k .nil))))
                    replace hs := hs.pick (.k (.c (.k (.k .nil))))
                    replace hs := hs.pick (.k (.k (.k (.c .nil))))
                    replace hs := hs.pick (.k (.k (.k (.c .nil))))
                    have e238 := some_eq H; subst e238
                    exact hJ238 _ _ ⟨hf.sub ⟨rfl, rfl, rfl, rfl, trivial⟩, hs⟩
                   · -- not s234.1 = s236.1
                    refine region_k (fun K245 hK245 => ?_)
                    refine stq hf rfl rfl rfl (ex_move hf rfl) (fun a hf => ?_)
                    refine stq hf rfl rfl rfl (ex_move hf rfl) (fun a hf => ?_)
                    refine stq hf rfl rfl rfl (ex_neq hf rfl rfl) (fun a hf => ?_)
                    refine stq hf rfl rfl rfl (ex_move hf rfl) (fun a hf => ?_)
                    replace hf := hf.castB (t := 201) rfl (ndec_f hc239)
                    replace hf := hf.castB (t := 202) rfl (ndec_f hc239)
                    refine stq hf rfl rfl rfl (ex_move hf rfl) (fun a hf => ?_)
                    refine stq hf rfl rfl rfl (ex_eqp Try.underlying29 hf rfl rfl) (fun a hf => ?_)
                    refine stq hf rfl rfl rfl (ex_move hf rfl) (fun a hf => ?_)
                    refine stq hf rfl rfl rfl (ex_neq hf rfl rfl) (fun a hf => ?_)
                    refine stq hf rfl rfl rfl (ex_neb Try.underlying4 hf rfl rfl) (fun a hf => ?_)
                    refine stq hf rfl rfl rfl (ex_pickF hf rfl rfl) (fun a hf => ?_)
                    refine stq hf rfl rfl rfl (ex_move hf rfl) (fun a hf => ?_)
                    replace hf := hf.castB (t := 207) rfl (nbool_f hc240)
                    replace hf := hf.castB (t := 208) rfl (nbool_f hc240)
                    replace hf := hf.castB (t := 209) rfl (nbool_f hc240)
                    refine stq hf rfl rfl rfl (ex_move hf rfl) (fun a hf => ?_)
                    refine stq hf rfl rfl rfl (ex_move hf rfl) (fun a hf => ?_)
                    refine stq hf rfl rfl rfl (ex_neq hf rfl rfl) (fun a hf => ?_)
                    refine stq hf rfl rfl rfl (ex_pickF hf rfl rfl) (fun a hf => ?_)
                    refine stq hf rfl rfl rfl (ex_move hf rfl) (fun a hf => ?_)
                    replace hf := hf.castB (t := 212) rfl (ndec_f hc241)
                    replace hf := hf.castB (t := 213) rfl (ndec_f hc241)
                    replace hf := hf.castB (t := 214) rfl (ndec_f hc241)
                    refine stq hf rfl rfl rfl (ex_move hf rfl) (fun a hf => ?_)
                    refine stq hf rfl rfl rfl (ex_move hf rfl) (fun a hf => ?_)
                    refine stq hf rfl rfl rfl (ex_neq hf rfl rfl) (fun a hf => ?_)
                    refine stq hf rfl rfl rfl (ex_pickF hf rfl rfl) (fun a hf => ?_)
                    refine stq hf rfl rfl rfl (ex_move hf rfl) (fun a hf => ?_)
                    replace hf := hf.castB (t := 217) rfl (ndec_f hc242)
                    replace hf := hf.castB (t := 218) rfl (ndec_f hc242)
                    replace hf := hf.castB (t := 219) rfl (ndec_f hc242)
                    refine stq hf rfl rfl rfl (ex_move hf rfl) (fun a hf => ?_)
                    refine stq hf rfl rfl rfl (ex_move hf rfl) (fun a hf => ?_)
                    refine stq hf rfl rfl rfl (ex_neq hf rfl rfl) (fun a hf => ?_)
                    refine stq hf rfl rfl rfl (ex_pickF hf rfl rfl) (fun a hf => ?_)
                    refine stq hf rfl rfl rfl (ex_move hf rfl) (fun a hf => ?_)
                    replace hf := hf.castB (t := 222) rfl (ndec_t hc243)
                    replace hf := hf.castB (t := 223) rfl (ndec_t hc243)
                    replace hf := hf.castB (t := 224) rfl (ndec_t hc243)
                    refine stepN hf rfl rfl rfl (fun a hf => ?_)
                    refine stepN hf rfl rfl rfl (fun a hf => ?_)
                    refine stepN hf rfl rfl rfl (fun a hf => ?_)
                    refine stq hf rfl rfl rfl (ex_pickT hf rfl rfl) (fun a hf => ?_)
                    refine hK245 _ _ ?_
                    replace hs := hs.keep (.d (.d (.k (.k (.k (.k .nil))))))
                    replace hs := hs.pick (.k (.c (.k (.k .nil))))
                    replace hs := hs.pick (.k (.c (.k (.k .nil))))
                    replace hs := hs.pick (.k (.k (.k (.c .nil))))
                    replace hs := hs.pick (.k (.k (.k (.c .nil))))
                    have e238 := some_eq H; subst e238
                    exact hJ238 _ _ ⟨hf.sub ⟨rfl, rfl, rfl, rfl, trivial⟩, hs⟩
                  · -- not s230.2 = s232.2
                   refine region_k (fun K246 hK246 => ?_)
                   refine stq hf rfl rfl rfl (ex_move hf rfl) (fun a hf => ?_)
                   refine stq hf rfl rfl rfl (ex_move hf rfl) (fun a hf => ?_)
                   refine stq hf rfl rfl rfl (ex_neq hf rfl rfl) (fun a hf => ?_)
                   refine stq hf rfl rfl rfl (ex_move hf rfl) (fun a hf => ?_)
                   replace hf := hf.castB (t := 201) rfl (ndec_f hc239)
                   replace hf := hf.castB (t := 202) rfl (ndec_f hc239)
                   refine stq hf rfl rfl rfl (ex_move hf rfl) (fun a hf => ?_)
                   refine stq hf rfl rfl rfl (ex_eqp Try.underlying29 hf rfl rfl) (fun a hf => ?_)
                   refine stq hf rfl rfl rfl (ex_move hf rfl) (fun a hf => ?_)
                   refine stq hf rfl rfl rfl (ex_neq hf rfl rfl) (fun a hf => ?_)
                   refine stq hf rfl rfl rfl (ex_neb Try.underlying4 hf rfl rfl) (fun a hf => ?_)
                   refine stq hf rfl rfl rfl (ex_pickF hf rfl rfl) (fun a hf => ?_)
                   refine stq hf rfl rfl rfl (ex_move hf rfl) (fun a hf => ?_)
                   replace hf := hf.castB (t := 207) rfl (nbool_f hc240)
                   replace hf := hf.castB (t := 208) rfl (nbool_f hc240)
                   replace hf := hf.castB (t := 209) rfl (nbool_f hc240)
                   refine stq hf rfl rfl rfl (ex_move hf rfl) (fun a hf => ?_)
                   refine stq hf rfl rfl rfl (ex_move hf rfl) (fun a hf => ?_)
                   refine stq hf rfl rfl rfl (ex_neq hf rfl rfl) (fun a hf => ?_)
                   refine stq hf rfl rfl rfl (ex_pickF hf rfl rfl) (fun a hf => ?_)
                   refine stq hf rfl rfl rfl (ex_move hf rfl) (fun a hf => ?_)
                   replace hf := hf.castB (t := 212) rfl (ndec_f hc241)
                   replace hf := hf.castB (t := 213) rfl (ndec_f hc241)
                   replace hf := hf.castB (t := 214) rfl (ndec_f hc241)
                   refine stq hf rfl rfl rfl (ex_move hf rfl) (fun a hf => ?_)
                   refine stq hf rfl rfl rfl (ex_move hf rfl) (fun a hf => ?_)
                   refine stq hf rfl rfl rfl (ex_neq hf rfl rfl) (fun a hf => ?_)
                   refine stq hf rfl rfl rfl (ex_pickF hf rfl rfl) (fun a hf => ?_)
                   refine stq hf rfl rfl rfl (ex_move hf rfl) (fun a hf => ?_)
                   replace hf := hf.castB (t := 217) rfl (ndec_t hc242)
                   replace hf := hf.castB (t := 218) rfl (ndec_t hc242)
                   replace hf := hf.castB (t := 219) rfl (ndec_t hc242)
                   refine stepN hf rfl rfl rfl (fun a hf => ?_)
                   refine stepN hf rfl rfl rfl (fun a hf => ?_)
                   refine stepN hf rfl rfl rfl (fun a hf => ?_)
                   refine stq hf rfl rfl rfl (ex_pickT hf rfl rfl) (fun a hf => ?_)
                   refine stq hf rfl rfl rfl (ex_move hf rfl) (fun a hf => ?_)
                   refine stepN hf rfl rfl rfl (fun a hf => ?_)
                   refine stepN hf rfl rfl rfl (fun a hf => ?_)
                   refine stepN hf rfl rfl rfl (fun a hf => ?_)
                   refine stq hf rfl rfl rfl (ex_pickT hf rfl rfl) (fun a hf => ?_)
                   refine hK246 _ _ ?_
                   replace hs := hs.keep (.d (.d (.k (.k (.k (.k .nil))))))
                   replace hs := hs.pick (.k (.c (.k (.k .nil))))
                   replace hs := hs.pick (.k (.c (.k (.k .nil))))
                   replace hs := hs.pick (.k (.k (.k (.c .nil))))
                   replace hs := hs.pick (.k (.k (.k (.c .nil))))
                   have e238 := some_eq H; subst e238
                   exact hJ238 _ _ ⟨hf.sub ⟨rfl, rfl, rfl, rfl, trivial⟩, hs⟩
                 · -- not s230.1 = s232.1
                  refine region_k (fun K247 hK247 => ?_)
                  refine stq hf rfl rfl rfl (ex_move hf rfl) (fun a hf => ?_)
                  refine stq hf rfl rfl rfl (ex_move hf rfl) (fun a hf => ?_)
                  refine stq hf rfl rfl rfl (ex_neq hf rfl rfl) (fun a hf => ?_)
                  refine stq hf rfl rfl rfl (ex_move hf rfl) (fun a hf => ?_)
                  replace hf := hf.castB (t := 201) rfl (ndec_f hc239)
                  replace hf := hf.castB (t := 202) rfl (ndec_f hc239)
                  refine stq hf rfl rfl rfl (ex_move hf rfl) (fun a hf => ?_)
                  refine stq hf rfl rfl rfl (ex_eqp Try.underlying29 hf rfl rfl) (fun a hf => ?_)
                  refine stq hf rfl rfl rfl (ex_move hf rfl) (fun a hf => ?_)
                  refine stq hf rfl rfl rfl (ex_neq hf rfl rfl) (fun a hf => ?_)
                  refine stq hf rfl rfl rfl (ex_neb Try.underlying4 hf rfl rfl) (fun a hf => ?_)
                  refine stq hf rfl rfl rfl (ex_pickF hf rfl rfl) (fun a hf => ?_)
                  refine stq hf rfl rfl rfl (ex_move hf rfl) (fun a hf => ?_)
                  replace hf := hf.castB (t := 207) rfl (nbool_f hc240)
                  replace hf := hf.castB (t := 208) rfl (nbool_f hc240)
                  replace hf := hf.castB (t := 209) rfl (nbool_f hc240)
                  refine stq hf rfl rfl rfl (ex_move hf rfl) (fun a hf => ?_)
                  refine stq hf rfl rfl rfl (ex_move hf rfl) (fun a hf => ?_)
                  refine stq hf rfl rfl rfl (ex_neq hf rfl rfl) (fun a hf => ?_)
                  refine stq hf rfl rfl rfl (ex_pickF hf rfl rfl) (fun a hf => ?_)
                  refine stq hf rfl rfl rfl (ex_move hf rfl) (fun a hf => ?_)
                  replace hf := hf.castB (t := 212) rfl (ndec_t hc241)
                  replace hf := hf.castB (t := 213) rfl (ndec_t hc241)
                  replace hf := hf.castB (t := 214) rfl (ndec_t hc241)
                  refine stepN hf rfl rfl rfl (fun a hf => ?_)
                  refine stepN hf rfl rfl rfl (fun a hf => ?_)
                  refine stepN hf rfl rfl rfl (fun a hf => ?_)
                  refine stq hf rfl rfl rfl (ex_pickT hf rfl rfl) (fun a hf => ?_)
                  refine stq hf rfl rfl rfl (ex_move hf rfl) (fun a hf => ?_)
                  refine stepN hf rfl rfl rfl (fun a hf => ?_)
                  refine stepN hf rfl rfl rfl (fun a hf => ?_)
                  refine stepN hf rfl rfl rfl (fun a hf => ?_)
                  refine stq hf rfl rfl rfl (ex_pickT hf rfl rfl) (fun a hf => ?_)
                  refine stq hf rfl rfl rfl (ex_move hf rfl) (fun a hf => ?_)
                  refine stepN hf rfl rfl rfl (fun a hf => ?_)
                  refine stepN hf rfl rfl rfl (fun a hf => ?_)
                  refine stepN hf rfl rfl rfl (fun a hf => ?_)
                  refine stq hf rfl rfl rfl (ex_pickT hf rfl rfl) (fun a hf => ?_)
                  refine hK247 _ _ ?_
                  replace hs := hs.keep (.d (.d (.k (.k (.k (.k .nil))))))
                  replace hs := hs.pick (.k (.c (.k (.k .nil))))
                  replace hs := hs.pick (.k (.c (.k (.k .nil))))
                  replace hs := hs.pick (.k (.k (.k (.c .nil))))
                  replace hs := hs.pick (.k (.k (.k (.c .nil))))
                  have e238 := some_eq H; subst e238
                  exact hJ238 _ _ ⟨hf.sub ⟨rfl, rfl, rfl, rfl, trivial⟩, hs⟩
                · -- not (true == (!decide (s217.2 = 0))) = true
                 refine region_k (fun K248 hK248 => ?_)
                 refine stq hf rfl rfl rfl (ex_move hf rfl) (fun a hf => ?_)
                 refine stq hf rfl rfl rfl (ex_move hf rfl) (fun a hf => ?_)
                 refine stq hf rfl rfl rfl (ex_neq hf rfl rfl) (fun a hf => ?_)
                 refine stq hf rfl rfl rfl (ex_move hf rfl) (fun a hf => ?_)
                 replace hf := hf.castB (t := 201) rfl (ndec_f hc239)
                 replace hf := hf.castB (t := 202) rfl (ndec_f hc239)
                 refine stq hf rfl rfl rfl (ex_move hf rfl) (fun a hf => ?_)
                 refine stq hf rfl rfl rfl (ex_eqp Try.underlying29 hf rfl rfl) (fun a hf => ?_)
                 refine stq hf rfl rfl rfl (ex_move hf rfl) (fun a hf => ?_)
                 refine stq hf rfl rfl rfl (ex_neq hf rfl rfl) (fun a hf => ?_)
                 refine stq hf rfl rfl rfl (ex_neb Try.underlying4 hf rfl rfl) (fun a hf => ?_)
                 refine stq hf rfl rfl rfl (ex_pickF hf rfl rfl) (fun a hf => ?_)
                 refine stq hf rfl rfl rfl (ex_move hf rfl) (fun a hf => ?_)
                 replace hf := hf.castB (t := 207) rfl (nbool_t hc240)
                 replace hf := hf.castB (t := 208) rfl (nbool_t hc240)
                 replace hf := hf.castB (t := 209) rfl (nbool_t hc240)
                 refine stepN hf rfl rfl rfl (fun a hf => ?_)
                 refine stepN hf rfl rfl rfl (fun a hf => ?_)
                 refine stepN hf rfl rfl rfl (fun a hf => ?_)
                 refine stq hf rfl rfl rfl (ex_pickT hf rfl rfl) (fun a hf => ?_)
                 refine stq hf rfl rfl rfl (ex_move hf rfl) (fun a hf => ?_)
                 refine stepN hf rfl rfl rfl (fun a hf => ?_)
                 refine stepN hf rfl rfl rfl (fun a hf => ?_)
                 refine stepN hf rfl rfl rfl (fun a hf => ?_)
                 refine stq hf rfl rfl rfl (ex_pickT hf rfl rfl) (fun a hf => ?_)
                 refine stq hf rfl rfl rfl (ex_move hf rfl) (fun a hf => ?_)
                 refine stepN hf rfl rfl rfl (fun a hf => ?_)
                 refine stepN hf rfl rfl rfl (fun a hf => ?_)
                 refine stepN hf rfl rfl rfl (fun a hf => ?_)
                 refine stq hf rfl rfl rfl (ex_pickT hf rfl rfl) (fun a hf => ?_)
                 refine stq hf rfl rfl rfl (ex_move hf rfl) (fun a hf => ?_)
                 refine stepN hf rfl rfl rfl (fun a hf => ?_)
                 refine stepN hf rfl rfl rfl (fun a hf => ?_)
                 refine stepN hf rfl rfl rfl (fun a hf => ?_)
                 refine stq hf rfl rfl rfl (ex_pickT hf rfl rfl) (fun a hf => ?_)
                 refine hK248 _ _ ?_
                 replace hs := hs.keep (.d (.d (.k (.k (.k (.k .nil))))))
                 replace hs := hs.pick (.k (.c (.k (.k .nil))))
                 replace hs := hs.pick (.k (.c (.k (.k .nil))))
                 replace hs := hs.pick (.k (.k (.k (.c .nil))))
                 replace hs := hs.pick (.k (.k (.k (.c .nil))))
                 have e238 := some_eq H; subst e238
                 exact hJ238 _ _ ⟨hf.sub ⟨rfl, rfl, rfl, rfl, trivial⟩, hs⟩
               · -- not s217.2 = x220
                refine region_k (fun K249 hK249 => ?_)
                refine stq hf rfl rfl rfl (ex_move hf rfl) (fun a hf => ?_)
                refine stq hf rfl rfl rfl (ex_move hf rfl) (fun a hf => ?_)
                refine stq hf rfl rfl rfl (ex_neq hf rfl rfl) (fun a hf => ?_)
                refine stq hf rfl rfl rfl (ex_move hf rfl) (fun a hf => ?_)
                replace hf := hf.castB (t := 201) rfl (ndec_t hc239)
                replace hf := hf.castB (t := 202) rfl (ndec_t hc239)
                refine stepN hf rfl rfl rfl (fun a hf => ?_)
                refine stepN hf rfl rfl rfl (fun a hf => ?_)
                refine stepN hf rfl rfl rfl (fun a hf => ?_)
                refine stepN hf rfl rfl rfl (fun a hf => ?_)
                refine stepN hf rfl rfl rfl (fun a hf => ?_)
                refine stq hf rfl rfl rfl (ex_pickT hf rfl rfl) (fun a hf => ?_)
                refine stq hf rfl rfl rfl (ex_move hf rfl) (fun a hf => ?_)
                refine stepN hf rfl rfl rfl (fun a hf => ?_)
                refine stepN hf rfl rfl rfl (fun a hf => ?_)
                refine stepN hf rfl rfl rfl (fun a hf => ?_)
                refine stq hf rfl rfl rfl (ex_pickT hf rfl rfl) (fun a hf => ?_)
                refine stq hf rfl rfl rfl (ex_move hf rfl) (fun a hf => ?_)
                refine stepN hf rfl rfl rfl (fun a hf => ?_)
                refine stepN hf rfl rfl rfl (fun a hf => ?_)
                refine stepN hf rfl rfl rfl (fun a hf => ?_)
                refine stq hf rfl rfl rfl (ex_pickT hf rfl rfl) (fun a hf => ?_)
                refine stq hf rfl rfl rfl (ex_move hf rfl) (fun a hf => ?_)
                refine stepN hf rfl rfl rfl (fun a hf => ?_)
                refine stepN hf rfl rfl rfl (fun a hf => ?_)
                refine stepN hf rfl rfl rfl (fun a hf => ?_)
                refine stq hf rfl rfl rfl (ex_pickT hf rfl rfl) (fun a hf => ?_)
                refine stq hf rfl rfl rfl (ex_move hf rfl) (fun a hf => ?_)
                refine stepN hf rfl rfl rfl (fun a hf => ?_)
                refine stepN hf rfl rfl rfl (fun a hf => ?_)
                refine stepN hf rfl rfl rfl (fun a hf => ?_)
                refine stq hf rfl rfl rfl (ex_pickT hf rfl rfl) (fun a hf => ?_)
                refine hK249 _ _ ?_
                replace hs := hs.keep (.d (.d (.k (.k (.k (.k .nil))))))
                replace hs := hs.pick (.k (.c (.k (.k .nil))))
                replace hs := hs.pick (.k (.c (.k (.k .nil))))
                replace hs := hs.pick (.k (.k (.k (.c .nil))))
                replace hs := hs.pick (.k (.k (.k (.c .nil))))
                have e238 := some_eq H; subst e238
                exact hJ238 _ _ ⟨hf.sub ⟨rfl, rfl, rfl, rfl, trivial⟩, hs⟩
              ·
               obtain ⟨hf, hs⟩ := hJ
               replace H := HO238
               clear HO238
               refine itt H (fun hc250 H => ?_) (fun hc250 H => ?_)
               · -- x238 = true
                replace hf := hf.castB (t := 228) rfl hc250
                refine cond_T hf rfl ?_
                refine seq_reg (fun K251 hK251 => ?_)
                refine stq hf rfl rfl rfl (ex_assign hf rfl) (fun a hf => ?_)
                refine hK251 _ _ ?_
                refine wp_ret ?_
                refine hR60 _ _ ?_
                have e59 := some_eq H; subst e59; replace H := el_rt HO59
                refine hR59 _ _ ?_
                refine hR55 _ _ ?_
                refine hR52 _ _ ?_
                have e50 := some_eq H; subst e50; replace H := el_rt HO50
                refine hR50 _ _ ?_
                have eR := some_eq H; subst eR
                replace hs := hs.keep (.d (.d (.d (.d .nil))))
                exact ret1 Try.results8 hf rfl ⟨_, rfl, ⟨rfl, hs⟩⟩
               · -- not x238 = true
                replace hf := hf.castB (t := 228) rfl (bool_f hc250)
                refine cond_F hf rfl ?_
                refine wp_skip ?_
                refine hN60 _ _ ?_
                have e59 := some_eq H; subst e59
                exact hJ59 _ _ ⟨_, rfl, hf.sub ⟨rfl, rfl, rfl, trivial⟩, hs⟩
            | some c218 =>
             replace H := elim_s hps217 H
             refine region_k (fun K256 hK256 => ?_)
             refine stq hf rfl rfl rfl (ex_fieldAddrB fa_27_0 rfl hf rfl) (fun a hf => ?_)
             refine stq hf rfl rfl rfl (ex_load sc_22 hf rfl (bx_cell (hs.get (i := 0) rfl) _ rfl)) (fun a hf => ?_)
             refine stq hf rfl rfl rfl (ex_fieldAddrB fa_27_1 rfl hf rfl) (fun a hf => ?_)
             refine stq hf rfl rfl rfl (ex_load sc_23 hf rfl (bx_cell (hs.get (i := 0) rfl) _ rfl)) (fun a hf => ?_)
             refine stq hf rfl rfl rfl (ex_fieldAddrB fa_27_2 rfl hf rfl) (fun a hf => ?_)
             refine stq hf rfl rfl rfl (ex_load sc_2 hf rfl (bx_cell (hs.get (i := 0) rfl) _ rfl)) (fun a hf => ?_)
             refine stepF hf rfl rfl rfl (ex_call cf_13 hf rfl) (heat_New.calls k55 x24.1 x24.2.1 x24.2.2 v18 v25 (hs.enter (.k (.k (.k (.k (.k .nil)))))) (Sr.own hs (.k (.k (.k (.k (.k .nil))))) (i := 3) rfl osl_rsl (fun _ h => h.1) (Sr.own hs (.k (.k (.k (.k (.k .nil))))) (i := 4) rfl osl_rsl (fun _ h => h.1) (Sr.nil _ _))) hs217) (fun v w hR a hf => ?_)
             obtain ⟨hc', _⟩ | ⟨cc, hc', b252, v253, v254, v255, rfl, hs'⟩ := hR
             case inl => rw [hps217] at hc'; cases hc'
             obtain rfl : c218 = cc := by rw [hps217] at hc'; exact Option.some.inj hc'
             replace hs := hs.step (.k (.k (.k (.k (.k .nil))))) hs'
             clear hs'
             refine stq hf rfl rfl rfl (ex_move hf rfl) (fun a hf => ?_)
             refine stq hf rfl rfl rfl (ex_extract hf rfl rfl) (fun a hf => ?_)
             refine stq hf rfl rfl rfl (ex_extract hf rfl rfl) (fun a hf => ?_)
             refine stq hf rfl rfl rfl (ex_assign hf rfl) (fun a hf => ?_)
             refine stq hf rfl rfl rfl (ex_assign hf rfl) (fun a hf => ?_)
             refine hK256 _ _ ?_
             refine hN216 _ _ ?_
             refine bnd H (fun x257 H257 HO257 => ?_)
             clear H
             refine seq_cut (fun a w => Fr a 231 [(3, v3), (19, .pointer (some ⟨b214, 0, none⟩)), (20, .pointer (some ⟨b252, 0, none⟩)), (21, .int .i64 s217.2), (23, .int .i64 x257), (126, .agg #[v0, v1, .int .i64 a2, v13, v14, .int .i64 s12.2.2, v18, v25, .int .i64 x24.2.2]), (127, .int .i64 y53)] ∧ St M w0 w [bx b214 27 [v18, v25, .int .i64 x24.2.2], osl K_api_HeatDomain v18 x24.1, osl K_api_HeatLink v25 x24.2.1, bx b252 64 [v253, v254, .int .i64 c218.2.2.1, v255, .int .i64 c218.2.2.2.2], osl K_api_HeatDomain v253 c218.1, osl K_api_HeatLink v254 c218.2.1, osl K_int64 v255 c218.2.2.2.1, osl K_api_HeatDomain v13 s12.1, osl K_api_HeatLink v14 s12.2.1]) (fun Q257 hJ257 hR257 hX257 => ?_) (fun a w hJ => ?_)
             ·
              replace H := H257
              refine bnd H (fun s258 hs258 H => ?_)
              cases hps258 : s258.1 with
              | none =>
               replace H := elim_n hps258 H
               refine region_k (fun K260 hK260 => ?_)
               refine stq hf rfl rfl rfl (ex_fieldAddrB fa_27_0 rfl hf rfl) (fun a hf => ?_)
               refine stq hf rfl rfl rfl (ex_load sc_22 hf rfl (bx_cell (hs.get (i := 4) rfl) _ rfl)) (fun a hf => ?_)
               refine stq hf rfl rfl rfl (ex_fieldAddrB fa_27_1 rfl hf rfl) (fun a hf => ?_)
               refine stq hf rfl rfl rfl (ex_load sc_23 hf rfl (bx_cell (hs.get (i := 4) rfl) _ rfl)) (fun a hf => ?_)
               refine stq hf rfl rfl rfl (ex_fieldAddrB fa_27_2 rfl hf rfl) (fun a hf => ?_)
               refine stq hf rfl rfl rfl (ex_load sc_2 hf rfl (bx_cell (hs.get (i := 4) rfl) _ rfl)) (fun a hf => ?_)
               refine stepF hf rfl rfl rfl (ex_call cf_20 hf rfl) (ref38_New.calls k55 x24.1 x24.2.1 x24.2.2 v18 v25 (hs.enter (.k (.k (.k (.k (.k (.k (.k (.k (.k .nil)))))))))) (Sr.own hs (.k (.k (.k (.k (.k (.k (.k (.k (.k .nil))))))))) (i := 7) rfl osl_rsl (fun _ h => h.1) (Sr.own hs (.k (.k (.k (.k (.k (.k (.k (.k (.k .nil))))))))) (i := 8) rfl osl_rsl (fun _ h => h.1) (Sr.nil _ _))) hs258) (fun v w hR a hf => ?_)
               obtain ⟨_, rfl, hs'⟩ | ⟨_, hc', _⟩ := hR
               case inr => rw [hps258] at hc'; cases hc'
               replace hs := hs.step (.k (.k (.k (.k (.k (.k (.k (.k (.k .nil))))))))) hs'
               clear hs'
               refine stq hf rfl rfl rfl (ex_move hf rfl) (fun a hf => ?_)
               refine stq hf rfl rfl rfl (ex_extract hf rfl rfl) (fun a hf => ?_)
               refine stq hf rfl rfl rfl (ex_extract hf rfl rfl) (fun a hf => ?_)
               refine stq hf rfl rfl rfl (ex_assign hf rfl) (fun a hf => ?_)
               refine stq hf rfl rfl rfl (ex_assign hf rfl) (fun a hf => ?_)
               refine hK260 _ _ ?_
               replace hs := hs.pick (.k (.k (.k (.k (.k (.k (.c (.k (.k .nil)))))))))
               replace hs := hs.pick (.k (.k (.k (.k (.k (.k (.c (.k (.k .nil)))))))))
               replace hs := hs.pick (.k (.k (.k (.k (.k (.c (.k (.k (.k .nil)))))))))
               replace hs := hs.pick (.k (.k (.k (.k (.k (.c (.k (.k (.k .nil)))))))))
               replace hs := hs.pick (.k (.k (.k (.k (.k (.c (.k (.k (.k .nil)))))))))
               replace hs := hs.pick (.k (.k (.k (.k (.k (.c (.k (.k (.k .nil)))))))))
               replace hs := hs.pick (.k (.k (.k (.k (.k (.k (.k (.k (.c .nil)))))))))
               replace hs := hs.pick (.k (.k (.k (.k (.k (.k (.k (.k (.c .nil)))))))))
               replace hs := hs.pick (.k (.k (.k (.k (.k (.k (.k (.k (.c .nil)))))))))
               have e257 := some_eq H; subst e257
               exact hJ257 _ _ ⟨hf.sub ⟨rfl, rfl, rfl, rfl, rfl, rfl, rfl, trivial⟩, hs⟩
              | some c259 =>
               replace H := elim_s hps258 H
               refine region_k (fun K263 hK263 => ?_)
               refine stq hf rfl rfl rfl (ex_fieldAddrB fa_27_0 rfl hf rfl) (fun a hf => ?_)
               refine stq hf rfl rfl rfl (ex_load sc_22 hf rfl (bx_cell (hs.get (i := 4) rfl) _ rfl)) (fun a hf => ?_)
               refine stq hf rfl rfl rfl (ex_fieldAddrB fa_27_1 rfl hf rfl) (fun a hf => ?_)
               refine stq hf rfl rfl rfl (ex_load sc_23 hf rfl (bx_cell (hs.get (i := 4) rfl) _ rfl)) (fun a hf => ?_)
               refine stq hf rfl rfl rfl (ex_fieldAddrB fa_27_2 rfl hf rfl) (fun a hf => ?_)
               refine stq hf rfl rfl rfl (ex_load sc_2 hf rfl (bx_cell (hs.get (i := 4) rfl) _ rfl)) (fun a hf => ?_)
               refine stepF hf rfl rfl rfl (ex_call cf_20 hf rfl) (ref38_New.calls k55 x24.1 x24.2.1 x24.2.2 v18 v25 (hs.enter (.k (.k (.k (.k (.k (.k (.k (.k (.k .nil)))))))))) (Sr.own hs (.k (.k (.k (.k (.k (.k (.k (.k (.k .nil))))))))) (i := 7) rfl osl_rsl (fun _ h => h.1) (Sr.own hs (.k (.k (.k (.k (.k (.k (.k (.k (.k .nil))))))))) (i := 8) rfl osl_rsl (fun _ h => h.1) (Sr.nil _ _))) hs258) (fun v w hR a hf => ?_)
               obtain ⟨hc', _⟩ | ⟨cc, hc', b261, v262, rfl, hs'⟩ := hR
               case inl => rw [hps258] at hc'; cases hc'
               obtain rfl : c259 = cc := by rw [hps258] at hc'; exact Option.some.inj hc'
               replace hs := hs.step (.k (.k (.k (.k (.k (.k (.k (.k (.k .nil))))))))) hs'
               clear hs'
               refine stq hf rfl rfl rfl (ex_move hf rfl) (fun a hf => ?_)
               refine stq hf rfl rfl rfl (ex_extract hf rfl rfl) (fun a hf => ?_)
               refine stq hf rfl rfl rfl (ex_extract hf rfl rfl) (fun a hf => ?_)
               refine stq hf rfl rfl rfl (ex_assign hf rfl) (fun a hf => ?_)
               refine stq hf rfl rfl rfl (ex_assign hf rfl) (fun a hf => ?_)
               refine hK263 _ _ ?_
               replace hs := hs.keep (.d (.d (.k (.k (.k (.k (.k (.k (.k (.k (.k .nil)))))))))))
               replace hs := hs.pick (.k (.k (.k (.k (.k (.k (.c (.k (.k .nil)))))))))
               replace hs := hs.pick (.k (.k (.k (.k (.k (.k (.c (.k (.k .nil)))))))))
               replace hs := hs.pick (.k (.k (.k (.k (.k (.c (.k (.k (.k .nil)))))))))
               replace hs := hs.pick (.k (.k (.k (.k (.k (.c (.k (.k (.k .nil)))))))))
               replace hs := hs.pick (.k (.k (.k (.k (.k (.c (.k (.k (.k .nil)))))))))
               replace hs := hs.pick (.k (.k (.k (.k (.k (.c (.k (.k (.k .nil)))))))))
               replace hs := hs.pick (.k (.k (.k (.k (.k (.k (.k (.k (.c .nil)))))))))
               replace hs := hs.pick (.k (.k (.k (.k (.k (.k (.k (.k (.c .nil)))))))))
               replace hs := hs.pick (.k (.k (.k (.k (.k (.k (.k (.k (.c .nil)))))))))
               have e257 := some_eq H; subst e257
               exact hJ257 _ _ ⟨hf.sub ⟨rfl, rfl, rfl, rfl, rfl, rfl, rfl, trivial⟩, hs⟩
             ·
              obtain ⟨hf, hs⟩ := hJ
              replace H := HO257
              clear HO257
              refine bnd H (fun s264 hs264 H => ?_)
              refine seq_reg (fun K266 hK266 => ?_)
              refine stq hf rfl rfl rfl (ex_move hf rfl) (fun a hf => ?_)
              refine stq hf rfl rfl rfl (ex_fieldAddrB fa_27_0 rfl hf rfl) (fun a hf => ?_)
              refine stq hf rfl rfl rfl (ex_load sc_22 hf rfl (bx_cell (hs.get (i := 0) rfl) _ rfl)) (fun a hf => ?_)
              refine stq hf rfl rfl rfl (ex_lenS Try.underlying22 (rsl_isSl (osl_rsl _ (hs.get (i := 1) rfl))) hf rfl) (fun a hf => ?_)
              refine stepF hf rfl rfl rfl (ex_call cf_14 hf rfl) (law38_Powers.calls k55 a3 (x24.1.length : Int) 200 v3 (hs.enter (.k (.k (.k (.k (.k (.k (.k (.k (.k .nil)))))))))) (Sr.old hr hs (.k (.k (.k (.k (.k (.k (.k (.k (.k .nil))))))))) (i := 2) rfl (fun _ h => h) (fun _ h => h) (Sr.nil _ _)) hs264) (fun v w hR a hf => ?_)
              obtain ⟨v265, rfl, hs'⟩ := hR
              replace hs := hs.step (.k (.k (.k (.k (.k (.k (.k (.k (.k .nil))))))))) hs'
              clear hs'
              refine stq hf rfl rfl rfl (ex_assign hf rfl) (fun a hf => ?_)
              refine hK266 _ _ ?_
              refine bnd H (fun s267 hs267 H => ?_)
              refine seq_reg (fun K268 hK268 => ?_)
              refine stq hf rfl rfl rfl (ex_fieldAddrB fa_27_0 rfl hf rfl) (fun a hf => ?_)
              refine stq hf rfl rfl rfl (ex_load sc_22 hf rfl (bx_cell (hs.get (i := 1) rfl) _ rfl)) (fun a hf => ?_)
              refine stq hf rfl rfl rfl (ex_fieldAddrB fa_27_1 rfl hf rfl) (fun a hf => ?_)
              refine stq hf rfl rfl rfl (ex_load sc_23 hf rfl (bx_cell (hs.get (i := 1) rfl) _ rfl)) (fun a hf => ?_)
              refine stq hf rfl rfl rfl (ex_fieldAddrB fa_27_2 rfl hf rfl) (fun a hf => ?_)
              refine stq hf rfl rfl rfl (ex_load sc_2 hf rfl (bx_cell (hs.get (i := 1) rfl) _ rfl)) (fun a hf => ?_)
              refine stq hf rfl rfl rfl (ex_move hf rfl) (fun a hf => ?_)
              refine stepF hf rfl rfl rfl (ex_call cf_27 hf rfl) (heat_Bound.calls k55 x24.1 x24.2.1 x24.2.2 s264 v18 v25 v265 (hs.enter (.k (.k (.k (.k (.k (.k (.k (.k (.k (.k .nil))))))))))) (Sr.own hs (.k (.k (.k (.k (.k (.k (.k (.k (.k (.k .nil)))))))))) (i := 2) rfl osl_rsl (fun _ h => h.1) (Sr.own hs (.k (.k (.k (.k (.k (.k (.k (.k (.k (.k .nil)))))))))) (i := 3) rfl osl_rsl (fun _ h => h.1) (Sr.own hs (.k (.k (.k (.k (.k (.k (.k (.k (.k (.k .nil)))))))))) (i := 0) rfl osl_rsl (fun _ h => h.1) (Sr.nil _ _)))) hs267) (fun v w hR a hf => ?_)
              obtain ⟨rfl, hs'⟩ := hR
              replace hs := hs.step (.k (.k (.k (.k (.k (.k (.k (.k (.k (.k .nil)))))))))) hs'
              clear hs'
              refine stq hf rfl rfl rfl (ex_move hf rfl) (fun a hf => ?_)
              refine stq hf rfl rfl rfl (ex_extract hf rfl rfl) (fun a hf => ?_)
              refine stq hf rfl rfl rfl (ex_extract hf rfl rfl) (fun a hf => ?_)
              refine stq hf rfl rfl rfl (ex_assign hf rfl) (fun a hf => ?_)
              refine stq hf rfl rfl rfl (ex_assign hf rfl) (fun a hf => ?_)
              refine hK268 _ _ ?_
              refine bnd H (fun s269 hs269 H => ?_)
              refine seq_reg (fun K270 hK270 => ?_)
              refine stq hf rfl rfl rfl (ex_fieldAddrB fa_27_0 rfl hf rfl) (fun a hf => ?_)
              refine stq hf rfl rfl rfl (ex_load sc_22 hf rfl (bx_cell (hs.get (i := 1) rfl) _ rfl)) (fun a hf => ?_)
              refine stq hf rfl rfl rfl (ex_fieldAddrB fa_27_1 rfl hf rfl) (fun a hf => ?_)
              refine stq hf rfl rfl rfl (ex_load sc_23 hf rfl (bx_cell (hs.get (i := 1) rfl) _ rfl)) (fun a hf => ?_)
              refine stq hf rfl rfl rfl (ex_fieldAddrB fa_27_2 rfl hf rfl) (fun a hf => ?_)
              refine stq hf rfl rfl rfl (ex_load sc_2 hf rfl (bx_cell (hs.get (i := 1) rfl) _ rfl)) (fun a hf => ?_)
              refine stq hf rfl rfl rfl (ex_move hf rfl) (fun a hf => ?_)
              refine stepF hf rfl rfl rfl (ex_call cf_28 hf rfl) (ref38_Bound.calls k55 x24.1 x24.2.1 x24.2.2 s264 v18 v25 v265 (hs.enter (.k (.k (.k (.k (.k (.k (.k (.k (.k (.k .nil))))))))))) (Sr.own hs (.k (.k (.k (.k (.k (.k (.k (.k (.k (.k .nil)))))))))) (i := 2) rfl osl_rsl (fun _ h => h.1) (Sr.own hs (.k (.k (.k (.k (.k (.k (.k (.k (.k (.k .nil)))))))))) (i := 3) rfl osl_rsl (fun _ h => h.1) (Sr.own hs (.k (.k (.k (.k (.k (.k (.k (.k (.k (.k .nil)))))))))) (i := 0) rfl osl_rsl (fun _ h => h.1) (Sr.nil _ _)))) hs269) (fun v w hR a hf => ?_)
              obtain ⟨rfl, hs'⟩ := hR
              replace hs := hs.step (.k (.k (.k (.k (.k (.k (.k (.k (.k (.k .nil)))))))))) hs'
              clear hs'
              refine stq hf rfl rfl rfl (ex_move hf rfl) (fun a hf => ?_)
              refine stq hf rfl rfl rfl (ex_extract hf rfl rfl) (fun a hf => ?_)
              refine stq hf rfl rfl rfl (ex_extract hf rfl rfl) (fun a hf => ?_)
              refine stq hf rfl rfl rfl (ex_assign hf rfl) (fun a hf => ?_)
              refine stq hf rfl rfl rfl (ex_assign hf rfl) (fun a hf => ?_)
              refine hK270 _ _ ?_
              refine bnd H (fun s271 hs271 H => ?_)
              refine seq_reg (fun K272 hK272 => ?_)
              refine stq hf rfl rfl rfl (ex_fieldAddrB fa_27_0 rfl hf rfl) (fun a hf => ?_)
              refine stq hf rfl rfl rfl (ex_load sc_22 hf rfl (bx_cell (hs.get (i := 1) rfl) _ rfl)) (fun a hf => ?_)
              refine stq hf rfl rfl rfl (ex_fieldAddrB fa_27_1 rfl hf rfl) (fun a hf => ?_)
              refine stq hf rfl rfl rfl (ex_load sc_23 hf rfl (bx_cell (hs.get (i := 1) rfl) _ rfl)) (fun a hf => ?_)
              refine stq hf rfl rfl rfl (ex_fieldAddrB fa_27_2 rfl hf rfl) (fun a hf => ?_)
              refine stq hf rfl rfl rfl (ex_load sc_2 hf rfl (bx_cell (hs.get (i := 1) rfl) _ rfl)) (fun a hf => ?_)
              refine stq hf rfl rfl rfl (ex_move hf rfl) (fun a hf => ?_)
              refine stepF hf rfl rfl rfl (ex_call cf_27 hf rfl) (heat_Bound.calls k55 x24.1 x24.2.1 x24.2.2 a3 v18 v25 v3 (hs.enter (.k (.k (.k (.k (.k (.k (.k (.k (.k (.k .nil))))))))))) (Sr.own hs (.k (.k (.k (.k (.k (.k (.k (.k (.k (.k .nil)))))))))) (i := 2) rfl osl_rsl (fun _ h => h.1) (Sr.own hs (.k (.k (.k (.k (.k (.k (.k (.k (.k (.k .nil)))))))))) (i := 3) rfl osl_rsl (fun _ h => h.1) (Sr.old hr hs (.k (.k (.k (.k (.k (.k (.k (.k (.k (.k .nil)))))))))) (i := 2) rfl (fun _ h => h) (fun _ h => h) (Sr.nil _ _)))) hs271) (fun v w hR a hf => ?_)
              obtain ⟨rfl, hs'⟩ := hR
              replace hs := hs.step (.k (.k (.k (.k (.k (.k (.k (.k (.k (.k .nil)))))))))) hs'
              clear hs'
              refine stq hf rfl rfl rfl (ex_move hf rfl) (fun a hf => ?_)
              refine stq hf rfl rfl rfl (ex_extract hf rfl rfl) (fun a hf => ?_)
              refine stq hf rfl rfl rfl (ex_extract hf rfl rfl) (fun a hf => ?_)
              refine stq hf rfl rfl rfl (ex_assign hf rfl) (fun a hf => ?_)
              refine stq hf rfl rfl rfl (ex_assign hf rfl) (fun a hf => ?_)
              refine hK272 _ _ ?_
              refine bnd H (fun s273 hs273 H => ?_)
              refine seq_reg (fun K274 hK274 => ?_)
              refine stq hf rfl rfl rfl (ex_fieldAddrB fa_27_0 rfl hf rfl) (fun a hf => ?_)
              refine stq hf rfl rfl rfl (ex_load sc_22 hf rfl (bx_cell (hs.get (i := 1) rfl) _ rfl)) (fun a hf => ?_)
              refine stq hf rfl rfl rfl (ex_fieldAddrB fa_27_1 rfl hf rfl) (fun a hf => ?_)
              refine stq hf rfl rfl rfl (ex_load sc_23 hf rfl (bx_cell (hs.get (i := 1) rfl) _ rfl)) (fun a hf => ?_)
              refine stq hf rfl rfl rfl (ex_fieldAddrB fa_27_2 rfl hf rfl) (fun a hf => ?_)
              refine stq hf rfl rfl rfl (ex_load sc_2 hf rfl (bx_cell (hs.get (i := 1) rfl) _ rfl)) (fun a hf => ?_)
              refine stq hf rfl rfl rfl (ex_move hf rfl) (fun a hf => ?_)
              refine stepF hf rfl rfl rfl (ex_call cf_28 hf rfl) (ref38_Bound.calls k55 x24.1 x24.2.1 x24.2.2 a3 v18 v25 v3 (hs.enter (.k (.k (.k (.k (.k (.k (.k (.k (.k (.k .nil))))))))))) (Sr.own hs (.k (.k (.k (.k (.k (.k (.k (.k (.k (.k .nil)))))))))) (i := 2) rfl osl_rsl (fun _ h => h.1) (Sr.own hs (.k (.k (.k (.k (.k (.k (.k (.k (.k (.k .nil)))))))))) (i := 3) rfl osl_rsl (fun _ h => h.1) (Sr.old hr hs (.k (.k (.k (.k (.k (.k (.k (.k (.k (.k .nil)))))))))) (i := 2) rfl (fun _ h => h) (fun _ h => h) (Sr.nil _ _)))) hs273) (fun v w hR a hf => ?_)
              obtain ⟨rfl, hs'⟩ := hR
              replace hs := hs.step (.k (.k (.k (.k (.k (.k (.k (.k (.k (.k .nil)))))))))) hs'
              clear hs'
              refine stq hf rfl rfl rfl (ex_move hf rfl) (fun a hf => ?_)
              refine stq hf rfl rfl rfl (ex_extract hf rfl rfl) (fun a hf => ?_)
              refine stq hf rfl rfl rfl (ex_extract hf rfl rfl) (fun a hf => ?_)
              refine stq hf rfl rfl rfl (ex_assign hf rfl) (fun a hf => ?_)
              refine stq hf rfl rfl rfl (ex_assign hf rfl) (fun a hf => ?_)
              refine hK274 _ _ ?_
              refine bnd H (fun x275 H275 HO275 => ?_)
              clear H
              refine seq_cut (fun a w => Fr a 231 [(3, v3), (126, .agg #[v0, v1, .int .i64 a2, v13, v14, .int .i64 s12.2.2, v18, v25, .int .i64 x24.2.2]), (127, .int .i64 y53), (228, .bool x275)] ∧ St M w0 w [osl K_api_HeatDomain v13 s12.1, osl K_api_HeatLink v14 s12.2.1, osl K_api_HeatDomain v18 x24.1, osl K_api_HeatLink v25 x24.2.1]) (fun Q275 hJ275 hR275 hX275 => ?_) (fun a w hJ => ?_)
              ·
               replace H := H275
               refine itt H (fun hc276 H => ?_) (fun hc276 H => ?_)
               · -- s217.2 = x257
                refine itt H (fun hc277 H => ?_) (fun hc277 H => ?_)
                · -- (false == (!decide (s217.2 = 0))) = true
                 refine itt H (fun hc278 H => ?_) (fun hc278 H => ?_)
                 · -- s267.1 = s269.1
                  refine itt H (fun hc279 H => ?_) (fun hc279 H => ?_)
                  · -- s267.2 = s269.2
                   refine itt H (fun hc280 H => ?_) (fun hc280 H => ?_)
                   · -- s271.1 = s273.1
                    refine region_k (fun K281 hK281 => ?_)
                    refine stq hf rfl rfl rfl (ex_move hf rfl) (fun a hf => ?_)
                    refine stq hf rfl rfl rfl (ex_move hf rfl) (fun a hf => ?_)
                    refine stq hf rfl rfl rfl (ex_neq hf rfl rfl) (fun a hf => ?_)
                    refine stq hf rfl rfl rfl (ex_move hf rfl) (fun a hf => ?_)
                    replace hf := hf.castB (t := 201) rfl (ndec_f hc276)
                    replace hf := hf.castB (t := 202) rfl (ndec_f hc276)
                    refine stq hf rfl rfl rfl (ex_move hf rfl) (fun a hf => ?_)
                    refine stq hf rfl rfl rfl (ex_eqp Try.underlying29 hf rfl rfl) (fun a hf => ?_)
                    refine stq hf rfl rfl rfl (ex_move hf rfl) (fun a hf => ?_)
                    refine stq hf rfl rfl rfl (ex_neq hf rfl rfl) (fun a hf => ?_)
                    refine stq hf rfl rfl rfl (ex_neb Try.underlying4 hf rfl rfl) (fun a hf => ?_)
                    refine stq hf rfl rfl rfl (ex_pickF hf rfl rfl) (fun a hf => ?_)
                    refine stq hf rfl rfl rfl (ex_move hf rfl) (fun a hf => ?_)
                    replace hf := hf.castB (t := 207) rfl (nbool_f hc277)
                    replace hf := hf.castB (t := 208) rfl (nbool_f hc277)
                    replace hf := hf.castB (t := 209) rfl (nbool_f hc277)
                    refine stq hf rfl rfl rfl (ex_move hf rfl) (fun a hf => ?_)
                    refine stq hf rfl rfl rfl (ex_move hf rfl) (fun a hf => ?_)
                    refine stq hf rfl rfl rfl (ex_neq hf rfl rfl) (fun a hf => ?_)
                    refine stq hf rfl rfl rfl (ex_pickF hf rfl rfl) (fun a hf => ?_)
                    refine stq hf rfl rfl rfl (ex_move hf rfl) (fun a hf => ?_)
                    replace hf := hf.castB (t := 212) rfl (ndec_f hc278)
                    replace hf := hf.castB (t := 213) rfl (ndec_f hc278)
                    replace hf := hf.castB (t := 214) rfl (ndec_f hc278)
                    refine stq hf rfl rfl rfl (ex_move hf rfl) (fun a hf => ?_)
                    refine stq hf rfl rfl rfl (ex_move hf rfl) (fun a hf => ?_)
                    refine stq hf rfl rfl rfl (ex_neq hf rfl rfl) (fun a hf => ?_)
                    refine stq hf rfl rfl rfl (ex_pickF hf rfl rfl) (fun a hf => ?_)
                    refine stq hf rfl rfl rfl (ex_move hf rfl) (fun a hf => ?_)
                    replace hf := hf.castB (t := 217) rfl (ndec_f hc279)
                    replace hf := hf.castB (t := 218) rfl (ndec_f hc279)
                    replace hf := hf.castB (t := 219) rfl (ndec_f hc279)
                    refine stq hf rfl rfl rfl (ex_move hf rfl) (fun a hf => ?_)
                    refine stq hf rfl rfl rfl (ex_move hf rfl) (fun a hf => ?_)
                    refine stq hf rfl rfl rfl (ex_neq hf rfl rfl) (fun a hf => ?_)
                    refine stq hf rfl rfl rfl (ex_pickF hf rfl rfl) (fun a hf => ?_)
                    refine stq hf rfl rfl rfl (ex_move hf rfl) (fun a hf => ?_)
                    replace hf := hf.castB (t := 222) rfl (ndec_f hc280)
                    replace hf := hf.castB (t := 223) rfl (ndec_f hc280)
                    replace hf := hf.castB (t := 224) rfl (ndec_f hc280)
                    refine stq hf rfl rfl rfl (ex_move hf rfl) (fun a hf => ?_)
                    refine stq hf rfl rfl rfl (ex_move hf rfl) (fun a hf => ?_)
                    refine stq hf rfl rfl rfl (ex_neq hf rfl rfl) (fun a hf => ?_)
                    refine stq hf rfl rfl rfl (ex_pickF hf rfl rfl) (fun a hf => ?_)
                    refine hK281 _ _ ?_
                    replace hs := hs.keep (.d (.d (.k (.k (.d (.d (.d (.d (.k (.k .nil))))))))))
                    replace hs := hs.pick (.k (.c (.k (.k .nil))))
                    replace hs := hs.pick (.k (.c (.k (.k .nil))))
                    replace hs := hs.pick (.k (.k (.k (.c .nil))))
                    replace hs := hs.pick (.k (.k (.k (.c .nil))))
                    have e275 := some_eq H; subst e275
                    exact hJ275 _ _ ⟨hf.sub ⟨rfl, rfl, rfl, rfl, trivial⟩, hs⟩
                   · -- not s271.1 = s273.1
                    refine region_k (fun K282 hK282 => ?_)
                    refine stq hf rfl rfl rfl (ex_move hf rfl) (fun a hf => ?_)
                    refine stq hf rfl rfl rfl (ex_move hf rfl) (fun a hf => ?_)
                    refine stq hf rfl rfl rfl (ex_neq hf rfl rfl) (fun a hf => ?_)
                    refine stq hf rfl rfl rfl (ex_move hf rfl) (fun a hf => ?_)
                    replace hf := hf.castB (t := 201) rfl (ndec_f hc276)
                    replace hf := hf.castB (t := 202) rfl (ndec_f hc276)
                    refine stq hf rfl rfl rfl (ex_move hf rfl) (fun a hf => ?_)
                    refine stq hf rfl rfl rfl (ex_eqp Try.underlying29 hf rfl rfl) (fun a hf => ?_)
                    refine stq hf rfl rfl rfl (ex_move hf rfl) (fun a hf => ?_)
                    refine stq hf rfl rfl rfl (ex_neq hf rfl rfl) (fun a hf => ?_)
                    refine stq hf rfl rfl rfl (ex_neb Try.underlying4 hf rfl rfl) (fun a hf => ?_)
                    refine stq hf rfl rfl rfl (ex_pickF hf rfl rfl) (fun a hf => ?_)
                    refine stq hf rfl rfl rfl (ex_move hf rfl) (fun a hf => ?_)
                    replace hf := hf.castB (t := 207) rfl (nbool_f hc277)
                    replace hf := hf.castB (t := 208) rfl (nbool_f hc277)
                    replace hf := hf.castB (t := 209) rfl (nbool_f hc277)
                    refine stq hf rfl rfl rfl (ex_move hf rfl) (fun a hf => ?_)
                    refine stq hf rfl rfl rfl (ex_move hf rfl) (fun a hf => ?_)
                    refine stq hf rfl rfl rfl (ex_neq hf rfl rfl) (fun a hf => ?_)
                    refine stq hf rfl rfl rfl (ex_pickF hf rfl rfl) (fun a hf => ?_)
                    refine stq hf rfl rfl rfl (ex_move hf rfl) (fun a hf => ?_)
                    replace hf := hf.castB (t := 212) rfl (ndec_f hc278)
                    replace hf := hf.castB (t := 213) rfl (ndec_f hc278)
                    replace hf := hf.castB (t := 214) rfl (ndec_f hc278)
                    refine stq hf rfl rfl rfl (ex_move hf rfl) (fun a hf => ?_)
                    refine stq hf rfl rfl rfl (ex_move hf rfl) (fun a hf => ?_)
                    refine stq hf rfl rfl rfl (ex_neq hf rfl rfl) (fun a hf => ?_)
                    refine stq hf rfl rfl rfl (ex_pickF hf rfl rfl) (fun a hf => ?_)
                    refine stq hf rfl rfl rfl (ex_move hf rfl) (fun a hf => ?_)
                    replace hf := hf.castB (t := 217) rfl (ndec_f hc279)
                    replace hf := hf.castB (t := 218) rfl (ndec_f hc279)
                    replace hf := hf.castB (t := 219) rfl (ndec_f hc279)
                    refine stq hf rfl rfl rfl (ex_move hf rfl) (fun a hf => ?_)
                    refine stq hf rfl rfl rfl (ex_move hf rfl) (fun a hf => ?_)
                    refine stq hf rfl rfl rfl (ex_neq hf rfl rfl) (fun a hf => ?_)
                    refine stq hf rfl rfl rfl (ex_pickF hf rfl rfl) (fun a hf => ?_)
                    refine stq hf rfl rfl rfl (ex_move hf rfl) (fun a hf => ?_)
                    replace hf := hf.castB (t := 222) rfl (ndec_t hc280)
                    replace hf := hf.castB (t := 223) rfl (ndec_t hc280)
                    replace hf := hf.castB (t := 224) rfl (ndec_t hc280)
                    refine stepN hf rfl rfl rfl (fun a hf => ?_)
                    refine stepN hf rfl rfl rfl (fun a hf => ?_)
                    refine stepN hf rfl rfl rfl (fun a hf => ?_)
                    refine stq hf rfl rfl rfl (ex_pickT hf rfl rfl) (fun a hf => ?_)
                    refine hK282 _ _ ?_
                    replace hs := hs.keep (.d (.d (.k (.k (.d (.d (.d (.d (.k (.k .nil))))))))))
                    replace hs := hs.pick (.k (.c (.k (.k .nil))))
                    replace hs := hs.pick (.k (.c (.k (.k .nil))))
                    replace hs := hs.pick (.k (.k (.k (.c .nil))))
                    replace hs := hs.pick (.k (.k (.k (.c .nil))))
                    have e275 := some_eq H; subst e275
                    exact hJ275 _ _ ⟨hf.sub ⟨rfl, rfl, rfl, rfl, trivial⟩, hs⟩
                  · -- not s267.2 = s269.2
                   refine region_k (fun K283 hK283 => ?_)
                   refine stq hf rfl rfl rfl (ex_move hf rfl) (fun a hf => ?_)
                   refine stq hf rfl rfl rfl (ex_move hf rfl) (fun a hf => ?_)
                   refine stq hf rfl rfl rfl (ex_neq hf rfl rfl) (fun a hf => ?_)
                   refine stq hf rfl rfl rfl (ex_move hf rfl) (fun a hf => ?_)
                   replace hf := hf.castB (t := 201) rfl (ndec_f hc276)
                   replace hf := hf.castB (t := 202) rfl (ndec_f hc276)
                   refine stq hf rfl rfl rfl (ex_move hf rfl) (fun a hf => ?_)
                   refine stq hf rfl rfl rfl (ex_eqp Try.underlying29 hf rfl rfl) (fun a hf => ?_)
                   refine stq hf rfl rfl rfl (ex_move hf rfl) (fun a hf => ?_)
                   refine stq hf rfl rfl rfl (ex_neq hf rfl rfl) (fun a hf => ?_)
                   refine stq hf rfl rfl rfl (ex_neb Try.underlying4 hf rfl rfl) (fun a hf => ?_)
                   refine stq hf rfl rfl rfl (ex_pickF hf rfl rfl) (fun a hf => ?_)
                   refine stq hf rfl rfl rfl (ex_move hf rfl) (fun a hf => ?_)
                   replace hf := hf.castB (t := 207) rfl (nbool_f hc277)
                   replace hf := hf.castB (t := 208) rfl (nbool_f hc277)
                   replace hf := hf.castB (t := 209) rfl (nbool_f hc277)
                   refine stq hf rfl rfl rfl (ex_move hf rfl) (fun a hf => ?_)
                   refine stq hf rfl rfl rfl (ex_move hf rfl) (fun a hf => ?_)
                   refine stq hf rfl rfl rfl (ex_neq hf rfl rfl) (fun a hf => ?_)
                   refine stq hf rfl rfl rfl (ex_pickF hf rfl rfl) (fun a hf => ?_)
                   refine stq hf rfl rfl rfl (ex_move hf rfl) (fun a hf => ?_)
                   replace hf := hf.castB (t := 212) rfl (ndec_f hc278)
                   replace hf := hf.castB (t := 213) rfl (ndec_f hc278)
                   replace hf := hf.castB (t := 214) rfl (ndec_f hc278)
                   refine stq hf rfl rfl rfl (ex_move hf rfl) (fun a hf => ?_)
                   refine stq hf rfl rfl rfl (ex_move hf rfl) (fun a hf => ?_)
                   refine stq hf rfl rfl rfl (ex_neq hf rfl rfl) (fun a hf => ?_)
                   refine stq hf rfl rfl rfl (ex_pickF hf rfl rfl) (fun a hf => ?_)
                   refine stq hf rfl rfl rfl (ex_move hf rfl) (fun a hf => ?_)
                   replace hf := hf.castB (t := 217) rfl (ndec_t hc279)
                   replace hf := hf.castB (t := 218) rfl (ndec_t hc279)
                   replace hf := hf.castB (t := 219) rfl (ndec_t hc279)
                   refine stepN hf rfl rfl rfl (fun a hf => ?_)
                   refine stepN hf rfl rfl rfl (fun a hf => ?_)
                   refine stepN hf rfl rfl rfl (fun a hf => ?_)
                   refine stq hf rfl rfl rfl (ex_pickT hf rfl rfl) (fun a hf => ?_)
                   refine stq hf rfl rfl rfl (ex_move hf rfl) (fun a hf => ?_)
                   refine stepN hf rfl rfl rfl (fun a hf => ?_)
                   refine stepN hf rfl rfl rfl (fun a hf => ?_)
                   refine stepN hf rfl rfl rfl (fun a hf => ?_)
                   refine stq hf rfl rfl rfl (ex_pickT hf rfl rfl) (fun a hf => ?_)
                   refine hK283 _ _ ?_
                   replace hs := hs.keep (.d (.d (.k (.k (.d (.d (.d (.d (.k (.k .nil))))))))))
                   replace hs := hs.pick (.k (.c (.k (.k .nil))))
                   replace hs := hs.pick (.k (.c (.k (.k .nil))))
                   replace hs := hs.pick (.k (.k (.k (.c .nil))))
                   replace hs := hs.pick (.k (.k (.k (.c .nil))))
                   have e275 := some_eq H; subst e275
                   exact hJ275 _ _ ⟨hf.sub ⟨rfl, rfl, rfl, rfl, trivial⟩, hs⟩
                 · -- not s267.1 = s269.1
                  refine region_k (fun K284 hK284 => ?_)
                  refine stq hf rfl rfl rfl (ex_move hf rfl) (fun a hf => ?_)
                  refine stq hf rfl rfl rfl (ex_move hf rfl) (fun a hf => ?_)
                  refine stq hf rfl rfl rfl (ex_neq hf rfl rfl) (fun a hf => ?_)
                  refine stq hf rfl rfl rfl (ex_move hf rfl) (fun a hf => ?_)
                  replace hf := hf.castB (t := 201) rfl (ndec_f hc276)
                  replace hf := hf.castB (t := 202) rfl (ndec_f hc276)
                  refine stq hf rfl rfl rfl (ex_move hf rfl) (fun a hf => ?_)
                  refine stq hf rfl rfl rfl (ex_eqp Try.underlying29 hf rfl rfl) (fun a hf => ?_)
                  refine stq hf rfl rfl rfl (ex_move hf rfl) (fun a hf => ?_)
                  refine stq hf rfl rfl rfl (ex_neq hf rfl rfl) (fun a hf => ?_)
                  refine stq hf rfl rfl rfl (ex_neb Try.underlying4 hf rfl rfl) (fun a hf => ?_)
                  refine stq hf rfl rfl rfl (ex_pickF hf rfl rfl) (fun a hf => ?_)
                  refine stq hf rfl rfl rfl (ex_move hf rfl) (fun a hf => ?_)
                  replace hf := hf.castB (t := 207) rfl (nbool_f hc277)
                  replace hf := hf.castB (t := 208) rfl (nbool_f hc277)
                  replace hf := hf.castB (t := 209) rfl (nbool_f hc277)
                  refine stq hf rfl rfl rfl (ex_move hf rfl) (fun a hf => ?_)
                  refine stq hf rfl rfl rfl (ex_move hf rfl) (fun a hf => ?_)
                  refine stq hf rfl rfl rfl (ex_neq hf rfl rfl) (fun a hf => ?_)
                  refine stq hf rfl rfl rfl (ex_pickF hf rfl rfl) (fun a hf => ?_)
                  refine stq hf rfl rfl rfl (ex_move hf rfl) (fun a hf => ?_)
                  replace hf := hf.castB (t := 212) rfl (ndec_t hc278)
                  replace hf := hf.castB (t := 213) rfl (ndec_t hc278)
                  replace hf := hf.castB (t := 214) rfl (ndec_t hc278)
                  refine stepN hf rfl rfl rfl (fun a hf => ?_)
                  refine stepN hf rfl rfl rfl (fun a hf => ?_)
                  refine stepN hf rfl rfl rfl (fun a hf => ?_)
                  refine stq hf rfl rfl rfl (ex_pickT hf rfl rfl) (fun a hf => ?_)
                  refine stq hf rfl rfl rfl (ex_move hf rfl) (fun a hf => ?_)
                  refine stepN hf rfl rfl rfl (fun a hf => ?_)
                  refine stepN hf rfl rfl rfl (fun a hf => ?_)
                  refine stepN hf rfl rfl rfl (fun a hf => ?_)
                  refine stq hf rfl rfl rfl (ex_pickT hf rfl rfl) (fun a hf => ?_)
                  refine stq hf rfl rfl rfl (ex_move hf rfl) (fun a hf => ?_)
                  refine stepN hf rfl rfl rfl (fun a hf => ?_)
                  refine stepN hf rfl rfl rfl (fun a hf => ?_)
                  refine stepN hf rfl rfl rfl (fun a hf => ?_)
                  refine stq hf rfl rfl rfl (ex_pickT hf rfl rfl) (fun a hf => ?_)
                  refine hK284 _ _ ?_
                  replace hs := hs.keep (.d (.d (.k (.k (.d (.d (.d (.d (.k (.k .nil))))))))))
                  replace hs := hs.pick (.k (.c (.k (.k .nil))))
                  replace hs := hs.pick (.k (.c (.k (.k .nil))))
                  replace hs := hs.pick (.k (.k (.k (.c .nil))))
                  replace hs := hs.pick (.k (.k (.k (.c .nil))))
                  have e275 := some_eq H; subst e275
                  exact hJ275 _ _ ⟨hf.sub ⟨rfl, rfl, rfl, rfl, trivial⟩, hs⟩
                · -- not (false == (!decide (s217.2 = 0))) = true
                 refine region_k (fun K285 hK285 => ?_)
                 refine stq hf rfl rfl rfl (ex_move hf rfl) (fun a hf => ?_)
                 refine stq hf rfl rfl rfl (ex_move hf rfl) (fun a hf => ?_)
                 refine stq hf rfl rfl rfl (ex_neq hf rfl rfl) (fun a hf => ?_)
                 refine stq hf rfl rfl rfl (ex_move hf rfl) (fun a hf => ?_)
                 replace hf := hf.castB (t := 201) rfl (ndec_f hc276)
                 replace hf := hf.castB (t := 202) rfl (ndec_f hc276)
                 refine stq hf rfl rfl rfl (ex_move hf rfl) (fun a hf => ?_)
                 refine stq hf rfl rfl rfl (ex_eqp Try.underlying29 hf rfl rfl) (fun a hf => ?_)
                 refine stq hf rfl rfl rfl (ex_move hf rfl) (fun a hf => ?_)
                 refine stq hf rfl rfl rfl (ex_neq hf rfl rfl) (fun a hf => ?_)
                 refine stq hf rfl rfl rfl (ex_neb Try.underlying4 hf rfl rfl) (fun a hf => ?_)
                 refine stq hf rfl rfl rfl (ex_pickF hf rfl rfl) (fun a hf => ?_)
                 refine stq hf rfl rfl rfl (ex_move hf rfl) (fun a hf => ?_)
                 replace hf := hf.castB (t := 207) rfl (nbool_t hc277)
                 replace hf := hf.castB (t := 208) rfl (nbool_t hc277)
                 replace hf := hf.castB (t := 209) rfl (nbool_t hc277)
                 refine stepN hf rfl rfl rfl (fun a hf => ?_)
                 refine stepN hf rfl rfl rfl (fun a hf => ?_)
                 refine stepN hf rfl rfl rfl (fun a hf => ?_)
                 refine stq hf rfl rfl rfl (ex_pickT hf rfl rfl) (fun a hf => ?_)
                 refine stq hf rfl rfl rfl (ex_move hf rfl) (fun a hf => ?_)
                 refine stepN hf rfl rfl rfl (fun a hf => ?_)
                 refine stepN hf rfl rfl rfl (fun a hf => ?_)
                 refine stepN hf rfl rfl rfl (fun a hf => ?_)
                 refine stq hf rfl rfl rfl (ex_pickT hf rfl rfl) (fun a hf => ?_)
                 refine stq hf rfl rfl rfl (ex_move hf rfl) (fun a hf => ?_)
                 refine stepN hf rfl rfl rfl (fun a hf => ?_)
                 refine stepN hf rfl rfl rfl (fun a hf => ?_)
                 refine stepN hf rfl rfl rfl (fun a hf => ?_)
                 refine stq hf rfl rfl rfl (ex_pickT hf rfl rfl) (fun a hf => ?_)
                 refine stq hf rfl rfl rfl (ex_move hf rfl) (fun a hf => ?_)
                 refine stepN hf rfl rfl rfl (fun a hf => ?_)
                 refine stepN hf rfl rfl rfl (fun a hf => ?_)
                 refine stepN hf rfl rfl rfl (fun a hf => ?_)
                 refine stq hf rfl rfl rfl (ex_pickT hf rfl rfl) (fun a hf => ?_)
                 refine hK285 _ _ ?_
                 replace hs := hs.keep (.d (.d (.k (.k (.d (.d (.d (.d (.k (.k .nil))))))))))
                 replace hs := hs.pick (.k (.c (.k (.k .nil))))
                 replace hs := hs.pick (.k (.c (.k (.k .nil))))
                 replace hs := hs.pick (.k (.k (.k (.c .nil))))
                 replace hs := hs.pick (.k (.k (.k (.c .nil))))
                 have e275 := some_eq H; subst e275
                 exact hJ275 _ _ ⟨hf.sub ⟨rfl, rfl, rfl, rfl, trivial⟩, hs⟩
               · -- not s217.2 = x257
                refine region_k (fun K286 hK286 => ?_)
                refine stq hf rfl rfl rfl (ex_move hf rfl) (fun a hf => ?_)
                refine stq hf rfl rfl rfl (ex_move hf rfl) (fun a hf => ?_)
                refine stq hf rfl rfl rfl (ex_neq hf rfl rfl) (fun a hf => ?_)
                refine stq hf rfl rfl rfl (ex_move hf rfl) (fun a hf => ?_)
                replace hf := hf.castB (t := 201) rfl (ndec_t hc276)
                replace hf := hf.castB (t := 202) rfl (ndec_t hc276)
                refine stepN hf rfl rfl rfl (fun a hf => ?_)
                refine stepN hf rfl rfl rfl (fun a hf => ?_)
                refine stepN hf rfl rfl rfl (fun a hf => ?_)
                refine stepN hf rfl rfl rfl (fun a hf => ?_)
                refine stepN hf rfl rfl rfl (fun a hf => ?_)
                refine stq hf rfl rfl rfl (ex_pickT hf rfl rfl) (fun a hf => ?_)
                refine stq hf rfl rfl rfl (ex_move hf rfl) (fun a hf => ?_)
                refine stepN hf rfl rfl rfl (fun a hf => ?_)
                refine stepN hf rfl rfl rfl (fun a hf => ?_)
                refine stepN hf rfl rfl rfl (fun a hf => ?_)
                refine stq hf rfl rfl rfl (ex_pickT hf rfl rfl) (fun a hf => ?_)
                refine stq hf rfl rfl rfl (ex_move hf rfl) (fun a hf => ?_)
                refine stepN hf rfl rfl rfl (fun a hf => ?_)
                refine stepN hf rfl rfl rfl (fun a hf => ?_)
                refine stepN hf rfl rfl rfl (fun a hf => ?_)
                refine stq hf rfl rfl rfl (ex_pickT hf rfl rfl) (fun a hf => ?_)
                refine stq hf rfl rfl rfl (ex_move hf rfl) (fun a hf => ?_)
                refine stepN hf rfl rfl rfl (fun a hf => ?_)
                refine stepN hf rfl rfl rfl (fun a hf => ?_)
                refine stepN hf rfl rfl rfl (fun a hf => ?_)
                refine stq hf rfl rfl rfl (ex_pickT hf rfl rfl) (fun a hf => ?_)
                refine stq hf rfl rfl rfl (ex_move hf rfl) (fun a hf => ?_)
                refine stepN hf rfl rfl rfl (fun a hf => ?_)
                refine stepN hf rfl rfl rfl (fun a hf => ?_)
                refine stepN hf rfl rfl rfl (fun a hf => ?_)
                refine stq hf rfl rfl rfl (ex_pickT hf rfl rfl) (fun a hf => ?_)
                refine hK286 _ _ ?_
                replace hs := hs.keep (.d (.d (.k (.k (.d (.d (.d (.d (.k (.k .nil))))))))))
                replace hs := hs.pick (.k (.c (.k (.k .nil))))
                replace hs := hs.pick (.k (.c (.k (.k .nil))))
                replace hs := hs.pick (.k (.k (.k (.c .nil))))
                replace hs := hs.pick (.k (.k (.k (.c .nil))))
                have e275 := some_eq H; subst e275
                exact hJ275 _ _ ⟨hf.sub ⟨rfl, rfl, rfl, rfl, trivial⟩, hs⟩
              ·
               obtain ⟨hf, hs⟩ := hJ
               replace H := HO275
               clear HO275
               refine itt H (fun hc287 H => ?_) (fun hc287 H => ?_)
               · -- x275 = true
                replace hf := hf.castB (t := 228) rfl hc287
                refine cond_T hf rfl ?_
                refine seq_reg (fun K288 hK288 => ?_)
                refine stq hf rfl rfl rfl (ex_assign hf rfl) (fun a hf => ?_)
                refine hK288 _ _ ?_
                refine wp_ret ?_
                refine hR60 _ _ ?_
                have e59 := some_eq H; subst e59; replace H := el_rt HO59
                refine hR59 _ _ ?_
                refine hR55 _ _ ?_
                refine hR52 _ _ ?_
                have e50 := some_eq H; subst e50; replace H := el_rt HO50
                refine hR50 _ _ ?_
                have eR := some_eq H; subst eR
                replace hs := hs.keep (.d (.d (.d (.d .nil))))
                exact ret1 Try.results8 hf rfl ⟨_, rfl, ⟨rfl, hs⟩⟩
               · -- not x275 = true
                replace hf := hf.castB (t := 228) rfl (bool_f hc287)
                refine cond_F hf rfl ?_
                refine wp_skip ?_
                refine hN60 _ _ ?_
                have e59 := some_eq H; subst e59
                exact hJ59 _ _ ⟨_, rfl, hf.sub ⟨rfl, rfl, rfl, trivial⟩, hs⟩
           · -- not y53 = 2
            cases H
        ·
         obtain ⟨x59s, rfl, hf, hs⟩ := hJ
         replace H := el_go HO59
         clear HO59
         refine region_k (fun K289 hK289 => ?_)
         refine stq hf rfl rfl rfl (ex_add hf rfl rfl) (fun a hf => ?_)
         refine stq hf rfl rfl rfl (ex_move hf rfl) (fun a hf => ?_)
         refine hK289 _ _ ?_
         exact hL55 k55 _ _ (Nat.lt_succ_self _) ⟨(IntKind.i64.wrap (y53 + 1)), hf.sub ⟨rfl, rfl, rfl, trivial⟩, hs, H⟩
       · -- not y53 < 3
        replace hf := hf.castB (t := 128) rfl (dec_f hc58)
        refine cond_F hf rfl ?_
        refine wp_exit ?_
        refine hX57 1 _ _ ?_
        refine hX55 1 _ _ ?_
        refine hX52 _ _ ?_
        replace hs := hs.keep (.d (.d (.d (.d .nil))))
        have e50 := some_eq H; subst e50
        exact hJ50 _ _ ⟨_, rfl, hf.sub trivial, hs⟩
    ·
     obtain ⟨x50s, rfl, hf, hs⟩ := hJ
     replace H := el_go HO50
     clear HO50
     refine bnd H (fun s290 hs290 H => ?_)
     refine seq_reg (fun K291 hK291 => ?_)
     refine stepF hf rfl rfl rfl (ex_call cf_11 hf rfl) (law38_awake.calls k (hs.enter .nil) (Sr.nil _ _) hs290) (fun v w hR a hf => ?_)
     obtain ⟨rfl, hs'⟩ := hR
     replace hs := hs.step .nil hs'
     clear hs'
     refine stq hf rfl rfl rfl (ex_assign hf rfl) (fun a hf => ?_)
     refine hK291 _ _ ?_
     refine wp_ret ?_
     have eR := some_eq H; subst eR
     exact ret1 Try.results8 hf rfl ⟨_, rfl, ⟨rfl, hs⟩⟩

end Go.Proofs.Ytakaooegofiloaa.X
