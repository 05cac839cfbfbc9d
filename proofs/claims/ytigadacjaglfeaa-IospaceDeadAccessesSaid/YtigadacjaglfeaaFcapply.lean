/- Each function of the machine comes to what its pure function says. -/
import Derived.Test.YtigadacjaglfeaaFc1
import Derived.Test.YtigadacjaglfeaaFc2
import Derived.Test.YtigadacjaglfeaaFc3
import Derived.Test.YtigadacjaglfeaaFc4
import Derived.Test.YtigadacjaglfeaaFc5
import Derived.Test.YtigadacjaglfeaaFc6
import Derived.Test.YtigadacjaglfeaaFc7
import Derived.Test.YtigadacjaglfeaaFb
namespace Go.Proofs.Ytigadacjaglfeaa.X
open Go Go.RowKit Go.Sx
set_option linter.unusedVariables false

set_option maxHeartbeats 4000000 in
set_option maxRecDepth 100000 in
theorem law09_both_apply.calls {M : Nat → Prop} {w0 : World} (k : Nat) (Ba : (List mapping)) (Bb : (List mapping)) (Bc : (List mapping)) (Be : (List Bool)) (Bf : (List fault)) (Bt : (List Traced)) (Cd : (List ref09_mapping)) (Ce : (List Bool)) (Cf : (List ref09_fault)) (Ct : (List Traced)) (a1 : Op) (b0_0 : Nat) (Wa : Value) (Ha : (List (Nat × Nat))) (Wb : Value) (Hb : (List (Nat × Nat))) (Wc : Value) (Hc : (List (Nat × Nat))) (Wf : Value) (Hf : (List Nat)) (Wt : Value) (b0_1 : Nat) (Xd : Value) (Jd : (List SlV)) (Xf : Value) (Xt : Value) {r : (List mapping) × (List mapping) × (List mapping) × (List Bool) × (List fault) × (List Traced) × (List ref09_mapping) × (List Bool) × (List ref09_fault) × (List Traced) × Bool} (hs : St M w0 w0 [bxs b0_0 71 [([Wa], 1), ([Wb], 1), ([Wc], 1), (List.map Value.bool Be, 256), ([Wf], 1), ([Wt], 1)], osl Km Wa (ids Fm Ha), nds Fm Ha Ba, osl Km Wb (ids Fm Hb), nds Fm Hb Bb, osl Km Wc (ids Fm Hc), nds Fm Hc Bc, osl Kf Wf (ids Ff Hf), nds Ff Hf Bf, osl Kt Wt Bt, bxs b0_1 56 [([Xd], 1), (List.map Value.bool Ce, 256), ([Xf], 1), ([Xt], 1)], osl KR Xd (List.zip Jd Cd), ndv FR Jd Cd, osl KF Xf Cf, osl Kt Xt Ct]) (hr : Sr M w0 [])
  (h : law09_both_apply.f k Ba Bb Bc Be Bf Bt Cd Ce Cf Ct a1 = some r) : Calls Try.prog 18 #[.agg #[.pointer (some ⟨b0_0, 0, none⟩), .pointer (some ⟨b0_1, 0, none⟩)], .agg #[.int .i64 a1.Kind, .int .i64 a1.Space, .int .u64 a1.Addr, .int .u64 a1.Len, .int .i64 a1.Width, .int .i64 a1.Owner, .bool a1.Write, .int .u64 a1.Value, .bool a1.Raw]] w0 fun e w => ∃ v, e = .returned v ∧ (∃ (g0 : Value) (g1 : List (Nat × Nat)) (g2 : Value) (g3 : List (Nat × Nat)) (g4 : Value) (g5 : List (Nat × Nat)) (g6 : Value) (g7 : List Nat) (g8 : Value) (g9 : Value) (g10 : List SlV) (g11 : Value) (g12 : Value), .bool r.2.2.2.2.2.2.2.2.2.2 = v ∧ St M w0 w [bxs b0_0 71 [([g0], 1), ([g2], 1), ([g4], 1), (List.map Value.bool r.2.2.2.1, 256), ([g6], 1), ([g8], 1)], osl Km g0 (ids Fm g1), nds Fm g1 r.1, osl Km g2 (ids Fm g3), nds Fm g3 r.2.1, osl Km g4 (ids Fm g5), nds Fm g5 r.2.2.1, osl Kf g6 (ids Ff g7), nds Ff g7 r.2.2.2.2.1, osl Kt g8 r.2.2.2.2.2.1, bxs b0_1 56 [([g9], 1), (List.map Value.bool r.2.2.2.2.2.2.2.1, 256), ([g11], 1), ([g12], 1)], osl KR g9 (List.zip g10 r.2.2.2.2.2.2.1), ndv FR g10 r.2.2.2.2.2.2.1, osl KF g11 r.2.2.2.2.2.2.2.2.1, osl Kt g12 r.2.2.2.2.2.2.2.2.2.1]) := by
 have H := (law09_both_apply.f.eq_1 ..).symm.trans h
 clear h
 refine enter Try.func18 Z Try.ntmps18 Z (fun a hf => ?_)
 refine seq_reg (fun K3 hK3 => ?_)
 refine stepV hf Z Z Z (er_box (cs := [.pointer (some ⟨b0_0, 0, none⟩), .pointer (some ⟨b0_1, 0, none⟩)]) hs hf Z Z) (fun v w hR a hf => ?_)
 obtain ⟨b1, rfl, hs⟩ := hR
 refine stepV hf Z Z Z (er_box (cs := [.int .i64 a1.Kind, .int .i64 a1.Space, .int .u64 a1.Addr, .int .u64 a1.Len, .int .i64 a1.Width, .int .i64 a1.Owner, .bool a1.Write, .int .u64 a1.Value, .bool a1.Raw]) hs hf Z Z) (fun v w hR a hf => ?_)
 obtain ⟨b2, rfl, hs⟩ := hR
 refine stq hf Z Z Z (ex_assign hf Z) fun a hf => ?_
 refine hK3 _ _ ?_
 refine seq_reg (fun K5 hK5 => ?_)
 refine stq hf Z Z Z (ex_fieldAddrB fa_43_2 Z hf Z) fun a hf => stq hf Z Z Z (ex_load sc_22 hf Z (bx_cell (hs.get (i := 0) Z) _ Z)) fun a hf => stq hf Z Z Z (ex_fieldAddrB fa_43_3 Z hf Z) fun a hf => stq hf Z Z Z (ex_load sc_22 hf Z (bx_cell (hs.get (i := 0) Z) _ Z)) fun a hf => stq hf Z Z Z (ex_build (cs := [.int .u64 a1.Addr, .int .u64 a1.Len]) bt_32 hf Z (.cons Z (.cons Z .nil)) Z) fun a hf => ?_
 refine stepV hf Z Z Z (er_alloc hs ti_32 (cs := [.int .u64 0, .int .u64 0]) Z) (fun v w hR a hf => ?_)
 obtain ⟨b4, rfl, hs⟩ := hR
 refine stepS hf Z Z (er_storeAB (vs := [.int .u64 a1.Addr, .int .u64 a1.Len]) (cs' := [.int .u64 a1.Addr, .int .u64 a1.Len]) hs (.c sN) sz_32 hf Z Z (all1 Z (all1 Z (all1_nil))) Z Z) (fun w hs => ?_)
 refine hK5 _ _ ?_
 refine seq_n (fun Q6 hN6 hR6 hX6 => ?_)
 refine seq_reg (fun K7 hK7 => ?_)
 refine stq hf Z Z Z (ex_fieldAddrB fa_43_0 Z hf Z) fun a hf => stq hf Z Z Z (ex_load sc_3 hf Z (bx_cell (hs.get (i := 1) Z) _ Z)) fun a hf => ?_
 refine hK7 _ _ ?_
 refine block_k (fun Q8 hN8 hR8 hX8 hY8 => ?_)
 refine bnd H (fun x9 H9 HO9 => ?_)
 clear H
 refine seq_cut (fun a w => Fr a 219 [(2, .pointer (some ⟨b1, 0, none⟩)), (3, .pointer (some ⟨b2, 0, none⟩)), (5, .pointer (some ⟨b4, 0, none⟩)), (21, .int .i64 a1.Kind), (22, .bool x9)] ∧ St M w0 w [bx b1 58 [.pointer (some ⟨b0_0, 0, none⟩), .pointer (some ⟨b0_1, 0, none⟩)], bxs b0_0 71 [([Wa], 1), ([Wb], 1), ([Wc], 1), (List.map Value.bool Be, 256), ([Wf], 1), ([Wt], 1)], osl Km Wa (ids Fm Ha), nds Fm Ha Ba, osl Km Wb (ids Fm Hb), nds Fm Hb Bb, osl Km Wc (ids Fm Hc), nds Fm Hc Bc, osl Kf Wf (ids Ff Hf), nds Ff Hf Bf, osl Kt Wt Bt, bxs b0_1 56 [([Xd], 1), (List.map Value.bool Ce, 256), ([Xf], 1), ([Xt], 1)], osl KR Xd (List.zip Jd Cd), ndv FR Jd Cd, osl KF Xf Cf, osl Kt Xt Ct, bx b2 43 [.int .i64 a1.Kind, .int .i64 a1.Space, .int .u64 a1.Addr, .int .u64 a1.Len, .int .i64 a1.Width, .int .i64 a1.Owner, .bool a1.Write, .int .u64 a1.Value, .bool a1.Raw], bx b4 32 [.int .u64 a1.Addr, .int .u64 a1.Len]]) (fun Q9 hJ9 hR9 hX9 => ?_) (fun a w hJ => ?_)
 ·
  replace H := H9
  refine seq_reg (fun K10 hK10 => ?_)
  refine stq hf Z Z Z (ex_eql hf Z Z) fun a hf => stq hf Z Z Z (ex_assign hf Z) fun a hf => ?_
  refine hK10 _ _ ?_
  refine itt H (fun hc11 H => ?_) (fun hc11 H => ?_)
  ·
   replace hf := hf.castB (t := 22) Z (dec_t hc11)
   refine cond_T hf Z ?_
   refine wp_skip ?_
   replace hs := hs.p1.p17.p17.p17.p17.p17.p17.p17.p17.p17.p17.p17.p17.p17.p17.p17.p17
   have e9 := some_eq H; subst e9
   exact hJ9 _ _ ⟨hf.sub ⟨Z, Z, Z, Z, Z, trivial⟩, hs⟩
  ·
   replace hf := hf.castB (t := 22) Z (dec_f hc11)
   refine cond_F hf Z ?_
   refine region_k (fun K12 hK12 => ?_)
   refine stq hf Z Z Z (ex_eql hf Z Z) fun a hf => stq hf Z Z Z (ex_assign hf Z) fun a hf => ?_
   refine hK12 _ _ ?_
   replace hs := hs.p1.p17.p17.p17.p17.p17.p17.p17.p17.p17.p17.p17.p17.p17.p17.p17.p17
   have e9 := some_eq H; subst e9
   exact hJ9 _ _ ⟨hf.sub ⟨Z, Z, Z, Z, Z, trivial⟩, hs⟩
 ·
  obtain ⟨hf, hs⟩ := hJ
  replace H := HO9
  clear HO9
  refine itt H (fun hc13 H => ?_) (fun hc13 H => ?_)
  ·
   replace hf := hf.castB (t := 22) Z hc13
   refine cond_T hf Z ?_
   refine seq_n (fun Q14 hN14 hR14 hX14 => ?_)
   refine bnd H (fun s15 hs15 H => ?_)
   refine bnd H (fun s22 hs22 H => ?_)
   refine region_dS fol 17 [(2, .pointer (some ⟨b1, 0, none⟩)), (3, .pointer (some ⟨b2, 0, none⟩)), (5, .pointer (some ⟨b4, 0, none⟩))] [(0, .pointer (some ⟨b1, 0, none⟩)), (1, .pointer (some ⟨b0_0, 0, none⟩)), (2, .pointer (some ⟨b2, 1, none⟩)), (3, .int .i64 a1.Space), (4, .agg #[.int .u64 a1.Addr, .int .u64 a1.Len]), (5, .pointer (some ⟨b2, 5, none⟩)), (6, .int .i64 a1.Owner), (8, .pointer (some ⟨b1, 1, none⟩)), (9, .pointer (some ⟨b0_1, 0, none⟩)), (10, .pointer (some ⟨b2, 1, none⟩)), (11, .int .i64 a1.Space), (12, .agg #[.int .u64 a1.Addr, .int .u64 a1.Len]), (13, .pointer (some ⟨b2, 5, none⟩)), (14, .int .i64 a1.Owner)] [7, 15] (fun w => (bx b1 58 [.pointer (some ⟨b0_0, 0, none⟩), .pointer (some ⟨b0_1, 0, none⟩)]).ok w ∧ (bx b2 43 [.int .i64 a1.Kind, .int .i64 a1.Space, .int .u64 a1.Addr, .int .u64 a1.Len, .int .i64 a1.Width, .int .i64 a1.Owner, .bool a1.Write, .int .u64 a1.Value, .bool a1.Raw]).ok w ∧ (bx b4 32 [.int .u64 a1.Addr, .int .u64 a1.Len]).ok w ∧ True) hf ⟨Z, Z, Z, trivial⟩ (by kernel_rfl) (by kernel_rfl) Z (by decide) ⟨hs.drew.get (i := 0) Z, hs.drew.get (i := 16) Z, hs.drew.get (i := 17) Z, trivial⟩ hs ((.cons (qy Z Z Z Z Z fun hR hf => ex_fieldAddrB fa_58_0 Z hf Z) (.cons (qy Z Z Z Z Z fun hR hf => ex_load sc_24 hf Z (bx_cell (hR.1) _ Z)) (.cons (qy Z Z Z Z Z fun hR hf => ex_fieldAddrB fa_43_1 Z hf Z) (.cons (qy Z Z Z Z Z fun hR hf => ex_load sc_3 hf Z (bx_cell (hR.2.1) _ Z)) (.cons (qy Z Z Z Z Z fun hR hf => ex_loadA (cs := [.int .u64 a1.Addr, .int .u64 a1.Len]) ag_32 hf Z (bx_cells (hR.2.2.1) Z)) (.cons (qy Z Z Z Z Z fun hR hf => ex_fieldAddrB fa_43_5 Z hf Z) (.cons (qy Z Z Z Z Z fun hR hf => ex_load sc_3 hf Z (bx_cell (hR.2.1) _ Z)) (.cons (qy Z Z Z Z Z fun hR hf => ex_fieldAddrB fa_58_1 Z hf Z) (.cons (qy Z Z Z Z Z fun hR hf => ex_load sc_50 hf Z (bx_cell (hR.1) _ Z)) (.cons (qy Z Z Z Z Z fun hR hf => ex_fieldAddrB fa_43_1 Z hf Z) (.cons (qy Z Z Z Z Z fun hR hf => ex_load sc_3 hf Z (bx_cell (hR.2.1) _ Z)) (.cons (qy Z Z Z Z Z fun hR hf => ex_loadA (cs := [.int .u64 a1.Addr, .int .u64 a1.Len]) ag_32 hf Z (bx_cells (hR.2.2.1) Z)) (.cons (qy Z Z Z Z Z fun hR hf => ex_fieldAddrB fa_43_5 Z hf Z) (.cons (qy Z Z Z Z Z fun hR hf => ex_load sc_3 hf Z (bx_cell (hR.2.1) _ Z)) .nil))))))))))))))) (fun K25 hK25 => ?_)
   refine RW.one 7 (by kernel_rfl) (by kernel_rfl) rfl (fun d hd => by cases hd; rfl) [(26, .pointer (some ⟨b0_0, 0, none⟩)), (28, .int .i64 a1.Space), (29, .agg #[.int .u64 a1.Addr, .int .u64 a1.Len]), (31, .int .i64 a1.Owner)] ⟨rfl, rfl, rfl, rfl, trivial⟩ (fun a w hR hs hf => ⟨wanted_yes hf rfl, ?_⟩)
   refine estep_f (ex_call cf_11 hf Z) (iospace_Bus_Map.calls k Ba Bb Bc Be Bf Bt a1.Space (⟨a1.Addr, a1.Len⟩ : Range) a1.Owner b0_0 Wa Ha Wb Hb Wc Hc Wf Hf Wt (hs.enter (.k (.c (.c (.c (.c (.c (.c (.c (.c (.c (.c sN)))))))))))) (Sr.nil _ _) hs15) (fun v w hR => ?_)
   obtain ⟨v16, b17, v18, b19, v20, b21, rfl, hs'⟩ := hR
   replace hs := hs.step (.k (.c (.c (.c (.c (.c (.c (.c (.c (.c (.c sN))))))))))) hs'
   clear hs'
   refine ⟨[], _, [15], (fun _ => True), hs.fn, Z, Z, ⟨hs.get (i := 10) Z, hs.get (i := 16) Z, hs.get (i := 17) Z, trivial⟩, trivial, hs, (by kernel_rfl), .nil, ?_⟩
   refine RW.one 15 (by kernel_rfl) (by kernel_rfl) rfl (fun d hd => by cases hd; rfl) [(34, .pointer (some ⟨b0_1, 0, none⟩)), (36, .int .i64 a1.Space), (37, .agg #[.int .u64 a1.Addr, .int .u64 a1.Len]), (39, .int .i64 a1.Owner)] ⟨rfl, rfl, rfl, rfl, trivial⟩ (fun a w hR hs hf => ⟨wanted_yes hf rfl, ?_⟩)
   refine estep_f (ex_call cf_37 hf Z) (ref09_Bus_Map.calls k Cd Ce Cf Ct a1.Space (⟨a1.Addr, a1.Len⟩ : Range) a1.Owner b0_1 Xd Jd Xf Xt (hs.enter (.k (.k (.k (.k (.k (.k (.k (.k (.k (.k (.k (.c (.c (.c (.c (.c sN))))))))))))))))) (Sr.nil _ _) hs22) (fun v w hR => ?_)
   obtain ⟨v23, b24, rfl, hs'⟩ := hR
   replace hs := hs.step (.k (.k (.k (.k (.k (.k (.k (.k (.k (.k (.k (.c (.c (.c (.c (.c sN)))))))))))))))) hs'
   clear hs'
   refine ⟨[(16, .bool (decide (s15.2.2.2 = s22.2)))], _, [], (fun _ => True), hs.fn, Z, Z, ⟨⟨hs.get (i := 15) Z, hs.get (i := 16) Z, hs.get (i := 17) Z, trivial⟩, trivial⟩, trivial, hs, (by kernel_rfl), (.cons (qy Z Z Z Z Z fun hR hf => ex_eql hf Z Z) .nil), ?_⟩
   refine RW.zero (by kernel_rfl) (by kernel_rfl) [(41, .bool (decide (s15.2.2.2 = s22.2)))] ⟨Z, trivial⟩ (fun a w hR hs hf => ?_)
   refine stq hf Z Z Z (ex_assign hf Z) fun a hf => ?_
   refine hK25 _ _ ?_
   refine hN14 _ _ ?_
   refine wp_ret ?_
   refine hR8 _ _ ?_
   refine hR6 _ _ ?_
   have eR := some_eq H; subst eR
   replace hs := hs.keep (.k (.k (.k (.k (.k (.k (.k (.k (.k (.k (.k (.k (.k (.k (.k (.d (.d (.d .nil))))))))))))))))))
   replace hs := hs.p4.p4.p4.p4.p4.p14.p14.p14.p14.p14.p14.p14.p14.p14.p14
   exact ret1 Try.results18 hf Z ⟨_, Z, ⟨v16, b17, v18, b19, v20, b21, Wf, Hf, Wt, v23, b24, Xf, Xt, Z, hs⟩⟩
  ·
   replace hf := hf.castB (t := 22) Z (bool_f hc13)
   refine cond_F hf Z ?_
   refine seq_reg (fun K26 hK26 => ?_)
   refine stq hf Z Z Z (ex_eql hf Z Z) fun a hf => stq hf Z Z Z (ex_assign hf Z) fun a hf => ?_
   refine hK26 _ _ ?_
   refine itt H (fun hc27 H => ?_) (fun hc27 H => ?_)
   ·
    replace hf := hf.castB (t := 42) Z (dec_t hc27)
    refine cond_T hf Z ?_
    refine seq_n (fun Q28 hN28 hR28 hX28 => ?_)
    refine bnd H (fun s29 hs29 H => ?_)
    refine bnd H (fun s36 hs36 H => ?_)
    refine region_dS fol 13 [(2, .pointer (some ⟨b1, 0, none⟩)), (3, .pointer (some ⟨b2, 0, none⟩)), (5, .pointer (some ⟨b4, 0, none⟩))] [(0, .pointer (some ⟨b1, 0, none⟩)), (1, .pointer (some ⟨b0_0, 0, none⟩)), (2, .pointer (some ⟨b2, 1, none⟩)), (3, .int .i64 a1.Space), (4, .agg #[.int .u64 a1.Addr, .int .u64 a1.Len]), (6, .pointer (some ⟨b1, 1, none⟩)), (7, .pointer (some ⟨b0_1, 0, none⟩)), (8, .pointer (some ⟨b2, 1, none⟩)), (9, .int .i64 a1.Space), (10, .agg #[.int .u64 a1.Addr, .int .u64 a1.Len])] [5, 11] (fun w => (bx b1 58 [.pointer (some ⟨b0_0, 0, none⟩), .pointer (some ⟨b0_1, 0, none⟩)]).ok w ∧ (bx b2 43 [.int .i64 a1.Kind, .int .i64 a1.Space, .int .u64 a1.Addr, .int .u64 a1.Len, .int .i64 a1.Width, .int .i64 a1.Owner, .bool a1.Write, .int .u64 a1.Value, .bool a1.Raw]).ok w ∧ (bx b4 32 [.int .u64 a1.Addr, .int .u64 a1.Len]).ok w ∧ True) hf ⟨Z, Z, Z, trivial⟩ (by kernel_rfl) (by kernel_rfl) Z (by decide) ⟨hs.drew.get (i := 0) Z, hs.drew.get (i := 16) Z, hs.drew.get (i := 17) Z, trivial⟩ hs ((.cons (qy Z Z Z Z Z fun hR hf => ex_fieldAddrB fa_58_0 Z hf Z) (.cons (qy Z Z Z Z Z fun hR hf => ex_load sc_24 hf Z (bx_cell (hR.1) _ Z)) (.cons (qy Z Z Z Z Z fun hR hf => ex_fieldAddrB fa_43_1 Z hf Z) (.cons (qy Z Z Z Z Z fun hR hf => ex_load sc_3 hf Z (bx_cell (hR.2.1) _ Z)) (.cons (qy Z Z Z Z Z fun hR hf => ex_loadA (cs := [.int .u64 a1.Addr, .int .u64 a1.Len]) ag_32 hf Z (bx_cells (hR.2.2.1) Z)) (.cons (qy Z Z Z Z Z fun hR hf => ex_fieldAddrB fa_58_1 Z hf Z) (.cons (qy Z Z Z Z Z fun hR hf => ex_load sc_50 hf Z (bx_cell (hR.1) _ Z)) (.cons (qy Z Z Z Z Z fun hR hf => ex_fieldAddrB fa_43_1 Z hf Z) (.cons (qy Z Z Z Z Z fun hR hf => ex_load sc_3 hf Z (bx_cell (hR.2.1) _ Z)) (.cons (qy Z Z Z Z Z fun hR hf => ex_loadA (cs := [.int .u64 a1.Addr, .int .u64 a1.Len]) ag_32 hf Z (bx_cells (hR.2.2.1) Z)) .nil))))))))))) (fun K39 hK39 => ?_)
    refine RW.one 5 (by kernel_rfl) (by kernel_rfl) rfl (fun d hd => by cases hd; rfl) [(45, .pointer (some ⟨b0_0, 0, none⟩)), (47, .int .i64 a1.Space), (48, .agg #[.int .u64 a1.Addr, .int .u64 a1.Len])] ⟨rfl, rfl, rfl, trivial⟩ (fun a w hR hs hf => ⟨wanted_yes hf rfl, ?_⟩)
    refine estep_f (ex_call cf_38 hf Z) (iospace_Bus_Unmap.calls k Ba Bb Bc Be Bf Bt a1.Space (⟨a1.Addr, a1.Len⟩ : Range) b0_0 Wa Ha Wb Hb Wc Hc Wf Hf Wt (hs.enter (.k (.c (.c (.c (.c (.c (.c (.c (.c (.c (.c sN)))))))))))) (Sr.nil _ _) hs29) (fun v w hR => ?_)
    obtain ⟨v30, b31, v32, b33, v34, b35, rfl, hs'⟩ := hR
    replace hs := hs.step (.k (.c (.c (.c (.c (.c (.c (.c (.c (.c (.c sN))))))))))) hs'
    clear hs'
    refine ⟨[], _, [11], (fun _ => True), hs.fn, Z, Z, ⟨hs.get (i := 10) Z, hs.get (i := 16) Z, hs.get (i := 17) Z, trivial⟩, trivial, hs, (by kernel_rfl), .nil, ?_⟩
    refine RW.one 11 (by kernel_rfl) (by kernel_rfl) rfl (fun d hd => by cases hd; rfl) [(51, .pointer (some ⟨b0_1, 0, none⟩)), (53, .int .i64 a1.Space), (54, .agg #[.int .u64 a1.Addr, .int .u64 a1.Len])] ⟨rfl, rfl, rfl, trivial⟩ (fun a w hR hs hf => ⟨wanted_yes hf rfl, ?_⟩)
    refine estep_f (ex_call cf_39 hf Z) (ref09_Bus_Unmap.calls k Cd Ce Cf Ct a1.Space (⟨a1.Addr, a1.Len⟩ : Range) b0_1 Xd Jd Xf Xt (hs.enter (.k (.k (.k (.k (.k (.k (.k (.k (.k (.k (.k (.c (.c (.c (.c (.c sN))))))))))))))))) (Sr.nil _ _) hs36) (fun v w hR => ?_)
    obtain ⟨v37, b38, rfl, hs'⟩ := hR
    replace hs := hs.step (.k (.k (.k (.k (.k (.k (.k (.k (.k (.k (.k (.c (.c (.c (.c (.c sN)))))))))))))))) hs'
    clear hs'
    refine ⟨[(12, .bool (decide (s29.2.2.2 = s36.2)))], _, [], (fun _ => True), hs.fn, Z, Z, ⟨⟨hs.get (i := 15) Z, hs.get (i := 16) Z, hs.get (i := 17) Z, trivial⟩, trivial⟩, trivial, hs, (by kernel_rfl), (.cons (qy Z Z Z Z Z fun hR hf => ex_eql hf Z Z) .nil), ?_⟩
    refine RW.zero (by kernel_rfl) (by kernel_rfl) [(56, .bool (decide (s29.2.2.2 = s36.2)))] ⟨Z, trivial⟩ (fun a w hR hs hf => ?_)
    refine stq hf Z Z Z (ex_assign hf Z) fun a hf => ?_
    refine hK39 _ _ ?_
    refine hN28 _ _ ?_
    refine wp_ret ?_
    refine hR8 _ _ ?_
    refine hR6 _ _ ?_
    have eR := some_eq H; subst eR
    replace hs := hs.keep (.k (.k (.k (.k (.k (.k (.k (.k (.k (.k (.k (.k (.k (.k (.k (.d (.d (.d .nil))))))))))))))))))
    replace hs := hs.p4.p4.p4.p4.p4.p14.p14.p14.p14.p14.p14.p14.p14.p14.p14
    exact ret1 Try.results18 hf Z ⟨_, Z, ⟨v30, b31, v32, b33, v34, b35, Wf, Hf, Wt, v37, b38, Xf, Xt, Z, hs⟩⟩
   ·
    replace hf := hf.castB (t := 42) Z (dec_f hc27)
    refine cond_F hf Z ?_
    refine bnd H (fun x40 H40 HO40 => ?_)
    clear H
    refine seq_cut (fun a w => Fr a 219 [(2, .pointer (some ⟨b1, 0, none⟩)), (3, .pointer (some ⟨b2, 0, none⟩)), (5, .pointer (some ⟨b4, 0, none⟩)), (21, .int .i64 a1.Kind), (57, .bool x40)] ∧ St M w0 w [bx b1 58 [.pointer (some ⟨b0_0, 0, none⟩), .pointer (some ⟨b0_1, 0, none⟩)], bxs b0_0 71 [([Wa], 1), ([Wb], 1), ([Wc], 1), (List.map Value.bool Be, 256), ([Wf], 1), ([Wt], 1)], osl Km Wa (ids Fm Ha), nds Fm Ha Ba, osl Km Wb (ids Fm Hb), nds Fm Hb Bb, osl Km Wc (ids Fm Hc), nds Fm Hc Bc, osl Kf Wf (ids Ff Hf), nds Ff Hf Bf, osl Kt Wt Bt, bxs b0_1 56 [([Xd], 1), (List.map Value.bool Ce, 256), ([Xf], 1), ([Xt], 1)], osl KR Xd (List.zip Jd Cd), ndv FR Jd Cd, osl KF Xf Cf, osl Kt Xt Ct, bx b2 43 [.int .i64 a1.Kind, .int .i64 a1.Space, .int .u64 a1.Addr, .int .u64 a1.Len, .int .i64 a1.Width, .int .i64 a1.Owner, .bool a1.Write, .int .u64 a1.Value, .bool a1.Raw], bx b4 32 [.int .u64 a1.Addr, .int .u64 a1.Len]]) (fun Q40 hJ40 hR40 hX40 => ?_) (fun a w hJ => ?_)
    ·
     replace H := H40
     refine seq_reg (fun K41 hK41 => ?_)
     refine stq hf Z Z Z (ex_eql hf Z Z) fun a hf => stq hf Z Z Z (ex_assign hf Z) fun a hf => ?_
     refine hK41 _ _ ?_
     refine itt H (fun hc42 H => ?_) (fun hc42 H => ?_)
     ·
      replace hf := hf.castB (t := 57) Z (dec_t hc42)
      refine cond_T hf Z ?_
      refine wp_skip ?_
      have e40 := some_eq H; subst e40
      exact hJ40 _ _ ⟨hf.sub ⟨Z, Z, Z, Z, Z, trivial⟩, hs⟩
     ·
      replace hf := hf.castB (t := 57) Z (dec_f hc42)
      refine cond_F hf Z ?_
      refine region_k (fun K43 hK43 => ?_)
      refine stq hf Z Z Z (ex_eql hf Z Z) fun a hf => stq hf Z Z Z (ex_assign hf Z) fun a hf => ?_
      refine hK43 _ _ ?_
      have e40 := some_eq H; subst e40
      exact hJ40 _ _ ⟨hf.sub ⟨Z, Z, Z, Z, Z, trivial⟩, hs⟩
    ·
     obtain ⟨hf, hs⟩ := hJ
     replace H := HO40
     clear HO40
     refine itt H (fun hc44 H => ?_) (fun hc44 H => ?_)
     ·
      replace hf := hf.castB (t := 57) Z hc44
      refine cond_T hf Z ?_
      refine seq_n (fun Q45 hN45 hR45 hX45 => ?_)
      refine bnd H (fun s46 hs46 H => ?_)
      refine bnd H (fun s47 hs47 H => ?_)
      refine region_dS fol 15 [(2, .pointer (some ⟨b1, 0, none⟩)), (3, .pointer (some ⟨b2, 0, none⟩))] [(0, .pointer (some ⟨b1, 0, none⟩)), (1, .pointer (some ⟨b0_0, 0, none⟩)), (2, .pointer (some ⟨b2, 5, none⟩)), (3, .int .i64 a1.Owner), (4, .pointer (some ⟨b2, 6, none⟩)), (5, .bool a1.Write), (7, .pointer (some ⟨b1, 1, none⟩)), (8, .pointer (some ⟨b0_1, 0, none⟩)), (9, .pointer (some ⟨b2, 5, none⟩)), (10, .int .i64 a1.Owner), (11, .pointer (some ⟨b2, 6, none⟩)), (12, .bool a1.Write)] [6, 13] (fun w => (bx b1 58 [.pointer (some ⟨b0_0, 0, none⟩), .pointer (some ⟨b0_1, 0, none⟩)]).ok w ∧ (bx b2 43 [.int .i64 a1.Kind, .int .i64 a1.Space, .int .u64 a1.Addr, .int .u64 a1.Len, .int .i64 a1.Width, .int .i64 a1.Owner, .bool a1.Write, .int .u64 a1.Value, .bool a1.Raw]).ok w ∧ True) hf ⟨Z, Z, trivial⟩ (by kernel_rfl) (by kernel_rfl) Z (by decide) ⟨hs.drew.get (i := 0) Z, hs.drew.get (i := 16) Z, trivial⟩ hs ((.cons (qy Z Z Z Z Z fun hR hf => ex_fieldAddrB fa_58_0 Z hf Z) (.cons (qy Z Z Z Z Z fun hR hf => ex_load sc_24 hf Z (bx_cell (hR.1) _ Z)) (.cons (qy Z Z Z Z Z fun hR hf => ex_fieldAddrB fa_43_5 Z hf Z) (.cons (qy Z Z Z Z Z fun hR hf => ex_load sc_3 hf Z (bx_cell (hR.2.1) _ Z)) (.cons (qy Z Z Z Z Z fun hR hf => ex_fieldAddrB fa_43_6 Z hf Z) (.cons (qy Z Z Z Z Z fun hR hf => ex_load sc_4 hf Z (bx_cell (hR.2.1) _ Z)) (.cons (qy Z Z Z Z Z fun hR hf => ex_fieldAddrB fa_58_1 Z hf Z) (.cons (qy Z Z Z Z Z fun hR hf => ex_load sc_50 hf Z (bx_cell (hR.1) _ Z)) (.cons (qy Z Z Z Z Z fun hR hf => ex_fieldAddrB fa_43_5 Z hf Z) (.cons (qy Z Z Z Z Z fun hR hf => ex_load sc_3 hf Z (bx_cell (hR.2.1) _ Z)) (.cons (qy Z Z Z Z Z fun hR hf => ex_fieldAddrB fa_43_6 Z hf Z) (.cons (qy Z Z Z Z Z fun hR hf => ex_load sc_4 hf Z (bx_cell (hR.2.1) _ Z)) .nil))))))))))))) (fun K48 hK48 => ?_)
      refine RW.one 6 (by kernel_rfl) (by kernel_rfl) rfl (fun d hd => by cases hd; rfl) [(61, .pointer (some ⟨b0_0, 0, none⟩)), (63, .int .i64 a1.Owner), (65, .bool a1.Write)] ⟨rfl, rfl, rfl, trivial⟩ (fun a w hR hs hf => ⟨wanted_yes hf rfl, ?_⟩)
      refine estep_f (ex_call cf_12 hf Z) (iospace_Bus_Enable.calls k Ba Bb Bc Be Bf Bt a1.Owner a1.Write b0_0 Wa Ha Wb Hb Wc Hc Wf Hf Wt (hs.enter (.k (.c (.c (.c (.c (.c (.c (.c (.c (.c (.c sN)))))))))))) (Sr.nil _ _) hs46) (fun v w hR => ?_)
      obtain ⟨rfl, hs'⟩ := hR
      replace hs := hs.step (.k (.c (.c (.c (.c (.c (.c (.c (.c (.c (.c sN))))))))))) hs'
      clear hs'
      refine ⟨[], _, [13], (fun _ => True), hs.fn, Z, Z, ⟨hs.get (i := 10) Z, hs.get (i := 16) Z, trivial⟩, trivial, hs, (by kernel_rfl), .nil, ?_⟩
      refine RW.one 13 (by kernel_rfl) (by kernel_rfl) rfl (fun d hd => by cases hd; rfl) [(68, .pointer (some ⟨b0_1, 0, none⟩)), (70, .int .i64 a1.Owner), (72, .bool a1.Write)] ⟨rfl, rfl, rfl, trivial⟩ (fun a w hR hs hf => ⟨wanted_yes hf rfl, ?_⟩)
      refine estep_f (ex_call cf_40 hf Z) (ref09_Bus_Enable.calls k Cd Ce Cf Ct a1.Owner a1.Write b0_1 Xd Jd Xf Xt (hs.enter (.k (.k (.k (.k (.k (.k (.k (.k (.k (.k (.k (.c (.c (.c (.c (.c sN))))))))))))))))) (Sr.nil _ _) hs47) (fun v w hR => ?_)
      obtain ⟨rfl, hs'⟩ := hR
      replace hs := hs.step (.k (.k (.k (.k (.k (.k (.k (.k (.k (.k (.k (.c (.c (.c (.c (.c sN)))))))))))))))) hs'
      clear hs'
      refine ⟨[(14, .bool (decide (s46.2 = s47.2)))], _, [], (fun _ => True), hs.fn, Z, Z, ⟨⟨hs.get (i := 15) Z, hs.get (i := 16) Z, trivial⟩, trivial⟩, trivial, hs, (by kernel_rfl), (.cons (qy Z Z Z Z Z fun hR hf => ex_eql hf Z Z) .nil), ?_⟩
      refine RW.zero (by kernel_rfl) (by kernel_rfl) [(74, .bool (decide (s46.2 = s47.2)))] ⟨Z, trivial⟩ (fun a w hR hs hf => ?_)
      refine stq hf Z Z Z (ex_assign hf Z) fun a hf => ?_
      refine hK48 _ _ ?_
      refine hN45 _ _ ?_
      refine wp_ret ?_
      refine hR8 _ _ ?_
      refine hR6 _ _ ?_
      have eR := some_eq H; subst eR
      replace hs := hs.keep (.k (.k (.k (.k (.k (.k (.k (.k (.k (.k (.k (.k (.k (.k (.k (.d (.d (.d .nil))))))))))))))))))
      replace hs := hs.p4.p4.p4.p4.p4.p14.p14.p14.p14.p14.p14.p14.p14.p14.p14
      exact ret1 Try.results18 hf Z ⟨_, Z, ⟨Wa, Ha, Wb, Hb, Wc, Hc, Wf, Hf, Wt, Xd, Jd, Xf, Xt, Z, hs⟩⟩
     ·
      replace hf := hf.castB (t := 57) Z (bool_f hc44)
      refine cond_F hf Z ?_
      refine seq_reg (fun K49 hK49 => ?_)
      refine stq hf Z Z Z (ex_eql hf Z Z) fun a hf => stq hf Z Z Z (ex_assign hf Z) fun a hf => ?_
      refine hK49 _ _ ?_
      refine itt H (fun hc50 H => ?_) (fun hc50 H => ?_)
      ·
       replace hf := hf.castB (t := 75) Z (dec_t hc50)
       refine cond_T hf Z ?_
       refine seq_n (fun Q51 hN51 hR51 hX51 => ?_)
       refine bnd H (fun s52 hs52 H => ?_)
       refine bnd H (fun s55 hs55 H => ?_)
       refine region_dS fol 17 [(2, .pointer (some ⟨b1, 0, none⟩)), (3, .pointer (some ⟨b2, 0, none⟩)), (5, .pointer (some ⟨b4, 0, none⟩))] [(0, .pointer (some ⟨b1, 0, none⟩)), (1, .pointer (some ⟨b0_0, 0, none⟩)), (2, .pointer (some ⟨b2, 1, none⟩)), (3, .int .i64 a1.Space), (4, .agg #[.int .u64 a1.Addr, .int .u64 a1.Len]), (5, .pointer (some ⟨b2, 4, none⟩)), (6, .int .i64 a1.Width), (8, .pointer (some ⟨b1, 1, none⟩)), (9, .pointer (some ⟨b0_1, 0, none⟩)), (10, .pointer (some ⟨b2, 1, none⟩)), (11, .int .i64 a1.Space), (12, .agg #[.int .u64 a1.Addr, .int .u64 a1.Len]), (13, .pointer (some ⟨b2, 4, none⟩)), (14, .int .i64 a1.Width)] [7, 15] (fun w => (bx b1 58 [.pointer (some ⟨b0_0, 0, none⟩), .pointer (some ⟨b0_1, 0, none⟩)]).ok w ∧ (bx b2 43 [.int .i64 a1.Kind, .int .i64 a1.Space, .int .u64 a1.Addr, .int .u64 a1.Len, .int .i64 a1.Width, .int .i64 a1.Owner, .bool a1.Write, .int .u64 a1.Value, .bool a1.Raw]).ok w ∧ (bx b4 32 [.int .u64 a1.Addr, .int .u64 a1.Len]).ok w ∧ True) hf ⟨Z, Z, Z, trivial⟩ (by kernel_rfl) (by kernel_rfl) Z (by decide) ⟨hs.drew.get (i := 0) Z, hs.drew.get (i := 16) Z, hs.drew.get (i := 17) Z, trivial⟩ hs ((.cons (qy Z Z Z Z Z fun hR hf => ex_fieldAddrB fa_58_0 Z hf Z) (.cons (qy Z Z Z Z Z fun hR hf => ex_load sc_24 hf Z (bx_cell (hR.1) _ Z)) (.cons (qy Z Z Z Z Z fun hR hf => ex_fieldAddrB fa_43_1 Z hf Z) (.cons (qy Z Z Z Z Z fun hR hf => ex_load sc_3 hf Z (bx_cell (hR.2.1) _ Z)) (.cons (qy Z Z Z Z Z fun hR hf => ex_loadA (cs := [.int .u64 a1.Addr, .int .u64 a1.Len]) ag_32 hf Z (bx_cells (hR.2.2.1) Z)) (.cons (qy Z Z Z Z Z fun hR hf => ex_fieldAddrB fa_43_4 Z hf Z) (.cons (qy Z Z Z Z Z fun hR hf => ex_load sc_3 hf Z (bx_cell (hR.2.1) _ Z)) (.cons (qy Z Z Z Z Z fun hR hf => ex_fieldAddrB fa_58_1 Z hf Z) (.cons (qy Z Z Z Z Z fun hR hf => ex_load sc_50 hf Z (bx_cell (hR.1) _ Z)) (.cons (qy Z Z Z Z Z fun hR hf => ex_fieldAddrB fa_43_1 Z hf Z) (.cons (qy Z Z Z Z Z fun hR hf => ex_load sc_3 hf Z (bx_cell (hR.2.1) _ Z)) (.cons (qy Z Z Z Z Z fun hR hf => ex_loadA (cs := [.int .u64 a1.Addr, .int .u64 a1.Len]) ag_32 hf Z (bx_cells (hR.2.2.1) Z)) (.cons (qy Z Z Z Z Z fun hR hf => ex_fieldAddrB fa_43_4 Z hf Z) (.cons (qy Z Z Z Z Z fun hR hf => ex_load sc_3 hf Z (bx_cell (hR.2.1) _ Z)) .nil))))))))))))))) (fun K57 hK57 => ?_)
       refine RW.one 7 (by kernel_rfl) (by kernel_rfl) rfl (fun d hd => by cases hd; rfl) [(78, .pointer (some ⟨b0_0, 0, none⟩)), (80, .int .i64 a1.Space), (81, .agg #[.int .u64 a1.Addr, .int .u64 a1.Len]), (83, .int .i64 a1.Width)] ⟨rfl, rfl, rfl, rfl, trivial⟩ (fun a w hR hs hf => ⟨wanted_yes hf rfl, ?_⟩)
       refine estep_f (ex_call cf_16 hf Z) (iospace_Bus_PlanFault.calls k Ba Bb Bc Be Bf Bt a1.Space (⟨a1.Addr, a1.Len⟩ : Range) a1.Width b0_0 Wa Ha Wb Hb Wc Hc Wf Hf Wt (hs.enter (.k (.c (.c (.c (.c (.c (.c (.c (.c (.c (.c sN)))))))))))) (Sr.nil _ _) hs52) (fun v w hR => ?_)
       obtain ⟨v53, b54, rfl, hs'⟩ := hR
       replace hs := hs.step (.k (.c (.c (.c (.c (.c (.c (.c (.c (.c (.c sN))))))))))) hs'
       clear hs'
       refine ⟨[], _, [15], (fun _ => True), hs.fn, Z, Z, ⟨hs.get (i := 10) Z, hs.get (i := 16) Z, hs.get (i := 17) Z, trivial⟩, trivial, hs, (by kernel_rfl), .nil, ?_⟩
       refine RW.one 15 (by kernel_rfl) (by kernel_rfl) rfl (fun d hd => by cases hd; rfl) [(86, .pointer (some ⟨b0_1, 0, none⟩)), (88, .int .i64 a1.Space), (89, .agg #[.int .u64 a1.Addr, .int .u64 a1.Len]), (91, .int .i64 a1.Width)] ⟨rfl, rfl, rfl, rfl, trivial⟩ (fun a w hR hs hf => ⟨wanted_yes hf rfl, ?_⟩)
       refine estep_f (ex_call cf_41 hf Z) (ref09_Bus_PlanFault.calls k Cd Ce Cf Ct a1.Space (⟨a1.Addr, a1.Len⟩ : Range) a1.Width b0_1 Xd Jd Xf Xt (hs.enter (.k (.k (.k (.k (.k (.k (.k (.k (.k (.k (.k (.c (.c (.c (.c (.c sN))))))))))))))))) (Sr.nil _ _) hs55) (fun v w hR => ?_)
       obtain ⟨v56, rfl, hs'⟩ := hR
       replace hs := hs.step (.k (.k (.k (.k (.k (.k (.k (.k (.k (.k (.k (.c (.c (.c (.c (.c sN)))))))))))))))) hs'
       clear hs'
       refine ⟨[(16, .bool (decide (s52.2 = s55.2)))], _, [], (fun _ => True), hs.fn, Z, Z, ⟨⟨hs.get (i := 15) Z, hs.get (i := 16) Z, hs.get (i := 17) Z, trivial⟩, trivial⟩, trivial, hs, (by kernel_rfl), (.cons (qy Z Z Z Z Z fun hR hf => ex_eql hf Z Z) .nil), ?_⟩
       refine RW.zero (by kernel_rfl) (by kernel_rfl) [(93, .bool (decide (s52.2 = s55.2)))] ⟨Z, trivial⟩ (fun a w hR hs hf => ?_)
       refine stq hf Z Z Z (ex_assign hf Z) fun a hf => ?_
       refine hK57 _ _ ?_
       refine hN51 _ _ ?_
       refine wp_ret ?_
       refine hR8 _ _ ?_
       refine hR6 _ _ ?_
       have eR := some_eq H; subst eR
       replace hs := hs.keep (.k (.k (.k (.k (.k (.k (.k (.k (.k (.k (.k (.k (.k (.k (.k (.d (.d (.d .nil))))))))))))))))))
       replace hs := hs.p4.p2.p4.p4.p4.p14.p8.p8.p14.p14.p14.p14.p14.p14.p14
       exact ret1 Try.results18 hf Z ⟨_, Z, ⟨Wa, Ha, Wb, Hb, Wc, Hc, v53, b54, Wt, Xd, Jd, v56, Xt, Z, hs⟩⟩
      ·
       replace hf := hf.castB (t := 75) Z (dec_f hc50)
       refine cond_F hf Z ?_
       refine seq_reg (fun K58 hK58 => ?_)
       refine stq hf Z Z Z (ex_eql hf Z Z) fun a hf => stq hf Z Z Z (ex_assign hf Z) fun a hf => ?_
       refine hK58 _ _ ?_
       refine itt H (fun hc59 H => ?_) (fun hc59 H => ?_)
       ·
        replace hf := hf.castB (t := 94) Z (dec_t hc59)
        refine cond_T hf Z ?_
        refine seq_n (fun Q60 hN60 hR60 hX60 => ?_)
        refine bnd H (fun s61 hs61 H => ?_)
        refine bnd H (fun s64 hs64 H => ?_)
        refine bnd H (fun s67 hs67 H => ?_)
        refine region_dS fol 7 [(2, .pointer (some ⟨b1, 0, none⟩))] [(0, .pointer (some ⟨b1, 0, none⟩)), (1, .pointer (some ⟨b0_0, 0, none⟩)), (3, .pointer (some ⟨b1, 1, none⟩)), (4, .pointer (some ⟨b0_1, 0, none⟩))] [2, 5, 6] (fun w => (bx b1 58 [.pointer (some ⟨b0_0, 0, none⟩), .pointer (some ⟨b0_1, 0, none⟩)]).ok w ∧ True) hf ⟨Z, trivial⟩ (by kernel_rfl) (by kernel_rfl) Z (by decide) ⟨hs.drew.get (i := 0) Z, trivial⟩ hs ((.cons (qy Z Z Z Z Z fun hR hf => ex_fieldAddrB fa_58_0 Z hf Z) (.cons (qy Z Z Z Z Z fun hR hf => ex_load sc_24 hf Z (bx_cell (hR.1) _ Z)) (.cons (qy Z Z Z Z Z fun hR hf => ex_fieldAddrB fa_58_1 Z hf Z) (.cons (qy Z Z Z Z Z fun hR hf => ex_load sc_50 hf Z (bx_cell (hR.1) _ Z)) .nil))))) (fun K68 hK68 => ?_)
        refine RW.one 2 (by kernel_rfl) (by kernel_rfl) rfl (fun d hd => by cases hd; rfl) [(97, .pointer (some ⟨b0_0, 0, none⟩))] ⟨rfl, trivial⟩ (fun a w hR hs hf => ⟨wanted_yes hf rfl, ?_⟩)
        refine estep_f (ex_call cf_21 hf Z) (iospace_Bus_TakeTrace.calls k Ba Bb Bc Be Bf Bt b0_0 Wa Ha Wb Hb Wc Hc Wf Hf Wt (hs.enter (.k (.c (.c (.c (.c (.c (.c (.c (.c (.c (.c sN)))))))))))) (Sr.nil _ _) hs61) (fun v w hR => ?_)
        obtain ⟨v62, v63, rfl, hs'⟩ := hR
        replace hs := hs.step (.k (.c (.c (.c (.c (.c (.c (.c (.c (.c (.c sN))))))))))) hs'
        clear hs'
        refine ⟨[], _, [5, 6], (fun _ => True), hs.fn, Z, Z, ⟨hs.get (i := 11) Z, trivial⟩, trivial, hs, (by kernel_rfl), .nil, ?_⟩
        refine RW.one 5 (by kernel_rfl) (by kernel_rfl) rfl (fun d hd => by cases hd; rfl) [(100, .pointer (some ⟨b0_1, 0, none⟩))] ⟨rfl, trivial⟩ (fun a w hR hs hf => ⟨wanted_yes hf rfl, ?_⟩)
        refine estep_f (ex_call cf_22 hf Z) (ref09_Bus_TakeTrace.calls k Cd Ce Cf Ct b0_1 Xd Jd Xf Xt (hs.enter (.k (.k (.k (.k (.k (.k (.k (.k (.k (.k (.k (.k (.c (.c (.c (.c (.c sN)))))))))))))))))) (Sr.nil _ _) hs64) (fun v w hR => ?_)
        obtain ⟨v65, v66, rfl, hs'⟩ := hR
        replace hs := hs.step (.k (.k (.k (.k (.k (.k (.k (.k (.k (.k (.k (.k (.c (.c (.c (.c (.c sN))))))))))))))))) hs'
        clear hs'
        refine ⟨[], _, [6], (fun _ => True), hs.fn, Z, Z, ⟨⟨hs.get (i := 17) Z, trivial⟩, trivial⟩, trivial, hs, (by kernel_rfl), .nil, ?_⟩
        refine RW.one 6 (by kernel_rfl) (by kernel_rfl) rfl (fun d hd => by cases hd; rfl) [(98, v63), (101, v66)] ⟨rfl, rfl, trivial⟩ (fun a w hR hs hf => ⟨wanted_yes hf rfl, ?_⟩)
        refine estep_f (ex_call cf_20 hf Z) (help_Equal_api_Traced.calls k s61.2 s64.2 v63 v66 (hs.enter sN) (Sr.own hs sN (i := 16) Z osl_rsl (fun _ h => h.1) (Sr.own hs sN (i := 5) Z osl_rsl (fun _ h => h.1) (Sr.nil _ _))) hs67) (fun v w hR => ?_)
        obtain ⟨rfl, hs'⟩ := hR
        replace hs := hs.step sN hs'
        clear hs'
        refine ⟨[], _, [], (fun _ => True), hs.fn, Z, Z, ⟨⟨⟨hs.get (i := 17) Z, trivial⟩, trivial⟩, trivial⟩, trivial, hs, (by kernel_rfl), .nil, ?_⟩
        refine RW.zero (by kernel_rfl) (by kernel_rfl) [(102, .bool s67)] ⟨Z, trivial⟩ (fun a w hR hs hf => ?_)
        refine stq hf Z Z Z (ex_assign hf Z) fun a hf => ?_
        refine hK68 _ _ ?_
        refine hN60 _ _ ?_
        refine wp_ret ?_
        refine hR8 _ _ ?_
        refine hR6 _ _ ?_
        have eR := some_eq H; subst eR
        replace hs := hs.keep (.k (.k (.k (.k (.k (.d (.k (.k (.k (.k (.k (.k (.k (.k (.k (.k (.d (.d (.d (.d .nil))))))))))))))))))))
        replace hs := hs.p1.p4.p4.p4.p4.p6.p14.p14.p14.p14.p14.p14.p14.p14.p14
        exact ret1 Try.results18 hf Z ⟨_, Z, ⟨Wa, Ha, Wb, Hb, Wc, Hc, Wf, Hf, v62, Xd, Jd, Xf, v65, Z, hs⟩⟩
       ·
        replace hf := hf.castB (t := 94) Z (dec_f hc59)
        refine cond_F hf Z ?_
        refine seq_reg (fun K69 hK69 => ?_)
        refine stq hf Z Z Z (ex_eql hf Z Z) fun a hf => stq hf Z Z Z (ex_assign hf Z) fun a hf => ?_
        refine hK69 _ _ ?_
        refine itt H (fun hc70 H => ?_) (fun hc70 H => ?_)
        ·
         replace hf := hf.castB (t := 103) Z (dec_t hc70)
         refine cond_T hf Z ?_
         refine seq_n (fun Q71 hN71 hR71 hX71 => ?_)
         refine bnd H (fun s72 hs72 H => ?_)
         refine bnd H (fun s73 hs73 H => ?_)
         refine region_dS fol 21 [(2, .pointer (some ⟨b1, 0, none⟩)), (3, .pointer (some ⟨b2, 0, none⟩))] [(0, .pointer (some ⟨b1, 0, none⟩)), (1, .pointer (some ⟨b0_0, 0, none⟩)), (2, .pointer (some ⟨b2, 1, none⟩)), (3, .int .i64 a1.Space), (4, .pointer (some ⟨b2, 2, none⟩)), (5, .int .u64 a1.Addr), (6, .pointer (some ⟨b2, 7, none⟩)), (7, .int .u64 a1.Value), (8, .int .u8 (IntKind.u8.wrap a1.Value)), (10, .pointer (some ⟨b1, 1, none⟩)), (11, .pointer (some ⟨b0_1, 0, none⟩)), (12, .pointer (some ⟨b2, 1, none⟩)), (13, .int .i64 a1.Space), (14, .pointer (some ⟨b2, 2, none⟩)), (15, .int .u64 a1.Addr), (16, .pointer (some ⟨b2, 7, none⟩)), (17, .int .u64 a1.Value), (18, .int .u8 (IntKind.u8.wrap a1.Value))] [9, 19] (fun w => (bx b1 58 [.pointer (some ⟨b0_0, 0, none⟩), .pointer (some ⟨b0_1, 0, none⟩)]).ok w ∧ (bx b2 43 [.int .i64 a1.Kind, .int .i64 a1.Space, .int .u64 a1.Addr, .int .u64 a1.Len, .int .i64 a1.Width, .int .i64 a1.Owner, .bool a1.Write, .int .u64 a1.Value, .bool a1.Raw]).ok w ∧ True) hf ⟨Z, Z, trivial⟩ (by kernel_rfl) (by kernel_rfl) Z (by decide) ⟨hs.drew.get (i := 0) Z, hs.drew.get (i := 16) Z, trivial⟩ hs ((.cons (qy Z Z Z Z Z fun hR hf => ex_fieldAddrB fa_58_0 Z hf Z) (.cons (qy Z Z Z Z Z fun hR hf => ex_load sc_24 hf Z (bx_cell (hR.1) _ Z)) (.cons (qy Z Z Z Z Z fun hR hf => ex_fieldAddrB fa_43_1 Z hf Z) (.cons (qy Z Z Z Z Z fun hR hf => ex_load sc_3 hf Z (bx_cell (hR.2.1) _ Z)) (.cons (qy Z Z Z Z Z fun hR hf => ex_fieldAddrB fa_43_2 Z hf Z) (.cons (qy Z Z Z Z Z fun hR hf => ex_load sc_22 hf Z (bx_cell (hR.2.1) _ Z)) (.cons (qy Z Z Z Z Z fun hR hf => ex_fieldAddrB fa_43_7 Z hf Z) (.cons (qy Z Z Z Z Z fun hR hf => ex_load sc_22 hf Z (bx_cell (hR.2.1) _ Z)) (.cons (qy Z Z Z Z Z fun hR hf => ex_conv Try.underlying22 Try.underlying5 hf Z) (.cons (qy Z Z Z Z Z fun hR hf => ex_fieldAddrB fa_58_1 Z hf Z) (.cons (qy Z Z Z Z Z fun hR hf => ex_load sc_50 hf Z (bx_cell (hR.1) _ Z)) (.cons (qy Z Z Z Z Z fun hR hf => ex_fieldAddrB fa_43_1 Z hf Z) (.cons (qy Z Z Z Z Z fun hR hf => ex_load sc_3 hf Z (bx_cell (hR.2.1) _ Z)) (.cons (qy Z Z Z Z Z fun hR hf => ex_fieldAddrB fa_43_2 Z hf Z) (.cons (qy Z Z Z Z Z fun hR hf => ex_load sc_22 hf Z (bx_cell (hR.2.1) _ Z)) (.cons (qy Z Z Z Z Z fun hR hf => ex_fieldAddrB fa_43_7 Z hf Z) (.cons (qy Z Z Z Z Z fun hR hf => ex_load sc_22 hf Z (bx_cell (hR.2.1) _ Z)) (.cons (qy Z Z Z Z Z fun hR hf => ex_conv Try.underlying22 Try.underlying5 hf Z) .nil))))))))))))))))))) (fun K74 hK74 => ?_)
         refine RW.one 9 (by kernel_rfl) (by kernel_rfl) rfl (fun d hd => by cases hd; rfl) [(106, .pointer (some ⟨b0_0, 0, none⟩)), (108, .int .i64 a1.Space), (110, .int .u64 a1.Addr), (113, .int .u8 (IntKind.u8.wrap a1.Value))] ⟨rfl, rfl, rfl, rfl, trivial⟩ (fun a w hR hs hf => ⟨wanted_yes hf rfl, ?_⟩)
         refine estep_f (ex_call cf_42 hf Z) (iospace_Bus_Poke.calls k Ba Bb Bc Be Bf Bt a1.Space a1.Addr (IntKind.u8.wrap a1.Value) b0_0 Wa Ha Wb Hb Wc Hc Wf Hf Wt (hs.enter (.k (.c (.c (.c (.c (.c (.c (.c (.c (.c (.c sN)))))))))))) (Sr.nil _ _) hs72) (fun v w hR => ?_)
         obtain ⟨rfl, hs'⟩ := hR
         replace hs := hs.step (.k (.c (.c (.c (.c (.c (.c (.c (.c (.c (.c sN))))))))))) hs'
         clear hs'
         refine ⟨[], _, [19], (fun _ => True), hs.fn, Z, Z, ⟨hs.get (i := 10) Z, hs.get (i := 16) Z, trivial⟩, trivial, hs, (by kernel_rfl), .nil, ?_⟩
         refine RW.one 19 (by kernel_rfl) (by kernel_rfl) rfl (fun d hd => by cases hd; rfl) [(116, .pointer (some ⟨b0_1, 0, none⟩)), (118, .int .i64 a1.Space), (120, .int .u64 a1.Addr), (123, .int .u8 (IntKind.u8.wrap a1.Value))] ⟨rfl, rfl, rfl, rfl, trivial⟩ (fun a w hR hs hf => ⟨wanted_yes hf rfl, ?_⟩)
         refine estep_f (ex_call cf_43 hf Z) (ref09_Bus_Poke.calls k Cd Ce Cf Ct a1.Space a1.Addr (IntKind.u8.wrap a1.Value) b0_1 Xd Jd Xf Xt (hs.enter (.k (.k (.k (.k (.k (.k (.k (.k (.k (.k (.k (.c (.c (.c (.c (.c sN))))))))))))))))) (Sr.nil _ _) hs73) (fun v w hR => ?_)
         obtain ⟨rfl, hs'⟩ := hR
         replace hs := hs.step (.k (.k (.k (.k (.k (.k (.k (.k (.k (.k (.k (.c (.c (.c (.c (.c sN)))))))))))))))) hs'
         clear hs'
         refine ⟨[(20, .bool (s72.2.2.2 == s73.2))], _, [], (fun _ => True), hs.fn, Z, Z, ⟨⟨hs.get (i := 15) Z, hs.get (i := 16) Z, trivial⟩, trivial⟩, trivial, hs, (by kernel_rfl), (.cons (qy Z Z Z Z Z fun hR hf => ex_eqb Try.underlying4 hf Z Z) .nil), ?_⟩
         refine RW.zero (by kernel_rfl) (by kernel_rfl) [(125, .bool (s72.2.2.2 == s73.2))] ⟨Z, trivial⟩ (fun a w hR hs hf => ?_)
         refine stq hf Z Z Z (ex_assign hf Z) fun a hf => ?_
         refine hK74 _ _ ?_
         refine hN71 _ _ ?_
         refine wp_ret ?_
         refine hR8 _ _ ?_
         refine hR6 _ _ ?_
         have eR := some_eq H; subst eR
         replace hs := hs.keep (.k (.k (.k (.k (.k (.k (.k (.k (.k (.k (.k (.k (.k (.k (.k (.d (.d (.d .nil))))))))))))))))))
         replace hs := hs.p4.p4.p4.p4.p4.p14.p14.p14.p14.p14.p14.p14.p14.p14.p14
         exact ret1 Try.results18 hf Z ⟨_, Z, ⟨Wa, Ha, Wb, Hb, Wc, Hc, Wf, Hf, Wt, Xd, Jd, Xf, Xt, Z, hs⟩⟩
        ·
         replace hf := hf.castB (t := 103) Z (dec_f hc70)
         refine cond_F hf Z ?_
         refine wp_skip ?_
         refine hN8 _ _ ?_
         refine hN6 _ _ ?_
         refine seq_reg (fun K76 hK76 => ?_)
         refine stq hf Z Z Z (ex_fieldAddrB fa_43_1 Z hf Z) fun a hf => stq hf Z Z Z (ex_load sc_3 hf Z (bx_cell (hs.get (i := 16) Z) _ Z)) fun a hf => stq hf Z Z Z (ex_fieldAddrB fa_43_2 Z hf Z) fun a hf => stq hf Z Z Z (ex_load sc_22 hf Z (bx_cell (hs.get (i := 16) Z) _ Z)) fun a hf => stq hf Z Z Z (ex_fieldAddrB fa_43_4 Z hf Z) fun a hf => stq hf Z Z Z (ex_load sc_3 hf Z (bx_cell (hs.get (i := 16) Z) _ Z)) fun a hf => stq hf Z Z Z (ex_fieldAddrB fa_43_6 Z hf Z) fun a hf => stq hf Z Z Z (ex_load sc_4 hf Z (bx_cell (hs.get (i := 16) Z) _ Z)) fun a hf => stq hf Z Z Z (ex_fieldAddrB fa_43_7 Z hf Z) fun a hf => stq hf Z Z Z (ex_load sc_22 hf Z (bx_cell (hs.get (i := 16) Z) _ Z)) fun a hf => stq hf Z Z Z (ex_build (cs := [.int .i64 a1.Space, .int .u64 a1.Addr, .int .i64 a1.Width, .bool a1.Write, .int .u64 a1.Value]) bt_37 hf Z (.cons Z (.cons Z (.cons Z (.cons Z (.cons Z .nil))))) Z) fun a hf => ?_
         refine stepV hf Z Z Z (er_alloc hs ti_37 (cs := [.int .i64 0, .int .u64 0, .int .i64 0, .bool false, .int .u64 0]) Z) (fun v w hR a hf => ?_)
         obtain ⟨b75, rfl, hs⟩ := hR
         refine stepS hf Z Z (er_storeAB (vs := [.int .i64 a1.Space, .int .u64 a1.Addr, .int .i64 a1.Width, .bool a1.Write, .int .u64 a1.Value]) (cs' := [.int .i64 a1.Space, .int .u64 a1.Addr, .int .i64 a1.Width, .bool a1.Write, .int .u64 a1.Value]) hs (.c sN) sz_37 hf Z Z (all1 Z (all1 Z (all1 Z (all1 Z (all1 Z (all1_nil)))))) Z Z) (fun w hs => ?_)
         refine hK76 _ _ ?_
         refine bnd H (fun s77 hs77 H => ?_)
         refine seq_reg (fun K81 hK81 => ?_)
         refine stq hf Z Z Z (ex_fieldAddrB fa_58_0 Z hf Z) fun a hf => stq hf Z Z Z (ex_load sc_24 hf Z (bx_cell (hs.get (i := 1) Z) _ Z)) fun a hf => stq hf Z Z Z (ex_loadA (cs := [.int .i64 a1.Space, .int .u64 a1.Addr, .int .i64 a1.Width, .bool a1.Write, .int .u64 a1.Value]) ag_37 hf Z (bx_cells (hs.get (i := 0) Z) Z)) fun a hf => ?_
         refine stepF hf Z Z Z (ex_call cf_13 hf Z) (iospace_Bus_Access.calls k Ba Bb Bc Be Bf Bt (⟨a1.Space, a1.Addr, a1.Width, a1.Write, a1.Value⟩ : Access) b0_0 Wa Ha Wb Hb Wc Hc Wf Hf Wt (hs.enter (.k (.k (.c (.c (.c (.c (.c (.c (.c (.c (.c (.c sN))))))))))))) (Sr.nil _ _) hs77) (fun v w hR a hf => ?_)
         obtain ⟨v78, b79, v80, rfl, hs'⟩ := hR
         replace hs := hs.step (.k (.k (.c (.c (.c (.c (.c (.c (.c (.c (.c (.c sN)))))))))))) hs'
         clear hs'
         refine stq hf Z Z Z (ex_move hf Z) fun a hf => stq hf Z Z Z (ex_extract hf Z Z) fun a hf => stq hf Z Z Z (ex_extract hf Z Z) fun a hf => stq hf Z Z Z (ex_assign hf Z) fun a hf => stq hf Z Z Z (ex_assign hf Z) fun a hf => ?_
         refine hK81 _ _ ?_
         refine bnd H (fun s82 hs82 H => ?_)
         refine seq_reg (fun K85 hK85 => ?_)
         refine stq hf Z Z Z (ex_fieldAddrB fa_58_1 Z hf Z) fun a hf => stq hf Z Z Z (ex_load sc_50 hf Z (bx_cell (hs.get (i := 11) Z) _ Z)) fun a hf => stq hf Z Z Z (ex_loadA (cs := [.int .i64 a1.Space, .int .u64 a1.Addr, .int .i64 a1.Width, .bool a1.Write, .int .u64 a1.Value]) ag_37 hf Z (bx_cells (hs.get (i := 10) Z) Z)) fun a hf => ?_
         refine stepF hf Z Z Z (ex_call cf_44 hf Z) (ref09_Bus_Access.calls k Cd Ce Cf Ct (⟨a1.Space, a1.Addr, a1.Width, a1.Write, a1.Value⟩ : Access) b0_1 Xd Jd Xf Xt (hs.enter (.k (.k (.k (.k (.k (.k (.k (.k (.k (.k (.k (.k (.c (.c (.c (.c (.c sN)))))))))))))))))) (Sr.nil _ _) hs82) (fun v w hR a hf => ?_)
         obtain ⟨v83, v84, rfl, hs'⟩ := hR
         replace hs := hs.step (.k (.k (.k (.k (.k (.k (.k (.k (.k (.k (.k (.k (.c (.c (.c (.c (.c sN))))))))))))))))) hs'
         clear hs'
         refine stq hf Z Z Z (ex_move hf Z) fun a hf => stq hf Z Z Z (ex_extract hf Z Z) fun a hf => stq hf Z Z Z (ex_extract hf Z Z) fun a hf => stq hf Z Z Z (ex_assign hf Z) fun a hf => stq hf Z Z Z (ex_assign hf Z) fun a hf => ?_
         refine hK85 _ _ ?_
         refine bnd H (fun s86 hs86 H => ?_)
         refine seq_reg (fun K87 hK87 => ?_)
         refine stq hf Z Z Z (ex_fieldAddrB fa_58_0 Z hf Z) fun a hf => stq hf Z Z Z (ex_load sc_24 hf Z (bx_cell (hs.get (i := 16) Z) _ Z)) fun a hf => stq hf Z Z Z (ex_fieldAddrB fa_43_1 Z hf Z) fun a hf => stq hf Z Z Z (ex_load sc_3 hf Z (bx_cell (hs.get (i := 17) Z) _ Z)) fun a hf => stq hf Z Z Z (ex_fieldAddrB fa_43_2 Z hf Z) fun a hf => stq hf Z Z Z (ex_load sc_22 hf Z (bx_cell (hs.get (i := 17) Z) _ Z)) fun a hf => ?_
         refine stepF hf Z Z Z (ex_call cf_17 hf Z) (iospace_Bus_Peek.calls k s77.2.2.1 s77.2.2.2.1 s77.2.2.2.2.1 Be s77.1 s77.2.1 a1.Space a1.Addr b0_0 Wa Ha Wb Hb Wc Hc v78 b79 v80 (hs.enter sN) (Sr.own hs sN (i := 5) Z (fun _ h => h) (fun _ h => h) (Sr.own hs sN (i := 9) Z osl_rsl (fun _ h => h.1) (Sr.own hs sN (i := 10) Z (fun _ h => h) (fun _ h => h) (Sr.own hs sN (i := 11) Z osl_rsl (fun _ h => h.1) (Sr.own hs sN (i := 12) Z (fun _ h => h) (fun _ h => h) (Sr.own hs sN (i := 13) Z osl_rsl (fun _ h => h.1) (Sr.own hs sN (i := 14) Z (fun _ h => h) (fun _ h => h) (Sr.own hs sN (i := 6) Z osl_rsl (fun _ h => h.1) (Sr.own hs sN (i := 7) Z (fun _ h => h) (fun _ h => h) (Sr.own hs sN (i := 8) Z osl_rsl (fun _ h => h.1) (Sr.nil _ _))))))))))) hs86) (fun v w hR a hf => ?_)
         obtain ⟨rfl, hs'⟩ := hR
         replace hs := hs.step sN hs'
         clear hs'
         refine stq hf Z Z Z (ex_move hf Z) fun a hf => stq hf Z Z Z (ex_extract hf Z Z) fun a hf => stq hf Z Z Z (ex_extract hf Z Z) fun a hf => stq hf Z Z Z (ex_assign hf Z) fun a hf => stq hf Z Z Z (ex_assign hf Z) fun a hf => ?_
         refine hK87 _ _ ?_
         refine bnd H (fun s88 hs88 H => ?_)
         refine seq_reg (fun K89 hK89 => ?_)
         refine stq hf Z Z Z (ex_fieldAddrB fa_58_1 Z hf Z) fun a hf => stq hf Z Z Z (ex_load sc_50 hf Z (bx_cell (hs.get (i := 16) Z) _ Z)) fun a hf => stq hf Z Z Z (ex_fieldAddrB fa_43_1 Z hf Z) fun a hf => stq hf Z Z Z (ex_load sc_3 hf Z (bx_cell (hs.get (i := 17) Z) _ Z)) fun a hf => stq hf Z Z Z (ex_fieldAddrB fa_43_2 Z hf Z) fun a hf => stq hf Z Z Z (ex_load sc_22 hf Z (bx_cell (hs.get (i := 17) Z) _ Z)) fun a hf => ?_
         refine stepF hf Z Z Z (ex_call cf_45 hf Z) (ref09_Bus_Peek.calls k s82.2.1 Ce s82.2.2.1 s82.1 a1.Space a1.Addr b0_1 Xd Jd v84 v83 (hs.enter sN) (Sr.own hs sN (i := 0) Z (fun _ h => h) (fun _ h => h) (Sr.own hs sN (i := 2) Z osl_rsl (fun _ h => h.1) (Sr.own hs sN (i := 3) Z (fun _ h => h) (fun _ h => h) (Sr.own hs sN (i := 4) Z osl_rsl (fun _ h => h.1) (Sr.own hs sN (i := 1) Z osl_rsl (fun _ h => h.1) (Sr.nil _ _)))))) hs88) (fun v w hR a hf => ?_)
         obtain ⟨rfl, hs'⟩ := hR
         replace hs := hs.step sN hs'
         clear hs'
         refine stq hf Z Z Z (ex_move hf Z) fun a hf => stq hf Z Z Z (ex_extract hf Z Z) fun a hf => stq hf Z Z Z (ex_extract hf Z Z) fun a hf => stq hf Z Z Z (ex_assign hf Z) fun a hf => stq hf Z Z Z (ex_assign hf Z) fun a hf => ?_
         refine hK89 _ _ ?_
         refine seq_n (fun Q90 hN90 hR90 hX90 => ?_)
         refine itt H (fun hc91 H => ?_) (fun hc91 H => ?_)
         ·
          refine itt H (fun hc92 H => ?_) (fun hc92 H => ?_)
          ·
           refine itt H (fun hc93 H => ?_) (fun hc93 H => ?_)
           ·
            refine itt H (fun hc94 H => ?_) (fun hc94 H => ?_)
            ·
             refine bnd H (fun s95 hs95 H => ?_)
             refine bnd H (fun s96 hs96 H => ?_)
             refine itt H (fun hc97 H => ?_) (fun hc97 H => ?_)
             ·
              refine bnd H (fun s98 hs98 H => ?_)
              refine bnd H (fun s99 hs99 H => ?_)
              refine region_dS fol 48 [(2, .pointer (some ⟨b1, 0, none⟩)), (3, .pointer (some ⟨b2, 0, none⟩)), (7, .int .u64 s77.2.2.2.2.2.1), (8, .int .i64 s77.2.2.2.2.2.2), (9, .int .u64 s82.2.2.2.1), (10, .int .i64 s82.2.2.2.2), (11, .int .u8 s86.1), (12, .bool s86.2), (13, .int .u8 s88.1), (14, .bool s88.2)] [(0, .int .u64 s77.2.2.2.2.2.1), (1, .int .u64 s82.2.2.2.1), (2, .bool true), (3, .bool true), (4, .int .i64 s77.2.2.2.2.2.2), (5, .int .i64 s82.2.2.2.2), (6, .bool true), (7, .bool true), (8, .bool true), (9, .int .u8 s86.1), (10, .int .u8 s88.1), (11, .bool true), (12, .bool true), (13, .bool true), (14, .bool s86.2), (15, .bool s88.2), (16, .bool true), (17, .bool true), (18, .bool true), (19, .pointer (some ⟨b1, 0, none⟩)), (20, .pointer (some ⟨b0_0, 0, none⟩)), (21, .pointer (some ⟨b2, 1, none⟩)), (22, .int .i64 a1.Space), (23, .pointer (some ⟨b2, 2, none⟩)), (24, .int .u64 a1.Addr), (26, .pointer (some ⟨b1, 1, none⟩)), (27, .pointer (some ⟨b0_1, 0, none⟩)), (28, .pointer (some ⟨b2, 1, none⟩)), (29, .int .i64 a1.Space), (30, .pointer (some ⟨b2, 2, none⟩)), (31, .int .u64 a1.Addr)] [25, 32, 40, 45] (fun w => (bx b1 58 [.pointer (some ⟨b0_0, 0, none⟩), .pointer (some ⟨b0_1, 0, none⟩)]).ok w ∧ (bx b2 43 [.int .i64 a1.Kind, .int .i64 a1.Space, .int .u64 a1.Addr, .int .u64 a1.Len, .int .i64 a1.Width, .int .i64 a1.Owner, .bool a1.Write, .int .u64 a1.Value, .bool a1.Raw]).ok w ∧ True) hf ⟨Z, Z, Z, Z, Z, Z, Z, Z, Z, Z, trivial⟩ (by kernel_rfl) (by kernel_rfl) Z (by decide) ⟨hs.drew.get (i := 16) Z, hs.drew.get (i := 17) Z, trivial⟩ hs ((.cons (qy Z Z Z Z Z fun hR hf => ex_move hf Z) (.cons (qy Z Z Z Z Z fun hR hf => ex_move hf Z) (.cons (qy Z Z Z Z Z fun hR hf => ex_castB (ex_eql hf Z Z) (dec_t hc91)) (.cons (qy Z Z Z Z Z fun hR hf => ex_move hf Z) (.cons (qy Z Z Z Z Z fun hR hf => ex_move hf Z) (.cons (qy Z Z Z Z Z fun hR hf => ex_move hf Z) (.cons (qy Z Z Z Z Z fun hR hf => ex_castB (ex_eql hf Z Z) (dec_t hc92)) (.cons (qy Z Z Z Z Z fun hR hf => ex_pickT hf Z Z) (.cons (qy Z Z Z Z Z fun hR hf => ex_move hf Z) (.cons (qy Z Z Z Z Z fun hR hf => ex_move hf Z) (.cons (qy Z Z Z Z Z fun hR hf => ex_move hf Z) (.cons (qy Z Z Z Z Z fun hR hf => ex_castB (ex_eql hf Z Z) (dec_t hc93)) (.cons (qy Z Z Z Z Z fun hR hf => ex_pickT hf Z Z) (.cons (qy Z Z Z Z Z fun hR hf => ex_move hf Z) (.cons (qy Z Z Z Z Z fun hR hf => ex_move hf Z) (.cons (qy Z Z Z Z Z fun hR hf => ex_move hf Z) (.cons (qy Z Z Z Z Z fun hR hf => ex_castB (ex_eqb Try.underlying4 hf Z Z) hc94) (.cons (qy Z Z Z Z Z fun hR hf => ex_pickT hf Z Z) (.cons (qy Z Z Z Z Z fun hR hf => ex_move hf Z) (.cons (qy Z Z Z Z Z fun hR hf => ex_fieldAddrB fa_58_0 Z hf Z) (.cons (qy Z Z Z Z Z fun hR hf => ex_load sc_24 hf Z (bx_cell (hR.1) _ Z)) (.cons (qy Z Z Z Z Z fun hR hf => ex_fieldAddrB fa_43_1 Z hf Z) (.cons (qy Z Z Z Z Z fun hR hf => ex_load sc_3 hf Z (bx_cell (hR.2.1) _ Z)) (.cons (qy Z Z Z Z Z fun hR hf => ex_fieldAddrB fa_43_2 Z hf Z) (.cons (qy Z Z Z Z Z fun hR hf => ex_load sc_22 hf Z (bx_cell (hR.2.1) _ Z)) (.cons (qy Z Z Z Z Z fun hR hf => ex_fieldAddrB fa_58_1 Z hf Z) (.cons (qy Z Z Z Z Z fun hR hf => ex_load sc_50 hf Z (bx_cell (hR.1) _ Z)) (.cons (qy Z Z Z Z Z fun hR hf => ex_fieldAddrB fa_43_1 Z hf Z) (.cons (qy Z Z Z Z Z fun hR hf => ex_load sc_3 hf Z (bx_cell (hR.2.1) _ Z)) (.cons (qy Z Z Z Z Z fun hR hf => ex_fieldAddrB fa_43_2 Z hf Z) (.cons (qy Z Z Z Z Z fun hR hf => ex_load sc_22 hf Z (bx_cell (hR.2.1) _ Z)) .nil)))))))))))))))))))))))))))))))) (fun K100 hK100 => ?_)
              refine RW.one 25 (by kernel_rfl) (by kernel_rfl) rfl (fun d hd => by cases hd; rfl) [(189, .bool true), (191, .pointer (some ⟨b0_0, 0, none⟩)), (193, .int .i64 a1.Space), (195, .int .u64 a1.Addr)] ⟨rfl, rfl, rfl, rfl, trivial⟩ (fun a w hR hs hf => ⟨wanted_yes hf rfl, ?_⟩)
              refine estep_f (ex_call cf_15 hf Z) (iospace_Bus_Owner.calls k s77.2.2.1 s77.2.2.2.1 s77.2.2.2.2.1 Be s77.1 s77.2.1 a1.Space a1.Addr b0_0 Wa Ha Wb Hb Wc Hc v78 b79 v80 (hs.enter sN) (Sr.own hs sN (i := 5) Z (fun _ h => h) (fun _ h => h) (Sr.own hs sN (i := 9) Z osl_rsl (fun _ h => h.1) (Sr.own hs sN (i := 10) Z (fun _ h => h) (fun _ h => h) (Sr.own hs sN (i := 11) Z osl_rsl (fun _ h => h.1) (Sr.own hs sN (i := 12) Z (fun _ h => h) (fun _ h => h) (Sr.own hs sN (i := 13) Z osl_rsl (fun _ h => h.1) (Sr.own hs sN (i := 14) Z (fun _ h => h) (fun _ h => h) (Sr.own hs sN (i := 6) Z osl_rsl (fun _ h => h.1) (Sr.own hs sN (i := 7) Z (fun _ h => h) (fun _ h => h) (Sr.own hs sN (i := 8) Z osl_rsl (fun _ h => h.1) (Sr.nil _ _))))))))))) hs95) (fun v w hR => ?_)
              obtain ⟨rfl, hs'⟩ := hR
              replace hs := hs.step sN hs'
              clear hs'
              refine ⟨[], _, [32, 40, 45], (fun _ => True), hs.fn, Z, Z, ⟨hs.get (i := 16) Z, hs.get (i := 17) Z, trivial⟩, trivial, hs, (by kernel_rfl), .nil, ?_⟩
              refine RW.one 32 (by kernel_rfl) (by kernel_rfl) rfl (fun d hd => by cases hd; rfl) [(189, .bool true), (198, .pointer (some ⟨b0_1, 0, none⟩)), (200, .int .i64 a1.Space), (202, .int .u64 a1.Addr)] ⟨rfl, rfl, rfl, rfl, trivial⟩ (fun a w hR hs hf => ⟨wanted_yes hf rfl, ?_⟩)
              refine estep_f (ex_call cf_46 hf Z) (ref09_Bus_Owner.calls k s82.2.1 Ce s82.2.2.1 s82.1 a1.Space a1.Addr b0_1 Xd Jd v84 v83 (hs.enter sN) (Sr.own hs sN (i := 0) Z (fun _ h => h) (fun _ h => h) (Sr.own hs sN (i := 2) Z osl_rsl (fun _ h => h.1) (Sr.own hs sN (i := 3) Z (fun _ h => h) (fun _ h => h) (Sr.own hs sN (i := 4) Z osl_rsl (fun _ h => h.1) (Sr.own hs sN (i := 1) Z osl_rsl (fun _ h => h.1) (Sr.nil _ _)))))) hs96) (fun v w hR => ?_)
              obtain ⟨rfl, hs'⟩ := hR
              replace hs := hs.step sN hs'
              clear hs'
              refine ⟨[(33, .bool true), (34, .bool true), (35, .bool true), (36, .pointer (some ⟨b1, 0, none⟩)), (37, .pointer (some ⟨b0_0, 0, none⟩)), (38, .pointer (some ⟨b2, 5, none⟩)), (39, .int .i64 a1.Owner), (41, .pointer (some ⟨b1, 1, none⟩)), (42, .pointer (some ⟨b0_1, 0, none⟩)), (43, .pointer (some ⟨b2, 5, none⟩)), (44, .int .i64 a1.Owner)], _, [40, 45], (fun _ => True), hs.fn, Z, Z, ⟨⟨hs.get (i := 16) Z, hs.get (i := 17) Z, trivial⟩, trivial⟩, trivial, hs, (by kernel_rfl), (.cons (qy Z Z Z Z Z fun hR hf => ex_castB (ex_eql hf Z Z) (dec_t hc97)) (.cons (qy Z Z Z Z Z fun hR hf => ex_pickT hf Z Z) (.cons (qy Z Z Z Z Z fun hR hf => ex_move hf Z) (.cons (qy Z Z Z Z Z fun hR hf => ex_fieldAddrB fa_58_0 Z hf Z) (.cons (qy Z Z Z Z Z fun hR hf => ex_load sc_24 hf Z (bx_cell (hR.1.1.1) _ Z)) (.cons (qy Z Z Z Z Z fun hR hf => ex_fieldAddrB fa_43_5 Z hf Z) (.cons (qy Z Z Z Z Z fun hR hf => ex_load sc_3 hf Z (bx_cell (hR.1.1.2.1) _ Z)) (.cons (qy Z Z Z Z Z fun hR hf => ex_fieldAddrB fa_58_1 Z hf Z) (.cons (qy Z Z Z Z Z fun hR hf => ex_load sc_50 hf Z (bx_cell (hR.1.1.1) _ Z)) (.cons (qy Z Z Z Z Z fun hR hf => ex_fieldAddrB fa_43_5 Z hf Z) (.cons (qy Z Z Z Z Z fun hR hf => ex_load sc_3 hf Z (bx_cell (hR.1.1.2.1) _ Z)) .nil))))))))))), ?_⟩
              refine RW.one 40 (by kernel_rfl) (by kernel_rfl) rfl (fun d hd => by cases hd; rfl) [(206, .bool true), (208, .pointer (some ⟨b0_0, 0, none⟩)), (210, .int .i64 a1.Owner)] ⟨rfl, rfl, rfl, trivial⟩ (fun a w hR hs hf => ⟨wanted_yes hf rfl, ?_⟩)
              refine estep_f (ex_call cf_47 hf Z) (iospace_Bus_Enabled.calls k s77.2.2.1 s77.2.2.2.1 s77.2.2.2.2.1 Be s77.1 s77.2.1 a1.Owner b0_0 Wa Ha Wb Hb Wc Hc v78 b79 v80 (hs.enter sN) (Sr.own hs sN (i := 5) Z (fun _ h => h) (fun _ h => h) (Sr.own hs sN (i := 9) Z osl_rsl (fun _ h => h.1) (Sr.own hs sN (i := 10) Z (fun _ h => h) (fun _ h => h) (Sr.own hs sN (i := 11) Z osl_rsl (fun _ h => h.1) (Sr.own hs sN (i := 12) Z (fun _ h => h) (fun _ h => h) (Sr.own hs sN (i := 13) Z osl_rsl (fun _ h => h.1) (Sr.own hs sN (i := 14) Z (fun _ h => h) (fun _ h => h) (Sr.own hs sN (i := 6) Z osl_rsl (fun _ h => h.1) (Sr.own hs sN (i := 7) Z (fun _ h => h) (fun _ h => h) (Sr.own hs sN (i := 8) Z osl_rsl (fun _ h => h.1) (Sr.nil _ _))))))))))) hs98) (fun v w hR => ?_)
              obtain ⟨rfl, hs'⟩ := hR
              replace hs := hs.step sN hs'
              clear hs'
              refine ⟨[], _, [45], (fun _ => True), hs.fn, Z, Z, ⟨⟨⟨hs.get (i := 16) Z, hs.get (i := 17) Z, trivial⟩, trivial⟩, trivial⟩, trivial, hs, (by kernel_rfl), .nil, ?_⟩
              refine RW.one 45 (by kernel_rfl) (by kernel_rfl) rfl (fun d hd => by cases hd; rfl) [(206, .bool true), (213, .pointer (some ⟨b0_1, 0, none⟩)), (215, .int .i64 a1.Owner)] ⟨rfl, rfl, rfl, trivial⟩ (fun a w hR hs hf => ⟨wanted_yes hf rfl, ?_⟩)
              refine estep_f (ex_call cf_48 hf Z) (ref09_Bus_Enabled.calls k s82.2.1 Ce s82.2.2.1 s82.1 a1.Owner b0_1 Xd Jd v84 v83 (hs.enter sN) (Sr.own hs sN (i := 0) Z (fun _ h => h) (fun _ h => h) (Sr.own hs sN (i := 2) Z osl_rsl (fun _ h => h.1) (Sr.own hs sN (i := 3) Z (fun _ h => h) (fun _ h => h) (Sr.own hs sN (i := 4) Z osl_rsl (fun _ h => h.1) (Sr.own hs sN (i := 1) Z osl_rsl (fun _ h => h.1) (Sr.nil _ _)))))) hs99) (fun v w hR => ?_)
              obtain ⟨rfl, hs'⟩ := hR
              replace hs := hs.step sN hs'
              clear hs'
              refine ⟨[(46, .bool (s98 == s99)), (47, .bool (s98 == s99))], _, [], (fun _ => True), hs.fn, Z, Z, ⟨⟨⟨⟨hs.get (i := 16) Z, hs.get (i := 17) Z, trivial⟩, trivial⟩, trivial⟩, trivial⟩, trivial, hs, (by kernel_rfl), (.cons (qy Z Z Z Z Z fun hR hf => ex_eqb Try.underlying4 hf Z Z) (.cons (qy Z Z Z Z Z fun hR hf => ex_pickT hf Z Z) .nil)), ?_⟩
              refine RW.zero (by kernel_rfl) (by kernel_rfl) [(218, .bool (s98 == s99))] ⟨Z, trivial⟩ (fun a w hR hs hf => ?_)
              refine stq hf Z Z Z (ex_assign hf Z) fun a hf => ?_
              refine hK100 _ _ ?_
              refine hN90 _ _ ?_
              refine wp_ret ?_
              have eR := some_eq H; subst eR
              replace hs := hs.keep (.k (.k (.k (.k (.k (.k (.k (.k (.k (.k (.k (.k (.k (.k (.k (.d (.d (.d (.d .nil)))))))))))))))))))
              replace hs := hs.p1.p4.p4.p4.p4.p8.p8.p8.p14.p14.p14.p14.p14.p14.p14
              exact ret1 Try.results18 hf Z ⟨_, Z, ⟨Wa, Ha, Wb, Hb, Wc, Hc, v78, b79, v80, Xd, Jd, v84, v83, Z, hs⟩⟩
             ·
              refine region_dS fol 48 [(2, .pointer (some ⟨b1, 0, none⟩)), (3, .pointer (some ⟨b2, 0, none⟩)), (7, .int .u64 s77.2.2.2.2.2.1), (8, .int .i64 s77.2.2.2.2.2.2), (9, .int .u64 s82.2.2.2.1), (10, .int .i64 s82.2.2.2.2), (11, .int .u8 s86.1), (12, .bool s86.2), (13, .int .u8 s88.1), (14, .bool s88.2)] [(0, .int .u64 s77.2.2.2.2.2.1), (1, .int .u64 s82.2.2.2.1), (2, .bool true), (3, .bool true), (4, .int .i64 s77.2.2.2.2.2.2), (5, .int .i64 s82.2.2.2.2), (6, .bool true), (7, .bool true), (8, .bool true), (9, .int .u8 s86.1), (10, .int .u8 s88.1), (11, .bool true), (12, .bool true), (13, .bool true), (14, .bool s86.2), (15, .bool s88.2), (16, .bool true), (17, .bool true), (18, .bool true), (19, .pointer (some ⟨b1, 0, none⟩)), (20, .pointer (some ⟨b0_0, 0, none⟩)), (21, .pointer (some ⟨b2, 1, none⟩)), (22, .int .i64 a1.Space), (23, .pointer (some ⟨b2, 2, none⟩)), (24, .int .u64 a1.Addr), (26, .pointer (some ⟨b1, 1, none⟩)), (27, .pointer (some ⟨b0_1, 0, none⟩)), (28, .pointer (some ⟨b2, 1, none⟩)), (29, .int .i64 a1.Space), (30, .pointer (some ⟨b2, 2, none⟩)), (31, .int .u64 a1.Addr)] [25, 32] (fun w => (bx b1 58 [.pointer (some ⟨b0_0, 0, none⟩), .pointer (some ⟨b0_1, 0, none⟩)]).ok w ∧ (bx b2 43 [.int .i64 a1.Kind, .int .i64 a1.Space, .int .u64 a1.Addr, .int .u64 a1.Len, .int .i64 a1.Width, .int .i64 a1.Owner, .bool a1.Write, .int .u64 a1.Value, .bool a1.Raw]).ok w ∧ True) hf ⟨Z, Z, Z, Z, Z, Z, Z, Z, Z, Z, trivial⟩ (by kernel_rfl) (by kernel_rfl) Z (by decide) ⟨hs.drew.get (i := 16) Z, hs.drew.get (i := 17) Z, trivial⟩ hs ((.cons (qy Z Z Z Z Z fun hR hf => ex_move hf Z) (.cons (qy Z Z Z Z Z fun hR hf => ex_move hf Z) (.cons (qy Z Z Z Z Z fun hR hf => ex_castB (ex_eql hf Z Z) (dec_t hc91)) (.cons (qy Z Z Z Z Z fun hR hf => ex_move hf Z) (.cons (qy Z Z Z Z Z fun hR hf => ex_move hf Z) (.cons (qy Z Z Z Z Z fun hR hf => ex_move hf Z) (.cons (qy Z Z Z Z Z fun hR hf => ex_castB (ex_eql hf Z Z) (dec_t hc92)) (.cons (qy Z Z Z Z Z fun hR hf => ex_pickT hf Z Z) (.cons (qy Z Z Z Z Z fun hR hf => ex_move hf Z) (.cons (qy Z Z Z Z Z fun hR hf => ex_move hf Z) (.cons (qy Z Z Z Z Z fun hR hf => ex_move hf Z) (.cons (qy Z Z Z Z Z fun hR hf => ex_castB (ex_eql hf Z Z) (dec_t hc93)) (.cons (qy Z Z Z Z Z fun hR hf => ex_pickT hf Z Z) (.cons (qy Z Z Z Z Z fun hR hf => ex_move hf Z) (.cons (qy Z Z Z Z Z fun hR hf => ex_move hf Z) (.cons (qy Z Z Z Z Z fun hR hf => ex_move hf Z) (.cons (qy Z Z Z Z Z fun hR hf => ex_castB (ex_eqb Try.underlying4 hf Z Z) hc94) (.cons (qy Z Z Z Z Z fun hR hf => ex_pickT hf Z Z) (.cons (qy Z Z Z Z Z fun hR hf => ex_move hf Z) (.cons (qy Z Z Z Z Z fun hR hf => ex_fieldAddrB fa_58_0 Z hf Z) (.cons (qy Z Z Z Z Z fun hR hf => ex_load sc_24 hf Z (bx_cell (hR.1) _ Z)) (.cons (qy Z Z Z Z Z fun hR hf => ex_fieldAddrB fa_43_1 Z hf Z) (.cons (qy Z Z Z Z Z fun hR hf => ex_load sc_3 hf Z (bx_cell (hR.2.1) _ Z)) (.cons (qy Z Z Z Z Z fun hR hf => ex_fieldAddrB fa_43_2 Z hf Z) (.cons (qy Z Z Z Z Z fun hR hf => ex_load sc_22 hf Z (bx_cell (hR.2.1) _ Z)) (.cons (qy Z Z Z Z Z fun hR hf => ex_fieldAddrB fa_58_1 Z hf Z) (.cons (qy Z Z Z Z Z fun hR hf => ex_load sc_50 hf Z (bx_cell (hR.1) _ Z)) (.cons (qy Z Z Z Z Z fun hR hf => ex_fieldAddrB fa_43_1 Z hf Z) (.cons (qy Z Z Z Z Z fun hR hf => ex_load sc_3 hf Z (bx_cell (hR.2.1) _ Z)) (.cons (qy Z Z Z Z Z fun hR hf => ex_fieldAddrB fa_43_2 Z hf Z) (.cons (qy Z Z Z Z Z fun hR hf => ex_load sc_22 hf Z (bx_cell (hR.2.1) _ Z)) .nil)))))))))))))))))))))))))))))))) (fun K101 hK101 => ?_)
              refine RW.one 25 (by kernel_rfl) (by kernel_rfl) rfl (fun d hd => by cases hd; rfl) [(189, .bool true), (191, .pointer (some ⟨b0_0, 0, none⟩)), (193, .int .i64 a1.Space), (195, .int .u64 a1.Addr)] ⟨rfl, rfl, rfl, rfl, trivial⟩ (fun a w hR hs hf => ⟨wanted_yes hf rfl, ?_⟩)
              refine estep_f (ex_call cf_15 hf Z) (iospace_Bus_Owner.calls k s77.2.2.1 s77.2.2.2.1 s77.2.2.2.2.1 Be s77.1 s77.2.1 a1.Space a1.Addr b0_0 Wa Ha Wb Hb Wc Hc v78 b79 v80 (hs.enter sN) (Sr.own hs sN (i := 5) Z (fun _ h => h) (fun _ h => h) (Sr.own hs sN (i := 9) Z osl_rsl (fun _ h => h.1) (Sr.own hs sN (i := 10) Z (fun _ h => h) (fun _ h => h) (Sr.own hs sN (i := 11) Z osl_rsl (fun _ h => h.1) (Sr.own hs sN (i := 12) Z (fun _ h => h) (fun _ h => h) (Sr.own hs sN (i := 13) Z osl_rsl (fun _ h => h.1) (Sr.own hs sN (i := 14) Z (fun _ h => h) (fun _ h => h) (Sr.own hs sN (i := 6) Z osl_rsl (fun _ h => h.1) (Sr.own hs sN (i := 7) Z (fun _ h => h) (fun _ h => h) (Sr.own hs sN (i := 8) Z osl_rsl (fun _ h => h.1) (Sr.nil _ _))))))))))) hs95) (fun v w hR => ?_)
              obtain ⟨rfl, hs'⟩ := hR
              replace hs := hs.step sN hs'
              clear hs'
              refine ⟨[], _, [32], (fun _ => True), hs.fn, Z, Z, ⟨hs.get (i := 16) Z, hs.get (i := 17) Z, trivial⟩, trivial, hs, (by kernel_rfl), .nil, ?_⟩
              refine RW.one 32 (by kernel_rfl) (by kernel_rfl) rfl (fun d hd => by cases hd; rfl) [(189, .bool true), (198, .pointer (some ⟨b0_1, 0, none⟩)), (200, .int .i64 a1.Space), (202, .int .u64 a1.Addr)] ⟨rfl, rfl, rfl, rfl, trivial⟩ (fun a w hR hs hf => ⟨wanted_yes hf rfl, ?_⟩)
              refine estep_f (ex_call cf_46 hf Z) (ref09_Bus_Owner.calls k s82.2.1 Ce s82.2.2.1 s82.1 a1.Space a1.Addr b0_1 Xd Jd v84 v83 (hs.enter sN) (Sr.own hs sN (i := 0) Z (fun _ h => h) (fun _ h => h) (Sr.own hs sN (i := 2) Z osl_rsl (fun _ h => h.1) (Sr.own hs sN (i := 3) Z (fun _ h => h) (fun _ h => h) (Sr.own hs sN (i := 4) Z osl_rsl (fun _ h => h.1) (Sr.own hs sN (i := 1) Z osl_rsl (fun _ h => h.1) (Sr.nil _ _)))))) hs96) (fun v w hR => ?_)
              obtain ⟨rfl, hs'⟩ := hR
              replace hs := hs.step sN hs'
              clear hs'
              refine ⟨[(33, .bool false), (34, .bool false), (35, .bool false), (36, undef), (37, undef), (38, undef), (39, undef), (40, undef), (41, undef), (42, undef), (43, undef), (44, undef), (45, undef), (46, undef), (47, .bool false)], _, [], (fun _ => True), hs.fn, Z, Z, ⟨⟨hs.get (i := 16) Z, hs.get (i := 17) Z, trivial⟩, trivial⟩, trivial, hs, (by kernel_rfl), (.cons (qy Z Z Z Z Z fun hR hf => ex_castB (ex_eql hf Z Z) (dec_f hc97)) (.cons (qy Z Z Z Z Z fun hR hf => ex_pickT hf Z Z) (.cons (qy Z Z Z Z Z fun hR hf => ex_move hf Z) (.cons (qn Z Z Z Z Z) (.cons (qn Z Z Z Z Z) (.cons (qn Z Z Z Z Z) (.cons (qn Z Z Z Z Z) (.cons (qn Z Z Z Z Z) (.cons (qn Z Z Z Z Z) (.cons (qn Z Z Z Z Z) (.cons (qn Z Z Z Z Z) (.cons (qn Z Z Z Z Z) (.cons (qn Z Z Z Z Z) (.cons (qn Z Z Z Z Z) (.cons (qy Z Z Z Z Z fun hR hf => ex_pickF hf Z Z) .nil))))))))))))))), ?_⟩
              refine RW.zero (by kernel_rfl) (by kernel_rfl) [(218, .bool false)] ⟨Z, trivial⟩ (fun a w hR hs hf => ?_)
              refine stq hf Z Z Z (ex_assign hf Z) fun a hf => ?_
              refine hK101 _ _ ?_
              refine hN90 _ _ ?_
              refine wp_ret ?_
              have eR := some_eq H; subst eR
              replace hs := hs.keep (.k (.k (.k (.k (.k (.k (.k (.k (.k (.k (.k (.k (.k (.k (.k (.d (.d (.d (.d .nil)))))))))))))))))))
              replace hs := hs.p1.p4.p4.p4.p4.p8.p8.p8.p14.p14.p14.p14.p14.p14.p14
              exact ret1 Try.results18 hf Z ⟨_, Z, ⟨Wa, Ha, Wb, Hb, Wc, Hc, v78, b79, v80, Xd, Jd, v84, v83, Z, hs⟩⟩
            ·
             refine region_dS fol 48 [(2, .pointer (some ⟨b1, 0, none⟩)), (3, .pointer (some ⟨b2, 0, none⟩)), (7, .int .u64 s77.2.2.2.2.2.1), (8, .int .i64 s77.2.2.2.2.2.2), (9, .int .u64 s82.2.2.2.1), (10, .int .i64 s82.2.2.2.2), (11, .int .u8 s86.1), (12, .bool s86.2), (13, .int .u8 s88.1), (14, .bool s88.2)] [(0, .int .u64 s77.2.2.2.2.2.1), (1, .int .u64 s82.2.2.2.1), (2, .bool true), (3, .bool true), (4, .int .i64 s77.2.2.2.2.2.2), (5, .int .i64 s82.2.2.2.2), (6, .bool true), (7, .bool true), (8, .bool true), (9, .int .u8 s86.1), (10, .int .u8 s88.1), (11, .bool true), (12, .bool true), (13, .bool true), (14, .bool s86.2), (15, .bool s88.2), (16, .bool false), (17, .bool false), (18, .bool false), (19, undef), (20, undef), (21, undef), (22, undef), (23, undef), (24, undef), (25, undef), (26, undef), (27, undef), (28, undef), (29, undef), (30, undef), (31, undef), (32, undef), (33, undef), (34, .bool false), (35, .bool false), (36, undef), (37, undef), (38, undef), (39, undef), (40, undef), (41, undef), (42, undef), (43, undef), (44, undef), (45, undef), (46, undef), (47, .bool false)] [] (fun w => True) hf ⟨Z, Z, Z, Z, Z, Z, Z, Z, Z, Z, trivial⟩ (by kernel_rfl) (by kernel_rfl) Z (by decide) trivial hs ((.cons (qy Z Z Z Z Z fun hR hf => ex_move hf Z) (.cons (qy Z Z Z Z Z fun hR hf => ex_move hf Z) (.cons (qy Z Z Z Z Z fun hR hf => ex_castB (ex_eql hf Z Z) (dec_t hc91)) (.cons (qy Z Z Z Z Z fun hR hf => ex_move hf Z) (.cons (qy Z Z Z Z Z fun hR hf => ex_move hf Z) (.cons (qy Z Z Z Z Z fun hR hf => ex_move hf Z) (.cons (qy Z Z Z Z Z fun hR hf => ex_castB (ex_eql hf Z Z) (dec_t hc92)) (.cons (qy Z Z Z Z Z fun hR hf => ex_pickT hf Z Z) (.cons (qy Z Z Z Z Z fun hR hf => ex_move hf Z) (.cons (qy Z Z Z Z Z fun hR hf => ex_move hf Z) (.cons (qy Z Z Z Z Z fun hR hf => ex_move hf Z) (.cons (qy Z Z Z Z Z fun hR hf => ex_castB (ex_eql hf Z Z) (dec_t hc93)) (.cons (qy Z Z Z Z Z fun hR hf => ex_pickT hf Z Z) (.cons (qy Z Z Z Z Z fun hR hf => ex_move hf Z) (.cons (qy Z Z Z Z Z fun hR hf => ex_move hf Z) (.cons (qy Z Z Z Z Z fun hR hf => ex_move hf Z) (.cons (qy Z Z Z Z Z fun hR hf => ex_castB (ex_eqb Try.underlying4 hf Z Z) (bool_f hc94)) (.cons (qy Z Z Z Z Z fun hR hf => ex_pickT hf Z Z) (.cons (qy Z Z Z Z Z fun hR hf => ex_move hf Z) (.cons (qn Z Z Z Z Z) (.cons (qn Z Z Z Z Z) (.cons (qn Z Z Z Z Z) (.cons (qn Z Z Z Z Z) (.cons (qn Z Z Z Z Z) (.cons (qn Z Z Z Z Z) (.cons (qn Z Z Z Z Z) (.cons (qn Z Z Z Z Z) (.cons (qn Z Z Z Z Z) (.cons (qn Z Z Z Z Z) (.cons (qn Z Z Z Z Z) (.cons (qn Z Z Z Z Z) (.cons (qn Z Z Z Z Z) (.cons (qn Z Z Z Z Z) (.cons (qn Z Z Z Z Z) (.cons (qy Z Z Z Z Z fun hR hf => ex_pickF hf Z Z) (.cons (qy Z Z Z Z Z fun hR hf => ex_move hf Z) (.cons (qn Z Z Z Z Z) (.cons (qn Z Z Z Z Z) (.cons (qn Z Z Z Z Z) (.cons (qn Z Z Z Z Z) (.cons (qn Z Z Z Z Z) (.cons (qn Z Z Z Z Z) (.cons (qn Z Z Z Z Z) (.cons (qn Z Z Z Z Z) (.cons (qn Z Z Z Z Z) (.cons (qn Z Z Z Z Z) (.cons (qn Z Z Z Z Z) (.cons (qy Z Z Z Z Z fun hR hf => ex_pickF hf Z Z) .nil))))))))))))))))))))))))))))))))))))))))))))))))) (fun K102 hK102 => ?_)
             refine RW.zero (by kernel_rfl) (by kernel_rfl) [(218, .bool false)] ⟨Z, trivial⟩ (fun a w hR hs hf => ?_)
             refine stq hf Z Z Z (ex_assign hf Z) fun a hf => ?_
             refine hK102 _ _ ?_
             refine hN90 _ _ ?_
             refine wp_ret ?_
             have eR := some_eq H; subst eR
             replace hs := hs.keep (.k (.k (.k (.k (.k (.k (.k (.k (.k (.k (.k (.k (.k (.k (.k (.d (.d (.d (.d .nil)))))))))))))))))))
             replace hs := hs.p1.p4.p4.p4.p4.p8.p8.p8.p14.p14.p14.p14.p14.p14.p14
             exact ret1 Try.results18 hf Z ⟨_, Z, ⟨Wa, Ha, Wb, Hb, Wc, Hc, v78, b79, v80, Xd, Jd, v84, v83, Z, hs⟩⟩
           ·
            refine region_dS fol 48 [(2, .pointer (some ⟨b1, 0, none⟩)), (3, .pointer (some ⟨b2, 0, none⟩)), (7, .int .u64 s77.2.2.2.2.2.1), (8, .int .i64 s77.2.2.2.2.2.2), (9, .int .u64 s82.2.2.2.1), (10, .int .i64 s82.2.2.2.2), (11, .int .u8 s86.1), (12, .bool s86.2), (13, .int .u8 s88.1), (14, .bool s88.2)] [(0, .int .u64 s77.2.2.2.2.2.1), (1, .int .u64 s82.2.2.2.1), (2, .bool true), (3, .bool true), (4, .int .i64 s77.2.2.2.2.2.2), (5, .int .i64 s82.2.2.2.2), (6, .bool true), (7, .bool true), (8, .bool true), (9, .int .u8 s86.1), (10, .int .u8 s88.1), (11, .bool false), (12, .bool false), (13, .bool false), (14, undef), (15, undef), (16, undef), (17, .bool false), (18, .bool false), (19, undef), (20, undef), (21, undef), (22, undef), (23, undef), (24, undef), (25, undef), (26, undef), (27, undef), (28, undef), (29, undef), (30, undef), (31, undef), (32, undef), (33, undef), (34, .bool false), (35, .bool false), (36, undef), (37, undef), (38, undef), (39, undef), (40, undef), (41, undef), (42, undef), (43, undef), (44, undef), (45, undef), (46, undef), (47, .bool false)] [] (fun w => True) hf ⟨Z, Z, Z, Z, Z, Z, Z, Z, Z, Z, trivial⟩ (by kernel_rfl) (by kernel_rfl) Z (by decide) trivial hs ((.cons (qy Z Z Z Z Z fun hR hf => ex_move hf Z) (.cons (qy Z Z Z Z Z fun hR hf => ex_move hf Z) (.cons (qy Z Z Z Z Z fun hR hf => ex_castB (ex_eql hf Z Z) (dec_t hc91)) (.cons (qy Z Z Z Z Z fun hR hf => ex_move hf Z) (.cons (qy Z Z Z Z Z fun hR hf => ex_move hf Z) (.cons (qy Z Z Z Z Z fun hR hf => ex_move hf Z) (.cons (qy Z Z Z Z Z fun hR hf => ex_castB (ex_eql hf Z Z) (dec_t hc92)) (.cons (qy Z Z Z Z Z fun hR hf => ex_pickT hf Z Z) (.cons (qy Z Z Z Z Z fun hR hf => ex_move hf Z) (.cons (qy Z Z Z Z Z fun hR hf => ex_move hf Z) (.cons (qy Z Z Z Z Z fun hR hf => ex_move hf Z) (.cons (qy Z Z Z Z Z fun hR hf => ex_castB (ex_eql hf Z Z) (dec_f hc93)) (.cons (qy Z Z Z Z Z fun hR hf => ex_pickT hf Z Z) (.cons (qy Z Z Z Z Z fun hR hf => ex_move hf Z) (.cons (qn Z Z Z Z Z) (.cons (qn Z Z Z Z Z) (.cons (qn Z Z Z Z Z) (.cons (qy Z Z Z Z Z fun hR hf => ex_pickF hf Z Z) (.cons (qy Z Z Z Z Z fun hR hf => ex_move hf Z) (.cons (qn Z Z Z Z Z) (.cons (qn Z Z Z Z Z) (.cons (qn Z Z Z Z Z) (.cons (qn Z Z Z Z Z) (.cons (qn Z Z Z Z Z) (.cons (qn Z Z Z Z Z) (.cons (qn Z Z Z Z Z) (.cons (qn Z Z Z Z Z) (.cons (qn Z Z Z Z Z) (.cons (qn Z Z Z Z Z) (.cons (qn Z Z Z Z Z) (.cons (qn Z Z Z Z Z) (.cons (qn Z Z Z Z Z) (.cons (qn Z Z Z Z Z) (.cons (qn Z Z Z Z Z) (.cons (qy Z Z Z Z Z fun hR hf => ex_pickF hf Z Z) (.cons (qy Z Z Z Z Z fun hR hf => ex_move hf Z) (.cons (qn Z Z Z Z Z) (.cons (qn Z Z Z Z Z) (.cons (qn Z Z Z Z Z) (.cons (qn Z Z Z Z Z) (.cons (qn Z Z Z Z Z) (.cons (qn Z Z Z Z Z) (.cons (qn Z Z Z Z Z) (.cons (qn Z Z Z Z Z) (.cons (qn Z Z Z Z Z) (.cons (qn Z Z Z Z Z) (.cons (qn Z Z Z Z Z) (.cons (qy Z Z Z Z Z fun hR hf => ex_pickF hf Z Z) .nil))))))))))))))))))))))))))))))))))))))))))))))))) (fun K103 hK103 => ?_)
            refine RW.zero (by kernel_rfl) (by kernel_rfl) [(218, .bool false)] ⟨Z, trivial⟩ (fun a w hR hs hf => ?_)
            refine stq hf Z Z Z (ex_assign hf Z) fun a hf => ?_
            refine hK103 _ _ ?_
            refine hN90 _ _ ?_
            refine wp_ret ?_
            have eR := some_eq H; subst eR
            replace hs := hs.keep (.k (.k (.k (.k (.k (.k (.k (.k (.k (.k (.k (.k (.k (.k (.k (.d (.d (.d (.d .nil)))))))))))))))))))
            replace hs := hs.p1.p4.p4.p4.p4.p8.p8.p8.p14.p14.p14.p14.p14.p14.p14
            exact ret1 Try.results18 hf Z ⟨_, Z, ⟨Wa, Ha, Wb, Hb, Wc, Hc, v78, b79, v80, Xd, Jd, v84, v83, Z, hs⟩⟩
          ·
           refine region_dS fol 48 [(2, .pointer (some ⟨b1, 0, none⟩)), (3, .pointer (some ⟨b2, 0, none⟩)), (7, .int .u64 s77.2.2.2.2.2.1), (8, .int .i64 s77.2.2.2.2.2.2), (9, .int .u64 s82.2.2.2.1), (10, .int .i64 s82.2.2.2.2), (11, .int .u8 s86.1), (12, .bool s86.2), (13, .int .u8 s88.1), (14, .bool s88.2)] [(0, .int .u64 s77.2.2.2.2.2.1), (1, .int .u64 s82.2.2.2.1), (2, .bool true), (3, .bool true), (4, .int .i64 s77.2.2.2.2.2.2), (5, .int .i64 s82.2.2.2.2), (6, .bool false), (7, .bool false), (8, .bool false), (9, undef), (10, undef), (11, undef), (12, .bool false), (13, .bool false), (14, undef), (15, undef), (16, undef), (17, .bool false), (18, .bool false), (19, undef), (20, undef), (21, undef), (22, undef), (23, undef), (24, undef), (25, undef), (26, undef), (27, undef), (28, undef), (29, undef), (30, undef), (31, undef), (32, undef), (33, undef), (34, .bool false), (35, .bool false), (36, undef), (37, undef), (38, undef), (39, undef), (40, undef), (41, undef), (42, undef), (43, undef), (44, undef), (45, undef), (46, undef), (47, .bool false)] [] (fun w => True) hf ⟨Z, Z, Z, Z, Z, Z, Z, Z, Z, Z, trivial⟩ (by kernel_rfl) (by kernel_rfl) Z (by decide) trivial hs ((.cons (qy Z Z Z Z Z fun hR hf => ex_move hf Z) (.cons (qy Z Z Z Z Z fun hR hf => ex_move hf Z) (.cons (qy Z Z Z Z Z fun hR hf => ex_castB (ex_eql hf Z Z) (dec_t hc91)) (.cons (qy Z Z Z Z Z fun hR hf => ex_move hf Z) (.cons (qy Z Z Z Z Z fun hR hf => ex_move hf Z) (.cons (qy Z Z Z Z Z fun hR hf => ex_move hf Z) (.cons (qy Z Z Z Z Z fun hR hf => ex_castB (ex_eql hf Z Z) (dec_f hc92)) (.cons (qy Z Z Z Z Z fun hR hf => ex_pickT hf Z Z) (.cons (qy Z Z Z Z Z fun hR hf => ex_move hf Z) (.cons (qn Z Z Z Z Z) (.cons (qn Z Z Z Z Z) (.cons (qn Z Z Z Z Z) (.cons (qy Z Z Z Z Z fun hR hf => ex_pickF hf Z Z) (.cons (qy Z Z Z Z Z fun hR hf => ex_move hf Z) (.cons (qn Z Z Z Z Z) (.cons (qn Z Z Z Z Z) (.cons (qn Z Z Z Z Z) (.cons (qy Z Z Z Z Z fun hR hf => ex_pickF hf Z Z) (.cons (qy Z Z Z Z Z fun hR hf => ex_move hf Z) (.cons (qn Z Z Z Z Z) (.cons (qn Z Z Z Z Z) (.cons (qn Z Z Z Z Z) (.cons (qn Z Z Z Z Z) (.cons (qn Z Z Z Z Z) (.cons (qn Z Z Z Z Z) (.cons (qn Z Z Z Z Z) (.cons (qn Z Z Z Z Z) (.cons (qn Z Z Z Z Z) (.cons (qn Z Z Z Z Z) (.cons (qn Z Z Z Z Z) (.cons (qn Z Z Z Z Z) (.cons (qn Z Z Z Z Z) (.cons (qn Z Z Z Z Z) (.cons (qn Z Z Z Z Z) (.cons (qy Z Z Z Z Z fun hR hf => ex_pickF hf Z Z) (.cons (qy Z Z Z Z Z fun hR hf => ex_move hf Z) (.cons (qn Z Z Z Z Z) (.cons (qn Z Z Z Z Z) (.cons (qn Z Z Z Z Z) (.cons (qn Z Z Z Z Z) (.cons (qn Z Z Z Z Z) (.cons (qn Z Z Z Z Z) (.cons (qn Z Z Z Z Z) (.cons (qn Z Z Z Z Z) (.cons (qn Z Z Z Z Z) (.cons (qn Z Z Z Z Z) (.cons (qn Z Z Z Z Z) (.cons (qy Z Z Z Z Z fun hR hf => ex_pickF hf Z Z) .nil))))))))))))))))))))))))))))))))))))))))))))))))) (fun K104 hK104 => ?_)
           refine RW.zero (by kernel_rfl) (by kernel_rfl) [(218, .bool false)] ⟨Z, trivial⟩ (fun a w hR hs hf => ?_)
           refine stq hf Z Z Z (ex_assign hf Z) fun a hf => ?_
           refine hK104 _ _ ?_
           refine hN90 _ _ ?_
           refine wp_ret ?_
           have eR := some_eq H; subst eR
           replace hs := hs.keep (.k (.k (.k (.k (.k (.k (.k (.k (.k (.k (.k (.k (.k (.k (.k (.d (.d (.d (.d .nil)))))))))))))))))))
           replace hs := hs.p1.p4.p4.p4.p4.p8.p8.p8.p14.p14.p14.p14.p14.p14.p14
           exact ret1 Try.results18 hf Z ⟨_, Z, ⟨Wa, Ha, Wb, Hb, Wc, Hc, v78, b79, v80, Xd, Jd, v84, v83, Z, hs⟩⟩
         ·
          refine region_dS fol 48 [(2, .pointer (some ⟨b1, 0, none⟩)), (3, .pointer (some ⟨b2, 0, none⟩)), (7, .int .u64 s77.2.2.2.2.2.1), (8, .int .i64 s77.2.2.2.2.2.2), (9, .int .u64 s82.2.2.2.1), (10, .int .i64 s82.2.2.2.2), (11, .int .u8 s86.1), (12, .bool s86.2), (13, .int .u8 s88.1), (14, .bool s88.2)] [(0, .int .u64 s77.2.2.2.2.2.1), (1, .int .u64 s82.2.2.2.1), (2, .bool false), (3, .bool false), (4, undef), (5, undef), (6, undef), (7, .bool false), (8, .bool false), (9, undef), (10, undef), (11, undef), (12, .bool false), (13, .bool false), (14, undef), (15, undef), (16, undef), (17, .bool false), (18, .bool false), (19, undef), (20, undef), (21, undef), (22, undef), (23, undef), (24, undef), (25, undef), (26, undef), (27, undef), (28, undef), (29, undef), (30, undef), (31, undef), (32, undef), (33, undef), (34, .bool false), (35, .bool false), (36, undef), (37, undef), (38, undef), (39, undef), (40, undef), (41, undef), (42, undef), (43, undef), (44, undef), (45, undef), (46, undef), (47, .bool false)] [] (fun w => True) hf ⟨Z, Z, Z, Z, Z, Z, Z, Z, Z, Z, trivial⟩ (by kernel_rfl) (by kernel_rfl) Z (by decide) trivial hs ((.cons (qy Z Z Z Z Z fun hR hf => ex_move hf Z) (.cons (qy Z Z Z Z Z fun hR hf => ex_move hf Z) (.cons (qy Z Z Z Z Z fun hR hf => ex_castB (ex_eql hf Z Z) (dec_f hc91)) (.cons (qy Z Z Z Z Z fun hR hf => ex_move hf Z) (.cons (qn Z Z Z Z Z) (.cons (qn Z Z Z Z Z) (.cons (qn Z Z Z Z Z) (.cons (qy Z Z Z Z Z fun hR hf => ex_pickF hf Z Z) (.cons (qy Z Z Z Z Z fun hR hf => ex_move hf Z) (.cons (qn Z Z Z Z Z) (.cons (qn Z Z Z Z Z) (.cons (qn Z Z Z Z Z) (.cons (qy Z Z Z Z Z fun hR hf => ex_pickF hf Z Z) (.cons (qy Z Z Z Z Z fun hR hf => ex_move hf Z) (.cons (qn Z Z Z Z Z) (.cons (qn Z Z Z Z Z) (.cons (qn Z Z Z Z Z) (.cons (qy Z Z Z Z Z fun hR hf => ex_pickF hf Z Z) (.cons (qy Z Z Z Z Z fun hR hf => ex_move hf Z) (.cons (qn Z Z Z Z Z) (.cons (qn Z Z Z Z Z) (.cons (qn Z Z Z Z Z) (.cons (qn Z Z Z Z Z) (.cons (qn Z Z Z Z Z) (.cons (qn Z Z Z Z Z) (.cons (qn Z Z Z Z Z) (.cons (qn Z Z Z Z Z) (.cons (qn Z Z Z Z Z) (.cons (qn Z Z Z Z Z) (.cons (qn Z Z Z Z Z) (.cons (qn Z Z Z Z Z) (.cons (qn Z Z Z Z Z) (.cons (qn Z Z Z Z Z) (.cons (qn Z Z Z Z Z) (.cons (qy Z Z Z Z Z fun hR hf => ex_pickF hf Z Z) (.cons (qy Z Z Z Z Z fun hR hf => ex_move hf Z) (.cons (qn Z Z Z Z Z) (.cons (qn Z Z Z Z Z) (.cons (qn Z Z Z Z Z) (.cons (qn Z Z Z Z Z) (.cons (qn Z Z Z Z Z) (.cons (qn Z Z Z Z Z) (.cons (qn Z Z Z Z Z) (.cons (qn Z Z Z Z Z) (.cons (qn Z Z Z Z Z) (.cons (qn Z Z Z Z Z) (.cons (qn Z Z Z Z Z) (.cons (qy Z Z Z Z Z fun hR hf => ex_pickF hf Z Z) .nil))))))))))))))))))))))))))))))))))))))))))))))))) (fun K105 hK105 => ?_)
          refine RW.zero (by kernel_rfl) (by kernel_rfl) [(218, .bool false)] ⟨Z, trivial⟩ (fun a w hR hs hf => ?_)
          refine stq hf Z Z Z (ex_assign hf Z) fun a hf => ?_
          refine hK105 _ _ ?_
          refine hN90 _ _ ?_
          refine wp_ret ?_
          have eR := some_eq H; subst eR
          replace hs := hs.keep (.k (.k (.k (.k (.k (.k (.k (.k (.k (.k (.k (.k (.k (.k (.k (.d (.d (.d (.d .nil)))))))))))))))))))
          replace hs := hs.p1.p4.p4.p4.p4.p8.p8.p8.p14.p14.p14.p14.p14.p14.p14
          exact ret1 Try.results18 hf Z ⟨_, Z, ⟨Wa, Ha, Wb, Hb, Wc, Hc, v78, b79, v80, Xd, Jd, v84, v83, Z, hs⟩⟩

end Go.Proofs.Ytigadacjaglfeaa.X
