/- Each function of the machine comes to what its pure function says. -/
import Derived.Test.YtigadacjaglfeaaFc5
import Derived.Test.YtigadacjaglfeaaFc6
import Derived.Test.YtigadacjaglfeaaFb
namespace Go.Proofs.Ytigadacjaglfeaa.X
open Go Go.RowKit Go.Sx
set_option linter.unusedVariables false

set_option maxHeartbeats 4000000 in
set_option maxRecDepth 100000 in
theorem ref09_Bus_Access.calls {M : Nat → Prop} {w0 : World} (k : Nat) (Ad : (List ref09_mapping)) (Ae : (List Bool)) (Af : (List ref09_fault)) (At : (List Traced)) (a1 : Access) (b0 : Nat) (Vd : Value) (Gd : (List SlV)) (Vf : Value) (Vt : Value) {r : (List Traced) × (List ref09_mapping) × (List ref09_fault) × Int × Int} (hs : St M w0 w0 [bxs b0 56 [([Vd], 1), (List.map Value.bool Ae, 256), ([Vf], 1), ([Vt], 1)], osl KR Vd (List.zip Gd Ad), ndv FR Gd Ad, osl KF Vf Af, osl Kt Vt At]) (hr : Sr M w0 [])
  (h : ref09_Bus_Access.f k Ad Ae Af At a1 = some r) : Calls Try.prog 44 #[.pointer (some ⟨b0, 0, none⟩), .agg #[.int .i64 a1.Space, .int .u64 a1.Addr, .int .i64 a1.Width, .bool a1.Write, .int .u64 a1.Value]] w0 fun e w => ∃ v, e = .returned v ∧ (∃ (g0 : Value) (g1 : Value), .tuple #[.int .u64 r.2.2.2.1, .int .i64 r.2.2.2.2] = v ∧ St M w0 w [bxs b0 56 [([Vd], 1), (List.map Value.bool Ae, 256), ([g1], 1), ([g0], 1)], osl Kt g0 r.1, osl KR Vd (List.zip Gd r.2.1), ndv FR Gd r.2.1, osl KF g1 r.2.2.1]) := by
 have H := (ref09_Bus_Access.f.eq_1 ..).symm.trans h
 clear h
 refine enter Try.func44 Z Try.ntmps44 Z (fun a hf => ?_)
 refine seq_reg (fun K2 hK2 => ?_)
 refine stepV hf Z Z Z (er_box (cs := [.int .i64 a1.Space, .int .u64 a1.Addr, .int .i64 a1.Width, .bool a1.Write, .int .u64 a1.Value]) hs hf Z Z) (fun v w hR a hf => ?_)
 obtain ⟨b1, rfl, hs⟩ := hR
 refine stq hf Z Z Z (ex_assign hf Z) fun a hf => stq hf Z Z Z (ex_assign hf Z) fun a hf => ?_
 refine hK2 _ _ ?_
 refine seq_n (fun Q3 hN3 hR3 hX3 => ?_)
 refine bnd H (fun s4 hs4 H => ?_)
 refine seq_reg (fun K5 hK5 => ?_)
 refine stq hf Z Z Z (ex_loadA (cs := [.int .i64 a1.Space, .int .u64 a1.Addr, .int .i64 a1.Width, .bool a1.Write, .int .u64 a1.Value]) ag_37 hf Z (bx_cells (hs.get (i := 0) Z) Z)) fun a hf => ?_
 refine stepF hf Z Z Z (ex_call cf_61 hf Z) (ref09_WellFormed.calls k a1 (hs.enter sN) (Sr.nil _ _) hs4) (fun v w hR a hf => ?_)
 obtain ⟨rfl, hs'⟩ := hR
 replace hs := hs.step sN hs'
 clear hs'
 refine stq hf Z Z Z (ex_not hf Z) fun a hf => ?_
 refine hK5 _ _ ?_
 refine itt H (fun hc6 H => ?_) (fun hc6 H => ?_)
 ·
  replace hf := hf.castB (t := 13) Z (nbool_f hc6)
  refine cond_F hf Z ?_
  refine wp_skip ?_
  refine hN3 _ _ ?_
  refine seq_n (fun Q7 hN7 hR7 hX7 => ?_)
  refine seq_reg (fun K8 hK8 => ?_)
  refine stq hf Z Z Z (ex_move hf Z) fun a hf => stq hf Z Z Z (ex_nilCheck hf Z) fun a hf => stq hf Z Z Z (ex_fieldAddrB fa_56_3 Z hf Z) fun a hf => stq hf Z Z Z (ex_load sc_54 hf Z (sb_cell1 (i := 3) (hs.get (i := 1) Z) Z Z)) fun a hf => stq hf Z Z Z (ex_lenS Try.underlying54 (rsl_isSl (osl_rsl _ (hs.get (i := 5) Z))) hf Z) fun a hf => stq hf Z Z Z (ex_geq hf Z Z) fun a hf => ?_
  refine hK8 _ _ ?_
  refine itt H (fun hc9 H => ?_) (fun hc9 H => ?_)
  ·
   replace hf := hf.castB (t := 19) Z (dec_t hc9)
   refine cond_T hf Z ?_
   refine seq_reg (fun K10 hK10 => ?_)
   refine stq hf Z Z Z (ex_assign hf Z) fun a hf => stq hf Z Z Z (ex_assign hf Z) fun a hf => ?_
   refine hK10 _ _ ?_
   refine wp_ret ?_
   refine hR7 _ _ ?_
   have eR := some_eq H; subst eR
   replace hs := hs.keep (.d sN)
   replace hs := hs.p3.p3.p3.p4.p4
   exact ret2 Try.results44 hf Z Z ⟨_, Z, ⟨Vt, Vf, Z, hs⟩⟩
  ·
   replace hf := hf.castB (t := 19) Z (dec_f hc9)
   refine cond_F hf Z ?_
   refine wp_skip ?_
   refine hN7 _ _ ?_
   refine seq_n (fun Q11 hN11 hR11 hX11 => ?_)
   refine bnd H (fun s12 hs12 H => ?_)
   refine region_dS fol 6 [(0, .pointer (some ⟨b0, 0, none⟩)), (3, .pointer (some ⟨b1, 0, none⟩))] [(0, .pointer (some ⟨b1, 4, none⟩)), (1, .int .u64 a1.Value), (2, .pointer (some ⟨b1, 2, none⟩)), (3, .int .i64 a1.Width)] [4] (fun w => (bx b1 37 [.int .i64 a1.Space, .int .u64 a1.Addr, .int .i64 a1.Width, .bool a1.Write, .int .u64 a1.Value]).ok w ∧ True) hf ⟨Z, Z, trivial⟩ (by kernel_rfl) (by kernel_rfl) Z (by decide) ⟨hs.drew.get (i := 0) Z, trivial⟩ hs ((.cons (qy Z Z Z Z Z fun hR hf => ex_fieldAddrB fa_37_4 Z hf Z) (.cons (qy Z Z Z Z Z fun hR hf => ex_load sc_22 hf Z (bx_cell (hR.1) _ Z)) (.cons (qy Z Z Z Z Z fun hR hf => ex_fieldAddrB fa_37_2 Z hf Z) (.cons (qy Z Z Z Z Z fun hR hf => ex_load sc_3 hf Z (bx_cell (hR.1) _ Z)) .nil))))) (fun K13 hK13 => ?_)
   refine RW.one 4 (by kernel_rfl) (by kernel_rfl) rfl (fun d hd => by cases hd; rfl) [(23, .int .i64 a1.Width)] ⟨rfl, trivial⟩ (fun a w hR hs hf => ⟨wanted_yes hf rfl, ?_⟩)
   refine estep_f (ex_call cf_14 hf Z) (ref09_Ones.calls k a1.Width (hs.enter sN) (Sr.nil _ _) hs12) (fun v w hR => ?_)
   obtain ⟨rfl, hs'⟩ := hR
   replace hs := hs.step sN hs'
   clear hs'
   refine ⟨[(5, .int .u64 (bitw .and .u64 a1.Value s12))], _, [], (fun _ => True), hs.fn, Z, Z, ⟨hs.get (i := 0) Z, trivial⟩, trivial, hs, (by kernel_rfl), (.cons (qy Z Z Z Z Z fun hR hf => ex_bits Z hf Z Z) .nil), ?_⟩
   refine RW.zero (by kernel_rfl) (by kernel_rfl) [(0, .pointer (some ⟨b0, 0, none⟩)), (3, .pointer (some ⟨b1, 0, none⟩)), (25, .int .u64 (bitw .and .u64 a1.Value s12))] ⟨Z, Z, Z, trivial⟩ (fun a w hR hs hf => ?_)
   refine stq hf Z Z Z (ex_fieldAddrB fa_37_4 Z hf Z) fun a hf => ?_
   refine stepS hf Z Z (er_storeB hs (.c sN) hf Z Z Z sz_22 Z) (fun w hs => ?_)
   refine hK13 _ _ ?_
   refine hN11 _ _ ?_
   refine seq_n (fun Q14 hN14 hR14 hX14 => ?_)
   refine bnd H (fun s15 hs15 H => ?_)
   refine bnd H (fun s16 hs16 H => ?_)
   refine region_dS fol 18 [(0, .pointer (some ⟨b0, 0, none⟩)), (3, .pointer (some ⟨b1, 0, none⟩))] [(0, .pointer (some ⟨b0, 0, none⟩)), (1, .pointer (some ⟨b1, 0, none⟩)), (2, .int .i64 a1.Space), (3, .pointer (some ⟨b1, 1, none⟩)), (4, .int .u64 a1.Addr), (6, .pointer (some ⟨b0, 0, none⟩)), (7, .pointer (some ⟨b1, 0, none⟩)), (8, .int .i64 a1.Space), (9, .pointer (some ⟨b1, 1, none⟩)), (10, .int .u64 a1.Addr), (11, .pointer (some ⟨b1, 2, none⟩)), (12, .int .i64 a1.Width), (13, .int .i64 (IntKind.i64.wrap (a1.Width - 1))), (14, .int .u64 (IntKind.u64.wrap (IntKind.i64.wrap (a1.Width - 1)))), (15, .int .u64 (IntKind.u64.wrap (a1.Addr + (IntKind.u64.wrap (IntKind.i64.wrap (a1.Width - 1))))))] [5, 16] (fun w => (bx b1 37 [.int .i64 a1.Space, .int .u64 a1.Addr, .int .i64 a1.Width, .bool a1.Write, .int .u64 (bitw .and .u64 a1.Value s12)]).ok w ∧ True) hf ⟨Z, Z, trivial⟩ (by kernel_rfl) (by kernel_rfl) Z (by decide) ⟨hs.drew.get (i := 0) Z, trivial⟩ hs ((.cons (qy Z Z Z Z Z fun hR hf => ex_move hf Z) (.cons (qy Z Z Z Z Z fun hR hf => ex_fieldAddrB fa_37_0 Z hf Z) (.cons (qy Z Z Z Z Z fun hR hf => ex_load sc_3 hf Z (bx_cell (hR.1) _ Z)) (.cons (qy Z Z Z Z Z fun hR hf => ex_fieldAddrB fa_37_1 Z hf Z) (.cons (qy Z Z Z Z Z fun hR hf => ex_load sc_22 hf Z (bx_cell (hR.1) _ Z)) (.cons (qy Z Z Z Z Z fun hR hf => ex_move hf Z) (.cons (qy Z Z Z Z Z fun hR hf => ex_fieldAddrB fa_37_0 Z hf Z) (.cons (qy Z Z Z Z Z fun hR hf => ex_load sc_3 hf Z (bx_cell (hR.1) _ Z)) (.cons (qy Z Z Z Z Z fun hR hf => ex_fieldAddrB fa_37_1 Z hf Z) (.cons (qy Z Z Z Z Z fun hR hf => ex_load sc_22 hf Z (bx_cell (hR.1) _ Z)) (.cons (qy Z Z Z Z Z fun hR hf => ex_fieldAddrB fa_37_2 Z hf Z) (.cons (qy Z Z Z Z Z fun hR hf => ex_load sc_3 hf Z (bx_cell (hR.1) _ Z)) (.cons (qy Z Z Z Z Z fun hR hf => ex_sub hf Z Z) (.cons (qy Z Z Z Z Z fun hR hf => ex_conv Try.underlying3 Try.underlying22 hf Z) (.cons (qy Z Z Z Z Z fun hR hf => ex_add hf Z Z) .nil)))))))))))))))) (fun K17 hK17 => ?_)
   refine RW.one 5 (by kernel_rfl) (by kernel_rfl) rfl (fun d hd => by cases hd; rfl) [(27, .pointer (some ⟨b0, 0, none⟩)), (29, .int .i64 a1.Space), (31, .int .u64 a1.Addr)] ⟨rfl, rfl, rfl, trivial⟩ (fun a w hR hs hf => ⟨wanted_yes hf rfl, ?_⟩)
   refine estep_f (ex_call cf_60 hf Z) (ref09_Bus_find.calls k Ad Ae Af At a1.Space a1.Addr b0 Vd Gd Vf Vt (hs.enter sN) (Sr.own hs sN (i := 1) Z (fun _ h => h) (fun _ h => h) (Sr.own hs sN (i := 2) Z osl_rsl (fun _ h => h.1) (Sr.own hs sN (i := 3) Z (fun _ h => h) (fun _ h => h) (Sr.own hs sN (i := 4) Z osl_rsl (fun _ h => h.1) (Sr.own hs sN (i := 5) Z osl_rsl (fun _ h => h.1) (Sr.nil _ _)))))) hs15) (fun v w hR => ?_)
   obtain ⟨rfl, hs'⟩ := hR
   replace hs := hs.step sN hs'
   clear hs'
   refine ⟨[], _, [16], (fun _ => True), hs.fn, Z, Z, ⟨hs.get (i := 0) Z, trivial⟩, trivial, hs, (by kernel_rfl), .nil, ?_⟩
   refine RW.one 16 (by kernel_rfl) (by kernel_rfl) rfl (fun d hd => by cases hd; rfl) [(33, .pointer (some ⟨b0, 0, none⟩)), (35, .int .i64 a1.Space), (42, .int .u64 (IntKind.u64.wrap (a1.Addr + (IntKind.u64.wrap (IntKind.i64.wrap (a1.Width - 1))))))] ⟨rfl, rfl, rfl, trivial⟩ (fun a w hR hs hf => ⟨wanted_yes hf rfl, ?_⟩)
   refine estep_f (ex_call cf_60 hf Z) (ref09_Bus_find.calls k Ad Ae Af At a1.Space (IntKind.u64.wrap (a1.Addr + (IntKind.u64.wrap (IntKind.i64.wrap (a1.Width - 1))))) b0 Vd Gd Vf Vt (hs.enter sN) (Sr.own hs sN (i := 1) Z (fun _ h => h) (fun _ h => h) (Sr.own hs sN (i := 2) Z osl_rsl (fun _ h => h.1) (Sr.own hs sN (i := 3) Z (fun _ h => h) (fun _ h => h) (Sr.own hs sN (i := 4) Z osl_rsl (fun _ h => h.1) (Sr.own hs sN (i := 5) Z osl_rsl (fun _ h => h.1) (Sr.nil _ _)))))) hs16) (fun v w hR => ?_)
   obtain ⟨rfl, hs'⟩ := hR
   replace hs := hs.step sN hs'
   clear hs'
   refine ⟨[(17, .int .i64 s15)], _, [], (fun _ => True), hs.fn, Z, Z, ⟨⟨hs.get (i := 0) Z, trivial⟩, trivial⟩, trivial, hs, (by kernel_rfl), (.cons (qy Z Z Z Z Z fun hR hf => ex_assign hf Z) .nil), ?_⟩
   refine RW.zero (by kernel_rfl) (by kernel_rfl) [(0, .pointer (some ⟨b0, 0, none⟩)), (3, .pointer (some ⟨b1, 0, none⟩)), (6, .int .i64 s15), (43, .int .i64 s16)] ⟨Z, Z, Z, Z, trivial⟩ (fun a w hR hs hf => ?_)
   refine stq hf Z Z Z (ex_assign hf Z) fun a hf => ?_
   refine hK17 _ _ ?_
   refine hN14 _ _ ?_
   refine bnd H (fun x18 H18 HO18 => ?_)
   clear H
   refine seq_cut (fun a w => ∃ (b19 : Nat), Fr a 183 [(0, .pointer (some ⟨b0, 0, none⟩)), (3, .pointer (some ⟨b1, 0, none⟩)), (6, .int .i64 s15), (8, .pointer (some ⟨b19, 0, none⟩))] ∧ St M w0 w [bxs b0 56 [([Vd], 1), (List.map Value.bool Ae, 256), ([Vf], 1), ([Vt], 1)], osl KR Vd (List.zip Gd Ad), ndv FR Gd Ad, osl KF Vf Af, osl Kt Vt At, bx b1 37 [.int .i64 a1.Space, .int .u64 a1.Addr, .int .i64 a1.Width, .bool a1.Write, .int .u64 (bitw .and .u64 a1.Value s12)], bx b19 63 [.int .i64 a1.Space, .int .u64 a1.Addr, .int .i64 a1.Width, .bool a1.Write, .int .u64 (bitw .and .u64 a1.Value s12), .int .i64 x18.1, .bool x18.2, .bool false]]) (fun Q18 hJ18 hR18 hX18 => ?_) (fun a w hJ => ?_)
   ·
    replace H := H18
    refine bnd H (fun s20 hs20 H => ?_)
    refine itt H (fun hc21 H => ?_) (fun hc21 H => ?_)
    ·
     refine itt H (fun hc22 H => ?_) (fun hc22 H => ?_)
     ·
      refine ck_some H (fun hc23 H => ?_)
      refine ck_some H (fun hc24 H => ?_)
      refine wp_cut (fun a w => ∃ (b26 : Nat), Fr a 183 [(0, .pointer (some ⟨b0, 0, none⟩)), (3, .pointer (some ⟨b1, 0, none⟩)), (6, .int .i64 s15), (8, .pointer (some ⟨b26, 0, none⟩))] ∧ St M w0 w [bxs b0 56 [([Vd], 1), (List.map Value.bool Ae, 256), ([Vf], 1), ([Vt], 1)], osl KR Vd (List.zip Gd Ad), ndv FR Gd Ad, osl KF Vf Af, osl Kt Vt At, bx b1 37 [.int .i64 a1.Space, .int .u64 a1.Addr, .int .i64 a1.Width, .bool a1.Write, .int .u64 (bitw .and .u64 a1.Value s12)], bx b26 63 [.int .i64 a1.Space, .int .u64 a1.Addr, .int .i64 a1.Width, .bool a1.Write, .int .u64 (bitw .and .u64 a1.Value s12), .int .i64 s20, .bool (gd false Ae ((gd ref09_mapping.zero Ad s15).owner)), .bool false]]) (fun Q27 hJ27 => ?_) (fun a w hJ => ?_)
      ·
       refine region_dS fol 31 [(0, .pointer (some ⟨b0, 0, none⟩)), (3, .pointer (some ⟨b1, 0, none⟩)), (6, .int .i64 s15), (7, .int .i64 s16)] [(0, .agg #[.int .i64 a1.Space, .int .u64 a1.Addr, .int .i64 a1.Width, .bool a1.Write, .int .u64 (bitw .and .u64 a1.Value s12)]), (1, .pointer (some ⟨b0, 0, none⟩)), (2, .pointer (some ⟨b1, 0, none⟩)), (3, .int .i64 a1.Space), (4, .pointer (some ⟨b1, 1, none⟩)), (5, .int .u64 a1.Addr), (7, .int .i64 s15), (8, .bool true)] [6, 30] (fun w => (bx b1 37 [.int .i64 a1.Space, .int .u64 a1.Addr, .int .i64 a1.Width, .bool a1.Write, .int .u64 (bitw .and .u64 a1.Value s12)]).ok w ∧ (bxs b0 56 [([Vd], 1), (List.map Value.bool Ae, 256), ([Vf], 1), ([Vt], 1)]).ok w ∧ (osl KR Vd (List.zip Gd Ad)).ok w ∧ (ndv FR Gd Ad).ok w ∧ True) hf ⟨Z, Z, Z, Z, trivial⟩ (by kernel_rfl) (by kernel_rfl) Z (by decide) ⟨hs.drew.get (i := 0) Z, hs.drew.get (i := 1) Z, hs.drew.get (i := 2) Z, hs.drew.get (i := 3) Z, trivial⟩ hs ((.cons (qy Z Z Z Z Z fun hR hf => ex_loadA (cs := [.int .i64 a1.Space, .int .u64 a1.Addr, .int .i64 a1.Width, .bool a1.Write, .int .u64 (bitw .and .u64 a1.Value s12)]) ag_37 hf Z (bx_cells (hR.1) Z)) (.cons (qy Z Z Z Z Z fun hR hf => ex_move hf Z) (.cons (qy Z Z Z Z Z fun hR hf => ex_fieldAddrB fa_37_0 Z hf Z) (.cons (qy Z Z Z Z Z fun hR hf => ex_load sc_3 hf Z (bx_cell (hR.1) _ Z)) (.cons (qy Z Z Z Z Z fun hR hf => ex_fieldAddrB fa_37_1 Z hf Z) (.cons (qy Z Z Z Z Z fun hR hf => ex_load sc_22 hf Z (bx_cell (hR.1) _ Z)) (.cons (qy Z Z Z Z Z fun hR hf => ex_move hf Z) (.cons (qy Z Z Z Z Z fun hR hf => ex_geqB hf Z Z (dec_t hc21)) .nil))))))))) (fun K28 hK28 => ?_)
       refine RW.fork [6, 30] (by kernel_rfl) (by kernel_rfl) ⟨?_, ?_, trivial⟩
       ·
        refine RWe.mk 6 rfl (fun d hd => by cases hd; rfl) [(45, .pointer (some ⟨b0, 0, none⟩)), (47, .int .i64 a1.Space), (49, .int .u64 a1.Addr)] ⟨rfl, rfl, rfl, trivial⟩ (fun a w hR hs hf => ⟨wanted_yes hf rfl, ?_⟩)
        refine estep_f (ex_call cf_46 hf Z) (ref09_Bus_Owner.calls k Ad Ae Af At a1.Space a1.Addr b0 Vd Gd Vf Vt (hs.enter sN) (Sr.own hs sN (i := 1) Z (fun _ h => h) (fun _ h => h) (Sr.own hs sN (i := 2) Z osl_rsl (fun _ h => h.1) (Sr.own hs sN (i := 3) Z (fun _ h => h) (fun _ h => h) (Sr.own hs sN (i := 4) Z osl_rsl (fun _ h => h.1) (Sr.own hs sN (i := 5) Z osl_rsl (fun _ h => h.1) (Sr.nil _ _)))))) hs20) (fun v w hR => ?_)
        obtain ⟨rfl, hs'⟩ := hR
        replace hs := hs.step sN hs'
        clear hs'
        refine ⟨[(9, .bool true), (10, .int .i64 s15), (11, .int .i64 s16), (12, .bool true), (13, .bool true), (14, .bool true), (15, .pointer (some ⟨b0, 0, none⟩)), (16, .pointer (some ⟨b0, 0, none⟩)), (17, .pointer (some ⟨b0, 0, none⟩)), (18, .pointer (some ⟨b0, 0, none⟩)), (19, Vd), (20, .int .i64 s15), (21, .pointer (some (sla Vd (s15.toNat * 5)))), (22, .pointer (some (sla Vd (s15.toNat * 5 + 3)))), (23, .int .i64 ((gd ref09_mapping.zero Ad s15).owner)), (24, .pointer (some ⟨b0, 0, none⟩)), (25, .pointer (some ⟨b0, 1, none⟩)), (26, .pointer (some ⟨b0, 1 + ((gd ref09_mapping.zero Ad s15).owner).toNat, none⟩)), (27, .bool (gd false Ae ((gd ref09_mapping.zero Ad s15).owner))), (28, .bool (gd false Ae ((gd ref09_mapping.zero Ad s15).owner))), (29, .agg #[.int .i64 a1.Space, .int .u64 a1.Addr, .int .i64 a1.Width, .bool a1.Write, .int .u64 (bitw .and .u64 a1.Value s12), .int .i64 s20, .bool (gd false Ae ((gd ref09_mapping.zero Ad s15).owner)), .bool false])], _, [30], (fun _ => True), hs.fn, Z, Z, ⟨hs.get (i := 0) Z, hs.get (i := 1) Z, hs.get (i := 2) Z, hs.get (i := 3) Z, trivial⟩, trivial, hs, (by kernel_rfl), (.cons (qy Z Z Z Z Z fun hR hf => ex_move hf Z) (.cons (qy Z Z Z Z Z fun hR hf => ex_move hf Z) (.cons (qy Z Z Z Z Z fun hR hf => ex_move hf Z) (.cons (qy Z Z Z Z Z fun hR hf => ex_eqlB hf Z Z (dec_t hc22)) (.cons (qy Z Z Z Z Z fun hR hf => ex_pickT hf Z Z) (.cons (qy Z Z Z Z Z fun hR hf => ex_move hf Z) (.cons (qy Z Z Z Z Z fun hR hf => ex_move hf Z) (.cons (qy Z Z Z Z Z fun hR hf => ex_move hf Z) (.cons (qy Z Z Z Z Z fun hR hf => ex_nilCheck hf Z) (.cons (qy Z Z Z Z Z fun hR hf => ex_fieldAddrB fa_56_0 Z hf Z) (.cons (qy Z Z Z Z Z fun hR hf => ex_load sc_51 hf Z (sb_cell1 (i := 0) (hR.1.2.1) Z Z)) (.cons (qy Z Z Z Z Z fun hR hf => ex_move hf Z) (.cons (qy Z Z Z Z Z fun hR hf => ex_indexAddr sa_51 (nv_isSl (osl_rsl _ hR.1.2.2.1) hR.1.2.2.2.1) hc23.1 hc23.2 hf Z Z) (.cons (qy Z Z Z Z Z fun hR hf => ex_fieldAddrS fa_100_2 Z hf Z) (.cons (qy Z Z Z Z Z fun hR hf => ex_load sc_3 hf Z (nv_cell (K := KR) (F := FR) (f := 3) (osl_rsl _ hR.1.2.2.1) hR.1.2.2.2.1 SlV.zero ref09_mapping.zero hc23.1 hc23.2 Z)) (.cons (qy Z Z Z Z Z fun hR hf => ex_nilCheck hf Z) (.cons (qy Z Z Z Z Z fun hR hf => ex_fieldAddrB fa_56_1 Z hf Z) (.cons (qy Z Z Z Z Z fun hR hf => ex_indexAddrA ia_52 Z hc24.1 hc24.2 hf Z Z) (.cons (qy Z Z Z Z Z fun hR hf => ex_load sc_4 hf Z (sb_cell (f := Value.bool) (xs := Ae) (i := 1) (z := false) (hR.1.2.1) Z Z hc24.1 hc24.2)) (.cons (qy Z Z Z Z Z fun hR hf => ex_pickT hf Z Z) (.cons (qy Z Z Z Z Z fun hR hf => ex_build (cs := [.int .i64 a1.Space, .int .u64 a1.Addr, .int .i64 a1.Width, .bool a1.Write, .int .u64 (bitw .and .u64 a1.Value s12), .int .i64 s20, .bool (gd false Ae ((gd ref09_mapping.zero Ad s15).owner)), .bool false]) bt_63 hf Z (.cons Z (.cons Z (.cons Z .nil))) Z) .nil))))))))))))))))))))), ?_⟩
        refine RW.one 30 (by kernel_rfl) (by kernel_rfl) rfl (fun d hd => by cases hd; rfl) [] trivial (fun a w hR hs hf => ⟨wanted_yes hf rfl, ?_⟩)
        refine estep_v (er_alloc hs ti_63 (cs := [.int .i64 0, .int .u64 0, .int .i64 0, .bool false, .int .u64 0, .int .i64 0, .bool false, .bool false]) Z) (fun v w hR => ?_)
        obtain ⟨b29, rfl, hs⟩ := hR
        refine ⟨[], _, [], (fun _ => True), hs.fn, Z, Z, ⟨⟨hs.get (i := 1) Z, hs.get (i := 2) Z, hs.get (i := 3) Z, hs.get (i := 4) Z, trivial⟩, trivial⟩, trivial, hs, (by kernel_rfl), .nil, ?_⟩
        refine RW.zero (by kernel_rfl) (by kernel_rfl) [(0, .pointer (some ⟨b0, 0, none⟩)), (3, .pointer (some ⟨b1, 0, none⟩)), (6, .int .i64 s15), (8, .pointer (some ⟨b29, 0, none⟩)), (73, .agg #[.int .i64 a1.Space, .int .u64 a1.Addr, .int .i64 a1.Width, .bool a1.Write, .int .u64 (bitw .and .u64 a1.Value s12), .int .i64 s20, .bool (gd false Ae ((gd ref09_mapping.zero Ad s15).owner)), .bool false])] ⟨Z, Z, Z, Z, Z, trivial⟩ (fun a w hR hs hf => ?_)
        refine stepS hf Z Z (er_storeAB (vs := [.int .i64 a1.Space, .int .u64 a1.Addr, .int .i64 a1.Width, .bool a1.Write, .int .u64 (bitw .and .u64 a1.Value s12), .int .i64 s20, .bool (gd false Ae ((gd ref09_mapping.zero Ad s15).owner)), .bool false]) (cs' := [.int .i64 a1.Space, .int .u64 a1.Addr, .int .i64 a1.Width, .bool a1.Write, .int .u64 (bitw .and .u64 a1.Value s12), .int .i64 s20, .bool (gd false Ae ((gd ref09_mapping.zero Ad s15).owner)), .bool false]) hs (.c sN) sz_63 hf Z Z (all1 Z (all1 Z (all1 Z (all1 Z (all1 Z (all1 Z (all1 Z (all1 Z (all1_nil))))))))) Z Z) (fun w hs => ?_)
        refine hK28 _ _ ?_
        replace hs := hs.p1.p6.p6.p6.p6.p6
        exact hJ27 _ _ ⟨b29, hf.sub ⟨Z, Z, Z, Z, trivial⟩, hs⟩
       ·
        refine RWe.mk 30 rfl (fun d hd => by cases hd; rfl) [] trivial (fun a w hR hs hf => ⟨wanted_yes hf rfl, ?_⟩)
        refine estep_v (er_alloc hs ti_63 (cs := [.int .i64 0, .int .u64 0, .int .i64 0, .bool false, .int .u64 0, .int .i64 0, .bool false, .bool false]) Z) (fun v w hR => ?_)
        obtain ⟨b30, rfl, hs⟩ := hR
        refine ⟨[], _, [6], (fun _ => True), hs.fn, Z, Z, ⟨hs.get (i := 1) Z, hs.get (i := 2) Z, hs.get (i := 3) Z, hs.get (i := 4) Z, trivial⟩, trivial, hs, (by kernel_rfl), .nil, ?_⟩
        refine RW.one 6 (by kernel_rfl) (by kernel_rfl) rfl (fun d hd => by cases hd; rfl) [(45, .pointer (some ⟨b0, 0, none⟩)), (47, .int .i64 a1.Space), (49, .int .u64 a1.Addr)] ⟨rfl, rfl, rfl, trivial⟩ (fun a w hR hs hf => ⟨wanted_yes hf rfl, ?_⟩)
        refine estep_f (ex_call cf_46 hf Z) (ref09_Bus_Owner.calls k Ad Ae Af At a1.Space a1.Addr b0 Vd Gd Vf Vt (hs.enter sN) (Sr.own hs sN (i := 2) Z (fun _ h => h) (fun _ h => h) (Sr.own hs sN (i := 3) Z osl_rsl (fun _ h => h.1) (Sr.own hs sN (i := 4) Z (fun _ h => h) (fun _ h => h) (Sr.own hs sN (i := 5) Z osl_rsl (fun _ h => h.1) (Sr.own hs sN (i := 6) Z osl_rsl (fun _ h => h.1) (Sr.nil _ _)))))) hs20) (fun v w hR => ?_)
        obtain ⟨rfl, hs'⟩ := hR
        replace hs := hs.step sN hs'
        clear hs'
        refine ⟨[(9, .bool true), (10, .int .i64 s15), (11, .int .i64 s16), (12, .bool true), (13, .bool true), (14, .bool true), (15, .pointer (some ⟨b0, 0, none⟩)), (16, .pointer (some ⟨b0, 0, none⟩)), (17, .pointer (some ⟨b0, 0, none⟩)), (18, .pointer (some ⟨b0, 0, none⟩)), (19, Vd), (20, .int .i64 s15), (21, .pointer (some (sla Vd (s15.toNat * 5)))), (22, .pointer (some (sla Vd (s15.toNat * 5 + 3)))), (23, .int .i64 ((gd ref09_mapping.zero Ad s15).owner)), (24, .pointer (some ⟨b0, 0, none⟩)), (25, .pointer (some ⟨b0, 1, none⟩)), (26, .pointer (some ⟨b0, 1 + ((gd ref09_mapping.zero Ad s15).owner).toNat, none⟩)), (27, .bool (gd false Ae ((gd ref09_mapping.zero Ad s15).owner))), (28, .bool (gd false Ae ((gd ref09_mapping.zero Ad s15).owner))), (29, .agg #[.int .i64 a1.Space, .int .u64 a1.Addr, .int .i64 a1.Width, .bool a1.Write, .int .u64 (bitw .and .u64 a1.Value s12), .int .i64 s20, .bool (gd false Ae ((gd ref09_mapping.zero Ad s15).owner)), .bool false])], _, [], (fun _ => True), hs.fn, Z, Z, ⟨⟨hs.get (i := 1) Z, hs.get (i := 2) Z, hs.get (i := 3) Z, hs.get (i := 4) Z, trivial⟩, trivial⟩, trivial, hs, (by kernel_rfl), (.cons (qy Z Z Z Z Z fun hR hf => ex_move hf Z) (.cons (qy Z Z Z Z Z fun hR hf => ex_move hf Z) (.cons (qy Z Z Z Z Z fun hR hf => ex_move hf Z) (.cons (qy Z Z Z Z Z fun hR hf => ex_eqlB hf Z Z (dec_t hc22)) (.cons (qy Z Z Z Z Z fun hR hf => ex_pickT hf Z Z) (.cons (qy Z Z Z Z Z fun hR hf => ex_move hf Z) (.cons (qy Z Z Z Z Z fun hR hf => ex_move hf Z) (.cons (qy Z Z Z Z Z fun hR hf => ex_move hf Z) (.cons (qy Z Z Z Z Z fun hR hf => ex_nilCheck hf Z) (.cons (qy Z Z Z Z Z fun hR hf => ex_fieldAddrB fa_56_0 Z hf Z) (.cons (qy Z Z Z Z Z fun hR hf => ex_load sc_51 hf Z (sb_cell1 (i := 0) (hR.1.1.2.1) Z Z)) (.cons (qy Z Z Z Z Z fun hR hf => ex_move hf Z) (.cons (qy Z Z Z Z Z fun hR hf => ex_indexAddr sa_51 (nv_isSl (osl_rsl _ hR.1.1.2.2.1) hR.1.1.2.2.2.1) hc23.1 hc23.2 hf Z Z) (.cons (qy Z Z Z Z Z fun hR hf => ex_fieldAddrS fa_100_2 Z hf Z) (.cons (qy Z Z Z Z Z fun hR hf => ex_load sc_3 hf Z (nv_cell (K := KR) (F := FR) (f := 3) (osl_rsl _ hR.1.1.2.2.1) hR.1.1.2.2.2.1 SlV.zero ref09_mapping.zero hc23.1 hc23.2 Z)) (.cons (qy Z Z Z Z Z fun hR hf => ex_nilCheck hf Z) (.cons (qy Z Z Z Z Z fun hR hf => ex_fieldAddrB fa_56_1 Z hf Z) (.cons (qy Z Z Z Z Z fun hR hf => ex_indexAddrA ia_52 Z hc24.1 hc24.2 hf Z Z) (.cons (qy Z Z Z Z Z fun hR hf => ex_load sc_4 hf Z (sb_cell (f := Value.bool) (xs := Ae) (i := 1) (z := false) (hR.1.1.2.1) Z Z hc24.1 hc24.2)) (.cons (qy Z Z Z Z Z fun hR hf => ex_pickT hf Z Z) (.cons (qy Z Z Z Z Z fun hR hf => ex_build (cs := [.int .i64 a1.Space, .int .u64 a1.Addr, .int .i64 a1.Width, .bool a1.Write, .int .u64 (bitw .and .u64 a1.Value s12), .int .i64 s20, .bool (gd false Ae ((gd ref09_mapping.zero Ad s15).owner)), .bool false]) bt_63 hf Z (.cons Z (.cons Z (.cons Z .nil))) Z) .nil))))))))))))))))))))), ?_⟩
        refine RW.zero (by kernel_rfl) (by kernel_rfl) [(0, .pointer (some ⟨b0, 0, none⟩)), (3, .pointer (some ⟨b1, 0, none⟩)), (6, .int .i64 s15), (8, .pointer (some ⟨b30, 0, none⟩)), (73, .agg #[.int .i64 a1.Space, .int .u64 a1.Addr, .int .i64 a1.Width, .bool a1.Write, .int .u64 (bitw .and .u64 a1.Value s12), .int .i64 s20, .bool (gd false Ae ((gd ref09_mapping.zero Ad s15).owner)), .bool false])] ⟨Z, Z, Z, Z, Z, trivial⟩ (fun a w hR hs hf => ?_)
        refine stepS hf Z Z (er_storeAB (vs := [.int .i64 a1.Space, .int .u64 a1.Addr, .int .i64 a1.Width, .bool a1.Write, .int .u64 (bitw .and .u64 a1.Value s12), .int .i64 s20, .bool (gd false Ae ((gd ref09_mapping.zero Ad s15).owner)), .bool false]) (cs' := [.int .i64 a1.Space, .int .u64 a1.Addr, .int .i64 a1.Width, .bool a1.Write, .int .u64 (bitw .and .u64 a1.Value s12), .int .i64 s20, .bool (gd false Ae ((gd ref09_mapping.zero Ad s15).owner)), .bool false]) hs (.c sN) sz_63 hf Z Z (all1 Z (all1 Z (all1 Z (all1 Z (all1 Z (all1 Z (all1 Z (all1 Z (all1_nil))))))))) Z Z) (fun w hs => ?_)
        refine hK28 _ _ ?_
        replace hs := hs.p1.p6.p6.p6.p6.p6
        exact hJ27 _ _ ⟨b30, hf.sub ⟨Z, Z, Z, Z, trivial⟩, hs⟩
      ·
       obtain ⟨b26, hf, hs⟩ := hJ
       have e18 := some_eq H; subst e18
       exact hJ18 _ _ ⟨b26, hf.sub ⟨Z, Z, Z, Z, trivial⟩, hs⟩
     ·
      refine wp_cut (fun a w => ∃ (b32 : Nat), Fr a 183 [(0, .pointer (some ⟨b0, 0, none⟩)), (3, .pointer (some ⟨b1, 0, none⟩)), (6, .int .i64 s15), (8, .pointer (some ⟨b32, 0, none⟩))] ∧ St M w0 w [bxs b0 56 [([Vd], 1), (List.map Value.bool Ae, 256), ([Vf], 1), ([Vt], 1)], osl KR Vd (List.zip Gd Ad), ndv FR Gd Ad, osl KF Vf Af, osl Kt Vt At, bx b1 37 [.int .i64 a1.Space, .int .u64 a1.Addr, .int .i64 a1.Width, .bool a1.Write, .int .u64 (bitw .and .u64 a1.Value s12)], bx b32 63 [.int .i64 a1.Space, .int .u64 a1.Addr, .int .i64 a1.Width, .bool a1.Write, .int .u64 (bitw .and .u64 a1.Value s12), .int .i64 s20, .bool false, .bool false]]) (fun Q33 hJ33 => ?_) (fun a w hJ => ?_)
      ·
       refine region_dS fol 31 [(0, .pointer (some ⟨b0, 0, none⟩)), (3, .pointer (some ⟨b1, 0, none⟩)), (6, .int .i64 s15), (7, .int .i64 s16)] [(0, .agg #[.int .i64 a1.Space, .int .u64 a1.Addr, .int .i64 a1.Width, .bool a1.Write, .int .u64 (bitw .and .u64 a1.Value s12)]), (1, .pointer (some ⟨b0, 0, none⟩)), (2, .pointer (some ⟨b1, 0, none⟩)), (3, .int .i64 a1.Space), (4, .pointer (some ⟨b1, 1, none⟩)), (5, .int .u64 a1.Addr), (7, .int .i64 s15), (8, .bool true)] [6, 30] (fun w => (bx b1 37 [.int .i64 a1.Space, .int .u64 a1.Addr, .int .i64 a1.Width, .bool a1.Write, .int .u64 (bitw .and .u64 a1.Value s12)]).ok w ∧ True) hf ⟨Z, Z, Z, Z, trivial⟩ (by kernel_rfl) (by kernel_rfl) Z (by decide) ⟨hs.drew.get (i := 0) Z, trivial⟩ hs ((.cons (qy Z Z Z Z Z fun hR hf => ex_loadA (cs := [.int .i64 a1.Space, .int .u64 a1.Addr, .int .i64 a1.Width, .bool a1.Write, .int .u64 (bitw .and .u64 a1.Value s12)]) ag_37 hf Z (bx_cells (hR.1) Z)) (.cons (qy Z Z Z Z Z fun hR hf => ex_move hf Z) (.cons (qy Z Z Z Z Z fun hR hf => ex_fieldAddrB fa_37_0 Z hf Z) (.cons (qy Z Z Z Z Z fun hR hf => ex_load sc_3 hf Z (bx_cell (hR.1) _ Z)) (.cons (qy Z Z Z Z Z fun hR hf => ex_fieldAddrB fa_37_1 Z hf Z) (.cons (qy Z Z Z Z Z fun hR hf => ex_load sc_22 hf Z (bx_cell (hR.1) _ Z)) (.cons (qy Z Z Z Z Z fun hR hf => ex_move hf Z) (.cons (qy Z Z Z Z Z fun hR hf => ex_geqB hf Z Z (dec_t hc21)) .nil))))))))) (fun K34 hK34 => ?_)
       refine RW.fork [6, 30] (by kernel_rfl) (by kernel_rfl) ⟨?_, ?_, trivial⟩
       ·
        refine RWe.mk 6 rfl (fun d hd => by cases hd; rfl) [(45, .pointer (some ⟨b0, 0, none⟩)), (47, .int .i64 a1.Space), (49, .int .u64 a1.Addr)] ⟨rfl, rfl, rfl, trivial⟩ (fun a w hR hs hf => ⟨wanted_yes hf rfl, ?_⟩)
        refine estep_f (ex_call cf_46 hf Z) (ref09_Bus_Owner.calls k Ad Ae Af At a1.Space a1.Addr b0 Vd Gd Vf Vt (hs.enter sN) (Sr.own hs sN (i := 1) Z (fun _ h => h) (fun _ h => h) (Sr.own hs sN (i := 2) Z osl_rsl (fun _ h => h.1) (Sr.own hs sN (i := 3) Z (fun _ h => h) (fun _ h => h) (Sr.own hs sN (i := 4) Z osl_rsl (fun _ h => h.1) (Sr.own hs sN (i := 5) Z osl_rsl (fun _ h => h.1) (Sr.nil _ _)))))) hs20) (fun v w hR => ?_)
        obtain ⟨rfl, hs'⟩ := hR
        replace hs := hs.step sN hs'
        clear hs'
        refine ⟨[(9, .bool true), (10, .int .i64 s15), (11, .int .i64 s16), (12, .bool false), (13, .bool false), (14, .bool false), (15, undef), (16, undef), (17, undef), (18, undef), (19, undef), (20, undef), (21, undef), (22, undef), (23, undef), (24, undef), (25, undef), (26, undef), (27, undef), (28, .bool false), (29, .agg #[.int .i64 a1.Space, .int .u64 a1.Addr, .int .i64 a1.Width, .bool a1.Write, .int .u64 (bitw .and .u64 a1.Value s12), .int .i64 s20, .bool false, .bool false])], _, [30], (fun _ => True), hs.fn, Z, Z, ⟨hs.get (i := 0) Z, trivial⟩, trivial, hs, (by kernel_rfl), (.cons (qy Z Z Z Z Z fun hR hf => ex_move hf Z) (.cons (qy Z Z Z Z Z fun hR hf => ex_move hf Z) (.cons (qy Z Z Z Z Z fun hR hf => ex_move hf Z) (.cons (qy Z Z Z Z Z fun hR hf => ex_eqlB hf Z Z (dec_f hc22)) (.cons (qy Z Z Z Z Z fun hR hf => ex_pickT hf Z Z) (.cons (qy Z Z Z Z Z fun hR hf => ex_move hf Z) (.cons (qn Z Z Z Z Z) (.cons (qn Z Z Z Z Z) (.cons (qn Z Z Z Z Z) (.cons (qn Z Z Z Z Z) (.cons (qn Z Z Z Z Z) (.cons (qn Z Z Z Z Z) (.cons (qn Z Z Z Z Z) (.cons (qn Z Z Z Z Z) (.cons (qn Z Z Z Z Z) (.cons (qn Z Z Z Z Z) (.cons (qn Z Z Z Z Z) (.cons (qn Z Z Z Z Z) (.cons (qn Z Z Z Z Z) (.cons (qy Z Z Z Z Z fun hR hf => ex_pickF hf Z Z) (.cons (qy Z Z Z Z Z fun hR hf => ex_build (cs := [.int .i64 a1.Space, .int .u64 a1.Addr, .int .i64 a1.Width, .bool a1.Write, .int .u64 (bitw .and .u64 a1.Value s12), .int .i64 s20, .bool false, .bool false]) bt_63 hf Z (.cons Z (.cons Z (.cons Z .nil))) Z) .nil))))))))))))))))))))), ?_⟩
        refine RW.one 30 (by kernel_rfl) (by kernel_rfl) rfl (fun d hd => by cases hd; rfl) [] trivial (fun a w hR hs hf => ⟨wanted_yes hf rfl, ?_⟩)
        refine estep_v (er_alloc hs ti_63 (cs := [.int .i64 0, .int .u64 0, .int .i64 0, .bool false, .int .u64 0, .int .i64 0, .bool false, .bool false]) Z) (fun v w hR => ?_)
        obtain ⟨b35, rfl, hs⟩ := hR
        refine ⟨[], _, [], (fun _ => True), hs.fn, Z, Z, ⟨⟨hs.get (i := 1) Z, trivial⟩, trivial⟩, trivial, hs, (by kernel_rfl), .nil, ?_⟩
        refine RW.zero (by kernel_rfl) (by kernel_rfl) [(0, .pointer (some ⟨b0, 0, none⟩)), (3, .pointer (some ⟨b1, 0, none⟩)), (6, .int .i64 s15), (8, .pointer (some ⟨b35, 0, none⟩)), (73, .agg #[.int .i64 a1.Space, .int .u64 a1.Addr, .int .i64 a1.Width, .bool a1.Write, .int .u64 (bitw .and .u64 a1.Value s12), .int .i64 s20, .bool false, .bool false])] ⟨Z, Z, Z, Z, Z, trivial⟩ (fun a w hR hs hf => ?_)
        refine stepS hf Z Z (er_storeAB (vs := [.int .i64 a1.Space, .int .u64 a1.Addr, .int .i64 a1.Width, .bool a1.Write, .int .u64 (bitw .and .u64 a1.Value s12), .int .i64 s20, .bool false, .bool false]) (cs' := [.int .i64 a1.Space, .int .u64 a1.Addr, .int .i64 a1.Width, .bool a1.Write, .int .u64 (bitw .and .u64 a1.Value s12), .int .i64 s20, .bool false, .bool false]) hs (.c sN) sz_63 hf Z Z (all1 Z (all1 Z (all1 Z (all1 Z (all1 Z (all1 Z (all1 Z (all1 Z (all1_nil))))))))) Z Z) (fun w hs => ?_)
        refine hK34 _ _ ?_
        replace hs := hs.p1.p6.p6.p6.p6.p6
        exact hJ33 _ _ ⟨b35, hf.sub ⟨Z, Z, Z, Z, trivial⟩, hs⟩
       ·
        refine RWe.mk 30 rfl (fun d hd => by cases hd; rfl) [] trivial (fun a w hR hs hf => ⟨wanted_yes hf rfl, ?_⟩)
        refine estep_v (er_alloc hs ti_63 (cs := [.int .i64 0, .int .u64 0, .int .i64 0, .bool false, .int .u64 0, .int .i64 0, .bool false, .bool false]) Z) (fun v w hR => ?_)
        obtain ⟨b36, rfl, hs⟩ := hR
        refine ⟨[], _, [6], (fun _ => True), hs.fn, Z, Z, ⟨hs.get (i := 1) Z, trivial⟩, trivial, hs, (by kernel_rfl), .nil, ?_⟩
        refine RW.one 6 (by kernel_rfl) (by kernel_rfl) rfl (fun d hd => by cases hd; rfl) [(45, .pointer (some ⟨b0, 0, none⟩)), (47, .int .i64 a1.Space), (49, .int .u64 a1.Addr)] ⟨rfl, rfl, rfl, trivial⟩ (fun a w hR hs hf => ⟨wanted_yes hf rfl, ?_⟩)
        refine estep_f (ex_call cf_46 hf Z) (ref09_Bus_Owner.calls k Ad Ae Af At a1.Space a1.Addr b0 Vd Gd Vf Vt (hs.enter sN) (Sr.own hs sN (i := 2) Z (fun _ h => h) (fun _ h => h) (Sr.own hs sN (i := 3) Z osl_rsl (fun _ h => h.1) (Sr.own hs sN (i := 4) Z (fun _ h => h) (fun _ h => h) (Sr.own hs sN (i := 5) Z osl_rsl (fun _ h => h.1) (Sr.own hs sN (i := 6) Z osl_rsl (fun _ h => h.1) (Sr.nil _ _)))))) hs20) (fun v w hR => ?_)
        obtain ⟨rfl, hs'⟩ := hR
        replace hs := hs.step sN hs'
        clear hs'
        refine ⟨[(9, .bool true), (10, .int .i64 s15), (11, .int .i64 s16), (12, .bool false), (13, .bool false), (14, .bool false), (15, undef), (16, undef), (17, undef), (18, undef), (19, undef), (20, undef), (21, undef), (22, undef), (23, undef), (24, undef), (25, undef), (26, undef), (27, undef), (28, .bool false), (29, .agg #[.int .i64 a1.Space, .int .u64 a1.Addr, .int .i64 a1.Width, .bool a1.Write, .int .u64 (bitw .and .u64 a1.Value s12), .int .i64 s20, .bool false, .bool false])], _, [], (fun _ => True), hs.fn, Z, Z, ⟨⟨hs.get (i := 1) Z, trivial⟩, trivial⟩, trivial, hs, (by kernel_rfl), (.cons (qy Z Z Z Z Z fun hR hf => ex_move hf Z) (.cons (qy Z Z Z Z Z fun hR hf => ex_move hf Z) (.cons (qy Z Z Z Z Z fun hR hf => ex_move hf Z) (.cons (qy Z Z Z Z Z fun hR hf => ex_eqlB hf Z Z (dec_f hc22)) (.cons (qy Z Z Z Z Z fun hR hf => ex_pickT hf Z Z) (.cons (qy Z Z Z Z Z fun hR hf => ex_move hf Z) (.cons (qn Z Z Z Z Z) (.cons (qn Z Z Z Z Z) (.cons (qn Z Z Z Z Z) (.cons (qn Z Z Z Z Z) (.cons (qn Z Z Z Z Z) (.cons (qn Z Z Z Z Z) (.cons (qn Z Z Z Z Z) (.cons (qn Z Z Z Z Z) (.cons (qn Z Z Z Z Z) (.cons (qn Z Z Z Z Z) (.cons (qn Z Z Z Z Z) (.cons (qn Z Z Z Z Z) (.cons (qn Z Z Z Z Z) (.cons (qy Z Z Z Z Z fun hR hf => ex_pickF hf Z Z) (.cons (qy Z Z Z Z Z fun hR hf => ex_build (cs := [.int .i64 a1.Space, .int .u64 a1.Addr, .int .i64 a1.Width, .bool a1.Write, .int .u64 (bitw .and .u64 a1.Value s12), .int .i64 s20, .bool false, .bool false]) bt_63 hf Z (.cons Z (.cons Z (.cons Z .nil))) Z) .nil))))))))))))))))))))), ?_⟩
        refine RW.zero (by kernel_rfl) (by kernel_rfl) [(0, .pointer (some ⟨b0, 0, none⟩)), (3, .pointer (some ⟨b1, 0, none⟩)), (6, .int .i64 s15), (8, .pointer (some ⟨b36, 0, none⟩)), (73, .agg #[.int .i64 a1.Space, .int .u64 a1.Addr, .int .i64 a1.Width, .bool a1.Write, .int .u64 (bitw .and .u64 a1.Value s12), .int .i64 s20, .bool false, .bool false])] ⟨Z, Z, Z, Z, Z, trivial⟩ (fun a w hR hs hf => ?_)
        refine stepS hf Z Z (er_storeAB (vs := [.int .i64 a1.Space, .int .u64 a1.Addr, .int .i64 a1.Width, .bool a1.Write, .int .u64 (bitw .and .u64 a1.Value s12), .int .i64 s20, .bool false, .bool false]) (cs' := [.int .i64 a1.Space, .int .u64 a1.Addr, .int .i64 a1.Width, .bool a1.Write, .int .u64 (bitw .and .u64 a1.Value s12), .int .i64 s20, .bool false, .bool false]) hs (.c sN) sz_63 hf Z Z (all1 Z (all1 Z (all1 Z (all1 Z (all1 Z (all1 Z (all1 Z (all1 Z (all1_nil))))))))) Z Z) (fun w hs => ?_)
        refine hK34 _ _ ?_
        replace hs := hs.p1.p6.p6.p6.p6.p6
        exact hJ33 _ _ ⟨b36, hf.sub ⟨Z, Z, Z, Z, trivial⟩, hs⟩
      ·
       obtain ⟨b32, hf, hs⟩ := hJ
       have e18 := some_eq H; subst e18
       exact hJ18 _ _ ⟨b32, hf.sub ⟨Z, Z, Z, Z, trivial⟩, hs⟩
    ·
     refine wp_cut (fun a w => ∃ (b38 : Nat), Fr a 183 [(0, .pointer (some ⟨b0, 0, none⟩)), (3, .pointer (some ⟨b1, 0, none⟩)), (6, .int .i64 s15), (8, .pointer (some ⟨b38, 0, none⟩))] ∧ St M w0 w [bxs b0 56 [([Vd], 1), (List.map Value.bool Ae, 256), ([Vf], 1), ([Vt], 1)], osl KR Vd (List.zip Gd Ad), ndv FR Gd Ad, osl KF Vf Af, osl Kt Vt At, bx b1 37 [.int .i64 a1.Space, .int .u64 a1.Addr, .int .i64 a1.Width, .bool a1.Write, .int .u64 (bitw .and .u64 a1.Value s12)], bx b38 63 [.int .i64 a1.Space, .int .u64 a1.Addr, .int .i64 a1.Width, .bool a1.Write, .int .u64 (bitw .and .u64 a1.Value s12), .int .i64 s20, .bool false, .bool false]]) (fun Q39 hJ39 => ?_) (fun a w hJ => ?_)
     ·
      refine region_dS fol 31 [(0, .pointer (some ⟨b0, 0, none⟩)), (3, .pointer (some ⟨b1, 0, none⟩)), (6, .int .i64 s15), (7, .int .i64 s16)] [(0, .agg #[.int .i64 a1.Space, .int .u64 a1.Addr, .int .i64 a1.Width, .bool a1.Write, .int .u64 (bitw .and .u64 a1.Value s12)]), (1, .pointer (some ⟨b0, 0, none⟩)), (2, .pointer (some ⟨b1, 0, none⟩)), (3, .int .i64 a1.Space), (4, .pointer (some ⟨b1, 1, none⟩)), (5, .int .u64 a1.Addr), (7, .int .i64 s15), (8, .bool false)] [6, 30] (fun w => (bx b1 37 [.int .i64 a1.Space, .int .u64 a1.Addr, .int .i64 a1.Width, .bool a1.Write, .int .u64 (bitw .and .u64 a1.Value s12)]).ok w ∧ True) hf ⟨Z, Z, Z, Z, trivial⟩ (by kernel_rfl) (by kernel_rfl) Z (by decide) ⟨hs.drew.get (i := 0) Z, trivial⟩ hs ((.cons (qy Z Z Z Z Z fun hR hf => ex_loadA (cs := [.int .i64 a1.Space, .int .u64 a1.Addr, .int .i64 a1.Width, .bool a1.Write, .int .u64 (bitw .and .u64 a1.Value s12)]) ag_37 hf Z (bx_cells (hR.1) Z)) (.cons (qy Z Z Z Z Z fun hR hf => ex_move hf Z) (.cons (qy Z Z Z Z Z fun hR hf => ex_fieldAddrB fa_37_0 Z hf Z) (.cons (qy Z Z Z Z Z fun hR hf => ex_load sc_3 hf Z (bx_cell (hR.1) _ Z)) (.cons (qy Z Z Z Z Z fun hR hf => ex_fieldAddrB fa_37_1 Z hf Z) (.cons (qy Z Z Z Z Z fun hR hf => ex_load sc_22 hf Z (bx_cell (hR.1) _ Z)) (.cons (qy Z Z Z Z Z fun hR hf => ex_move hf Z) (.cons (qy Z Z Z Z Z fun hR hf => ex_geqB hf Z Z (dec_f hc21)) .nil))))))))) (fun K40 hK40 => ?_)
      refine RW.fork [6, 30] (by kernel_rfl) (by kernel_rfl) ⟨?_, ?_, trivial⟩
      ·
       refine RWe.mk 6 rfl (fun d hd => by cases hd; rfl) [(45, .pointer (some ⟨b0, 0, none⟩)), (47, .int .i64 a1.Space), (49, .int .u64 a1.Addr)] ⟨rfl, rfl, rfl, trivial⟩ (fun a w hR hs hf => ⟨wanted_yes hf rfl, ?_⟩)
       refine estep_f (ex_call cf_46 hf Z) (ref09_Bus_Owner.calls k Ad Ae Af At a1.Space a1.Addr b0 Vd Gd Vf Vt (hs.enter sN) (Sr.own hs sN (i := 1) Z (fun _ h => h) (fun _ h => h) (Sr.own hs sN (i := 2) Z osl_rsl (fun _ h => h.1) (Sr.own hs sN (i := 3) Z (fun _ h => h) (fun _ h => h) (Sr.own hs sN (i := 4) Z osl_rsl (fun _ h => h.1) (Sr.own hs sN (i := 5) Z osl_rsl (fun _ h => h.1) (Sr.nil _ _)))))) hs20) (fun v w hR => ?_)
       obtain ⟨rfl, hs'⟩ := hR
       replace hs := hs.step sN hs'
       clear hs'
       refine ⟨[(9, .bool false), (10, undef), (11, undef), (12, undef), (13, .bool false), (14, .bool false), (15, undef), (16, undef), (17, undef), (18, undef), (19, undef), (20, undef), (21, undef), (22, undef), (23, undef), (24, undef), (25, undef), (26, undef), (27, undef), (28, .bool false), (29, .agg #[.int .i64 a1.Space, .int .u64 a1.Addr, .int .i64 a1.Width, .bool a1.Write, .int .u64 (bitw .and .u64 a1.Value s12), .int .i64 s20, .bool false, .bool false])], _, [30], (fun _ => True), hs.fn, Z, Z, ⟨hs.get (i := 0) Z, trivial⟩, trivial, hs, (by kernel_rfl), (.cons (qy Z Z Z Z Z fun hR hf => ex_move hf Z) (.cons (qn Z Z Z Z Z) (.cons (qn Z Z Z Z Z) (.cons (qn Z Z Z Z Z) (.cons (qy Z Z Z Z Z fun hR hf => ex_pickF hf Z Z) (.cons (qy Z Z Z Z Z fun hR hf => ex_move hf Z) (.cons (qn Z Z Z Z Z) (.cons (qn Z Z Z Z Z) (.cons (qn Z Z Z Z Z) (.cons (qn Z Z Z Z Z) (.cons (qn Z Z Z Z Z) (.cons (qn Z Z Z Z Z) (.cons (qn Z Z Z Z Z) (.cons (qn Z Z Z Z Z) (.cons (qn Z Z Z Z Z) (.cons (qn Z Z Z Z Z) (.cons (qn Z Z Z Z Z) (.cons (qn Z Z Z Z Z) (.cons (qn Z Z Z Z Z) (.cons (qy Z Z Z Z Z fun hR hf => ex_pickF hf Z Z) (.cons (qy Z Z Z Z Z fun hR hf => ex_build (cs := [.int .i64 a1.Space, .int .u64 a1.Addr, .int .i64 a1.Width, .bool a1.Write, .int .u64 (bitw .and .u64 a1.Value s12), .int .i64 s20, .bool false, .bool false]) bt_63 hf Z (.cons Z (.cons Z (.cons Z .nil))) Z) .nil))))))))))))))))))))), ?_⟩
       refine RW.one 30 (by kernel_rfl) (by kernel_rfl) rfl (fun d hd => by cases hd; rfl) [] trivial (fun a w hR hs hf => ⟨wanted_yes hf rfl, ?_⟩)
       refine estep_v (er_alloc hs ti_63 (cs := [.int .i64 0, .int .u64 0, .int .i64 0, .bool false, .int .u64 0, .int .i64 0, .bool false, .bool false]) Z) (fun v w hR => ?_)
       obtain ⟨b41, rfl, hs⟩ := hR
       refine ⟨[], _, [], (fun _ => True), hs.fn, Z, Z, ⟨⟨hs.get (i := 1) Z, trivial⟩, trivial⟩, trivial, hs, (by kernel_rfl), .nil, ?_⟩
       refine RW.zero (by kernel_rfl) (by kernel_rfl) [(0, .pointer (some ⟨b0, 0, none⟩)), (3, .pointer (some ⟨b1, 0, none⟩)), (6, .int .i64 s15), (8, .pointer (some ⟨b41, 0, none⟩)), (73, .agg #[.int .i64 a1.Space, .int .u64 a1.Addr, .int .i64 a1.Width, .bool a1.Write, .int .u64 (bitw .and .u64 a1.Value s12), .int .i64 s20, .bool false, .bool false])] ⟨Z, Z, Z, Z, Z, trivial⟩ (fun a w hR hs hf => ?_)
       refine stepS hf Z Z (er_storeAB (vs := [.int .i64 a1.Space, .int .u64 a1.Addr, .int .i64 a1.Width, .bool a1.Write, .int .u64 (bitw .and .u64 a1.Value s12), .int .i64 s20, .bool false, .bool false]) (cs' := [.int .i64 a1.Space, .int .u64 a1.Addr, .int .i64 a1.Width, .bool a1.Write, .int .u64 (bitw .and .u64 a1.Value s12), .int .i64 s20, .bool false, .bool false]) hs (.c sN) sz_63 hf Z Z (all1 Z (all1 Z (all1 Z (all1 Z (all1 Z (all1 Z (all1 Z (all1 Z (all1_nil))))))))) Z Z) (fun w hs => ?_)
       refine hK40 _ _ ?_
       replace hs := hs.p1.p6.p6.p6.p6.p6
       exact hJ39 _ _ ⟨b41, hf.sub ⟨Z, Z, Z, Z, trivial⟩, hs⟩
      ·
       refine RWe.mk 30 rfl (fun d hd => by cases hd; rfl) [] trivial (fun a w hR hs hf => ⟨wanted_yes hf rfl, ?_⟩)
       refine estep_v (er_alloc hs ti_63 (cs := [.int .i64 0, .int .u64 0, .int .i64 0, .bool false, .int .u64 0, .int .i64 0, .bool false, .bool false]) Z) (fun v w hR => ?_)
       obtain ⟨b42, rfl, hs⟩ := hR
       refine ⟨[], _, [6], (fun _ => True), hs.fn, Z, Z, ⟨hs.get (i := 1) Z, trivial⟩, trivial, hs, (by kernel_rfl), .nil, ?_⟩
       refine RW.one 6 (by kernel_rfl) (by kernel_rfl) rfl (fun d hd => by cases hd; rfl) [(45, .pointer (some ⟨b0, 0, none⟩)), (47, .int .i64 a1.Space), (49, .int .u64 a1.Addr)] ⟨rfl, rfl, rfl, trivial⟩ (fun a w hR hs hf => ⟨wanted_yes hf rfl, ?_⟩)
       refine estep_f (ex_call cf_46 hf Z) (ref09_Bus_Owner.calls k Ad Ae Af At a1.Space a1.Addr b0 Vd Gd Vf Vt (hs.enter sN) (Sr.own hs sN (i := 2) Z (fun _ h => h) (fun _ h => h) (Sr.own hs sN (i := 3) Z osl_rsl (fun _ h => h.1) (Sr.own hs sN (i := 4) Z (fun _ h => h) (fun _ h => h) (Sr.own hs sN (i := 5) Z osl_rsl (fun _ h => h.1) (Sr.own hs sN (i := 6) Z osl_rsl (fun _ h => h.1) (Sr.nil _ _)))))) hs20) (fun v w hR => ?_)
       obtain ⟨rfl, hs'⟩ := hR
       replace hs := hs.step sN hs'
       clear hs'
       refine ⟨[(9, .bool false), (10, undef), (11, undef), (12, undef), (13, .bool false), (14, .bool false), (15, undef), (16, undef), (17, undef), (18, undef), (19, undef), (20, undef), (21, undef), (22, undef), (23, undef), (24, undef), (25, undef), (26, undef), (27, undef), (28, .bool false), (29, .agg #[.int .i64 a1.Space, .int .u64 a1.Addr, .int .i64 a1.Width, .bool a1.Write, .int .u64 (bitw .and .u64 a1.Value s12), .int .i64 s20, .bool false, .bool false])], _, [], (fun _ => True), hs.fn, Z, Z, ⟨⟨hs.get (i := 1) Z, trivial⟩, trivial⟩, trivial, hs, (by kernel_rfl), (.cons (qy Z Z Z Z Z fun hR hf => ex_move hf Z) (.cons (qn Z Z Z Z Z) (.cons (qn Z Z Z Z Z) (.cons (qn Z Z Z Z Z) (.cons (qy Z Z Z Z Z fun hR hf => ex_pickF hf Z Z) (.cons (qy Z Z Z Z Z fun hR hf => ex_move hf Z) (.cons (qn Z Z Z Z Z) (.cons (qn Z Z Z Z Z) (.cons (qn Z Z Z Z Z) (.cons (qn Z Z Z Z Z) (.cons (qn Z Z Z Z Z) (.cons (qn Z Z Z Z Z) (.cons (qn Z Z Z Z Z) (.cons (qn Z Z Z Z Z) (.cons (qn Z Z Z Z Z) (.cons (qn Z Z Z Z Z) (.cons (qn Z Z Z Z Z) (.cons (qn Z Z Z Z Z) (.cons (qn Z Z Z Z Z) (.cons (qy Z Z Z Z Z fun hR hf => ex_pickF hf Z Z) (.cons (qy Z Z Z Z Z fun hR hf => ex_build (cs := [.int .i64 a1.Space, .int .u64 a1.Addr, .int .i64 a1.Width, .bool a1.Write, .int .u64 (bitw .and .u64 a1.Value s12), .int .i64 s20, .bool false, .bool false]) bt_63 hf Z (.cons Z (.cons Z (.cons Z .nil))) Z) .nil))))))))))))))))))))), ?_⟩
       refine RW.zero (by kernel_rfl) (by kernel_rfl) [(0, .pointer (some ⟨b0, 0, none⟩)), (3, .pointer (some ⟨b1, 0, none⟩)), (6, .int .i64 s15), (8, .pointer (some ⟨b42, 0, none⟩)), (73, .agg #[.int .i64 a1.Space, .int .u64 a1.Addr, .int .i64 a1.Width, .bool a1.Write, .int .u64 (bitw .and .u64 a1.Value s12), .int .i64 s20, .bool false, .bool false])] ⟨Z, Z, Z, Z, Z, trivial⟩ (fun a w hR hs hf => ?_)
       refine stepS hf Z Z (er_storeAB (vs := [.int .i64 a1.Space, .int .u64 a1.Addr, .int .i64 a1.Width, .bool a1.Write, .int .u64 (bitw .and .u64 a1.Value s12), .int .i64 s20, .bool false, .bool false]) (cs' := [.int .i64 a1.Space, .int .u64 a1.Addr, .int .i64 a1.Width, .bool a1.Write, .int .u64 (bitw .and .u64 a1.Value s12), .int .i64 s20, .bool false, .bool false]) hs (.c sN) sz_63 hf Z Z (all1 Z (all1 Z (all1 Z (all1 Z (all1 Z (all1 Z (all1 Z (all1 Z (all1_nil))))))))) Z Z) (fun w hs => ?_)
       refine hK40 _ _ ?_
       replace hs := hs.p1.p6.p6.p6.p6.p6
       exact hJ39 _ _ ⟨b42, hf.sub ⟨Z, Z, Z, Z, trivial⟩, hs⟩
     ·
      obtain ⟨b38, hf, hs⟩ := hJ
      have e18 := some_eq H; subst e18
      exact hJ18 _ _ ⟨b38, hf.sub ⟨Z, Z, Z, Z, trivial⟩, hs⟩
   ·
    obtain ⟨b19, hf, hs⟩ := hJ
    replace H := HO18
    clear HO18
    refine bnd H (fun x43 H43 HO43 => ?_)
    clear H
    refine seq_cut (fun a w => ∃ (v44 : Value), Fr a 183 [(0, .pointer (some ⟨b0, 0, none⟩)), (3, .pointer (some ⟨b1, 0, none⟩)), (8, .pointer (some ⟨b19, 0, none⟩))] ∧ St M w0 w [bxs b0 56 [([Vd], 1), (List.map Value.bool Ae, 256), ([v44], 1), ([Vt], 1)], osl KR Vd (List.zip Gd x43.1), ndv FR Gd x43.1, osl KF v44 x43.2.1, osl Kt Vt At, bx b1 37 [.int .i64 a1.Space, .int .u64 a1.Addr, .int .i64 a1.Width, .bool a1.Write, .int .u64 (bitw .and .u64 a1.Value s12)], bx b19 63 [.int .i64 a1.Space, .int .u64 a1.Addr, .int .i64 a1.Width, .bool a1.Write, .int .u64 x43.2.2.1, .int .i64 x18.1, .bool x18.2, .bool x43.2.2.2]]) (fun Q43 hJ43 hR43 hX43 => ?_) (fun a w hJ => ?_)
    ·
     replace H := H43
     refine block_k (fun Q45 hN45 hR45 hX45 hY45 => ?_)
     refine seq_reg (fun K46 hK46 => ?_)
     refine stq hf Z Z Z (ex_fieldAddrB fa_63_2 Z hf Z) fun a hf => stq hf Z Z Z (ex_load sc_4 hf Z (bx_cell (hs.get (i := 6) Z) _ Z)) fun a hf => stq hf Z Z Z (ex_not hf Z) fun a hf => stq hf Z Z Z (ex_assign hf Z) fun a hf => ?_
     refine hK46 _ _ ?_
     refine itt H (fun hc47 H => ?_) (fun hc47 H => ?_)
     ·
      replace hf := hf.castB (t := 142) Z (nbool_f hc47)
      refine cond_F hf Z ?_
      refine bnd H (fun s48 hs48 H => ?_)
      refine seq_reg (fun K50 hK50 => ?_)
      refine stq hf Z Z Z (ex_move hf Z) fun a hf => stq hf Z Z Z (ex_loadA (cs := [.int .i64 a1.Space, .int .u64 a1.Addr, .int .i64 a1.Width, .bool a1.Write, .int .u64 (bitw .and .u64 a1.Value s12)]) ag_37 hf Z (bx_cells (hs.get (i := 5) Z) Z)) fun a hf => ?_
      refine stepF hf Z Z Z (ex_call cf_62 hf Z) (ref09_Bus_failing.calls k Ad Ae Af At (⟨a1.Space, a1.Addr, a1.Width, a1.Write, (bitw .and .u64 a1.Value s12)⟩ : Access) b0 Vd Gd Vf Vt (hs.enter (.c (.c (.c (.c (.c sN)))))) (Sr.nil _ _) hs48) (fun v w hR a hf => ?_)
      obtain ⟨v49, rfl, hs'⟩ := hR
      replace hs := hs.step (.c (.c (.c (.c (.c sN))))) hs'
      clear hs'
      refine stq hf Z Z Z (ex_assign hf Z) fun a hf => ?_
      refine hK50 _ _ ?_
      refine itt H (fun hc51 H => ?_) (fun hc51 H => ?_)
      ·
       replace hf := hf.castB (t := 154) Z hc51
       refine cond_T hf Z ?_
       refine seq_reg (fun K52 hK52 => ?_)
       refine stq hf Z Z Z (ex_fieldAddrB fa_63_3 Z hf Z) fun a hf => ?_
       refine stepS hf Z Z (er_storeB hs (.k (.k (.k (.k (.k (.k (.c .nil))))))) hf Z Z Z sz_4 Z) (fun w hs => ?_)
       refine hK52 _ _ ?_
       refine seq_reg (fun K53 hK53 => ?_)
       refine stq hf Z Z Z (ex_fieldAddrB fa_37_3 Z hf Z) fun a hf => stq hf Z Z Z (ex_load sc_4 hf Z (bx_cell (hs.get (i := 6) Z) _ Z)) fun a hf => stq hf Z Z Z (ex_not hf Z) fun a hf => ?_
       refine hK53 _ _ ?_
       refine itt H (fun hc54 H => ?_) (fun hc54 H => ?_)
       ·
        replace hf := hf.castB (t := 161) Z (nbool_f hc54)
        refine cond_F hf Z ?_
        refine wp_skip ?_
        refine hN45 _ _ ?_
        replace hs := hs.p6.p6.p6.p6.p6.p6
        have e43 := some_eq H; subst e43
        exact hJ43 _ _ ⟨v49, hf.sub ⟨Z, Z, Z, trivial⟩, hs⟩
       ·
        replace hf := hf.castB (t := 161) Z (nbool_t hc54)
        refine cond_T hf Z ?_
        refine region_k (fun K55 hK55 => ?_)
        refine stq hf Z Z Z (ex_fieldAddrB fa_63_0 Z hf Z) fun a hf => stq hf Z Z Z (ex_fieldAddrB fa_37_4 Z hf Z) fun a hf => ?_
        refine stepS hf Z Z (er_storeB hs (.c sN) hf Z Z Z sz_22 Z) (fun w hs => ?_)
        refine hK55 _ _ ?_
        refine hN45 _ _ ?_
        replace hs := hs.p6.p6.p6.p6.p6.p6
        have e43 := some_eq H; subst e43
        exact hJ43 _ _ ⟨v49, hf.sub ⟨Z, Z, Z, trivial⟩, hs⟩
      ·
       replace hf := hf.castB (t := 154) Z (bool_f hc51)
       refine cond_F hf Z ?_
       refine seq_n (fun Q56 hN56 hR56 hX56 => ?_)
       refine ck_some H (fun hc57 H => ?_)
       refine region_dS fol 12 [(0, .pointer (some ⟨b0, 0, none⟩)), (3, .pointer (some ⟨b1, 0, none⟩)), (6, .int .i64 s15), (8, .pointer (some ⟨b19, 0, none⟩))] [(0, .pointer (some ⟨b1, 1, none⟩)), (1, .int .u64 a1.Addr), (2, .pointer (some ⟨b0, 0, none⟩)), (3, .pointer (some ⟨b0, 0, none⟩)), (4, .pointer (some ⟨b0, 0, none⟩)), (5, Vd), (6, .int .i64 s15), (7, .pointer (some (sla Vd (s15.toNat * 5)))), (8, .pointer (some (sla Vd (s15.toNat * 5 + 1)))), (9, .pointer (some (sla Vd (s15.toNat * 5 + 1)))), (10, .int .u64 ((gd ref09_mapping.zero Ad s15).m.Base)), (11, .int .u64 (IntKind.u64.wrap (a1.Addr - ((gd ref09_mapping.zero Ad s15).m.Base))))] [] (fun w => (bx b1 37 [.int .i64 a1.Space, .int .u64 a1.Addr, .int .i64 a1.Width, .bool a1.Write, .int .u64 (bitw .and .u64 a1.Value s12)]).ok w ∧ (bxs b0 56 [([Vd], 1), (List.map Value.bool Ae, 256), ([v49], 1), ([Vt], 1)]).ok w ∧ (osl KR Vd (List.zip Gd Ad)).ok w ∧ (ndv FR Gd Ad).ok w ∧ True) hf ⟨Z, Z, Z, Z, trivial⟩ (by kernel_rfl) (by kernel_rfl) Z (by decide) ⟨hs.drew.get (i := 5) Z, hs.drew.get (i := 0) Z, hs.drew.get (i := 1) Z, hs.drew.get (i := 2) Z, trivial⟩ hs ((.cons (qy Z Z Z Z Z fun hR hf => ex_fieldAddrB fa_37_1 Z hf Z) (.cons (qy Z Z Z Z Z fun hR hf => ex_load sc_22 hf Z (bx_cell (hR.1) _ Z)) (.cons (qy Z Z Z Z Z fun hR hf => ex_move hf Z) (.cons (qy Z Z Z Z Z fun hR hf => ex_nilCheck hf Z) (.cons (qy Z Z Z Z Z fun hR hf => ex_fieldAddrB fa_56_0 Z hf Z) (.cons (qy Z Z Z Z Z fun hR hf => ex_load sc_51 hf Z (sb_cell1 (i := 0) (hR.2.1) Z Z)) (.cons (qy Z Z Z Z Z fun hR hf => ex_move hf Z) (.cons (qy Z Z Z Z Z fun hR hf => ex_indexAddr sa_51 (nv_isSl (osl_rsl _ hR.2.2.1) hR.2.2.2.1) hc57.1 hc57.2 hf Z Z) (.cons (qy Z Z Z Z Z fun hR hf => ex_fieldAddrS fa_100_1 Z hf Z) (.cons (qy Z Z Z Z Z fun hR hf => ex_fieldAddrS fa_32_0 Z hf Z) (.cons (qy Z Z Z Z Z fun hR hf => ex_load sc_22 hf Z (nv_cell (K := KR) (F := FR) (f := 1) (osl_rsl _ hR.2.2.1) hR.2.2.2.1 SlV.zero ref09_mapping.zero hc57.1 hc57.2 Z)) (.cons (qy Z Z Z Z Z fun hR hf => ex_sub hf Z Z) .nil))))))))))))) (fun K58 hK58 => ?_)
       refine RW.zero (by kernel_rfl) (by kernel_rfl) [(0, .pointer (some ⟨b0, 0, none⟩)), (3, .pointer (some ⟨b1, 0, none⟩)), (6, .int .i64 s15), (8, .pointer (some ⟨b19, 0, none⟩)), (85, .int .u64 (IntKind.u64.wrap (a1.Addr - ((gd ref09_mapping.zero Ad s15).m.Base))))] ⟨Z, Z, Z, Z, Z, trivial⟩ (fun a w hR hs hf => ?_)
       refine stq hf Z Z Z (ex_assign hf Z) fun a hf => ?_
       refine hK58 _ _ ?_
       refine hN56 _ _ ?_
       refine bnd H (fun x59 H59 HO59 => ?_)
       clear H
       refine seq_cut (fun a w => Fr a 183 [(0, .pointer (some ⟨b0, 0, none⟩)), (3, .pointer (some ⟨b1, 0, none⟩)), (6, .int .i64 s15), (8, .pointer (some ⟨b19, 0, none⟩)), (9, .int .u64 (IntKind.u64.wrap (a1.Addr - ((gd ref09_mapping.zero Ad s15).m.Base))))] ∧ St M w0 w [bxs b0 56 [([Vd], 1), (List.map Value.bool Ae, 256), ([v49], 1), ([Vt], 1)], osl KR Vd (List.zip Gd Ad), ndv FR Gd Ad, osl KF v49 s48.1, osl Kt Vt At, bx b1 37 [.int .i64 a1.Space, .int .u64 a1.Addr, .int .i64 a1.Width, .bool a1.Write, .int .u64 (bitw .and .u64 a1.Value s12)], bx b19 63 [.int .i64 a1.Space, .int .u64 a1.Addr, .int .i64 a1.Width, .bool a1.Write, .int .u64 x59, .int .i64 x18.1, .bool x18.2, .bool false]]) (fun Q59 hJ59 hR59 hX59 => ?_) (fun a w hJ => ?_)
       ·
        replace H := H59
        refine seq_reg (fun K60 hK60 => ?_)
        refine stq hf Z Z Z (ex_fieldAddrB fa_37_3 Z hf Z) fun a hf => stq hf Z Z Z (ex_load sc_4 hf Z (bx_cell (hs.get (i := 5) Z) _ Z)) fun a hf => stq hf Z Z Z (ex_not hf Z) fun a hf => ?_
        refine hK60 _ _ ?_
        refine itt H (fun hc61 H => ?_) (fun hc61 H => ?_)
        ·
         replace hf := hf.castB (t := 88) Z (nbool_f hc61)
         refine cond_F hf Z ?_
         refine wp_skip ?_
         have e59 := some_eq H; subst e59
         exact hJ59 _ _ ⟨hf.sub ⟨Z, Z, Z, Z, Z, trivial⟩, hs⟩
        ·
         replace hf := hf.castB (t := 88) Z (nbool_t hc61)
         refine cond_T hf Z ?_
         refine region_k (fun K62 hK62 => ?_)
         refine stq hf Z Z Z (ex_fieldAddrB fa_63_0 Z hf Z) fun a hf => stq hf Z Z Z (ex_fieldAddrB fa_37_4 Z hf Z) fun a hf => ?_
         refine stepS hf Z Z (er_storeB hs (.k (.k (.k (.k (.k (.k (.c .nil))))))) hf Z Z Z sz_22 Z) (fun w hs => ?_)
         refine hK62 _ _ ?_
         replace hs := hs.p6.p6.p6.p6.p6.p6
         have e59 := some_eq H; subst e59
         exact hJ59 _ _ ⟨hf.sub ⟨Z, Z, Z, Z, Z, trivial⟩, hs⟩
       ·
        obtain ⟨hf, hs⟩ := hJ
        replace H := HO59
        clear HO59
        refine seq_reg (fun K63 hK63 => ?_)
        refine stq hf Z Z Z (ex_fieldAddrB fa_37_2 Z hf Z) fun a hf => stq hf Z Z Z (ex_load sc_3 hf Z (bx_cell (hs.get (i := 5) Z) _ Z)) fun a hf => stq hf Z Z Z (ex_sub hf Z Z) fun a hf => stq hf Z Z Z (ex_assign hf Z) fun a hf => ?_
        refine hK63 _ _ ?_
        refine block_k (fun Q64 hN64 hR64 hX64 hY64 => ?_)
        refine loop_k (fun n a w => ∃ (y65 : (List ref09_mapping)) (y66 : Int) (y67 : Int), Fr a 183 [(0, .pointer (some ⟨b0, 0, none⟩)), (3, .pointer (some ⟨b1, 0, none⟩)), (6, .int .i64 s15), (8, .pointer (some ⟨b19, 0, none⟩)), (9, .int .u64 (IntKind.u64.wrap (a1.Addr - ((gd ref09_mapping.zero Ad s15).m.Base)))), (10, .int .i64 y67)] ∧ St M w0 w [bxs b0 56 [([Vd], 1), (List.map Value.bool Ae, 256), ([v49], 1), ([Vt], 1)], osl KR Vd (List.zip Gd y65), ndv FR Gd y65, osl KF v49 s48.1, osl Kt Vt At, bx b1 37 [.int .i64 a1.Space, .int .u64 a1.Addr, .int .i64 a1.Width, .bool a1.Write, .int .u64 (bitw .and .u64 a1.Value s12)], bx b19 63 [.int .i64 a1.Space, .int .u64 a1.Addr, .int .i64 a1.Width, .bool a1.Write, .int .u64 y66, .int .i64 x18.1, .bool x18.2, .bool false]] ∧ ref09_Bus_Access.l1 n a1 s15 Ad s12 s48 y65 y66 y67 = some x43) k ?_ (fun n69 a w hI Q69 hL69 hR69 hX69 => ?_)
        ·
         exact ⟨Ad, x59, (IntKind.i64.wrap (a1.Width - 1)), hf.sub ⟨Z, Z, Z, Z, Z, Z, trivial⟩, hs, H⟩
        ·
         obtain ⟨y65, y66, y67, hf, hs, H⟩ := hI
         cases n69 with
         | zero => exact absurd H (by rw [ref09_Bus_Access.l1.eq_1]; intro h; cases h)
         | succ k69 =>
          replace H := (ref09_Bus_Access.l1.eq_2 ..).symm.trans H
          refine seq_n (fun Q70 hN70 hR70 hX70 => ?_)
          refine seq_reg (fun K71 hK71 => ?_)
          refine stq hf Z Z Z (ex_move hf Z) fun a hf => stq hf Z Z Z (ex_geq hf Z Z) fun a hf => ?_
          refine hK71 _ _ ?_
          refine itt H (fun hc72 H => ?_) (fun hc72 H => ?_)
          ·
           replace hf := hf.castB (t := 95) Z (dec_t hc72)
           refine cond_T hf Z ?_
           refine wp_skip ?_
           refine hN70 _ _ ?_
           refine bnd H (fun x73 H73 HO73 => ?_)
           clear H
           refine seq_cut (fun a w => Fr a 183 [(0, .pointer (some ⟨b0, 0, none⟩)), (3, .pointer (some ⟨b1, 0, none⟩)), (6, .int .i64 s15), (8, .pointer (some ⟨b19, 0, none⟩)), (9, .int .u64 (IntKind.u64.wrap (a1.Addr - ((gd ref09_mapping.zero Ad s15).m.Base)))), (10, .int .i64 y67)] ∧ St M w0 w [bxs b0 56 [([Vd], 1), (List.map Value.bool Ae, 256), ([v49], 1), ([Vt], 1)], osl KR Vd (List.zip Gd x73.1), ndv FR Gd x73.1, osl KF v49 s48.1, osl Kt Vt At, bx b1 37 [.int .i64 a1.Space, .int .u64 a1.Addr, .int .i64 a1.Width, .bool a1.Write, .int .u64 (bitw .and .u64 a1.Value s12)], bx b19 63 [.int .i64 a1.Space, .int .u64 a1.Addr, .int .i64 a1.Width, .bool a1.Write, .int .u64 x73.2, .int .i64 x18.1, .bool x18.2, .bool false]]) (fun Q73 hJ73 hR73 hX73 => ?_) (fun a w hJ => ?_)
           ·
            replace H := H73
            refine block_k (fun Q74 hN74 hR74 hX74 hY74 => ?_)
            refine seq_reg (fun K75 hK75 => ?_)
            refine stq hf Z Z Z (ex_fieldAddrB fa_37_3 Z hf Z) fun a hf => stq hf Z Z Z (ex_load sc_4 hf Z (bx_cell (hs.get (i := 5) Z) _ Z)) fun a hf => ?_
            refine hK75 _ _ ?_
            refine itt H (fun hc76 H => ?_) (fun hc76 H => ?_)
            ·
             replace hf := hf.castB (t := 99) Z hc76
             refine cond_T hf Z ?_
             refine ck_some H (fun hc77 H => ?_)
             refine ck_some H (fun hc78 H => ?_)
             refine ck_some H (fun hc79 H => ?_)
             refine region_dS fol 19 [(0, .pointer (some ⟨b0, 0, none⟩)), (3, .pointer (some ⟨b1, 0, none⟩)), (6, .int .i64 s15), (8, .pointer (some ⟨b19, 0, none⟩)), (9, .int .u64 (IntKind.u64.wrap (a1.Addr - ((gd ref09_mapping.zero Ad s15).m.Base)))), (10, .int .i64 y67)] [(0, .pointer (some ⟨b0, 0, none⟩)), (1, .pointer (some ⟨b0, 0, none⟩)), (2, .pointer (some ⟨b0, 0, none⟩)), (3, Vd), (4, .int .i64 s15), (5, .pointer (some (sla Vd (s15.toNat * 5)))), (6, .pointer (some (sla Vd (s15.toNat * 5 + 4)))), (7, (gd SlV.zero Gd s15).v), (8, .int .u64 (IntKind.u64.wrap (a1.Addr - ((gd ref09_mapping.zero Ad s15).m.Base)))), (9, .int .i64 y67), (10, .int .u64 (IntKind.u64.wrap y67)), (11, .int .u64 (IntKind.u64.wrap ((IntKind.u64.wrap (a1.Addr - ((gd ref09_mapping.zero Ad s15).m.Base))) + (IntKind.u64.wrap y67)))), (12, .pointer (some ⟨b1, 4, none⟩)), (13, .int .u64 (bitw .and .u64 a1.Value s12)), (14, .int .i64 y67), (15, .int .i64 (IntKind.i64.wrap (8 * y67))), (16, .int .u64 (IntKind.u64.wrap (IntKind.i64.wrap (8 * y67)))), (17, .int .u64 (shrw .u64 (bitw .and .u64 a1.Value s12) (IntKind.u64.wrap (IntKind.i64.wrap (8 * y67))))), (18, .int .u8 (IntKind.u8.wrap (shrw .u64 (bitw .and .u64 a1.Value s12) (IntKind.u64.wrap (IntKind.i64.wrap (8 * y67))))))] [] (fun w => (bxs b0 56 [([Vd], 1), (List.map Value.bool Ae, 256), ([v49], 1), ([Vt], 1)]).ok w ∧ (osl KR Vd (List.zip Gd y65)).ok w ∧ (ndv FR Gd y65).ok w ∧ (bx b1 37 [.int .i64 a1.Space, .int .u64 a1.Addr, .int .i64 a1.Width, .bool a1.Write, .int .u64 (bitw .and .u64 a1.Value s12)]).ok w ∧ True) hf ⟨Z, Z, Z, Z, Z, Z, trivial⟩ (by kernel_rfl) (by kernel_rfl) Z (by decide) ⟨hs.drew.get (i := 0) Z, hs.drew.get (i := 1) Z, hs.drew.get (i := 2) Z, hs.drew.get (i := 5) Z, trivial⟩ hs ((.cons (qy Z Z Z Z Z fun hR hf => ex_move hf Z) (.cons (qy Z Z Z Z Z fun hR hf => ex_nilCheck hf Z) (.cons (qy Z Z Z Z Z fun hR hf => ex_fieldAddrB fa_56_0 Z hf Z) (.cons (qy Z Z Z Z Z fun hR hf => ex_load sc_51 hf Z (sb_cell1 (i := 0) (hR.1) Z Z)) (.cons (qy Z Z Z Z Z fun hR hf => ex_move hf Z) (.cons (qy Z Z Z Z Z fun hR hf => ex_indexAddr sa_51 (nv_isSl (osl_rsl _ hR.2.1) hR.2.2.1) hc77.1 hc77.2 hf Z Z) (.cons (qy Z Z Z Z Z fun hR hf => ex_fieldAddrS fa_100_3 Z hf Z) (.cons (qy Z Z Z Z Z fun hR hf => ex_load sc_23 hf Z (nv_cell (K := KR) (F := FR) (f := 4) (osl_rsl _ hR.2.1) hR.2.2.1 SlV.zero ref09_mapping.zero hc77.1 hc77.2 Z)) (.cons (qy Z Z Z Z Z fun hR hf => ex_move hf Z) (.cons (qy Z Z Z Z Z fun hR hf => ex_move hf Z) (.cons (qy Z Z Z Z Z fun hR hf => ex_conv Try.underlying3 Try.underlying22 hf Z) (.cons (qy Z Z Z Z Z fun hR hf => ex_add hf Z Z) (.cons (qy Z Z Z Z Z fun hR hf => ex_fieldAddrB fa_37_4 Z hf Z) (.cons (qy Z Z Z Z Z fun hR hf => ex_load sc_22 hf Z (bx_cell (hR.2.2.2.1) _ Z)) (.cons (qy Z Z Z Z Z fun hR hf => ex_move hf Z) (.cons (qy Z Z Z Z Z fun hR hf => ex_mul hf Z Z) (.cons (qy Z Z Z Z Z fun hR hf => ex_conv Try.underlying3 Try.underlying72 hf Z) (.cons (qy Z Z Z Z Z fun hR hf => ex_shr hf Z Z hc78) (.cons (qy Z Z Z Z Z fun hR hf => ex_conv Try.underlying22 Try.underlying5 hf Z) .nil)))))))))))))))))))) (fun K80 hK80 => ?_)
             refine RW.zero (by kernel_rfl) (by kernel_rfl) [(0, .pointer (some ⟨b0, 0, none⟩)), (3, .pointer (some ⟨b1, 0, none⟩)), (6, .int .i64 s15), (8, .pointer (some ⟨b19, 0, none⟩)), (9, .int .u64 (IntKind.u64.wrap (a1.Addr - ((gd ref09_mapping.zero Ad s15).m.Base)))), (10, .int .i64 y67), (107, (gd SlV.zero Gd s15).v), (111, .int .u64 (IntKind.u64.wrap ((IntKind.u64.wrap (a1.Addr - ((gd ref09_mapping.zero Ad s15).m.Base))) + (IntKind.u64.wrap y67)))), (118, .int .u8 (IntKind.u8.wrap (shrw .u64 (bitw .and .u64 a1.Value s12) (IntKind.u64.wrap (IntKind.i64.wrap (8 * y67))))))] ⟨Z, Z, Z, Z, Z, Z, Z, Z, Z, trivial⟩ (fun a w hR hs hf => ?_)
             refine stq hf Z Z Z (ex_indexAddr sa_23 (rsl_isSl (osl_rsl _ (nv_more (F := FR) (hs.get (i := 2) Z) SlV.zero ref09_mapping.zero hc77.1 hc77.2 0 Z))) hc79.1 hc79.2 hf Z Z) fun a hf => ?_
             refine stepS hf Z Z (er_storeV (F := FR) (K' := K_uint8) (g0 := SlV.zero) (z0 := ref09_mapping.zero) (x' := (⟨((gd ref09_mapping.zero y65 s15).space), (⟨((gd ref09_mapping.zero y65 s15).m.Base), ((gd ref09_mapping.zero y65 s15).m.Len)⟩ : Range), ((gd ref09_mapping.zero y65 s15).owner), (((gd ref09_mapping.zero y65 s15).bytes).set (IntKind.u64.wrap ((IntKind.u64.wrap (a1.Addr - ((gd ref09_mapping.zero Ad s15).m.Base))) + (IntKind.u64.wrap y67))).toNat (IntKind.u8.wrap (shrw .u64 (bitw .and .u64 a1.Value s12) (IntKind.u64.wrap (IntKind.i64.wrap (8 * y67))))))⟩ : ref09_mapping)) (e' := (IntKind.u8.wrap (shrw .u64 (bitw .and .u64 a1.Value s12) (IntKind.u64.wrap (IntKind.i64.wrap (8 * y67)))))) hs (.k (.k (.c sN))) hc77.1 hc77.2 hc79.1 hc79.2 hf Z Z Z sz_5 Z Z Z Z) (fun w hs => ?_)
             rw [← osl_zip_set (K := KR) (G := Gd) (L := y65) (x' := (⟨((gd ref09_mapping.zero y65 s15).space), (⟨((gd ref09_mapping.zero y65 s15).m.Base), ((gd ref09_mapping.zero y65 s15).m.Len)⟩ : Range), ((gd ref09_mapping.zero y65 s15).owner), (((gd ref09_mapping.zero y65 s15).bytes).set (IntKind.u64.wrap ((IntKind.u64.wrap (a1.Addr - ((gd ref09_mapping.zero Ad s15).m.Base))) + (IntKind.u64.wrap y67))).toNat (IntKind.u8.wrap (shrw .u64 (bitw .and .u64 a1.Value s12) (IntKind.u64.wrap (IntKind.i64.wrap (8 * y67))))))⟩ : ref09_mapping)) ref09_mapping.zero (by have := ndv_len (hs.get (i := 0) rfl); simpa using this) hc77.1 hc77.2 (fun _ => rfl)] at hs
             refine hK80 _ _ ?_
             refine hN74 _ _ ?_
             replace hs := hs.p6.p6.p6.p6.p4.p6.p6
             have e73 := some_eq H; subst e73
             exact hJ73 _ _ ⟨hf.sub ⟨Z, Z, Z, Z, Z, Z, trivial⟩, hs⟩
            ·
             replace hf := hf.castB (t := 99) Z (bool_f hc76)
             refine cond_F hf Z ?_
             refine ck_some H (fun hc81 H => ?_)
             refine ck_some H (fun hc82 H => ?_)
             refine region_dS fol 20 [(0, .pointer (some ⟨b0, 0, none⟩)), (3, .pointer (some ⟨b1, 0, none⟩)), (6, .int .i64 s15), (8, .pointer (some ⟨b19, 0, none⟩)), (9, .int .u64 (IntKind.u64.wrap (a1.Addr - ((gd ref09_mapping.zero Ad s15).m.Base)))), (10, .int .i64 y67)] [(0, .pointer (some ⟨b19, 0, none⟩)), (1, .pointer (some ⟨b19, 4, none⟩)), (2, .int .u64 y66), (3, .int .u64 (shlw .u64 y66 8)), (4, .pointer (some ⟨b0, 0, none⟩)), (5, .pointer (some ⟨b0, 0, none⟩)), (6, .pointer (some ⟨b0, 0, none⟩)), (7, Vd), (8, .int .i64 s15), (9, .pointer (some (sla Vd (s15.toNat * 5)))), (10, .pointer (some (sla Vd (s15.toNat * 5 + 4)))), (11, (gd SlV.zero Gd s15).v), (12, .int .u64 (IntKind.u64.wrap (a1.Addr - ((gd ref09_mapping.zero Ad s15).m.Base)))), (13, .int .i64 y67), (14, .int .u64 (IntKind.u64.wrap y67)), (15, .int .u64 (IntKind.u64.wrap ((IntKind.u64.wrap (a1.Addr - ((gd ref09_mapping.zero Ad s15).m.Base))) + (IntKind.u64.wrap y67)))), (16, .pointer (some (sla (gd SlV.zero Gd s15).v ((IntKind.u64.wrap ((IntKind.u64.wrap (a1.Addr - ((gd ref09_mapping.zero Ad s15).m.Base))) + (IntKind.u64.wrap y67))).toNat * 1)))), (17, .int .u8 (gd 0 ((gd ref09_mapping.zero y65 s15).bytes) (IntKind.u64.wrap ((IntKind.u64.wrap (a1.Addr - ((gd ref09_mapping.zero Ad s15).m.Base))) + (IntKind.u64.wrap y67))))), (18, .int .u64 (IntKind.u64.wrap (gd 0 ((gd ref09_mapping.zero y65 s15).bytes) (IntKind.u64.wrap ((IntKind.u64.wrap (a1.Addr - ((gd ref09_mapping.zero Ad s15).m.Base))) + (IntKind.u64.wrap y67)))))), (19, .int .u64 (bitw .or .u64 (shlw .u64 y66 8) (IntKind.u64.wrap (gd 0 ((gd ref09_mapping.zero y65 s15).bytes) (IntKind.u64.wrap ((IntKind.u64.wrap (a1.Addr - ((gd ref09_mapping.zero Ad s15).m.Base))) + (IntKind.u64.wrap y67)))))))] [] (fun w => (bx b19 63 [.int .i64 a1.Space, .int .u64 a1.Addr, .int .i64 a1.Width, .bool a1.Write, .int .u64 y66, .int .i64 x18.1, .bool x18.2, .bool false]).ok w ∧ (bxs b0 56 [([Vd], 1), (List.map Value.bool Ae, 256), ([v49], 1), ([Vt], 1)]).ok w ∧ (osl KR Vd (List.zip Gd y65)).ok w ∧ (ndv FR Gd y65).ok w ∧ True) hf ⟨Z, Z, Z, Z, Z, Z, trivial⟩ (by kernel_rfl) (by kernel_rfl) Z (by decide) ⟨hs.drew.get (i := 6) Z, hs.drew.get (i := 0) Z, hs.drew.get (i := 1) Z, hs.drew.get (i := 2) Z, trivial⟩ hs ((.cons (qy Z Z Z Z Z fun hR hf => ex_fieldAddrB fa_63_0 Z hf Z) (.cons (qy Z Z Z Z Z fun hR hf => ex_fieldAddrB fa_37_4 Z hf Z) (.cons (qy Z Z Z Z Z fun hR hf => ex_load sc_22 hf Z (bx_cell (hR.1) _ Z)) (.cons (qy Z Z Z Z Z fun hR hf => ex_shl hf Z Z (by decide)) (.cons (qy Z Z Z Z Z fun hR hf => ex_move hf Z) (.cons (qy Z Z Z Z Z fun hR hf => ex_nilCheck hf Z) (.cons (qy Z Z Z Z Z fun hR hf => ex_fieldAddrB fa_56_0 Z hf Z) (.cons (qy Z Z Z Z Z fun hR hf => ex_load sc_51 hf Z (sb_cell1 (i := 0) (hR.2.1) Z Z)) (.cons (qy Z Z Z Z Z fun hR hf => ex_move hf Z) (.cons (qy Z Z Z Z Z fun hR hf => ex_indexAddr sa_51 (nv_isSl (osl_rsl _ hR.2.2.1) hR.2.2.2.1) hc81.1 hc81.2 hf Z Z) (.cons (qy Z Z Z Z Z fun hR hf => ex_fieldAddrS fa_100_3 Z hf Z) (.cons (qy Z Z Z Z Z fun hR hf => ex_load sc_23 hf Z (nv_cell (K := KR) (F := FR) (f := 4) (osl_rsl _ hR.2.2.1) hR.2.2.2.1 SlV.zero ref09_mapping.zero hc81.1 hc81.2 Z)) (.cons (qy Z Z Z Z Z fun hR hf => ex_move hf Z) (.cons (qy Z Z Z Z Z fun hR hf => ex_move hf Z) (.cons (qy Z Z Z Z Z fun hR hf => ex_conv Try.underlying3 Try.underlying22 hf Z) (.cons (qy Z Z Z Z Z fun hR hf => ex_add hf Z Z) (.cons (qy Z Z Z Z Z fun hR hf => ex_indexAddr sa_23 (rsl_isSl (osl_rsl _ (nv_more (F := FR) hR.2.2.2.1 SlV.zero ref09_mapping.zero hc81.1 hc81.2 0 Z))) hc82.1 hc82.2 hf Z Z) (.cons (qy Z Z Z Z Z fun hR hf => ex_load sc_5 hf Z (el_cell (K := K_uint8) (f := 0) (rsl_rd (osl_rsl _ (nv_more (F := FR) hR.2.2.2.1 SlV.zero ref09_mapping.zero hc81.1 hc81.2 0 Z))) hc82.1 hc82.2 Z)) (.cons (qy Z Z Z Z Z fun hR hf => ex_conv Try.underlying5 Try.underlying22 hf Z) (.cons (qy Z Z Z Z Z fun hR hf => ex_bits Z hf Z Z) .nil))))))))))))))))))))) (fun K83 hK83 => ?_)
             refine RW.zero (by kernel_rfl) (by kernel_rfl) [(0, .pointer (some ⟨b0, 0, none⟩)), (3, .pointer (some ⟨b1, 0, none⟩)), (6, .int .i64 s15), (8, .pointer (some ⟨b19, 0, none⟩)), (9, .int .u64 (IntKind.u64.wrap (a1.Addr - ((gd ref09_mapping.zero Ad s15).m.Base)))), (10, .int .i64 y67), (139, .int .u64 (bitw .or .u64 (shlw .u64 y66 8) (IntKind.u64.wrap (gd 0 ((gd ref09_mapping.zero y65 s15).bytes) (IntKind.u64.wrap ((IntKind.u64.wrap (a1.Addr - ((gd ref09_mapping.zero Ad s15).m.Base))) + (IntKind.u64.wrap y67)))))))] ⟨Z, Z, Z, Z, Z, Z, Z, trivial⟩ (fun a w hR hs hf => ?_)
             refine stq hf Z Z Z (ex_fieldAddrB fa_63_0 Z hf Z) fun a hf => stq hf Z Z Z (ex_fieldAddrB fa_37_4 Z hf Z) fun a hf => ?_
             refine stepS hf Z Z (er_storeB hs (.k (.k (.k (.k (.k (.k (.c .nil))))))) hf Z Z Z sz_22 Z) (fun w hs => ?_)
             refine hK83 _ _ ?_
             refine hN74 _ _ ?_
             replace hs := hs.p6.p6.p6.p6.p6.p6
             have e73 := some_eq H; subst e73
             exact hJ73 _ _ ⟨hf.sub ⟨Z, Z, Z, Z, Z, Z, trivial⟩, hs⟩
           ·
            obtain ⟨hf, hs⟩ := hJ
            replace H := HO73
            clear HO73
            refine region_k (fun K84 hK84 => ?_)
            refine stq hf Z Z Z (ex_move hf Z) fun a hf => stq hf Z Z Z (ex_sub hf Z Z) fun a hf => stq hf Z Z Z (ex_assign hf Z) fun a hf => ?_
            refine hK84 _ _ ?_
            exact hL69 k69 _ _ (Nat.lt_succ_self _) ⟨x73.1, x73.2, (IntKind.i64.wrap (y67 - 1)), hf.sub ⟨Z, Z, Z, Z, Z, Z, trivial⟩, hs, H⟩
          ·
           replace hf := hf.castB (t := 95) Z (dec_f hc72)
           refine cond_F hf Z ?_
           refine wp_exit ?_
           refine hX70 1 _ _ ?_
           refine hX69 1 _ _ ?_
           refine hX64 _ _ ?_
           refine hN45 _ _ ?_
           have e43 := some_eq H; subst e43
           exact hJ43 _ _ ⟨v49, hf.sub ⟨Z, Z, Z, trivial⟩, hs⟩
     ·
      replace hf := hf.castB (t := 142) Z (nbool_t hc47)
      refine cond_T hf Z ?_
      refine seq_reg (fun K85 hK85 => ?_)
      refine stq hf Z Z Z (ex_fieldAddrB fa_37_3 Z hf Z) fun a hf => stq hf Z Z Z (ex_load sc_4 hf Z (bx_cell (hs.get (i := 5) Z) _ Z)) fun a hf => stq hf Z Z Z (ex_not hf Z) fun a hf => ?_
      refine hK85 _ _ ?_
      refine itt H (fun hc86 H => ?_) (fun hc86 H => ?_)
      ·
       replace hf := hf.castB (t := 148) Z (nbool_f hc86)
       refine cond_F hf Z ?_
       refine wp_skip ?_
       refine hN45 _ _ ?_
       have e43 := some_eq H; subst e43
       exact hJ43 _ _ ⟨Vf, hf.sub ⟨Z, Z, Z, trivial⟩, hs⟩
      ·
       replace hf := hf.castB (t := 148) Z (nbool_t hc86)
       refine cond_T hf Z ?_
       refine bnd H (fun s87 hs87 H => ?_)
       refine region_k (fun K88 hK88 => ?_)
       refine stq hf Z Z Z (ex_fieldAddrB fa_37_2 Z hf Z) fun a hf => stq hf Z Z Z (ex_load sc_3 hf Z (bx_cell (hs.get (i := 5) Z) _ Z)) fun a hf => ?_
       refine stepF hf Z Z Z (ex_call cf_14 hf Z) (ref09_Ones.calls k a1.Width (hs.enter sN) (Sr.nil _ _) hs87) (fun v w hR a hf => ?_)
       obtain ⟨rfl, hs'⟩ := hR
       replace hs := hs.step sN hs'
       clear hs'
       refine stq hf Z Z Z (ex_fieldAddrB fa_63_0 Z hf Z) fun a hf => stq hf Z Z Z (ex_fieldAddrB fa_37_4 Z hf Z) fun a hf => ?_
       refine stepS hf Z Z (er_storeB hs (.k (.k (.k (.k (.k (.k (.c .nil))))))) hf Z Z Z sz_22 Z) (fun w hs => ?_)
       refine hK88 _ _ ?_
       refine hN45 _ _ ?_
       replace hs := hs.p6.p6.p6.p6.p6.p6
       have e43 := some_eq H; subst e43
       exact hJ43 _ _ ⟨Vf, hf.sub ⟨Z, Z, Z, trivial⟩, hs⟩
    ·
     obtain ⟨v44, hf, hs⟩ := hJ
     replace H := HO43
     clear HO43
     refine seq_n (fun Q89 hN89 hR89 hX89 => ?_)
     refine ck_some H (fun hc91 H => ?_)
     refine region_dS fol 8 [(0, .pointer (some ⟨b0, 0, none⟩)), (3, .pointer (some ⟨b1, 0, none⟩)), (8, .pointer (some ⟨b19, 0, none⟩))] [(0, .pointer (some ⟨b0, 0, none⟩)), (1, .pointer (some ⟨b0, 0, none⟩)), (2, .pointer (some ⟨b0, 0, none⟩)), (3, .pointer (some ⟨b0, 258, none⟩)), (4, Vt), (5, .agg #[.int .i64 a1.Space, .int .u64 a1.Addr, .int .i64 a1.Width, .bool a1.Write, .int .u64 x43.2.2.1, .int .i64 x18.1, .bool x18.2, .bool x43.2.2.2])] [6, 7] (fun w => (bxs b0 56 [([Vd], 1), (List.map Value.bool Ae, 256), ([v44], 1), ([Vt], 1)]).ok w ∧ (bx b19 63 [.int .i64 a1.Space, .int .u64 a1.Addr, .int .i64 a1.Width, .bool a1.Write, .int .u64 x43.2.2.1, .int .i64 x18.1, .bool x18.2, .bool x43.2.2.2]).ok w ∧ True) hf ⟨Z, Z, Z, trivial⟩ (by kernel_rfl) (by kernel_rfl) Z (by decide) ⟨hs.drew.get (i := 0) Z, hs.drew.get (i := 6) Z, trivial⟩ hs ((.cons (qy Z Z Z Z Z fun hR hf => ex_move hf Z) (.cons (qy Z Z Z Z Z fun hR hf => ex_move hf Z) (.cons (qy Z Z Z Z Z fun hR hf => ex_nilCheck hf Z) (.cons (qy Z Z Z Z Z fun hR hf => ex_fieldAddrB fa_56_3 Z hf Z) (.cons (qy Z Z Z Z Z fun hR hf => ex_load sc_54 hf Z (sb_cell1 (i := 3) (hR.1) Z Z)) (.cons (qy Z Z Z Z Z fun hR hf => ex_loadA (cs := [.int .i64 a1.Space, .int .u64 a1.Addr, .int .i64 a1.Width, .bool a1.Write, .int .u64 x43.2.2.1, .int .i64 x18.1, .bool x18.2, .bool x43.2.2.2]) ag_63 hf Z (bx_cells (hR.2.1) Z)) .nil))))))) (fun K93 hK93 => ?_)
     refine RW.one 6 (by kernel_rfl) (by kernel_rfl) rfl (fun d hd => by cases hd; rfl) [(169, .agg #[.int .i64 a1.Space, .int .u64 a1.Addr, .int .i64 a1.Width, .bool a1.Write, .int .u64 x43.2.2.1, .int .i64 x18.1, .bool x18.2, .bool x43.2.2.2])] ⟨rfl, trivial⟩ (fun a w hR hs hf => ⟨wanted_yes hf rfl, ?_⟩)
     refine estep_v (er_buildSlice (K := Kt) (xs := [(⟨(⟨a1.Space, a1.Addr, a1.Width, a1.Write, x43.2.2.1⟩ : Access), x18.1, x18.2, x43.2.2.2⟩ : Traced)]) hs Try.underlying54 ep_63 Z Z hf Z (.cons Z .nil) Z Z) (fun v90 w hs => ?_)
     refine ⟨[], _, [7], (fun _ => True), hs.fn, Z, Z, ⟨hs.get (i := 1) Z, hs.get (i := 7) Z, trivial⟩, trivial, hs, (by kernel_rfl), .nil, ?_⟩
     refine RW.one 7 (by kernel_rfl) (by kernel_rfl) rfl (fun d hd => by cases hd; rfl) [(168, Vt), (170, v90)] ⟨rfl, rfl, trivial⟩ (fun a w hR hs hf => ⟨wanted_yes hf rfl, ?_⟩)
     refine estep_v (er_append (K := Kt) hs (.k (.k (.k (.k (.k (.c sN)))))) (osl_rsl _ (hs.get (i := 0) Z)) Z Try.underlying54 ep_63 hc91 Z hf Z Z) (fun v92 w hs => ?_)
     refine ⟨[], _, [], (fun _ => True), hs.fn, Z, Z, ⟨⟨hs.get (i := 2) Z, hs.get (i := 7) Z, trivial⟩, trivial⟩, trivial, hs, (by kernel_rfl), .nil, ?_⟩
     refine RW.zero (by kernel_rfl) (by kernel_rfl) [(3, .pointer (some ⟨b1, 0, none⟩)), (8, .pointer (some ⟨b19, 0, none⟩)), (164, .pointer (some ⟨b0, 0, none⟩)), (171, v92)] ⟨Z, Z, Z, Z, trivial⟩ (fun a w hR hs hf => ?_)
     refine stq hf Z Z Z (ex_nilCheck hf Z) fun a hf => stq hf Z Z Z (ex_fieldAddrB fa_56_3 Z hf Z) fun a hf => ?_
     refine stepS hf Z Z (er_storeS1 (i := 3) hs (.k (.k (.c sN))) hf Z Z (IsSl.one (rsl_isSl (osl_rsl _ (hs.get (i := 0) Z)))) sz_54 Z Z) (fun w hs => ?_)
     refine hK93 _ _ ?_
     refine hN89 _ _ ?_
     refine seq_n (fun Q94 hN94 hR94 hX94 => ?_)
     refine block_k (fun Q95 hN95 hR95 hX95 hY95 => ?_)
     refine seq_reg (fun K96 hK96 => ?_)
     refine stq hf Z Z Z (ex_fieldAddrB fa_63_3 Z hf Z) fun a hf => stq hf Z Z Z (ex_load sc_4 hf Z (bx_cell (hs.get (i := 7) Z) _ Z)) fun a hf => stq hf Z Z Z (ex_assign hf Z) fun a hf => ?_
     refine hK96 _ _ ?_
     refine itt H (fun hc97 H => ?_) (fun hc97 H => ?_)
     ·
      replace hf := hf.castB (t := 174) Z hc97
      refine cond_T hf Z ?_
      refine seq_reg (fun K98 hK98 => ?_)
      refine stq hf Z Z Z (ex_assign hf Z) fun a hf => stq hf Z Z Z (ex_assign hf Z) fun a hf => ?_
      refine hK98 _ _ ?_
      refine wp_ret ?_
      refine hR95 _ _ ?_
      refine hR94 _ _ ?_
      have eR := some_eq H; subst eR
      replace hs := hs.keep (.k (.k (.d (.k (.k (.k (.d (.d .nil))))))))
      exact ret2 Try.results44 hf Z Z ⟨_, Z, ⟨v92, v44, Z, hs⟩⟩
     ·
      replace hf := hf.castB (t := 174) Z (bool_f hc97)
      refine cond_F hf Z ?_
      refine seq_reg (fun K99 hK99 => ?_)
      refine stq hf Z Z Z (ex_fieldAddrB fa_37_3 Z hf Z) fun a hf => stq hf Z Z Z (ex_load sc_4 hf Z (bx_cell (hs.get (i := 6) Z) _ Z)) fun a hf => stq hf Z Z Z (ex_assign hf Z) fun a hf => ?_
      refine hK99 _ _ ?_
      refine itt H (fun hc100 H => ?_) (fun hc100 H => ?_)
      ·
       replace hf := hf.castB (t := 177) Z hc100
       refine cond_T hf Z ?_
       refine seq_reg (fun K101 hK101 => ?_)
       refine stq hf Z Z Z (ex_assign hf Z) fun a hf => stq hf Z Z Z (ex_assign hf Z) fun a hf => ?_
       refine hK101 _ _ ?_
       refine wp_ret ?_
       refine hR95 _ _ ?_
       refine hR94 _ _ ?_
       have eR := some_eq H; subst eR
       replace hs := hs.keep (.k (.k (.d (.k (.k (.k (.d (.d .nil))))))))
       exact ret2 Try.results44 hf Z Z ⟨_, Z, ⟨v92, v44, Z, hs⟩⟩
      ·
       replace hf := hf.castB (t := 177) Z (bool_f hc100)
       refine cond_F hf Z ?_
       refine wp_skip ?_
       refine hN95 _ _ ?_
       refine hN94 _ _ ?_
       refine seq_reg (fun K102 hK102 => ?_)
       refine stq hf Z Z Z (ex_fieldAddrB fa_63_0 Z hf Z) fun a hf => stq hf Z Z Z (ex_fieldAddrB fa_37_4 Z hf Z) fun a hf => stq hf Z Z Z (ex_load sc_22 hf Z (bx_cell (hs.get (i := 7) Z) _ Z)) fun a hf => stq hf Z Z Z (ex_assign hf Z) fun a hf => stq hf Z Z Z (ex_assign hf Z) fun a hf => ?_
       refine hK102 _ _ ?_
       refine wp_ret ?_
       have eR := some_eq H; subst eR
       replace hs := hs.keep (.k (.k (.d (.k (.k (.k (.d (.d .nil))))))))
       exact ret2 Try.results44 hf Z Z ⟨_, Z, ⟨v92, v44, Z, hs⟩⟩
 ·
  replace hf := hf.castB (t := 13) Z (nbool_t hc6)
  refine cond_T hf Z ?_
  refine seq_reg (fun K103 hK103 => ?_)
  refine stq hf Z Z Z (ex_assign hf Z) fun a hf => stq hf Z Z Z (ex_assign hf Z) fun a hf => ?_
  refine hK103 _ _ ?_
  refine wp_ret ?_
  refine hR3 _ _ ?_
  have eR := some_eq H; subst eR
  replace hs := hs.keep (.d sN)
  replace hs := hs.p3.p3.p3.p4.p4
  exact ret2 Try.results44 hf Z Z ⟨_, Z, ⟨Vt, Vf, Z, hs⟩⟩

set_option maxRecDepth 100000 in
theorem law09_some.calls {M : Nat → Prop} {w0 : World} (k : Nat) (a0 : Op) {r : Op} (hs : St M w0 w0 []) (hr : Sr M w0 [])
  (h : law09_some.f k a0 = some r) : Calls Try.prog 19 #[.agg #[.int .i64 a0.Kind, .int .i64 a0.Space, .int .u64 a0.Addr, .int .u64 a0.Len, .int .i64 a0.Width, .int .i64 a0.Owner, .bool a0.Write, .int .u64 a0.Value, .bool a0.Raw]] w0 fun e w => ∃ v, e = .returned v ∧ (.agg #[.int .i64 r.Kind, .int .i64 r.Space, .int .u64 r.Addr, .int .u64 r.Len, .int .i64 r.Width, .int .i64 r.Owner, .bool r.Write, .int .u64 r.Value, .bool r.Raw] = v ∧ St M w0 w []) := by
 have H := (law09_some.f.eq_1 ..).symm.trans h
 clear h
 refine enter Try.func19 Z Try.ntmps19 Z (fun a hf => ?_)
 refine seq_reg (fun K3 hK3 => ?_)
 refine stepV hf Z Z Z (er_box (cs := [.int .i64 a0.Kind, .int .i64 a0.Space, .int .u64 a0.Addr, .int .u64 a0.Len, .int .i64 a0.Width, .int .i64 a0.Owner, .bool a0.Write, .int .u64 a0.Value, .bool a0.Raw]) hs hf Z Z) (fun v w hR a hf => ?_)
 obtain ⟨b1, rfl, hs⟩ := hR
 refine stepV hf Z Z Z (er_alloc hs ti_43 (cs := [.int .i64 0, .int .i64 0, .int .u64 0, .int .u64 0, .int .i64 0, .int .i64 0, .bool false, .int .u64 0, .bool false]) Z) (fun v w hR a hf => ?_)
 obtain ⟨b2, rfl, hs⟩ := hR
 refine hK3 _ _ ?_
 refine bnd H (fun s4 hs4 H => ?_)
 refine seq_reg (fun K5 hK5 => ?_)
 refine stq hf Z Z Z (ex_fieldAddrB fa_43_0 Z hf Z) fun a hf => stq hf Z Z Z (ex_load sc_3 hf Z (bx_cell (hs.get (i := 1) Z) _ Z)) fun a hf => ?_
 refine stepF hf Z Z Z (ex_call cf_10 hf Z) (help_Mod.calls k a0.Kind 16 (hs.enter sN) (Sr.nil _ _) hs4) (fun v w hR a hf => ?_)
 obtain ⟨rfl, hs'⟩ := hR
 replace hs := hs.step sN hs'
 clear hs'
 refine stq hf Z Z Z (ex_fieldAddrB fa_43_0 Z hf Z) fun a hf => ?_
 refine stepS hf Z Z (er_storeB hs (.k (.c .nil)) hf Z Z Z sz_3 Z) (fun w hs => ?_)
 refine hK5 _ _ ?_
 refine seq_n (fun Q6 hN6 hR6 hX6 => ?_)
 refine bnd H (fun x7 H7 HO7 => ?_)
 clear H
 refine seq_cut (fun a w => Fr a 66 [(1, .pointer (some ⟨b1, 0, none⟩)), (2, .pointer (some ⟨b2, 0, none⟩)), (13, .bool x7)] ∧ St M w0 w [bx b1 43 [.int .i64 s4, .int .i64 a0.Space, .int .u64 a0.Addr, .int .u64 a0.Len, .int .i64 a0.Width, .int .i64 a0.Owner, .bool a0.Write, .int .u64 a0.Value, .bool a0.Raw], bx b2 43 [.int .i64 0, .int .i64 0, .int .u64 0, .int .u64 0, .int .i64 0, .int .i64 0, .bool false, .int .u64 0, .bool false]]) (fun Q7 hJ7 hR7 hX7 => ?_) (fun a w hJ => ?_)
 ·
  replace H := H7
  refine itt H (fun hc8 H => ?_) (fun hc8 H => ?_)
  ·
   refine region_k (fun K9 hK9 => ?_)
   refine stq hf Z Z Z (ex_fieldAddrB fa_43_8 Z hf Z) fun a hf => stq hf Z Z Z (ex_load sc_4 hf Z (bx_cell (hs.get (i := 0) Z) _ Z)) fun a hf => stq hf Z Z Z (ex_move hf Z) fun a hf => ?_
   replace hf := hf.castB (t := 8) Z hc8
   replace hf := hf.castB (t := 9) Z hc8
   refine stq hf Z Z Z (ex_fieldAddrB fa_43_0 Z hf Z) fun a hf => stq hf Z Z Z (ex_load sc_3 hf Z (bx_cell (hs.get (i := 0) Z) _ Z)) fun a hf => stq hf Z Z Z (ex_gtr hf Z Z) fun a hf => stq hf Z Z Z (ex_pickT hf Z Z) fun a hf => ?_
   refine hK9 _ _ ?_
   have e7 := some_eq H; subst e7
   exact hJ7 _ _ ⟨hf.sub ⟨Z, Z, Z, trivial⟩, hs⟩
  ·
   refine region_k (fun K10 hK10 => ?_)
   refine stq hf Z Z Z (ex_fieldAddrB fa_43_8 Z hf Z) fun a hf => stq hf Z Z Z (ex_load sc_4 hf Z (bx_cell (hs.get (i := 0) Z) _ Z)) fun a hf => stq hf Z Z Z (ex_move hf Z) fun a hf => ?_
   replace hf := hf.castB (t := 8) Z (bool_f hc8)
   replace hf := hf.castB (t := 9) Z (bool_f hc8)
   refine stepN hf Z Z Z fun a hf => stepN hf Z Z Z fun a hf => stepN hf Z Z Z fun a hf => stq hf Z Z Z (ex_pickF hf Z Z) fun a hf => ?_
   refine hK10 _ _ ?_
   have e7 := some_eq H; subst e7
   exact hJ7 _ _ ⟨hf.sub ⟨Z, Z, Z, trivial⟩, hs⟩
 ·
  obtain ⟨hf, hs⟩ := hJ
  replace H := HO7
  clear HO7
  refine itt H (fun hc11 H => ?_) (fun hc11 H => ?_)
  ·
   replace hf := hf.castB (t := 13) Z hc11
   refine cond_T hf Z ?_
   refine seq_reg (fun K12 hK12 => ?_)
   refine stq hf Z Z Z (ex_loadA (cs := [.int .i64 s4, .int .i64 a0.Space, .int .u64 a0.Addr, .int .u64 a0.Len, .int .i64 a0.Width, .int .i64 a0.Owner, .bool a0.Write, .int .u64 a0.Value, .bool a0.Raw]) ag_43 hf Z (bx_cells (hs.get (i := 0) Z) Z)) fun a hf => ?_
   refine stepS hf Z Z (er_storeAB (vs := [.int .i64 s4, .int .i64 a0.Space, .int .u64 a0.Addr, .int .u64 a0.Len, .int .i64 a0.Width, .int .i64 a0.Owner, .bool a0.Write, .int .u64 a0.Value, .bool a0.Raw]) (cs' := [.int .i64 s4, .int .i64 a0.Space, .int .u64 a0.Addr, .int .u64 a0.Len, .int .i64 a0.Width, .int .i64 a0.Owner, .bool a0.Write, .int .u64 a0.Value, .bool a0.Raw]) hs (.k (.c .nil)) sz_43 hf Z Z (all1 Z (all1 Z (all1 Z (all1 Z (all1 Z (all1 Z (all1 Z (all1 Z (all1 Z (all1_nil)))))))))) Z Z) (fun w hs => ?_)
   refine hK12 _ _ ?_
   refine wp_ret ?_
   refine hR6 _ _ ?_
   have eR := some_eq H; subst eR
   have hbox := hs.get (i := 0) Z
   replace hs := hs.keep (.d (.d .nil))
   exact retA (cs := [.int .i64 s4, .int .i64 a0.Space, .int .u64 a0.Addr, .int .u64 a0.Len, .int .i64 a0.Width, .int .i64 a0.Owner, .bool a0.Write, .int .u64 a0.Value, .bool a0.Raw]) Try.results19 ag_43 hf Z hbox ⟨_, Z, ⟨Z, hs⟩⟩
  ·
   replace hf := hf.castB (t := 13) Z (bool_f hc11)
   refine cond_F hf Z ?_
   refine wp_skip ?_
   refine hN6 _ _ ?_
   refine bnd H (fun s13 hs13 H => ?_)
   refine seq_reg (fun K14 hK14 => ?_)
   refine stq hf Z Z Z (ex_fieldAddrB fa_43_1 Z hf Z) fun a hf => stq hf Z Z Z (ex_load sc_3 hf Z (bx_cell (hs.get (i := 0) Z) _ Z)) fun a hf => ?_
   refine stepF hf Z Z Z (ex_call cf_10 hf Z) (help_Mod.calls k a0.Space 4 (hs.enter sN) (Sr.nil _ _) hs13) (fun v w hR a hf => ?_)
   obtain ⟨rfl, hs'⟩ := hR
   replace hs := hs.step sN hs'
   clear hs'
   refine stq hf Z Z Z (ex_fieldAddrB fa_43_1 Z hf Z) fun a hf => ?_
   refine stepS hf Z Z (er_storeB hs (.c sN) hf Z Z Z sz_3 Z) (fun w hs => ?_)
   refine hK14 _ _ ?_
   refine bnd H (fun x15 H15 HO15 => ?_)
   clear H
   refine seq_cut (fun a w => Fr a 66 [(1, .pointer (some ⟨b1, 0, none⟩)), (2, .pointer (some ⟨b2, 0, none⟩))] ∧ St M w0 w [bx b1 43 [.int .i64 s4, .int .i64 s13, .int .u64 x15, .int .u64 a0.Len, .int .i64 a0.Width, .int .i64 a0.Owner, .bool a0.Write, .int .u64 a0.Value, .bool a0.Raw], bx b2 43 [.int .i64 0, .int .i64 0, .int .u64 0, .int .u64 0, .int .i64 0, .int .i64 0, .bool false, .int .u64 0, .bool false]]) (fun Q15 hJ15 hR15 hX15 => ?_) (fun a w hJ => ?_)
   ·
    replace H := H15
    refine seq_reg (fun K16 hK16 => ?_)
    refine stq hf Z Z Z (ex_fieldAddrB fa_43_2 Z hf Z) fun a hf => stq hf Z Z Z (ex_load sc_22 hf Z (bx_cell (hs.get (i := 0) Z) _ Z)) fun a hf => stq hf Z Z Z (ex_gtr hf Z Z) fun a hf => ?_
    refine hK16 _ _ ?_
    refine itt H (fun hc17 H => ?_) (fun hc17 H => ?_)
    ·
     replace hf := hf.castB (t := 21) Z (dec_t hc17)
     refine cond_T hf Z ?_
     refine region_k (fun K18 hK18 => ?_)
     refine stq hf Z Z Z (ex_fieldAddrB fa_43_2 Z hf Z) fun a hf => stq hf Z Z Z (ex_load sc_22 hf Z (bx_cell (hs.get (i := 0) Z) _ Z)) fun a hf => stq hf Z Z Z (ex_rem hf Z Z (by decide)) fun a hf => stq hf Z Z Z (ex_sub hf Z Z) fun a hf => stq hf Z Z Z (ex_fieldAddrB fa_43_2 Z hf Z) fun a hf => ?_
     refine stepS hf Z Z (er_storeB hs (.c sN) hf Z Z Z sz_22 Z) (fun w hs => ?_)
     refine hK18 _ _ ?_
     have e15 := some_eq H; subst e15
     exact hJ15 _ _ ⟨hf.sub ⟨Z, Z, trivial⟩, hs⟩
    ·
     replace hf := hf.castB (t := 21) Z (dec_f hc17)
     refine cond_F hf Z ?_
     refine region_k (fun K19 hK19 => ?_)
     refine stq hf Z Z Z (ex_fieldAddrB fa_43_2 Z hf Z) fun a hf => stq hf Z Z Z (ex_load sc_22 hf Z (bx_cell (hs.get (i := 0) Z) _ Z)) fun a hf => stq hf Z Z Z (ex_rem hf Z Z (by decide)) fun a hf => stq hf Z Z Z (ex_fieldAddrB fa_43_2 Z hf Z) fun a hf => ?_
     refine stepS hf Z Z (er_storeB hs (.c sN) hf Z Z Z sz_22 Z) (fun w hs => ?_)
     refine hK19 _ _ ?_
     have e15 := some_eq H; subst e15
     exact hJ15 _ _ ⟨hf.sub ⟨Z, Z, trivial⟩, hs⟩
   ·
    obtain ⟨hf, hs⟩ := hJ
    replace H := HO15
    clear HO15
    refine seq_reg (fun K20 hK20 => ?_)
    refine stq hf Z Z Z (ex_fieldAddrB fa_43_3 Z hf Z) fun a hf => stq hf Z Z Z (ex_load sc_22 hf Z (bx_cell (hs.get (i := 0) Z) _ Z)) fun a hf => stq hf Z Z Z (ex_rem hf Z Z (by decide)) fun a hf => stq hf Z Z Z (ex_fieldAddrB fa_43_3 Z hf Z) fun a hf => ?_
    refine stepS hf Z Z (er_storeB hs (.c sN) hf Z Z Z sz_22 Z) (fun w hs => ?_)
    refine hK20 _ _ ?_
    refine bnd H (fun s22 hs22 H => ?_)
    refine ck_some H (fun hc23 H => ?_)
    refine seq_reg (fun K24 hK24 => ?_)
    refine stepV hf Z Z Z (er_buildSlice (K := K_int) (xs := ([1, 1, 2, 4, 8, 3] : List Int)) hs Try.underlying27 ep_3 Z Z hf Z (.cons Z (.cons Z (.cons Z (.cons Z (.cons Z (.cons Z .nil)))))) Z Z) (fun v21 w hs a hf => ?_)
    refine stq hf Z Z Z (ex_fieldAddrB fa_43_4 Z hf Z) fun a hf => stq hf Z Z Z (ex_load sc_3 hf Z (bx_cell (hs.get (i := 1) Z) _ Z)) fun a hf => ?_
    refine stepF hf Z Z Z (ex_call cf_10 hf Z) (help_Mod.calls k a0.Width 6 (hs.enter sN) (Sr.nil _ _) hs22) (fun v w hR a hf => ?_)
    obtain ⟨rfl, hs'⟩ := hR
    replace hs := hs.step sN hs'
    clear hs'
    refine stq hf Z Z Z (ex_indexAddr sa_27 (rsl_isSl (osl_rsl _ (hs.get (i := 0) Z))) hc23.1 hc23.2 hf Z Z) fun a hf => stq hf Z Z Z (ex_load sc_3 hf Z (el_cell (K := K_int) (f := 0) (rsl_rd (osl_rsl _ (hs.get (i := 0) Z))) hc23.1 hc23.2 Z)) fun a hf => stq hf Z Z Z (ex_fieldAddrB fa_43_4 Z hf Z) fun a hf => ?_
    refine stepS hf Z Z (er_storeB hs (.k (.c sN)) hf Z Z Z sz_3 Z) (fun w hs => ?_)
    refine hK24 _ _ ?_
    refine bnd H (fun s25 hs25 H => ?_)
    refine seq_reg (fun K26 hK26 => ?_)
    refine stq hf Z Z Z (ex_fieldAddrB fa_43_5 Z hf Z) fun a hf => stq hf Z Z Z (ex_load sc_3 hf Z (bx_cell (hs.get (i := 0) Z) _ Z)) fun a hf => ?_
    refine stepF hf Z Z Z (ex_call cf_10 hf Z) (help_Mod.calls k a0.Owner 5 (hs.enter sN) (Sr.nil _ _) hs25) (fun v w hR a hf => ?_)
    obtain ⟨rfl, hs'⟩ := hR
    replace hs := hs.step sN hs'
    clear hs'
    refine stq hf Z Z Z (ex_sub hf Z Z) fun a hf => stq hf Z Z Z (ex_fieldAddrB fa_43_5 Z hf Z) fun a hf => ?_
    refine stepS hf Z Z (er_storeB hs (.c sN) hf Z Z Z sz_3 Z) (fun w hs => ?_)
    refine hK26 _ _ ?_
    refine bnd H (fun x27 H27 HO27 => ?_)
    clear H
    refine seq_cut (fun a w => Fr a 66 [(1, .pointer (some ⟨b1, 0, none⟩)), (2, .pointer (some ⟨b2, 0, none⟩))] ∧ St M w0 w [bx b1 43 [.int .i64 s4, .int .i64 s13, .int .u64 x27, .int .u64 (Int.tmod a0.Len 40), .int .i64 (gd 0 ([1, 1, 2, 4, 8, 3] : List Int) s22), .int .i64 (IntKind.i64.wrap (s25 - 1)), .bool a0.Write, .int .u64 a0.Value, .bool a0.Raw], bx b2 43 [.int .i64 0, .int .i64 0, .int .u64 0, .int .u64 0, .int .i64 0, .int .i64 0, .bool false, .int .u64 0, .bool false]]) (fun Q27 hJ27 hR27 hX27 => ?_) (fun a w hJ => ?_)
    ·
     replace H := H27
     refine bnd H (fun x28 H28 HO28 => ?_)
     clear H
     refine seq_cut (fun a w => Fr a 66 [(1, .pointer (some ⟨b1, 0, none⟩)), (2, .pointer (some ⟨b2, 0, none⟩)), (54, .bool x28)] ∧ St M w0 w [bx b1 43 [.int .i64 s4, .int .i64 s13, .int .u64 x15, .int .u64 (Int.tmod a0.Len 40), .int .i64 (gd 0 ([1, 1, 2, 4, 8, 3] : List Int) s22), .int .i64 (IntKind.i64.wrap (s25 - 1)), .bool a0.Write, .int .u64 a0.Value, .bool a0.Raw], bx b2 43 [.int .i64 0, .int .i64 0, .int .u64 0, .int .u64 0, .int .i64 0, .int .i64 0, .bool false, .int .u64 0, .bool false]]) (fun Q28 hJ28 hR28 hX28 => ?_) (fun a w hJ => ?_)
     ·
      replace H := H28
      refine itt H (fun hc29 H => ?_) (fun hc29 H => ?_)
      ·
       refine region_k (fun K30 hK30 => ?_)
       refine stq hf Z Z Z (ex_fieldAddrB fa_43_4 Z hf Z) fun a hf => stq hf Z Z Z (ex_load sc_3 hf Z (bx_cell (hs.get (i := 0) Z) _ Z)) fun a hf => stq hf Z Z Z (ex_neq hf Z Z) fun a hf => stq hf Z Z Z (ex_move hf Z) fun a hf => ?_
       replace hf := hf.castB (t := 49) Z (ndec_f hc29)
       replace hf := hf.castB (t := 50) Z (ndec_f hc29)
       refine stepN hf Z Z Z fun a hf => stepN hf Z Z Z fun a hf => stepN hf Z Z Z fun a hf => stq hf Z Z Z (ex_pickF hf Z Z) fun a hf => ?_
       refine hK30 _ _ ?_
       replace hs := hs.keep (.k (.d sN))
       have e28 := some_eq H; subst e28
       exact hJ28 _ _ ⟨hf.sub ⟨Z, Z, Z, trivial⟩, hs⟩
      ·
       refine region_k (fun K31 hK31 => ?_)
       refine stq hf Z Z Z (ex_fieldAddrB fa_43_4 Z hf Z) fun a hf => stq hf Z Z Z (ex_load sc_3 hf Z (bx_cell (hs.get (i := 0) Z) _ Z)) fun a hf => stq hf Z Z Z (ex_neq hf Z Z) fun a hf => stq hf Z Z Z (ex_move hf Z) fun a hf => ?_
       replace hf := hf.castB (t := 49) Z (ndec_t hc29)
       replace hf := hf.castB (t := 50) Z (ndec_t hc29)
       refine stq hf Z Z Z (ex_fieldAddrB fa_43_0 Z hf Z) fun a hf => stq hf Z Z Z (ex_load sc_3 hf Z (bx_cell (hs.get (i := 0) Z) _ Z)) fun a hf => stq hf Z Z Z (ex_gtr hf Z Z) fun a hf => stq hf Z Z Z (ex_pickT hf Z Z) fun a hf => ?_
       refine hK31 _ _ ?_
       replace hs := hs.keep (.k (.d sN))
       have e28 := some_eq H; subst e28
       exact hJ28 _ _ ⟨hf.sub ⟨Z, Z, Z, trivial⟩, hs⟩
     ·
      obtain ⟨hf, hs⟩ := hJ
      replace H := HO28
      clear HO28
      refine itt H (fun hc32 H => ?_) (fun hc32 H => ?_)
      ·
       replace hf := hf.castB (t := 54) Z hc32
       refine cond_T hf Z ?_
       refine ck_some H (fun hc33 H => ?_)
       refine region_dS fol 9 [(1, .pointer (some ⟨b1, 0, none⟩)), (2, .pointer (some ⟨b2, 0, none⟩))] [(0, .pointer (some ⟨b1, 2, none⟩)), (1, .int .u64 x15), (2, .pointer (some ⟨b1, 2, none⟩)), (3, .int .u64 x15), (4, .pointer (some ⟨b1, 4, none⟩)), (5, .int .i64 (gd 0 ([1, 1, 2, 4, 8, 3] : List Int) s22)), (6, .int .u64 (IntKind.u64.wrap (gd 0 ([1, 1, 2, 4, 8, 3] : List Int) s22))), (7, .int .u64 (Int.tmod x15 (IntKind.u64.wrap (gd 0 ([1, 1, 2, 4, 8, 3] : List Int) s22)))), (8, .int .u64 (IntKind.u64.wrap (x15 - (Int.tmod x15 (IntKind.u64.wrap (gd 0 ([1, 1, 2, 4, 8, 3] : List Int) s22))))))] [] (fun w => (bx b1 43 [.int .i64 s4, .int .i64 s13, .int .u64 x15, .int .u64 (Int.tmod a0.Len 40), .int .i64 (gd 0 ([1, 1, 2, 4, 8, 3] : List Int) s22), .int .i64 (IntKind.i64.wrap (s25 - 1)), .bool a0.Write, .int .u64 a0.Value, .bool a0.Raw]).ok w ∧ True) hf ⟨Z, Z, trivial⟩ (by kernel_rfl) (by kernel_rfl) Z (by decide) ⟨hs.drew.get (i := 0) Z, trivial⟩ hs ((.cons (qy Z Z Z Z Z fun hR hf => ex_fieldAddrB fa_43_2 Z hf Z) (.cons (qy Z Z Z Z Z fun hR hf => ex_load sc_22 hf Z (bx_cell (hR.1) _ Z)) (.cons (qy Z Z Z Z Z fun hR hf => ex_fieldAddrB fa_43_2 Z hf Z) (.cons (qy Z Z Z Z Z fun hR hf => ex_load sc_22 hf Z (bx_cell (hR.1) _ Z)) (.cons (qy Z Z Z Z Z fun hR hf => ex_fieldAddrB fa_43_4 Z hf Z) (.cons (qy Z Z Z Z Z fun hR hf => ex_load sc_3 hf Z (bx_cell (hR.1) _ Z)) (.cons (qy Z Z Z Z Z fun hR hf => ex_conv Try.underlying3 Try.underlying22 hf Z) (.cons (qy Z Z Z Z Z fun hR hf => ex_rem hf Z Z hc33) (.cons (qy Z Z Z Z Z fun hR hf => ex_sub hf Z Z) .nil)))))))))) (fun K34 hK34 => ?_)
       refine RW.zero (by kernel_rfl) (by kernel_rfl) [(1, .pointer (some ⟨b1, 0, none⟩)), (2, .pointer (some ⟨b2, 0, none⟩)), (63, .int .u64 (IntKind.u64.wrap (x15 - (Int.tmod x15 (IntKind.u64.wrap (gd 0 ([1, 1, 2, 4, 8, 3] : List Int) s22))))))] ⟨Z, Z, Z, trivial⟩ (fun a w hR hs hf => ?_)
       refine stq hf Z Z Z (ex_fieldAddrB fa_43_2 Z hf Z) fun a hf => ?_
       refine stepS hf Z Z (er_storeB hs (.c sN) hf Z Z Z sz_22 Z) (fun w hs => ?_)
       refine hK34 _ _ ?_
       have e27 := some_eq H; subst e27
       exact hJ27 _ _ ⟨hf.sub ⟨Z, Z, trivial⟩, hs⟩
      ·
       replace hf := hf.castB (t := 54) Z (bool_f hc32)
       refine cond_F hf Z ?_
       refine wp_skip ?_
       have e27 := some_eq H; subst e27
       exact hJ27 _ _ ⟨hf.sub ⟨Z, Z, trivial⟩, hs⟩
    ·
     obtain ⟨hf, hs⟩ := hJ
     replace H := HO27
     clear HO27
     refine seq_reg (fun K35 hK35 => ?_)
     refine stq hf Z Z Z (ex_loadA (cs := [.int .i64 s4, .int .i64 s13, .int .u64 x27, .int .u64 (Int.tmod a0.Len 40), .int .i64 (gd 0 ([1, 1, 2, 4, 8, 3] : List Int) s22), .int .i64 (IntKind.i64.wrap (s25 - 1)), .bool a0.Write, .int .u64 a0.Value, .bool a0.Raw]) ag_43 hf Z (bx_cells (hs.get (i := 0) Z) Z)) fun a hf => ?_
     refine stepS hf Z Z (er_storeAB (vs := [.int .i64 s4, .int .i64 s13, .int .u64 x27, .int .u64 (Int.tmod a0.Len 40), .int .i64 (gd 0 ([1, 1, 2, 4, 8, 3] : List Int) s22), .int .i64 (IntKind.i64.wrap (s25 - 1)), .bool a0.Write, .int .u64 a0.Value, .bool a0.Raw]) (cs' := [.int .i64 s4, .int .i64 s13, .int .u64 x27, .int .u64 (Int.tmod a0.Len 40), .int .i64 (gd 0 ([1, 1, 2, 4, 8, 3] : List Int) s22), .int .i64 (IntKind.i64.wrap (s25 - 1)), .bool a0.Write, .int .u64 a0.Value, .bool a0.Raw]) hs (.k (.c .nil)) sz_43 hf Z Z (all1 Z (all1 Z (all1 Z (all1 Z (all1 Z (all1 Z (all1 Z (all1 Z (all1 Z (all1_nil)))))))))) Z Z) (fun w hs => ?_)
     refine hK35 _ _ ?_
     refine wp_ret ?_
     have eR := some_eq H; subst eR
     have hbox := hs.get (i := 0) Z
     replace hs := hs.keep (.d (.d .nil))
     exact retA (cs := [.int .i64 s4, .int .i64 s13, .int .u64 x27, .int .u64 (Int.tmod a0.Len 40), .int .i64 (gd 0 ([1, 1, 2, 4, 8, 3] : List Int) s22), .int .i64 (IntKind.i64.wrap (s25 - 1)), .bool a0.Write, .int .u64 a0.Value, .bool a0.Raw]) Try.results19 ag_43 hf Z hbox ⟨_, Z, ⟨Z, hs⟩⟩

end Go.Proofs.Ytigadacjaglfeaa.X
