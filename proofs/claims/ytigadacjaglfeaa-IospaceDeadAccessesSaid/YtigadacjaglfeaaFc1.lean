/- Each function of the machine comes to what its pure function says. -/
import Derived.Test.YtigadacjaglfeaaFb
namespace Go.Proofs.Ytigadacjaglfeaa.X
open Go Go.RowKit Go.Sx
set_option linter.unusedVariables false

set_option maxRecDepth 100000 in
theorem iospace_New.calls {M : Nat → Prop} {w0 : World} (k : Nat) {r : (List mapping) × (List mapping) × (List mapping) × (List Bool) × (List fault) × (List Traced)} (hs : St M w0 w0 []) (hr : Sr M w0 [])
  (h : iospace_New.f k = some r) : Calls Try.prog 8 #[] w0 fun e w => ∃ v, e = .returned v ∧ (∃ (g0 : Nat) (g1 : Value) (g2 : List (Nat × Nat)) (g3 : Value) (g4 : List (Nat × Nat)) (g5 : Value) (g6 : List (Nat × Nat)) (g7 : Value) (g8 : List Nat) (g9 : Value), .pointer (some ⟨g0, 0, none⟩) = v ∧ St M w0 w [bxs g0 71 [([g1], 1), ([g3], 1), ([g5], 1), (List.map Value.bool r.2.2.2.1, 256), ([g7], 1), ([g9], 1)], osl Km g1 (ids Fm g2), nds Fm g2 r.1, osl Km g3 (ids Fm g4), nds Fm g4 r.2.1, osl Km g5 (ids Fm g6), nds Fm g6 r.2.2.1, osl Kf g7 (ids Ff g8), nds Ff g8 r.2.2.2.2.1, osl Kt g9 r.2.2.2.2.2]) := by
 have H := (iospace_New.f.eq_1 ..).symm.trans h
 clear h
 refine enter Try.func8 Z Try.ntmps8 Z (fun a hf => ?_)
 refine seq_reg (fun K1 hK1 => ?_)
 refine stq hf Z Z Z (ex_assign hf Z) fun a hf => ?_
 refine hK1 _ _ ?_
 refine seq_reg (fun K3 hK3 => ?_)
 refine stq hf Z Z Z (ex_build (cs := [(.slice none 0 0), (.slice none 0 0), (.slice none 0 0), .bool false, .bool false, .bool false, .bool false, .bool false, .bool false, .bool false, .bool false, .bool false, .bool false, .bool false, .bool false, .bool false, .bool false, .bool false, .bool false, .bool false, .bool false, .bool false, .bool false, .bool false, .bool false, .bool false, .bool false, .bool false, .bool false, .bool false, .bool false, .bool false, .bool false, .bool false, .bool false, .bool false, .bool false, .bool false, .bool false, .bool false, .bool false, .bool false, .bool false, .bool false, .bool false, .bool false, .bool false, .bool false, .bool false, .bool false, .bool false, .bool false, .bool false, .bool false, .bool false, .bool false, .bool false, .bool false, .bool false, .bool false, .bool false, .bool false, .bool false, .bool false, .bool false, .bool false, .bool false, .bool false, .bool false, .bool false, .bool false, .bool false, .bool false, .bool false, .bool false, .bool false, .bool false, .bool false, .bool false, .bool false, .bool false, .bool false, .bool false, .bool false, .bool false, .bool false, .bool false, .bool false, .bool false, .bool false, .bool false, .bool false, .bool false, .bool false, .bool false, .bool false, .bool false, .bool false, .bool false, .bool false, .bool false, .bool false, .bool false, .bool false, .bool false, .bool false, .bool false, .bool false, .bool false, .bool false, .bool false, .bool false, .bool false, .bool false, .bool false, .bool false, .bool false, .bool false, .bool false, .bool false, .bool false, .bool false, .bool false, .bool false, .bool false, .bool false, .bool false, .bool false, .bool false, .bool false, .bool false, .bool false, .bool false, .bool false, .bool false, .bool false, .bool false, .bool false, .bool false, .bool false, .bool false, .bool false, .bool false, .bool false, .bool false, .bool false, .bool false, .bool false, .bool false, .bool false, .bool false, .bool false, .bool false, .bool false, .bool false, .bool false, .bool false, .bool false, .bool false, .bool false, .bool false, .bool false, .bool false, .bool false, .bool false, .bool false, .bool false, .bool false, .bool false, .bool false, .bool false, .bool false, .bool false, .bool false, .bool false, .bool false, .bool false, .bool false, .bool false, .bool false, .bool false, .bool false, .bool false, .bool false, .bool false, .bool false, .bool false, .bool false, .bool false, .bool false, .bool false, .bool false, .bool false, .bool false, .bool false, .bool false, .bool false, .bool false, .bool false, .bool false, .bool false, .bool false, .bool false, .bool false, .bool false, .bool false, .bool false, .bool false, .bool false, .bool false, .bool false, .bool false, .bool false, .bool false, .bool false, .bool false, .bool false, .bool false, .bool false, .bool false, .bool false, .bool false, .bool false, .bool false, .bool false, .bool false, .bool false, .bool false, .bool false, .bool false, .bool false, .bool false, .bool false, .bool false, .bool false, .bool false, .bool false, .bool false, .bool false, .bool false, .bool false, .bool false, .bool false, .bool false, .bool false, .bool false, .bool false, .bool false, .bool false, .bool false, .bool false, .bool false, .bool false, .bool false, .bool false, .bool false, .bool false, .bool false, .bool false, (.slice none 0 0), (.slice none 0 0)]) bt_71 hf Z .nil Z) fun a hf => ?_
 refine stepV hf Z Z Z (er_boxS (S := [([(.slice none 0 0)], 1), ([(.slice none 0 0)], 1), ([(.slice none 0 0)], 1), (List.map Value.bool (List.replicate 256 false), 256), ([(.slice none 0 0)], 1), ([(.slice none 0 0)], 1)]) hs hf Z Z (by simp [lens])) (fun v w hR a hf => ?_)
 obtain ⟨b2, rfl, hs⟩ := hR
 refine stq hf Z Z Z (ex_assign hf Z) fun a hf => ?_
 refine hK3 _ _ ?_
 refine wp_ret ?_
 have eR := some_eq H; subst eR
 replace hs := hs.nilS Km
 replace hs := hs.nnil Fm
 replace hs := hs.nilS Km
 replace hs := hs.nnil Fm
 replace hs := hs.nilS Km
 replace hs := hs.nnil Fm
 replace hs := hs.nilS Kf
 replace hs := hs.nnil Ff
 replace hs := hs.nilS Kt
 replace hs := hs.p1.p2.p3.p4.p5.p6.p7.p8.p9
 exact ret1 Try.results8 hf Z ⟨_, Z, ⟨b2, (.slice none 0 0), [], (.slice none 0 0), [], (.slice none 0 0), [], (.slice none 0 0), [], (.slice none 0 0), Z, hs⟩⟩

set_option maxRecDepth 100000 in
theorem iospace_validOwner.calls {M : Nat → Prop} {w0 : World} (k : Nat) (a0 : Int) {r : Bool} (hs : St M w0 w0 []) (hr : Sr M w0 [])
  (h : iospace_validOwner.f k a0 = some r) : Calls Try.prog 25 #[.int .i64 a0] w0 fun e w => ∃ v, e = .returned v ∧ (.bool r = v ∧ St M w0 w []) := by
 have H := (iospace_validOwner.f.eq_1 ..).symm.trans h
 clear h
 refine enter Try.func25 Z Try.ntmps25 Z (fun a hf => ?_)
 refine seq_reg (fun K1 hK1 => ?_)
 refine stq hf Z Z Z (ex_assign hf Z) fun a hf => ?_
 refine hK1 _ _ ?_
 refine itt H (fun hc2 H => ?_) (fun hc2 H => ?_)
 ·
  refine seq_reg (fun K3 hK3 => ?_)
  refine stq hf Z Z Z (ex_move hf Z) fun a hf => stq hf Z Z Z (ex_geq hf Z Z) fun a hf => stq hf Z Z Z (ex_move hf Z) fun a hf => ?_
  replace hf := hf.castB (t := 4) Z (dec_t hc2)
  replace hf := hf.castB (t := 5) Z (dec_t hc2)
  refine stq hf Z Z Z (ex_move hf Z) fun a hf => stq hf Z Z Z (ex_lss hf Z Z) fun a hf => stq hf Z Z Z (ex_pickT hf Z Z) fun a hf => stq hf Z Z Z (ex_assign hf Z) fun a hf => ?_
  refine hK3 _ _ ?_
  refine wp_ret ?_
  have eR := some_eq H; subst eR
  exact ret1 Try.results25 hf Z ⟨_, Z, ⟨Z, hs⟩⟩
 ·
  refine seq_reg (fun K4 hK4 => ?_)
  refine stq hf Z Z Z (ex_move hf Z) fun a hf => stq hf Z Z Z (ex_geq hf Z Z) fun a hf => stq hf Z Z Z (ex_move hf Z) fun a hf => ?_
  replace hf := hf.castB (t := 4) Z (dec_f hc2)
  replace hf := hf.castB (t := 5) Z (dec_f hc2)
  refine stepN hf Z Z Z fun a hf => stepN hf Z Z Z fun a hf => stq hf Z Z Z (ex_pickF hf Z Z) fun a hf => stq hf Z Z Z (ex_assign hf Z) fun a hf => ?_
  refine hK4 _ _ ?_
  refine wp_ret ?_
  have eR := some_eq H; subst eR
  exact ret1 Try.results25 hf Z ⟨_, Z, ⟨Z, hs⟩⟩

set_option maxRecDepth 100000 in
theorem iospace_Bus_Enable.calls {M : Nat → Prop} {w0 : World} (k : Nat) (Aa : (List mapping)) (Ab : (List mapping)) (Ac : (List mapping)) (Ae : (List Bool)) (Af : (List fault)) (At : (List Traced)) (a1 : Int) (a2 : Bool) (b0 : Nat) (Va : Value) (Ga : (List (Nat × Nat))) (Vb : Value) (Gb : (List (Nat × Nat))) (Vc : Value) (Gc : (List (Nat × Nat))) (Vf : Value) (Gf : (List Nat)) (Vt : Value) {r : (List Bool) × Int} (hs : St M w0 w0 [bxs b0 71 [([Va], 1), ([Vb], 1), ([Vc], 1), (List.map Value.bool Ae, 256), ([Vf], 1), ([Vt], 1)], osl Km Va (ids Fm Ga), nds Fm Ga Aa, osl Km Vb (ids Fm Gb), nds Fm Gb Ab, osl Km Vc (ids Fm Gc), nds Fm Gc Ac, osl Kf Vf (ids Ff Gf), nds Ff Gf Af, osl Kt Vt At]) (hr : Sr M w0 [])
  (h : iospace_Bus_Enable.f k Aa Ab Ac Ae Af At a1 a2 = some r) : Calls Try.prog 12 #[.pointer (some ⟨b0, 0, none⟩), .int .i64 a1, .bool a2] w0 fun e w => ∃ v, e = .returned v ∧ (.int .i64 r.2 = v ∧ St M w0 w [bxs b0 71 [([Va], 1), ([Vb], 1), ([Vc], 1), (List.map Value.bool r.1, 256), ([Vf], 1), ([Vt], 1)], osl Km Va (ids Fm Ga), nds Fm Ga Aa, osl Km Vb (ids Fm Gb), nds Fm Gb Ab, osl Km Vc (ids Fm Gc), nds Fm Gc Ac, osl Kf Vf (ids Ff Gf), nds Ff Gf Af, osl Kt Vt At]) := by
 have H := (iospace_Bus_Enable.f.eq_1 ..).symm.trans h
 clear h
 refine enter Try.func12 Z Try.ntmps12 Z (fun a hf => ?_)
 refine seq_reg (fun K1 hK1 => ?_)
 refine stq hf Z Z Z (ex_assign hf Z) fun a hf => ?_
 refine hK1 _ _ ?_
 refine seq_n (fun Q2 hN2 hR2 hX2 => ?_)
 refine bnd H (fun s3 hs3 H => ?_)
 refine seq_reg (fun K4 hK4 => ?_)
 refine stq hf Z Z Z (ex_move hf Z) fun a hf => ?_
 refine stepF hf Z Z Z (ex_call cf_25 hf Z) (iospace_validOwner.calls k a1 (hs.enter sN) (Sr.nil _ _) hs3) (fun v w hR a hf => ?_)
 obtain ⟨rfl, hs'⟩ := hR
 replace hs := hs.step sN hs'
 clear hs'
 refine stq hf Z Z Z (ex_not hf Z) fun a hf => ?_
 refine hK4 _ _ ?_
 refine itt H (fun hc5 H => ?_) (fun hc5 H => ?_)
 ·
  replace hf := hf.castB (t := 9) Z (nbool_f hc5)
  refine cond_F hf Z ?_
  refine wp_skip ?_
  refine hN2 _ _ ?_
  refine ck_some H (fun hc6 H => ?_)
  refine seq_reg (fun K7 hK7 => ?_)
  refine stq hf Z Z Z (ex_move hf Z) fun a hf => stq hf Z Z Z (ex_move hf Z) fun a hf => stq hf Z Z Z (ex_move hf Z) fun a hf => stq hf Z Z Z (ex_nilCheck hf Z) fun a hf => stq hf Z Z Z (ex_fieldAddrB fa_71_1 Z hf Z) fun a hf => stq hf Z Z Z (ex_indexAddrA ia_52 Z hc6.1 hc6.2 hf Z Z) fun a hf => ?_
  refine stepS hf Z Z (er_storeS (f := Value.bool) (xs := Ae) (u := a2) (i := 3) hs (.c sN) hf Z Z Z sz_4 Z Z hc6.1 hc6.2) (fun w hs => ?_)
  refine hK7 _ _ ?_
  refine seq_reg (fun K8 hK8 => ?_)
  refine stq hf Z Z Z (ex_assign hf Z) fun a hf => ?_
  refine hK8 _ _ ?_
  refine wp_ret ?_
  have eR := some_eq H; subst eR
  exact ret1 Try.results12 hf Z ⟨_, Z, ⟨Z, hs⟩⟩
 ·
  replace hf := hf.castB (t := 9) Z (nbool_t hc5)
  refine cond_T hf Z ?_
  refine seq_reg (fun K9 hK9 => ?_)
  refine stq hf Z Z Z (ex_assign hf Z) fun a hf => ?_
  refine hK9 _ _ ?_
  refine wp_ret ?_
  refine hR2 _ _ ?_
  have eR := some_eq H; subst eR
  exact ret1 Try.results12 hf Z ⟨_, Z, ⟨Z, hs⟩⟩

set_option maxRecDepth 100000 in
theorem iospace_Bus_Enabled.calls {M : Nat → Prop} {w0 : World} (k : Nat) (Aa : (List mapping)) (Ab : (List mapping)) (Ac : (List mapping)) (Ae : (List Bool)) (Af : (List fault)) (At : (List Traced)) (a1 : Int) (b0 : Nat) (Va : Value) (Ga : (List (Nat × Nat))) (Vb : Value) (Gb : (List (Nat × Nat))) (Vc : Value) (Gc : (List (Nat × Nat))) (Vf : Value) (Gf : (List Nat)) (Vt : Value) {r : Bool} (hs : St M w0 w0 []) (hr : Sr M w0 [bxs b0 71 [([Va], 1), ([Vb], 1), ([Vc], 1), (List.map Value.bool Ae, 256), ([Vf], 1), ([Vt], 1)], rsl Km Va (ids Fm Ga), nds Fm Ga Aa, rsl Km Vb (ids Fm Gb), nds Fm Gb Ab, rsl Km Vc (ids Fm Gc), nds Fm Gc Ac, rsl Kf Vf (ids Ff Gf), nds Ff Gf Af, rsl Kt Vt At])
  (h : iospace_Bus_Enabled.f k Aa Ab Ac Ae Af At a1 = some r) : Calls Try.prog 47 #[.pointer (some ⟨b0, 0, none⟩), .int .i64 a1] w0 fun e w => ∃ v, e = .returned v ∧ (.bool r = v ∧ St M w0 w []) := by
 have H := (iospace_Bus_Enabled.f.eq_1 ..).symm.trans h
 clear h
 refine enter Try.func47 Z Try.ntmps47 Z (fun a hf => ?_)
 refine seq_reg (fun K1 hK1 => ?_)
 refine stq hf Z Z Z (ex_assign hf Z) fun a hf => ?_
 refine hK1 _ _ ?_
 refine bnd H (fun s2 hs2 H => ?_)
 refine itt H (fun hc3 H => ?_) (fun hc3 H => ?_)
 ·
  refine ck_some H (fun hc4 H => ?_)
  refine seq_reg (fun K5 hK5 => ?_)
  refine stq hf Z Z Z (ex_move hf Z) fun a hf => ?_
  refine stepF hf Z Z Z (ex_call cf_25 hf Z) (iospace_validOwner.calls k a1 (hs.enter .nil) (Sr.nil _ _) hs2) (fun v w hR a hf => ?_)
  obtain ⟨rfl, hs'⟩ := hR
  replace hs := hs.step .nil hs'
  clear hs'
  refine stq hf Z Z Z (ex_move hf Z) fun a hf => ?_
  replace hf := hf.castB (t := 6) Z hc3
  replace hf := hf.castB (t := 7) Z hc3
  refine stq hf Z Z Z (ex_move hf Z) fun a hf => stq hf Z Z Z (ex_move hf Z) fun a hf => stq hf Z Z Z (ex_nilCheck hf Z) fun a hf => stq hf Z Z Z (ex_fieldAddrB fa_71_1 Z hf Z) fun a hf => stq hf Z Z Z (ex_indexAddrA ia_52 Z hc4.1 hc4.2 hf Z Z) fun a hf => stq hf Z Z Z (ex_load sc_4 hf Z (sb_cell (f := Value.bool) (xs := Ae) (i := 3) (z := false) (hr.now hs (i := 0) Z) Z Z hc4.1 hc4.2)) fun a hf => stq hf Z Z Z (ex_pickT hf Z Z) fun a hf => stq hf Z Z Z (ex_assign hf Z) fun a hf => ?_
  refine hK5 _ _ ?_
  refine wp_ret ?_
  have eR := some_eq H; subst eR
  exact ret1 Try.results47 hf Z ⟨_, Z, ⟨Z, hs⟩⟩
 ·
  refine seq_reg (fun K6 hK6 => ?_)
  refine stq hf Z Z Z (ex_move hf Z) fun a hf => ?_
  refine stepF hf Z Z Z (ex_call cf_25 hf Z) (iospace_validOwner.calls k a1 (hs.enter .nil) (Sr.nil _ _) hs2) (fun v w hR a hf => ?_)
  obtain ⟨rfl, hs'⟩ := hR
  replace hs := hs.step .nil hs'
  clear hs'
  refine stq hf Z Z Z (ex_move hf Z) fun a hf => ?_
  replace hf := hf.castB (t := 6) Z (bool_f hc3)
  replace hf := hf.castB (t := 7) Z (bool_f hc3)
  refine stepN hf Z Z Z fun a hf => stepN hf Z Z Z fun a hf => stepN hf Z Z Z fun a hf => stepN hf Z Z Z fun a hf => stepN hf Z Z Z fun a hf => stepN hf Z Z Z fun a hf => stq hf Z Z Z (ex_pickF hf Z Z) fun a hf => stq hf Z Z Z (ex_assign hf Z) fun a hf => ?_
  refine hK6 _ _ ?_
  refine wp_ret ?_
  have eR := some_eq H; subst eR
  exact ret1 Try.results47 hf Z ⟨_, Z, ⟨Z, hs⟩⟩

set_option maxRecDepth 100000 in
theorem iospace_Bus_TakeTrace.calls {M : Nat → Prop} {w0 : World} (k : Nat) (Aa : (List mapping)) (Ab : (List mapping)) (Ac : (List mapping)) (Ae : (List Bool)) (Af : (List fault)) (At : (List Traced)) (b0 : Nat) (Va : Value) (Ga : (List (Nat × Nat))) (Vb : Value) (Gb : (List (Nat × Nat))) (Vc : Value) (Gc : (List (Nat × Nat))) (Vf : Value) (Gf : (List Nat)) (Vt : Value) {r : (List Traced) × (List Traced)} (hs : St M w0 w0 [bxs b0 71 [([Va], 1), ([Vb], 1), ([Vc], 1), (List.map Value.bool Ae, 256), ([Vf], 1), ([Vt], 1)], osl Km Va (ids Fm Ga), nds Fm Ga Aa, osl Km Vb (ids Fm Gb), nds Fm Gb Ab, osl Km Vc (ids Fm Gc), nds Fm Gc Ac, osl Kf Vf (ids Ff Gf), nds Ff Gf Af, osl Kt Vt At]) (hr : Sr M w0 [])
  (h : iospace_Bus_TakeTrace.f k Aa Ab Ac Ae Af At = some r) : Calls Try.prog 21 #[.pointer (some ⟨b0, 0, none⟩)] w0 fun e w => ∃ v, e = .returned v ∧ (∃ (g0 : Value) (g1 : Value), g1 = v ∧ St M w0 w [bxs b0 71 [([Va], 1), ([Vb], 1), ([Vc], 1), (List.map Value.bool Ae, 256), ([Vf], 1), ([g0], 1)], osl Kt g0 r.1, osl Km Va (ids Fm Ga), nds Fm Ga Aa, osl Km Vb (ids Fm Gb), nds Fm Gb Ab, osl Km Vc (ids Fm Gc), nds Fm Gc Ac, osl Kf Vf (ids Ff Gf), nds Ff Gf Af, osl Kt g1 r.2]) := by
 have H := (iospace_Bus_TakeTrace.f.eq_1 ..).symm.trans h
 clear h
 refine enter Try.func21 Z Try.ntmps21 Z (fun a hf => ?_)
 refine seq_reg (fun K1 hK1 => ?_)
 refine stq hf Z Z Z (ex_assign hf Z) fun a hf => ?_
 refine hK1 _ _ ?_
 refine seq_reg (fun K2 hK2 => ?_)
 refine stq hf Z Z Z (ex_move hf Z) fun a hf => stq hf Z Z Z (ex_nilCheck hf Z) fun a hf => stq hf Z Z Z (ex_fieldAddrB fa_71_3 Z hf Z) fun a hf => stq hf Z Z Z (ex_load sc_54 hf Z (sb_cell1 (i := 5) (hs.get (i := 0) Z) Z Z)) fun a hf => stq hf Z Z Z (ex_assign hf Z) fun a hf => ?_
 refine hK2 _ _ ?_
 refine seq_reg (fun K3 hK3 => ?_)
 refine stq hf Z Z Z (ex_move hf Z) fun a hf => stq hf Z Z Z (ex_nilCheck hf Z) fun a hf => stq hf Z Z Z (ex_fieldAddrB fa_71_3 Z hf Z) fun a hf => ?_
 refine stepS hf Z Z (er_storeS1 (i := 5) hs (.c sN) hf Z Z (IsSl.one isl_nil) sz_54 Z Z) (fun w hs => ?_)
 refine hK3 _ _ ?_
 refine seq_reg (fun K4 hK4 => ?_)
 refine stq hf Z Z Z (ex_move hf Z) fun a hf => stq hf Z Z Z (ex_assign hf Z) fun a hf => ?_
 refine hK4 _ _ ?_
 refine wp_ret ?_
 have eR := some_eq H; subst eR
 replace hs := hs.nilS Kt
 replace hs := hs.p10.p10.p10.p10.p10.p10.p10.p10.p10.p9.p10
 exact ret1 Try.results21 hf Z ⟨_, Z, ⟨(.slice none 0 0), Vt, Z, hs⟩⟩

set_option maxRecDepth 100000 in
theorem iospace_mapping_load.calls {M : Nat → Prop} {w0 : World} (k : Nat) (a0_r_Base : Int) (a0_r_Len : Int) (a0_owner : Int) (a0_data : (List (Int × Int))) (a1 : Int) (a2 : Int) (b0 : Nat) (m0_data : Nat) {r : Int} (hs : St M w0 w0 []) (hr : Sr M w0 [bx b0 80 [.int .u64 a0_r_Base, .int .u64 a0_r_Len, .int .i64 a0_owner, .map (some m0_data)], mp m0_data .u64 .u8 a0_data])
  (h : iospace_mapping_load.f k a0_r_Base a0_r_Len a0_owner a0_data a1 a2 = some r) : Calls Try.prog 35 #[.pointer (some ⟨b0, 0, none⟩), .int .u64 a1, .int .i64 a2] w0 fun e w => ∃ v, e = .returned v ∧ (.int .u64 r = v ∧ St M w0 w []) := by
 have H := (iospace_mapping_load.f.eq_1 ..).symm.trans h
 clear h
 refine enter Try.func35 Z Try.ntmps35 Z (fun a hf => ?_)
 refine seq_reg (fun K1 hK1 => ?_)
 refine stq hf Z Z Z (ex_assign hf Z) fun a hf => ?_
 refine hK1 _ _ ?_
 refine seq_reg (fun K2 hK2 => ?_)
 refine stq hf Z Z Z (ex_assign hf Z) fun a hf => ?_
 refine hK2 _ _ ?_
 refine bnd H (fun x3 H3 HO3 => ?_)
 clear H
 refine seq_cut (fun a w => Fr a 30 [(7, .int .u64 x3)] ∧ St M w0 w []) (fun Q3 hJ3 hR3 hX3 => ?_) (fun a w hJ => ?_)
 ·
  replace H := H3
  refine seq_reg (fun K4 hK4 => ?_)
  refine stq hf Z Z Z (ex_move hf Z) fun a hf => stq hf Z Z Z (ex_move hf Z) fun a hf => ?_
  refine hK4 _ _ ?_
  refine block_k (fun Q5 hN5 hR5 hX5 hY5 => ?_)
  refine loop_k (fun n a w => ∃ (y6 : Int) (y7 : Int), Fr a 30 [(0, .pointer (some ⟨b0, 0, none⟩)), (1, .int .u64 a1), (7, .int .u64 y6), (9, .int .i64 a2), (10, .int .i64 y7)] ∧ St M w0 w [] ∧ iospace_mapping_load.l1 n a2 a0_data a1 y6 y7 = some x3) k ?_ (fun n9 a w hI Q9 hL9 hR9 hX9 => ?_)
  ·
   exact ⟨0, 0, hf.sub ⟨Z, Z, Z, Z, Z, trivial⟩, hs, H⟩
  ·
   obtain ⟨y6, y7, hf, hs, H⟩ := hI
   cases n9 with
   | zero => exact absurd H (by rw [iospace_mapping_load.l1.eq_1]; intro h; cases h)
   | succ k9 =>
    replace H := (iospace_mapping_load.l1.eq_2 ..).symm.trans H
    refine seq_reg (fun K10 hK10 => ?_)
    refine stq hf Z Z Z (ex_lss hf Z Z) fun a hf => ?_
    refine hK10 _ _ ?_
    refine seq_n (fun Q11 hN11 hR11 hX11 => ?_)
    refine itt H (fun hc12 H => ?_) (fun hc12 H => ?_)
    ·
     replace hf := hf.castB (t := 11) Z (dec_t hc12)
     refine cond_T hf Z ?_
     refine wp_skip ?_
     refine hN11 _ _ ?_
     refine seq_n (fun Q13 hN13 hR13 hX13 => ?_)
     refine block_k (fun Q14 hN14 hR14 hX14 hY14 => ?_)
     refine seq_reg (fun K15 hK15 => ?_)
     refine stq hf Z Z Z (ex_move hf Z) fun a hf => stq hf Z Z Z (ex_assign hf Z) fun a hf => ?_
     refine hK15 _ _ ?_
     refine ck_some H (fun hc16 H => ?_)
     refine region_k (fun K17 hK17 => ?_)
     refine stq hf Z Z Z (ex_move hf Z) fun a hf => stq hf Z Z Z (ex_move hf Z) fun a hf => stq hf Z Z Z (ex_nilCheck hf Z) fun a hf => stq hf Z Z Z (ex_fieldAddrB fa_80_2 Z hf Z) fun a hf => stq hf Z Z Z (ex_load sc_78 hf Z (bx_cell (hr.now hs (i := 0) Z) _ Z)) fun a hf => stq hf Z Z Z (ex_move hf Z) fun a hf => stq hf Z Z Z (ex_move hf Z) fun a hf => stq hf Z Z Z (ex_conv Try.underlying3 Try.underlying22 hf Z) fun a hf => stq hf Z Z Z (ex_add hf Z Z) fun a hf => stq hf Z Z Z (ex_lookup1 mt_78 (hr.now hs (i := 1) Z) hf Z Z) fun a hf => stq hf Z Z Z (ex_conv Try.underlying5 Try.underlying22 hf Z) fun a hf => stq hf Z Z Z (ex_move hf Z) fun a hf => stq hf Z Z Z (ex_mul hf Z Z) fun a hf => stq hf Z Z Z (ex_shl hf Z Z hc16) fun a hf => stq hf Z Z Z (ex_bits Z hf Z Z) fun a hf => stq hf Z Z Z (ex_assign hf Z) fun a hf => ?_
     refine hK17 _ _ ?_
     refine hN14 _ _ ?_
     refine hN13 _ _ ?_
     refine region_k (fun K18 hK18 => ?_)
     refine stq hf Z Z Z (ex_add hf Z Z) fun a hf => stq hf Z Z Z (ex_move hf Z) fun a hf => ?_
     refine hK18 _ _ ?_
     exact hL9 k9 _ _ (Nat.lt_succ_self _) ⟨(bitw .or .u64 y6 (shlw .u64 (IntKind.u64.wrap (mgetd a0_data (IntKind.u64.wrap (a1 + (IntKind.u64.wrap y7))))) (IntKind.i64.wrap (8 * y7)))), (IntKind.i64.wrap (y7 + 1)), hf.sub ⟨Z, Z, Z, Z, Z, trivial⟩, hs, H⟩
    ·
     replace hf := hf.castB (t := 11) Z (dec_f hc12)
     refine cond_F hf Z ?_
     refine wp_exit ?_
     refine hX11 0 _ _ ?_
     refine hX9 0 _ _ ?_
     refine hX5 _ _ ?_
     have e3 := some_eq H; subst e3
     exact hJ3 _ _ ⟨hf.sub ⟨Z, trivial⟩, hs⟩
 ·
  obtain ⟨hf, hs⟩ := hJ
  replace H := HO3
  clear HO3
  refine seq_reg (fun K19 hK19 => ?_)
  refine stq hf Z Z Z (ex_move hf Z) fun a hf => stq hf Z Z Z (ex_assign hf Z) fun a hf => ?_
  refine hK19 _ _ ?_
  refine wp_ret ?_
  have eR := some_eq H; subst eR
  exact ret1 Try.results35 hf Z ⟨_, Z, ⟨Z, hs⟩⟩

set_option maxRecDepth 100000 in
theorem iospace_validSpace.calls {M : Nat → Prop} {w0 : World} (k : Nat) (a0 : Int) {r : Bool} (hs : St M w0 w0 []) (hr : Sr M w0 [])
  (h : iospace_validSpace.f k a0 = some r) : Calls Try.prog 23 #[.int .i64 a0] w0 fun e w => ∃ v, e = .returned v ∧ (.bool r = v ∧ St M w0 w []) := by
 have H := (iospace_validSpace.f.eq_1 ..).symm.trans h
 clear h
 refine enter Try.func23 Z Try.ntmps23 Z (fun a hf => ?_)
 refine seq_reg (fun K1 hK1 => ?_)
 refine stq hf Z Z Z (ex_assign hf Z) fun a hf => ?_
 refine hK1 _ _ ?_
 refine itt H (fun hc2 H => ?_) (fun hc2 H => ?_)
 ·
  refine seq_reg (fun K3 hK3 => ?_)
  refine stq hf Z Z Z (ex_move hf Z) fun a hf => stq hf Z Z Z (ex_geq hf Z Z) fun a hf => stq hf Z Z Z (ex_move hf Z) fun a hf => ?_
  replace hf := hf.castB (t := 4) Z (dec_t hc2)
  replace hf := hf.castB (t := 5) Z (dec_t hc2)
  refine stq hf Z Z Z (ex_move hf Z) fun a hf => stq hf Z Z Z (ex_lss hf Z Z) fun a hf => stq hf Z Z Z (ex_pickT hf Z Z) fun a hf => stq hf Z Z Z (ex_assign hf Z) fun a hf => ?_
  refine hK3 _ _ ?_
  refine wp_ret ?_
  have eR := some_eq H; subst eR
  exact ret1 Try.results23 hf Z ⟨_, Z, ⟨Z, hs⟩⟩
 ·
  refine seq_reg (fun K4 hK4 => ?_)
  refine stq hf Z Z Z (ex_move hf Z) fun a hf => stq hf Z Z Z (ex_geq hf Z Z) fun a hf => stq hf Z Z Z (ex_move hf Z) fun a hf => ?_
  replace hf := hf.castB (t := 4) Z (dec_f hc2)
  replace hf := hf.castB (t := 5) Z (dec_f hc2)
  refine stepN hf Z Z Z fun a hf => stepN hf Z Z Z fun a hf => stq hf Z Z Z (ex_pickF hf Z Z) fun a hf => stq hf Z Z Z (ex_assign hf Z) fun a hf => ?_
  refine hK4 _ _ ?_
  refine wp_ret ?_
  have eR := some_eq H; subst eR
  exact ret1 Try.results23 hf Z ⟨_, Z, ⟨Z, hs⟩⟩

set_option maxRecDepth 100000 in
theorem iospace_wellFormed.calls {M : Nat → Prop} {w0 : World} (k : Nat) (a0 : Access) {r : Bool} (hs : St M w0 w0 []) (hr : Sr M w0 [])
  (h : iospace_wellFormed.f k a0 = some r) : Calls Try.prog 30 #[.agg #[.int .i64 a0.Space, .int .u64 a0.Addr, .int .i64 a0.Width, .bool a0.Write, .int .u64 a0.Value]] w0 fun e w => ∃ v, e = .returned v ∧ (.bool r = v ∧ St M w0 w []) := by
 have H := (iospace_wellFormed.f.eq_1 ..).symm.trans h
 clear h
 refine enter Try.func30 Z Try.ntmps30 Z (fun a hf => ?_)
 refine seq_reg (fun K2 hK2 => ?_)
 refine stepV hf Z Z Z (er_box (cs := [.int .i64 a0.Space, .int .u64 a0.Addr, .int .i64 a0.Width, .bool a0.Write, .int .u64 a0.Value]) hs hf Z Z) (fun v w hR a hf => ?_)
 obtain ⟨b1, rfl, hs⟩ := hR
 refine stq hf Z Z Z (ex_assign hf Z) fun a hf => ?_
 refine hK2 _ _ ?_
 refine seq_n (fun Q3 hN3 hR3 hX3 => ?_)
 refine seq_reg (fun K4 hK4 => ?_)
 refine stq hf Z Z Z (ex_fieldAddrB fa_37_2 Z hf Z) fun a hf => stq hf Z Z Z (ex_load sc_3 hf Z (bx_cell (hs.get (i := 0) Z) _ Z)) fun a hf => ?_
 refine hK4 _ _ ?_
 refine block_k (fun Q5 hN5 hR5 hX5 hY5 => ?_)
 refine bnd H (fun x6 H6 HO6 => ?_)
 clear H
 refine seq_cut (fun a w => Fr a 22 [(1, .pointer (some ⟨b1, 0, none⟩)), (5, .bool x6)] ∧ St M w0 w [bx b1 37 [.int .i64 a0.Space, .int .u64 a0.Addr, .int .i64 a0.Width, .bool a0.Write, .int .u64 a0.Value]]) (fun Q6 hJ6 hR6 hX6 => ?_) (fun a w hJ => ?_)
 ·
  replace H := H6
  refine seq_reg (fun K7 hK7 => ?_)
  refine stq hf Z Z Z (ex_eql hf Z Z) fun a hf => stq hf Z Z Z (ex_assign hf Z) fun a hf => ?_
  refine hK7 _ _ ?_
  refine itt H (fun hc8 H => ?_) (fun hc8 H => ?_)
  ·
   replace hf := hf.castB (t := 5) Z (dec_t hc8)
   refine cond_T hf Z ?_
   refine wp_skip ?_
   have e6 := some_eq H; subst e6
   exact hJ6 _ _ ⟨hf.sub ⟨Z, Z, trivial⟩, hs⟩
  ·
   replace hf := hf.castB (t := 5) Z (dec_f hc8)
   refine cond_F hf Z ?_
   refine seq_reg (fun K9 hK9 => ?_)
   refine stq hf Z Z Z (ex_eql hf Z Z) fun a hf => stq hf Z Z Z (ex_assign hf Z) fun a hf => ?_
   refine hK9 _ _ ?_
   refine itt H (fun hc10 H => ?_) (fun hc10 H => ?_)
   ·
    replace hf := hf.castB (t := 5) Z (dec_t hc10)
    refine cond_T hf Z ?_
    refine wp_skip ?_
    have e6 := some_eq H; subst e6
    exact hJ6 _ _ ⟨hf.sub ⟨Z, Z, trivial⟩, hs⟩
   ·
    replace hf := hf.castB (t := 5) Z (dec_f hc10)
    refine cond_F hf Z ?_
    refine seq_reg (fun K11 hK11 => ?_)
    refine stq hf Z Z Z (ex_eql hf Z Z) fun a hf => stq hf Z Z Z (ex_assign hf Z) fun a hf => ?_
    refine hK11 _ _ ?_
    refine itt H (fun hc12 H => ?_) (fun hc12 H => ?_)
    ·
     replace hf := hf.castB (t := 5) Z (dec_t hc12)
     refine cond_T hf Z ?_
     refine wp_skip ?_
     have e6 := some_eq H; subst e6
     exact hJ6 _ _ ⟨hf.sub ⟨Z, Z, trivial⟩, hs⟩
    ·
     replace hf := hf.castB (t := 5) Z (dec_f hc12)
     refine cond_F hf Z ?_
     refine region_k (fun K13 hK13 => ?_)
     refine stq hf Z Z Z (ex_eql hf Z Z) fun a hf => stq hf Z Z Z (ex_assign hf Z) fun a hf => ?_
     refine hK13 _ _ ?_
     have e6 := some_eq H; subst e6
     exact hJ6 _ _ ⟨hf.sub ⟨Z, Z, trivial⟩, hs⟩
 ·
  obtain ⟨hf, hs⟩ := hJ
  replace H := HO6
  clear HO6
  refine itt H (fun hc14 H => ?_) (fun hc14 H => ?_)
  ·
   replace hf := hf.castB (t := 5) Z hc14
   refine cond_T hf Z ?_
   refine bnd H (fun s15 hs15 H => ?_)
   refine itt H (fun hc16 H => ?_) (fun hc16 H => ?_)
   ·
    refine ck_some H (fun hc17 H => ?_)
    refine seq_reg (fun K18 hK18 => ?_)
    refine stq hf Z Z Z (ex_fieldAddrB fa_37_0 Z hf Z) fun a hf => stq hf Z Z Z (ex_load sc_3 hf Z (bx_cell (hs.get (i := 0) Z) _ Z)) fun a hf => ?_
    refine stepF hf Z Z Z (ex_call cf_23 hf Z) (iospace_validSpace.calls k a0.Space (hs.enter sN) (Sr.nil _ _) hs15) (fun v w hR a hf => ?_)
    obtain ⟨rfl, hs'⟩ := hR
    replace hs := hs.step sN hs'
    clear hs'
    refine stq hf Z Z Z (ex_move hf Z) fun a hf => ?_
    replace hf := hf.castB (t := 12) Z hc16
    replace hf := hf.castB (t := 13) Z hc16
    refine stq hf Z Z Z (ex_fieldAddrB fa_37_1 Z hf Z) fun a hf => stq hf Z Z Z (ex_load sc_22 hf Z (bx_cell (hs.get (i := 0) Z) _ Z)) fun a hf => stq hf Z Z Z (ex_fieldAddrB fa_37_2 Z hf Z) fun a hf => stq hf Z Z Z (ex_load sc_3 hf Z (bx_cell (hs.get (i := 0) Z) _ Z)) fun a hf => stq hf Z Z Z (ex_conv Try.underlying3 Try.underlying22 hf Z) fun a hf => stq hf Z Z Z (ex_rem hf Z Z hc17) fun a hf => stq hf Z Z Z (ex_eql hf Z Z) fun a hf => stq hf Z Z Z (ex_pickT hf Z Z) fun a hf => stq hf Z Z Z (ex_assign hf Z) fun a hf => ?_
    refine hK18 _ _ ?_
    refine wp_ret ?_
    refine hR5 _ _ ?_
    refine hR3 _ _ ?_
    have eR := some_eq H; subst eR
    replace hs := hs.keep (.d .nil)
    exact ret1 Try.results30 hf Z ⟨_, Z, ⟨Z, hs⟩⟩
   ·
    refine seq_reg (fun K19 hK19 => ?_)
    refine stq hf Z Z Z (ex_fieldAddrB fa_37_0 Z hf Z) fun a hf => stq hf Z Z Z (ex_load sc_3 hf Z (bx_cell (hs.get (i := 0) Z) _ Z)) fun a hf => ?_
    refine stepF hf Z Z Z (ex_call cf_23 hf Z) (iospace_validSpace.calls k a0.Space (hs.enter sN) (Sr.nil _ _) hs15) (fun v w hR a hf => ?_)
    obtain ⟨rfl, hs'⟩ := hR
    replace hs := hs.step sN hs'
    clear hs'
    refine stq hf Z Z Z (ex_move hf Z) fun a hf => ?_
    replace hf := hf.castB (t := 12) Z (bool_f hc16)
    replace hf := hf.castB (t := 13) Z (bool_f hc16)
    refine stepN hf Z Z Z fun a hf => stepN hf Z Z Z fun a hf => stepN hf Z Z Z fun a hf => stepN hf Z Z Z fun a hf => stepN hf Z Z Z fun a hf => stepN hf Z Z Z fun a hf => stepN hf Z Z Z fun a hf => stq hf Z Z Z (ex_pickF hf Z Z) fun a hf => stq hf Z Z Z (ex_assign hf Z) fun a hf => ?_
    refine hK19 _ _ ?_
    refine wp_ret ?_
    refine hR5 _ _ ?_
    refine hR3 _ _ ?_
    have eR := some_eq H; subst eR
    replace hs := hs.keep (.d .nil)
    exact ret1 Try.results30 hf Z ⟨_, Z, ⟨Z, hs⟩⟩
  ·
   replace hf := hf.castB (t := 5) Z (bool_f hc14)
   refine cond_F hf Z ?_
   refine wp_skip ?_
   refine hN5 _ _ ?_
   refine hN3 _ _ ?_
   refine seq_reg (fun K20 hK20 => ?_)
   refine stq hf Z Z Z (ex_assign hf Z) fun a hf => ?_
   refine hK20 _ _ ?_
   refine wp_ret ?_
   have eR := some_eq H; subst eR
   replace hs := hs.keep (.d .nil)
   exact ret1 Try.results30 hf Z ⟨_, Z, ⟨Z, hs⟩⟩

set_option maxRecDepth 100000 in
theorem iospace_last.calls {M : Nat → Prop} {w0 : World} (k : Nat) (a0 : Range) {r : Int} (hs : St M w0 w0 []) (hr : Sr M w0 [])
  (h : iospace_last.f k a0 = some r) : Calls Try.prog 33 #[.agg #[.int .u64 a0.Base, .int .u64 a0.Len]] w0 fun e w => ∃ v, e = .returned v ∧ (.int .u64 r = v ∧ St M w0 w []) := by
 have H := (iospace_last.f.eq_1 ..).symm.trans h
 clear h
 refine enter Try.func33 Z Try.ntmps33 Z (fun a hf => ?_)
 refine seq_reg (fun K2 hK2 => ?_)
 refine stepV hf Z Z Z (er_box (cs := [.int .u64 a0.Base, .int .u64 a0.Len]) hs hf Z Z) (fun v w hR a hf => ?_)
 obtain ⟨b1, rfl, hs⟩ := hR
 refine stq hf Z Z Z (ex_assign hf Z) fun a hf => ?_
 refine hK2 _ _ ?_
 refine seq_reg (fun K3 hK3 => ?_)
 refine stq hf Z Z Z (ex_fieldAddrB fa_32_0 Z hf Z) fun a hf => stq hf Z Z Z (ex_load sc_22 hf Z (bx_cell (hs.get (i := 0) Z) _ Z)) fun a hf => stq hf Z Z Z (ex_fieldAddrB fa_32_1 Z hf Z) fun a hf => stq hf Z Z Z (ex_load sc_22 hf Z (bx_cell (hs.get (i := 0) Z) _ Z)) fun a hf => stq hf Z Z Z (ex_sub hf Z Z) fun a hf => stq hf Z Z Z (ex_add hf Z Z) fun a hf => stq hf Z Z Z (ex_assign hf Z) fun a hf => ?_
 refine hK3 _ _ ?_
 refine wp_ret ?_
 have eR := some_eq H; subst eR
 replace hs := hs.keep (.d .nil)
 exact ret1 Try.results33 hf Z ⟨_, Z, ⟨Z, hs⟩⟩

set_option maxRecDepth 100000 in
theorem iospace_overlap.calls {M : Nat → Prop} {w0 : World} (k : Nat) (a0 : Range) (a1 : Range) {r : Bool} (hs : St M w0 w0 []) (hr : Sr M w0 [])
  (h : iospace_overlap.f k a0 a1 = some r) : Calls Try.prog 28 #[.agg #[.int .u64 a0.Base, .int .u64 a0.Len], .agg #[.int .u64 a1.Base, .int .u64 a1.Len]] w0 fun e w => ∃ v, e = .returned v ∧ (.bool r = v ∧ St M w0 w []) := by
 have H := (iospace_overlap.f.eq_1 ..).symm.trans h
 clear h
 refine enter Try.func28 Z Try.ntmps28 Z (fun a hf => ?_)
 refine seq_reg (fun K3 hK3 => ?_)
 refine stepV hf Z Z Z (er_box (cs := [.int .u64 a0.Base, .int .u64 a0.Len]) hs hf Z Z) (fun v w hR a hf => ?_)
 obtain ⟨b1, rfl, hs⟩ := hR
 refine stepV hf Z Z Z (er_box (cs := [.int .u64 a1.Base, .int .u64 a1.Len]) hs hf Z Z) (fun v w hR a hf => ?_)
 obtain ⟨b2, rfl, hs⟩ := hR
 refine stq hf Z Z Z (ex_assign hf Z) fun a hf => ?_
 refine hK3 _ _ ?_
 refine seq_n (fun Q4 hN4 hR4 hX4 => ?_)
 refine bnd H (fun s5 hs5 H => ?_)
 refine itt H (fun hc6 H => ?_) (fun hc6 H => ?_)
 ·
  refine bnd H (fun s7 hs7 H => ?_)
  refine region_dS fol 12 [(2, .pointer (some ⟨b1, 0, none⟩)), (3, .pointer (some ⟨b2, 0, none⟩)), (4, .bool false)] [(0, .pointer (some ⟨b1, 0, none⟩)), (1, .int .u64 a0.Base), (2, .agg #[.int .u64 a1.Base, .int .u64 a1.Len])] [3, 9] (fun w => (bx b1 32 [.int .u64 a0.Base, .int .u64 a0.Len]).ok w ∧ (bx b2 32 [.int .u64 a1.Base, .int .u64 a1.Len]).ok w ∧ True) hf ⟨Z, Z, Z, trivial⟩ (by kernel_rfl) (by kernel_rfl) Z (by decide) ⟨hs.drew.get (i := 1) Z, hs.drew.get (i := 0) Z, trivial⟩ hs ((.cons (qy Z Z Z Z Z fun hR hf => ex_fieldAddrB fa_32_0 Z hf Z) (.cons (qy Z Z Z Z Z fun hR hf => ex_load sc_22 hf Z (bx_cell (hR.1) _ Z)) (.cons (qy Z Z Z Z Z fun hR hf => ex_loadA (cs := [.int .u64 a1.Base, .int .u64 a1.Len]) ag_32 hf Z (bx_cells (hR.2.1) Z)) .nil)))) (fun K8 hK8 => ?_)
  refine RW.one 3 (by kernel_rfl) (by kernel_rfl) rfl (fun d hd => by cases hd; rfl) [(7, .agg #[.int .u64 a1.Base, .int .u64 a1.Len])] ⟨rfl, trivial⟩ (fun a w hR hs hf => ⟨wanted_yes hf rfl, ?_⟩)
  refine estep_f (ex_call cf_33 hf Z) (iospace_last.calls k a1 (hs.enter sN) (Sr.nil _ _) hs5) (fun v w hR => ?_)
  obtain ⟨rfl, hs'⟩ := hR
  replace hs := hs.step sN hs'
  clear hs'
  refine ⟨[(4, .bool true), (5, .bool true), (6, .pointer (some ⟨b2, 0, none⟩)), (7, .int .u64 a1.Base), (8, .agg #[.int .u64 a0.Base, .int .u64 a0.Len])], _, [9], (fun _ => True), hs.fn, Z, Z, ⟨hs.get (i := 1) Z, hs.get (i := 0) Z, trivial⟩, trivial, hs, (by kernel_rfl), (.cons (qy Z Z Z Z Z fun hR hf => ex_castB (ex_leq hf Z Z) (dec_t hc6)) (.cons (qy Z Z Z Z Z fun hR hf => ex_move hf Z) (.cons (qy Z Z Z Z Z fun hR hf => ex_fieldAddrB fa_32_0 Z hf Z) (.cons (qy Z Z Z Z Z fun hR hf => ex_load sc_22 hf Z (bx_cell (hR.1.2.1) _ Z)) (.cons (qy Z Z Z Z Z fun hR hf => ex_loadA (cs := [.int .u64 a0.Base, .int .u64 a0.Len]) ag_32 hf Z (bx_cells (hR.1.1) Z)) .nil))))), ?_⟩
  refine RW.one 9 (by kernel_rfl) (by kernel_rfl) rfl (fun d hd => by cases hd; rfl) [(10, .bool true), (13, .agg #[.int .u64 a0.Base, .int .u64 a0.Len])] ⟨rfl, rfl, trivial⟩ (fun a w hR hs hf => ⟨wanted_yes hf rfl, ?_⟩)
  refine estep_f (ex_call cf_33 hf Z) (iospace_last.calls k a0 (hs.enter sN) (Sr.nil _ _) hs7) (fun v w hR => ?_)
  obtain ⟨rfl, hs'⟩ := hR
  replace hs := hs.step sN hs'
  clear hs'
  refine ⟨[(10, .bool (decide (a1.Base ≤ s7))), (11, .bool (decide (a1.Base ≤ s7)))], _, [], (fun _ => True), hs.fn, Z, Z, ⟨⟨hs.get (i := 1) Z, hs.get (i := 0) Z, trivial⟩, trivial⟩, trivial, hs, (by kernel_rfl), (.cons (qy Z Z Z Z Z fun hR hf => ex_leq hf Z Z) (.cons (qy Z Z Z Z Z fun hR hf => ex_pickT hf Z Z) .nil)), ?_⟩
  refine RW.zero (by kernel_rfl) (by kernel_rfl) [(4, .bool false), (16, .bool (decide (a1.Base ≤ s7)))] ⟨Z, Z, trivial⟩ (fun a w hR hs hf => ?_)
  refine stq hf Z Z Z (ex_assign hf Z) fun a hf => ?_
  refine hK8 _ _ ?_
  refine hN4 _ _ ?_
  refine wp_ret ?_
  have eR := some_eq H; subst eR
  replace hs := hs.keep (.d (.d .nil))
  exact ret1 Try.results28 hf Z ⟨_, Z, ⟨Z, hs⟩⟩
 ·
  refine region_dS fol 12 [(2, .pointer (some ⟨b1, 0, none⟩)), (3, .pointer (some ⟨b2, 0, none⟩)), (4, .bool false)] [(0, .pointer (some ⟨b1, 0, none⟩)), (1, .int .u64 a0.Base), (2, .agg #[.int .u64 a1.Base, .int .u64 a1.Len])] [3] (fun w => (bx b1 32 [.int .u64 a0.Base, .int .u64 a0.Len]).ok w ∧ (bx b2 32 [.int .u64 a1.Base, .int .u64 a1.Len]).ok w ∧ True) hf ⟨Z, Z, Z, trivial⟩ (by kernel_rfl) (by kernel_rfl) Z (by decide) ⟨hs.drew.get (i := 1) Z, hs.drew.get (i := 0) Z, trivial⟩ hs ((.cons (qy Z Z Z Z Z fun hR hf => ex_fieldAddrB fa_32_0 Z hf Z) (.cons (qy Z Z Z Z Z fun hR hf => ex_load sc_22 hf Z (bx_cell (hR.1) _ Z)) (.cons (qy Z Z Z Z Z fun hR hf => ex_loadA (cs := [.int .u64 a1.Base, .int .u64 a1.Len]) ag_32 hf Z (bx_cells (hR.2.1) Z)) .nil)))) (fun K9 hK9 => ?_)
  refine RW.one 3 (by kernel_rfl) (by kernel_rfl) rfl (fun d hd => by cases hd; rfl) [(7, .agg #[.int .u64 a1.Base, .int .u64 a1.Len])] ⟨rfl, trivial⟩ (fun a w hR hs hf => ⟨wanted_yes hf rfl, ?_⟩)
  refine estep_f (ex_call cf_33 hf Z) (iospace_last.calls k a1 (hs.enter sN) (Sr.nil _ _) hs5) (fun v w hR => ?_)
  obtain ⟨rfl, hs'⟩ := hR
  replace hs := hs.step sN hs'
  clear hs'
  refine ⟨[(4, .bool false), (5, .bool false), (6, undef), (7, undef), (8, undef), (9, undef), (10, undef), (11, .bool false)], _, [], (fun _ => True), hs.fn, Z, Z, ⟨hs.get (i := 1) Z, hs.get (i := 0) Z, trivial⟩, trivial, hs, (by kernel_rfl), (.cons (qy Z Z Z Z Z fun hR hf => ex_castB (ex_leq hf Z Z) (dec_f hc6)) (.cons (qy Z Z Z Z Z fun hR hf => ex_move hf Z) (.cons (qn Z Z Z Z Z) (.cons (qn Z Z Z Z Z) (.cons (qn Z Z Z Z Z) (.cons (qn Z Z Z Z Z) (.cons (qn Z Z Z Z Z) (.cons (qy Z Z Z Z Z fun hR hf => ex_pickF hf Z Z) .nil)))))))), ?_⟩
  refine RW.zero (by kernel_rfl) (by kernel_rfl) [(4, .bool false), (16, .bool false)] ⟨Z, Z, trivial⟩ (fun a w hR hs hf => ?_)
  refine stq hf Z Z Z (ex_assign hf Z) fun a hf => ?_
  refine hK9 _ _ ?_
  refine hN4 _ _ ?_
  refine wp_ret ?_
  have eR := some_eq H; subst eR
  replace hs := hs.keep (.d (.d .nil))
  exact ret1 Try.results28 hf Z ⟨_, Z, ⟨Z, hs⟩⟩

set_option maxRecDepth 100000 in
theorem iospace_Bus_find.calls {M : Nat → Prop} {w0 : World} (k : Nat) (Aa : (List mapping)) (Ab : (List mapping)) (Ac : (List mapping)) (Ae : (List Bool)) (Af : (List fault)) (At : (List Traced)) (a1 : Int) (a2 : Int) (b0 : Nat) (Va : Value) (Ga : (List (Nat × Nat))) (Vb : Value) (Gb : (List (Nat × Nat))) (Vc : Value) (Gc : (List (Nat × Nat))) (Vf : Value) (Gf : (List Nat)) (Vt : Value) {r : (Int × Int)} (hs : St M w0 w0 []) (hr : Sr M w0 [bxs b0 71 [([Va], 1), ([Vb], 1), ([Vc], 1), (List.map Value.bool Ae, 256), ([Vf], 1), ([Vt], 1)], rsl Km Va (ids Fm Ga), nds Fm Ga Aa, rsl Km Vb (ids Fm Gb), nds Fm Gb Ab, rsl Km Vc (ids Fm Gc), nds Fm Gc Ac, rsl Kf Vf (ids Ff Gf), nds Ff Gf Af, rsl Kt Vt At])
  (h : iospace_Bus_find.f k Aa Ab Ac Ae Af At a1 a2 = some r) : Calls Try.prog 32 #[.pointer (some ⟨b0, 0, none⟩), .int .i64 a1, .int .u64 a2] w0 fun e w => ∃ v, e = .returned v ∧ ((r.1 = 0 ∧ (0 ≤ r.2 ∧ r.2 < (Aa.length : Int)) ∧ .pointer (some ⟨Fm.blk (gd ((0, 0) : Nat × Nat) Ga r.2), 0, none⟩) = v ∧ St M w0 w []) ∨ (r.1 = 1 ∧ (0 ≤ r.2 ∧ r.2 < (Ab.length : Int)) ∧ .pointer (some ⟨Fm.blk (gd ((0, 0) : Nat × Nat) Gb r.2), 0, none⟩) = v ∧ St M w0 w []) ∨ (r.1 = 2 ∧ (0 ≤ r.2 ∧ r.2 < (Ac.length : Int)) ∧ .pointer (some ⟨Fm.blk (gd ((0, 0) : Nat × Nat) Gc r.2), 0, none⟩) = v ∧ St M w0 w []) ∨ (r.1 = -1 ∧ .pointer none = v ∧ St M w0 w [])) := by
 have H := (iospace_Bus_find.f.eq_1 ..).symm.trans h
 clear h
 refine enter Try.func32 Z Try.ntmps32 Z (fun a hf => ?_)
 refine seq_reg (fun K1 hK1 => ?_)
 refine stq hf Z Z Z (ex_assign hf Z) fun a hf => ?_
 refine hK1 _ _ ?_
 refine seq_n (fun Q2 hN2 hR2 hX2 => ?_)
 refine bnd H (fun s3 hs3 H => ?_)
 refine seq_reg (fun K4 hK4 => ?_)
 refine stq hf Z Z Z (ex_move hf Z) fun a hf => ?_
 refine stepF hf Z Z Z (ex_call cf_23 hf Z) (iospace_validSpace.calls k a1 (hs.enter .nil) (Sr.nil _ _) hs3) (fun v w hR a hf => ?_)
 obtain ⟨rfl, hs'⟩ := hR
 replace hs := hs.step .nil hs'
 clear hs'
 refine stq hf Z Z Z (ex_not hf Z) fun a hf => ?_
 refine hK4 _ _ ?_
 refine itt H (fun hc5 H => ?_) (fun hc5 H => ?_)
 ·
  replace hf := hf.castB (t := 11) Z (nbool_f hc5)
  refine cond_F hf Z ?_
  refine wp_skip ?_
  refine hN2 _ _ ?_
  refine bnd H (fun x6 H6 HO6 => ?_)
  clear H
  refine seq_cut (fun a w => ∃ (x6s : Unit), x6 = .go x6s ∧ Fr a 41 [] ∧ St M w0 w []) (fun Q6 hJ6 hR6 hX6 => ?_) (fun a w hJ => ?_)
  ·
   replace H := H6
   refine seq_n (fun Q7 hN7 hR7 hX7 => ?_)
   refine itt H (fun hc8 H => ?_) (fun hc8 H => ?_)
   ·
    refine region_k (fun K9 hK9 => ?_)
    refine stq hf Z Z Z (ex_move hf Z) fun a hf => stq hf Z Z Z (ex_move hf Z) fun a hf => stq hf Z Z Z (ex_nilCheck hf Z) fun a hf => stq hf Z Z Z (ex_fieldAddrB fa_71_0 Z hf Z) fun a hf => stq hf Z Z Z (ex_indexAddrAC 0 ia_68 Z hc8 (by decide) Z hf Z Z) fun a hf => stq hf Z Z Z (ex_load sc_67 hf Z (sb_cell1 (i := 0) (hr.now hs (i := 0) Z) Z Z)) fun a hf => stq hf Z Z Z (ex_lenS Try.underlying67 (ids_isSl (hr.now hs (i := 1) Z) (hr.now hs (i := 2) Z)) hf Z) fun a hf => stq hf Z Z Z (ex_move hf Z) fun a hf => ?_
    refine hK9 _ _ ?_
    refine hN7 _ _ ?_
    refine block_k (fun Q10 hN10 hR10 hX10 hY10 => ?_)
    refine loop_k (fun n a w => ∃ (y11 : Int), Fr a 41 [(2, .int .u64 a2), (17, Va), (18, .int .i64 (Aa.length : Int)), (19, .int .i64 y11)] ∧ St M w0 w [] ∧ iospace_Bus_find.l1 n Aa a2 y11 = some x6) k ?_ (fun n13 a w hI Q13 hL13 hR13 hX13 => ?_)
    ·
     exact ⟨0, hf.sub ⟨Z, Z, Z, Z, trivial⟩, hs, H⟩
    ·
     obtain ⟨y11, hf, hs, H⟩ := hI
     cases n13 with
     | zero => exact absurd H (by rw [iospace_Bus_find.l1.eq_1]; intro h; cases h)
     | succ k13 =>
      replace H := (iospace_Bus_find.l1.eq_2 ..).symm.trans H
      refine seq_reg (fun K14 hK14 => ?_)
      refine stq hf Z Z Z (ex_lss hf Z Z) fun a hf => ?_
      refine hK14 _ _ ?_
      refine seq_n (fun Q15 hN15 hR15 hX15 => ?_)
      refine itt H (fun hc16 H => ?_) (fun hc16 H => ?_)
      ·
       replace hf := hf.castB (t := 20) Z (dec_t hc16)
       refine cond_T hf Z ?_
       refine wp_skip ?_
       refine hN15 _ _ ?_
       refine seq_n (fun Q17 hN17 hR17 hX17 => ?_)
       refine block_k (fun Q18 hN18 hR18 hX18 hY18 => ?_)
       refine ck_some H (fun hc19 H => ?_)
       refine seq_reg (fun K20 hK20 => ?_)
       refine stq hf Z Z Z (ex_indexAddr sa_67 (ids_isSl (hr.now hs (i := 1) Z) (hr.now hs (i := 2) Z)) hc19.1 hc19.2 hf Z Z) fun a hf => stq hf Z Z Z (ex_load sc_76 hf Z (ids_cell (F := Fm) (hr.now hs (i := 1) Z) (hr.now hs (i := 2) Z) ((0, 0) : Nat × Nat) hc19.1 hc19.2)) fun a hf => stq hf Z Z Z (ex_assign hf Z) fun a hf => ?_
       refine hK20 _ _ ?_
       refine bnd H (fun x21 H21 HO21 => ?_)
       clear H
       refine seq_cut (fun a w => Fr a 41 [(2, .int .u64 a2), (8, .pointer (some ⟨Fm.blk (gd ((0, 0) : Nat × Nat) Ga y11), 0, none⟩)), (17, Va), (18, .int .i64 (Aa.length : Int)), (19, .int .i64 y11), (38, .bool x21)] ∧ St M w0 w []) (fun Q21 hJ21 hR21 hX21 => ?_) (fun a w hJ => ?_)
       ·
        replace H := H21
        refine itt H (fun hc22 H => ?_) (fun hc22 H => ?_)
        ·
         refine bnd H (fun s23 hs23 H => ?_)
         refine region_k (fun K24 hK24 => ?_)
         refine stq hf Z Z Z (ex_move hf Z) fun a hf => stq hf Z Z Z (ex_move hf Z) fun a hf => stq hf Z Z Z (ex_nilCheck hf Z) fun a hf => stq hf Z Z Z (ex_fieldAddrB fa_80_0 Z hf Z) fun a hf => stq hf Z Z Z (ex_fieldAddrB fa_32_0 Z hf Z) fun a hf => stq hf Z Z Z (ex_load sc_22 hf Z (nd_cell (F := Fm) (hr.now hs (i := 2) Z) ((0, 0) : Nat × Nat) mapping.zero hc19.1 hc19.2 0 Z)) fun a hf => stq hf Z Z Z (ex_geq hf Z Z) fun a hf => stq hf Z Z Z (ex_move hf Z) fun a hf => ?_
         replace hf := hf.castB (t := 29) Z (dec_t hc22)
         replace hf := hf.castB (t := 30) Z (dec_t hc22)
         refine stq hf Z Z Z (ex_move hf Z) fun a hf => stq hf Z Z Z (ex_move hf Z) fun a hf => stq hf Z Z Z (ex_nilCheck hf Z) fun a hf => stq hf Z Z Z (ex_fieldAddrB fa_80_0 Z hf Z) fun a hf => stq hf Z Z Z (ex_loadA (cs := [.int .u64 ((gd mapping.zero Aa y11).r.Base), .int .u64 ((gd mapping.zero Aa y11).r.Len)]) ag_32 hf Z (bx_cells (nd_node (F := Fm) (hr.now hs (i := 2) Z) ((0, 0) : Nat × Nat) mapping.zero hc19.1 hc19.2 _ List.mem_cons_self) Z)) fun a hf => ?_
         refine stepF hf Z Z Z (ex_call cf_33 hf Z) (iospace_last.calls k13 (⟨((gd mapping.zero Aa y11).r.Base), ((gd mapping.zero Aa y11).r.Len)⟩ : Range) (hs.enter .nil) (Sr.nil _ _) hs23) (fun v w hR a hf => ?_)
         obtain ⟨rfl, hs'⟩ := hR
         replace hs := hs.step .nil hs'
         clear hs'
         refine stq hf Z Z Z (ex_leq hf Z Z) fun a hf => stq hf Z Z Z (ex_pickT hf Z Z) fun a hf => ?_
         refine hK24 _ _ ?_
         have e21 := some_eq H; subst e21
         exact hJ21 _ _ ⟨hf.sub ⟨Z, Z, Z, Z, Z, Z, trivial⟩, hs⟩
        ·
         refine region_k (fun K25 hK25 => ?_)
         refine stq hf Z Z Z (ex_move hf Z) fun a hf => stq hf Z Z Z (ex_move hf Z) fun a hf => stq hf Z Z Z (ex_nilCheck hf Z) fun a hf => stq hf Z Z Z (ex_fieldAddrB fa_80_0 Z hf Z) fun a hf => stq hf Z Z Z (ex_fieldAddrB fa_32_0 Z hf Z) fun a hf => stq hf Z Z Z (ex_load sc_22 hf Z (nd_cell (F := Fm) (hr.now hs (i := 2) Z) ((0, 0) : Nat × Nat) mapping.zero hc19.1 hc19.2 0 Z)) fun a hf => stq hf Z Z Z (ex_geq hf Z Z) fun a hf => stq hf Z Z Z (ex_move hf Z) fun a hf => ?_
         replace hf := hf.castB (t := 29) Z (dec_f hc22)
         replace hf := hf.castB (t := 30) Z (dec_f hc22)
         refine stepN hf Z Z Z fun a hf => stepN hf Z Z Z fun a hf => stepN hf Z Z Z fun a hf => stepN hf Z Z Z fun a hf => stepN hf Z Z Z fun a hf => stepN hf Z Z Z fun a hf => stepN hf Z Z Z fun a hf => stq hf Z Z Z (ex_pickF hf Z Z) fun a hf => ?_
         refine hK25 _ _ ?_
         have e21 := some_eq H; subst e21
         exact hJ21 _ _ ⟨hf.sub ⟨Z, Z, Z, Z, Z, Z, trivial⟩, hs⟩
       ·
        obtain ⟨hf, hs⟩ := hJ
        replace H := HO21
        clear HO21
        refine itt H (fun hc26 H => ?_) (fun hc26 H => ?_)
        ·
         replace hf := hf.castB (t := 38) Z hc26
         refine cond_T hf Z ?_
         refine seq_reg (fun K27 hK27 => ?_)
         refine stq hf Z Z Z (ex_move hf Z) fun a hf => stq hf Z Z Z (ex_assign hf Z) fun a hf => ?_
         refine hK27 _ _ ?_
         refine wp_ret ?_
         refine hR18 _ _ ?_
         refine hR17 _ _ ?_
         refine hR13 _ _ ?_
         refine hR10 _ _ ?_
         have e6 := some_eq H; subst e6; replace H := el_rt HO6
         refine hR6 _ _ ?_
         have eR := some_eq H; subst eR
         exact ret1 Try.results32 hf Z ⟨_, Z, .inl (⟨Z, hc19, Z, hs⟩)⟩
        ·
         replace hf := hf.castB (t := 38) Z (bool_f hc26)
         refine cond_F hf Z ?_
         refine wp_skip ?_
         refine hN18 _ _ ?_
         refine hN17 _ _ ?_
         refine region_k (fun K28 hK28 => ?_)
         refine stq hf Z Z Z (ex_add hf Z Z) fun a hf => stq hf Z Z Z (ex_move hf Z) fun a hf => ?_
         refine hK28 _ _ ?_
         exact hL13 k13 _ _ (Nat.lt_succ_self _) ⟨(IntKind.i64.wrap (y11 + 1)), hf.sub ⟨Z, Z, Z, Z, trivial⟩, hs, H⟩
      ·
       replace hf := hf.castB (t := 20) Z (dec_f hc16)
       refine cond_F hf Z ?_
       refine wp_exit ?_
       refine hX15 0 _ _ ?_
       refine hX13 0 _ _ ?_
       refine hX10 _ _ ?_
       have e6 := some_eq H; subst e6
       exact hJ6 _ _ ⟨_, Z, hf.sub trivial, hs⟩
   ·
    refine itt H (fun hc29 H => ?_) (fun hc29 H => ?_)
    ·
     refine region_k (fun K30 hK30 => ?_)
     refine stq hf Z Z Z (ex_move hf Z) fun a hf => stq hf Z Z Z (ex_move hf Z) fun a hf => stq hf Z Z Z (ex_nilCheck hf Z) fun a hf => stq hf Z Z Z (ex_fieldAddrB fa_71_0 Z hf Z) fun a hf => stq hf Z Z Z (ex_indexAddrAC 1 ia_68 Z hc29 (by decide) Z hf Z Z) fun a hf => stq hf Z Z Z (ex_load sc_67 hf Z (sb_cell1 (i := 1) (hr.now hs (i := 0) Z) Z Z)) fun a hf => stq hf Z Z Z (ex_lenS Try.underlying67 (ids_isSl (hr.now hs (i := 3) Z) (hr.now hs (i := 4) Z)) hf Z) fun a hf => stq hf Z Z Z (ex_move hf Z) fun a hf => ?_
     refine hK30 _ _ ?_
     refine hN7 _ _ ?_
     refine block_k (fun Q31 hN31 hR31 hX31 hY31 => ?_)
     refine loop_k (fun n a w => ∃ (y32 : Int), Fr a 41 [(2, .int .u64 a2), (17, Vb), (18, .int .i64 (Ab.length : Int)), (19, .int .i64 y32)] ∧ St M w0 w [] ∧ iospace_Bus_find.l2 n Ab a2 y32 = some x6) k ?_ (fun n34 a w hI Q34 hL34 hR34 hX34 => ?_)
     ·
      exact ⟨0, hf.sub ⟨Z, Z, Z, Z, trivial⟩, hs, H⟩
     ·
      obtain ⟨y32, hf, hs, H⟩ := hI
      cases n34 with
      | zero => exact absurd H (by rw [iospace_Bus_find.l2.eq_1]; intro h; cases h)
      | succ k34 =>
       replace H := (iospace_Bus_find.l2.eq_2 ..).symm.trans H
       refine seq_reg (fun K35 hK35 => ?_)
       refine stq hf Z Z Z (ex_lss hf Z Z) fun a hf => ?_
       refine hK35 _ _ ?_
       refine seq_n (fun Q36 hN36 hR36 hX36 => ?_)
       refine itt H (fun hc37 H => ?_) (fun hc37 H => ?_)
       ·
        replace hf := hf.castB (t := 20) Z (dec_t hc37)
        refine cond_T hf Z ?_
        refine wp_skip ?_
        refine hN36 _ _ ?_
        refine seq_n (fun Q38 hN38 hR38 hX38 => ?_)
        refine block_k (fun Q39 hN39 hR39 hX39 hY39 => ?_)
        refine ck_some H (fun hc40 H => ?_)
        refine seq_reg (fun K41 hK41 => ?_)
        refine stq hf Z Z Z (ex_indexAddr sa_67 (ids_isSl (hr.now hs (i := 3) Z) (hr.now hs (i := 4) Z)) hc40.1 hc40.2 hf Z Z) fun a hf => stq hf Z Z Z (ex_load sc_76 hf Z (ids_cell (F := Fm) (hr.now hs (i := 3) Z) (hr.now hs (i := 4) Z) ((0, 0) : Nat × Nat) hc40.1 hc40.2)) fun a hf => stq hf Z Z Z (ex_assign hf Z) fun a hf => ?_
        refine hK41 _ _ ?_
        refine bnd H (fun x42 H42 HO42 => ?_)
        clear H
        refine seq_cut (fun a w => Fr a 41 [(2, .int .u64 a2), (8, .pointer (some ⟨Fm.blk (gd ((0, 0) : Nat × Nat) Gb y32), 0, none⟩)), (17, Vb), (18, .int .i64 (Ab.length : Int)), (19, .int .i64 y32), (38, .bool x42)] ∧ St M w0 w []) (fun Q42 hJ42 hR42 hX42 => ?_) (fun a w hJ => ?_)
        ·
         replace H := H42
         refine itt H (fun hc43 H => ?_) (fun hc43 H => ?_)
         ·
          refine bnd H (fun s44 hs44 H => ?_)
          refine region_k (fun K45 hK45 => ?_)
          refine stq hf Z Z Z (ex_move hf Z) fun a hf => stq hf Z Z Z (ex_move hf Z) fun a hf => stq hf Z Z Z (ex_nilCheck hf Z) fun a hf => stq hf Z Z Z (ex_fieldAddrB fa_80_0 Z hf Z) fun a hf => stq hf Z Z Z (ex_fieldAddrB fa_32_0 Z hf Z) fun a hf => stq hf Z Z Z (ex_load sc_22 hf Z (nd_cell (F := Fm) (hr.now hs (i := 4) Z) ((0, 0) : Nat × Nat) mapping.zero hc40.1 hc40.2 0 Z)) fun a hf => stq hf Z Z Z (ex_geq hf Z Z) fun a hf => stq hf Z Z Z (ex_move hf Z) fun a hf => ?_
          replace hf := hf.castB (t := 29) Z (dec_t hc43)
          replace hf := hf.castB (t := 30) Z (dec_t hc43)
          refine stq hf Z Z Z (ex_move hf Z) fun a hf => stq hf Z Z Z (ex_move hf Z) fun a hf => stq hf Z Z Z (ex_nilCheck hf Z) fun a hf => stq hf Z Z Z (ex_fieldAddrB fa_80_0 Z hf Z) fun a hf => stq hf Z Z Z (ex_loadA (cs := [.int .u64 ((gd mapping.zero Ab y32).r.Base), .int .u64 ((gd mapping.zero Ab y32).r.Len)]) ag_32 hf Z (bx_cells (nd_node (F := Fm) (hr.now hs (i := 4) Z) ((0, 0) : Nat × Nat) mapping.zero hc40.1 hc40.2 _ List.mem_cons_self) Z)) fun a hf => ?_
          refine stepF hf Z Z Z (ex_call cf_33 hf Z) (iospace_last.calls k34 (⟨((gd mapping.zero Ab y32).r.Base), ((gd mapping.zero Ab y32).r.Len)⟩ : Range) (hs.enter .nil) (Sr.nil _ _) hs44) (fun v w hR a hf => ?_)
          obtain ⟨rfl, hs'⟩ := hR
          replace hs := hs.step .nil hs'
          clear hs'
          refine stq hf Z Z Z (ex_leq hf Z Z) fun a hf => stq hf Z Z Z (ex_pickT hf Z Z) fun a hf => ?_
          refine hK45 _ _ ?_
          have e42 := some_eq H; subst e42
          exact hJ42 _ _ ⟨hf.sub ⟨Z, Z, Z, Z, Z, Z, trivial⟩, hs⟩
         ·
          refine region_k (fun K46 hK46 => ?_)
          refine stq hf Z Z Z (ex_move hf Z) fun a hf => stq hf Z Z Z (ex_move hf Z) fun a hf => stq hf Z Z Z (ex_nilCheck hf Z) fun a hf => stq hf Z Z Z (ex_fieldAddrB fa_80_0 Z hf Z) fun a hf => stq hf Z Z Z (ex_fieldAddrB fa_32_0 Z hf Z) fun a hf => stq hf Z Z Z (ex_load sc_22 hf Z (nd_cell (F := Fm) (hr.now hs (i := 4) Z) ((0, 0) : Nat × Nat) mapping.zero hc40.1 hc40.2 0 Z)) fun a hf => stq hf Z Z Z (ex_geq hf Z Z) fun a hf => stq hf Z Z Z (ex_move hf Z) fun a hf => ?_
          replace hf := hf.castB (t := 29) Z (dec_f hc43)
          replace hf := hf.castB (t := 30) Z (dec_f hc43)
          refine stepN hf Z Z Z fun a hf => stepN hf Z Z Z fun a hf => stepN hf Z Z Z fun a hf => stepN hf Z Z Z fun a hf => stepN hf Z Z Z fun a hf => stepN hf Z Z Z fun a hf => stepN hf Z Z Z fun a hf => stq hf Z Z Z (ex_pickF hf Z Z) fun a hf => ?_
          refine hK46 _ _ ?_
          have e42 := some_eq H; subst e42
          exact hJ42 _ _ ⟨hf.sub ⟨Z, Z, Z, Z, Z, Z, trivial⟩, hs⟩
        ·
         obtain ⟨hf, hs⟩ := hJ
         replace H := HO42
         clear HO42
         refine itt H (fun hc47 H => ?_) (fun hc47 H => ?_)
         ·
          replace hf := hf.castB (t := 38) Z hc47
          refine cond_T hf Z ?_
          refine seq_reg (fun K48 hK48 => ?_)
          refine stq hf Z Z Z (ex_move hf Z) fun a hf => stq hf Z Z Z (ex_assign hf Z) fun a hf => ?_
          refine hK48 _ _ ?_
          refine wp_ret ?_
          refine hR39 _ _ ?_
          refine hR38 _ _ ?_
          refine hR34 _ _ ?_
          refine hR31 _ _ ?_
          have e6 := some_eq H; subst e6; replace H := el_rt HO6
          refine hR6 _ _ ?_
          have eR := some_eq H; subst eR
          exact ret1 Try.results32 hf Z ⟨_, Z, .inr (.inl (⟨Z, hc40, Z, hs⟩))⟩
         ·
          replace hf := hf.castB (t := 38) Z (bool_f hc47)
          refine cond_F hf Z ?_
          refine wp_skip ?_
          refine hN39 _ _ ?_
          refine hN38 _ _ ?_
          refine region_k (fun K49 hK49 => ?_)
          refine stq hf Z Z Z (ex_add hf Z Z) fun a hf => stq hf Z Z Z (ex_move hf Z) fun a hf => ?_
          refine hK49 _ _ ?_
          exact hL34 k34 _ _ (Nat.lt_succ_self _) ⟨(IntKind.i64.wrap (y32 + 1)), hf.sub ⟨Z, Z, Z, Z, trivial⟩, hs, H⟩
       ·
        replace hf := hf.castB (t := 20) Z (dec_f hc37)
        refine cond_F hf Z ?_
        refine wp_exit ?_
        refine hX36 0 _ _ ?_
        refine hX34 0 _ _ ?_
        refine hX31 _ _ ?_
        have e6 := some_eq H; subst e6
        exact hJ6 _ _ ⟨_, Z, hf.sub trivial, hs⟩
    ·
     refine itt H (fun hc50 H => ?_) (fun hc50 H => ?_)
     ·
      refine region_k (fun K51 hK51 => ?_)
      refine stq hf Z Z Z (ex_move hf Z) fun a hf => stq hf Z Z Z (ex_move hf Z) fun a hf => stq hf Z Z Z (ex_nilCheck hf Z) fun a hf => stq hf Z Z Z (ex_fieldAddrB fa_71_0 Z hf Z) fun a hf => stq hf Z Z Z (ex_indexAddrAC 2 ia_68 Z hc50 (by decide) Z hf Z Z) fun a hf => stq hf Z Z Z (ex_load sc_67 hf Z (sb_cell1 (i := 2) (hr.now hs (i := 0) Z) Z Z)) fun a hf => stq hf Z Z Z (ex_lenS Try.underlying67 (ids_isSl (hr.now hs (i := 5) Z) (hr.now hs (i := 6) Z)) hf Z) fun a hf => stq hf Z Z Z (ex_move hf Z) fun a hf => ?_
      refine hK51 _ _ ?_
      refine hN7 _ _ ?_
      refine block_k (fun Q52 hN52 hR52 hX52 hY52 => ?_)
      refine loop_k (fun n a w => ∃ (y53 : Int), Fr a 41 [(2, .int .u64 a2), (17, Vc), (18, .int .i64 (Ac.length : Int)), (19, .int .i64 y53)] ∧ St M w0 w [] ∧ iospace_Bus_find.l3 n Ac a2 y53 = some x6) k ?_ (fun n55 a w hI Q55 hL55 hR55 hX55 => ?_)
      ·
       exact ⟨0, hf.sub ⟨Z, Z, Z, Z, trivial⟩, hs, H⟩
      ·
       obtain ⟨y53, hf, hs, H⟩ := hI
       cases n55 with
       | zero => exact absurd H (by rw [iospace_Bus_find.l3.eq_1]; intro h; cases h)
       | succ k55 =>
        replace H := (iospace_Bus_find.l3.eq_2 ..).symm.trans H
        refine seq_reg (fun K56 hK56 => ?_)
        refine stq hf Z Z Z (ex_lss hf Z Z) fun a hf => ?_
        refine hK56 _ _ ?_
        refine seq_n (fun Q57 hN57 hR57 hX57 => ?_)
        refine itt H (fun hc58 H => ?_) (fun hc58 H => ?_)
        ·
         replace hf := hf.castB (t := 20) Z (dec_t hc58)
         refine cond_T hf Z ?_
         refine wp_skip ?_
         refine hN57 _ _ ?_
         refine seq_n (fun Q59 hN59 hR59 hX59 => ?_)
         refine block_k (fun Q60 hN60 hR60 hX60 hY60 => ?_)
         refine ck_some H (fun hc61 H => ?_)
         refine seq_reg (fun K62 hK62 => ?_)
         refine stq hf Z Z Z (ex_indexAddr sa_67 (ids_isSl (hr.now hs (i := 5) Z) (hr.now hs (i := 6) Z)) hc61.1 hc61.2 hf Z Z) fun a hf => stq hf Z Z Z (ex_load sc_76 hf Z (ids_cell (F := Fm) (hr.now hs (i := 5) Z) (hr.now hs (i := 6) Z) ((0, 0) : Nat × Nat) hc61.1 hc61.2)) fun a hf => stq hf Z Z Z (ex_assign hf Z) fun a hf => ?_
         refine hK62 _ _ ?_
         refine bnd H (fun x63 H63 HO63 => ?_)
         clear H
         refine seq_cut (fun a w => Fr a 41 [(2, .int .u64 a2), (8, .pointer (some ⟨Fm.blk (gd ((0, 0) : Nat × Nat) Gc y53), 0, none⟩)), (17, Vc), (18, .int .i64 (Ac.length : Int)), (19, .int .i64 y53), (38, .bool x63)] ∧ St M w0 w []) (fun Q63 hJ63 hR63 hX63 => ?_) (fun a w hJ => ?_)
         ·
          replace H := H63
          refine itt H (fun hc64 H => ?_) (fun hc64 H => ?_)
          ·
           refine bnd H (fun s65 hs65 H => ?_)
           refine region_k (fun K66 hK66 => ?_)
           refine stq hf Z Z Z (ex_move hf Z) fun a hf => stq hf Z Z Z (ex_move hf Z) fun a hf => stq hf Z Z Z (ex_nilCheck hf Z) fun a hf => stq hf Z Z Z (ex_fieldAddrB fa_80_0 Z hf Z) fun a hf => stq hf Z Z Z (ex_fieldAddrB fa_32_0 Z hf Z) fun a hf => stq hf Z Z Z (ex_load sc_22 hf Z (nd_cell (F := Fm) (hr.now hs (i := 6) Z) ((0, 0) : Nat × Nat) mapping.zero hc61.1 hc61.2 0 Z)) fun a hf => stq hf Z Z Z (ex_geq hf Z Z) fun a hf => stq hf Z Z Z (ex_move hf Z) fun a hf => ?_
           replace hf := hf.castB (t := 29) Z (dec_t hc64)
           replace hf := hf.castB (t := 30) Z (dec_t hc64)
           refine stq hf Z Z Z (ex_move hf Z) fun a hf => stq hf Z Z Z (ex_move hf Z) fun a hf => stq hf Z Z Z (ex_nilCheck hf Z) fun a hf => stq hf Z Z Z (ex_fieldAddrB fa_80_0 Z hf Z) fun a hf => stq hf Z Z Z (ex_loadA (cs := [.int .u64 ((gd mapping.zero Ac y53).r.Base), .int .u64 ((gd mapping.zero Ac y53).r.Len)]) ag_32 hf Z (bx_cells (nd_node (F := Fm) (hr.now hs (i := 6) Z) ((0, 0) : Nat × Nat) mapping.zero hc61.1 hc61.2 _ List.mem_cons_self) Z)) fun a hf => ?_
           refine stepF hf Z Z Z (ex_call cf_33 hf Z) (iospace_last.calls k55 (⟨((gd mapping.zero Ac y53).r.Base), ((gd mapping.zero Ac y53).r.Len)⟩ : Range) (hs.enter .nil) (Sr.nil _ _) hs65) (fun v w hR a hf => ?_)
           obtain ⟨rfl, hs'⟩ := hR
           replace hs := hs.step .nil hs'
           clear hs'
           refine stq hf Z Z Z (ex_leq hf Z Z) fun a hf => stq hf Z Z Z (ex_pickT hf Z Z) fun a hf => ?_
           refine hK66 _ _ ?_
           have e63 := some_eq H; subst e63
           exact hJ63 _ _ ⟨hf.sub ⟨Z, Z, Z, Z, Z, Z, trivial⟩, hs⟩
          ·
           refine region_k (fun K67 hK67 => ?_)
           refine stq hf Z Z Z (ex_move hf Z) fun a hf => stq hf Z Z Z (ex_move hf Z) fun a hf => stq hf Z Z Z (ex_nilCheck hf Z) fun a hf => stq hf Z Z Z (ex_fieldAddrB fa_80_0 Z hf Z) fun a hf => stq hf Z Z Z (ex_fieldAddrB fa_32_0 Z hf Z) fun a hf => stq hf Z Z Z (ex_load sc_22 hf Z (nd_cell (F := Fm) (hr.now hs (i := 6) Z) ((0, 0) : Nat × Nat) mapping.zero hc61.1 hc61.2 0 Z)) fun a hf => stq hf Z Z Z (ex_geq hf Z Z) fun a hf => stq hf Z Z Z (ex_move hf Z) fun a hf => ?_
           replace hf := hf.castB (t := 29) Z (dec_f hc64)
           replace hf := hf.castB (t := 30) Z (dec_f hc64)
           refine stepN hf Z Z Z fun a hf => stepN hf Z Z Z fun a hf => stepN hf Z Z Z fun a hf => stepN hf Z Z Z fun a hf => stepN hf Z Z Z fun a hf => stepN hf Z Z Z fun a hf => stepN hf Z Z Z fun a hf => stq hf Z Z Z (ex_pickF hf Z Z) fun a hf => ?_
           refine hK67 _ _ ?_
           have e63 := some_eq H; subst e63
           exact hJ63 _ _ ⟨hf.sub ⟨Z, Z, Z, Z, Z, Z, trivial⟩, hs⟩
         ·
          obtain ⟨hf, hs⟩ := hJ
          replace H := HO63
          clear HO63
          refine itt H (fun hc68 H => ?_) (fun hc68 H => ?_)
          ·
           replace hf := hf.castB (t := 38) Z hc68
           refine cond_T hf Z ?_
           refine seq_reg (fun K69 hK69 => ?_)
           refine stq hf Z Z Z (ex_move hf Z) fun a hf => stq hf Z Z Z (ex_assign hf Z) fun a hf => ?_
           refine hK69 _ _ ?_
           refine wp_ret ?_
           refine hR60 _ _ ?_
           refine hR59 _ _ ?_
           refine hR55 _ _ ?_
           refine hR52 _ _ ?_
           have e6 := some_eq H; subst e6; replace H := el_rt HO6
           refine hR6 _ _ ?_
           have eR := some_eq H; subst eR
           exact ret1 Try.results32 hf Z ⟨_, Z, .inr (.inr (.inl (⟨Z, hc61, Z, hs⟩)))⟩
          ·
           replace hf := hf.castB (t := 38) Z (bool_f hc68)
           refine cond_F hf Z ?_
           refine wp_skip ?_
           refine hN60 _ _ ?_
           refine hN59 _ _ ?_
           refine region_k (fun K70 hK70 => ?_)
           refine stq hf Z Z Z (ex_add hf Z Z) fun a hf => stq hf Z Z Z (ex_move hf Z) fun a hf => ?_
           refine hK70 _ _ ?_
           exact hL55 k55 _ _ (Nat.lt_succ_self _) ⟨(IntKind.i64.wrap (y53 + 1)), hf.sub ⟨Z, Z, Z, Z, trivial⟩, hs, H⟩
        ·
         replace hf := hf.castB (t := 20) Z (dec_f hc58)
         refine cond_F hf Z ?_
         refine wp_exit ?_
         refine hX57 0 _ _ ?_
         refine hX55 0 _ _ ?_
         refine hX52 _ _ ?_
         have e6 := some_eq H; subst e6
         exact hJ6 _ _ ⟨_, Z, hf.sub trivial, hs⟩
     ·
      cases H
  ·
   obtain ⟨x6s, rfl, hf, hs⟩ := hJ
   replace H := el_go HO6
   clear HO6
   refine seq_reg (fun K71 hK71 => ?_)
   refine stq hf Z Z Z (ex_assign hf Z) fun a hf => ?_
   refine hK71 _ _ ?_
   refine wp_ret ?_
   have eR := some_eq H; subst eR
   exact ret1 Try.results32 hf Z ⟨_, Z, .inr (.inr (.inr (⟨Z, Z, hs⟩)))⟩
 ·
  replace hf := hf.castB (t := 11) Z (nbool_t hc5)
  refine cond_T hf Z ?_
  refine seq_reg (fun K72 hK72 => ?_)
  refine stq hf Z Z Z (ex_assign hf Z) fun a hf => ?_
  refine hK72 _ _ ?_
  refine wp_ret ?_
  refine hR2 _ _ ?_
  have eR := some_eq H; subst eR
  exact ret1 Try.results32 hf Z ⟨_, Z, .inr (.inr (.inr (⟨Z, Z, hs⟩)))⟩

set_option maxRecDepth 100000 in
theorem iospace_Bus_Owner.calls {M : Nat → Prop} {w0 : World} (k : Nat) (Aa : (List mapping)) (Ab : (List mapping)) (Ac : (List mapping)) (Ae : (List Bool)) (Af : (List fault)) (At : (List Traced)) (a1 : Int) (a2 : Int) (b0 : Nat) (Va : Value) (Ga : (List (Nat × Nat))) (Vb : Value) (Gb : (List (Nat × Nat))) (Vc : Value) (Gc : (List (Nat × Nat))) (Vf : Value) (Gf : (List Nat)) (Vt : Value) {r : Int} (hs : St M w0 w0 []) (hr : Sr M w0 [bxs b0 71 [([Va], 1), ([Vb], 1), ([Vc], 1), (List.map Value.bool Ae, 256), ([Vf], 1), ([Vt], 1)], rsl Km Va (ids Fm Ga), nds Fm Ga Aa, rsl Km Vb (ids Fm Gb), nds Fm Gb Ab, rsl Km Vc (ids Fm Gc), nds Fm Gc Ac, rsl Kf Vf (ids Ff Gf), nds Ff Gf Af, rsl Kt Vt At])
  (h : iospace_Bus_Owner.f k Aa Ab Ac Ae Af At a1 a2 = some r) : Calls Try.prog 15 #[.pointer (some ⟨b0, 0, none⟩), .int .i64 a1, .int .u64 a2] w0 fun e w => ∃ v, e = .returned v ∧ (.int .i64 r = v ∧ St M w0 w []) := by
 have H := (iospace_Bus_Owner.f.eq_1 ..).symm.trans h
 clear h
 refine enter Try.func15 Z Try.ntmps15 Z (fun a hf => ?_)
 refine seq_reg (fun K1 hK1 => ?_)
 refine stq hf Z Z Z (ex_assign hf Z) fun a hf => ?_
 refine hK1 _ _ ?_
 refine seq_n (fun Q2 hN2 hR2 hX2 => ?_)
 refine seq_n (fun Q3 hN3 hR3 hX3 => ?_)
 refine bnd H (fun s4 hs4 H => ?_)
 refine itt H (fun hq5 H => ?_) (fun hq5 H => ?_)
 ·
  refine region_k (fun K7 hK7 => ?_)
  refine stq hf Z Z Z (ex_move hf Z) fun a hf => stq hf Z Z Z (ex_move hf Z) fun a hf => stq hf Z Z Z (ex_move hf Z) fun a hf => ?_
  refine stepF hf Z Z Z (ex_call cf_32 hf Z) (iospace_Bus_find.calls k Aa Ab Ac Ae Af At a1 a2 b0 Va Ga Vb Gb Vc Gc Vf Gf Vt (hs.enter .nil) (Sr.old hr hs .nil (i := 0) Z (fun _ h => h) (fun _ h => h) (Sr.old hr hs .nil (i := 1) Z (fun _ h => h) (fun _ h => h) (Sr.old hr hs .nil (i := 2) Z (fun _ h => h) (fun _ h => h) (Sr.old hr hs .nil (i := 3) Z (fun _ h => h) (fun _ h => h) (Sr.old hr hs .nil (i := 4) Z (fun _ h => h) (fun _ h => h) (Sr.old hr hs .nil (i := 5) Z (fun _ h => h) (fun _ h => h) (Sr.old hr hs .nil (i := 6) Z (fun _ h => h) (fun _ h => h) (Sr.old hr hs .nil (i := 7) Z (fun _ h => h) (fun _ h => h) (Sr.old hr hs .nil (i := 8) Z (fun _ h => h) (fun _ h => h) (Sr.old hr hs .nil (i := 9) Z (fun _ h => h) (fun _ h => h) (Sr.nil _ _))))))))))) hs4) (fun v w hR a hf => ?_)
  replace hR := Or.resolve_right hR (fun q => by rcases q with q | q | q <;> (have := q.1; omega))
  obtain ⟨_, hb6, rfl, hs'⟩ := hR
  replace hs := hs.step .nil hs'
  clear hs'
  refine stq hf Z Z Z (ex_assign hf Z) fun a hf => ?_
  refine hK7 _ _ ?_
  refine hN3 _ _ ?_
  refine seq_reg (fun K8 hK8 => ?_)
  refine stq hf Z Z Z (ex_move hf Z) fun a hf => stq hf Z Z Z (ex_nep Try.underlying76 hf Z Z) fun a hf => ?_
  refine hK8 _ _ ?_
  refine cond_T hf Z ?_
  refine seq_reg (fun K9 hK9 => ?_)
  refine stq hf Z Z Z (ex_move hf Z) fun a hf => stq hf Z Z Z (ex_nilCheck hf Z) fun a hf => stq hf Z Z Z (ex_fieldAddrB fa_80_1 Z hf Z) fun a hf => stq hf Z Z Z (ex_load sc_3 hf Z (nd_cell (F := Fm) (hr.now hs (i := 2) Z) ((0, 0) : Nat × Nat) mapping.zero hb6.1 hb6.2 2 Z)) fun a hf => stq hf Z Z Z (ex_assign hf Z) fun a hf => ?_
  refine hK9 _ _ ?_
  refine wp_ret ?_
  refine hR2 _ _ ?_
  have eR := some_eq H; subst eR
  exact ret1 Try.results15 hf Z ⟨_, Z, ⟨Z, hs⟩⟩
 ·
  refine itt H (fun hq10 H => ?_) (fun hq10 H => ?_)
  ·
   refine region_k (fun K12 hK12 => ?_)
   refine stq hf Z Z Z (ex_move hf Z) fun a hf => stq hf Z Z Z (ex_move hf Z) fun a hf => stq hf Z Z Z (ex_move hf Z) fun a hf => ?_
   refine stepF hf Z Z Z (ex_call cf_32 hf Z) (iospace_Bus_find.calls k Aa Ab Ac Ae Af At a1 a2 b0 Va Ga Vb Gb Vc Gc Vf Gf Vt (hs.enter .nil) (Sr.old hr hs .nil (i := 0) Z (fun _ h => h) (fun _ h => h) (Sr.old hr hs .nil (i := 1) Z (fun _ h => h) (fun _ h => h) (Sr.old hr hs .nil (i := 2) Z (fun _ h => h) (fun _ h => h) (Sr.old hr hs .nil (i := 3) Z (fun _ h => h) (fun _ h => h) (Sr.old hr hs .nil (i := 4) Z (fun _ h => h) (fun _ h => h) (Sr.old hr hs .nil (i := 5) Z (fun _ h => h) (fun _ h => h) (Sr.old hr hs .nil (i := 6) Z (fun _ h => h) (fun _ h => h) (Sr.old hr hs .nil (i := 7) Z (fun _ h => h) (fun _ h => h) (Sr.old hr hs .nil (i := 8) Z (fun _ h => h) (fun _ h => h) (Sr.old hr hs .nil (i := 9) Z (fun _ h => h) (fun _ h => h) (Sr.nil _ _))))))))))) hs4) (fun v w hR a hf => ?_)
   replace hR := Or.resolve_left hR (fun q => by have := q.1; omega)
   replace hR := Or.resolve_right hR (fun q => by rcases q with q | q <;> (have := q.1; omega))
   obtain ⟨_, hb11, rfl, hs'⟩ := hR
   replace hs := hs.step .nil hs'
   clear hs'
   refine stq hf Z Z Z (ex_assign hf Z) fun a hf => ?_
   refine hK12 _ _ ?_
   refine hN3 _ _ ?_
   refine seq_reg (fun K13 hK13 => ?_)
   refine stq hf Z Z Z (ex_move hf Z) fun a hf => stq hf Z Z Z (ex_nep Try.underlying76 hf Z Z) fun a hf => ?_
   refine hK13 _ _ ?_
   refine cond_T hf Z ?_
   refine seq_reg (fun K14 hK14 => ?_)
   refine stq hf Z Z Z (ex_move hf Z) fun a hf => stq hf Z Z Z (ex_nilCheck hf Z) fun a hf => stq hf Z Z Z (ex_fieldAddrB fa_80_1 Z hf Z) fun a hf => stq hf Z Z Z (ex_load sc_3 hf Z (nd_cell (F := Fm) (hr.now hs (i := 4) Z) ((0, 0) : Nat × Nat) mapping.zero hb11.1 hb11.2 2 Z)) fun a hf => stq hf Z Z Z (ex_assign hf Z) fun a hf => ?_
   refine hK14 _ _ ?_
   refine wp_ret ?_
   refine hR2 _ _ ?_
   have eR := some_eq H; subst eR
   exact ret1 Try.results15 hf Z ⟨_, Z, ⟨Z, hs⟩⟩
  ·
   refine itt H (fun hq15 H => ?_) (fun hq15 H => ?_)
   ·
    refine region_k (fun K17 hK17 => ?_)
    refine stq hf Z Z Z (ex_move hf Z) fun a hf => stq hf Z Z Z (ex_move hf Z) fun a hf => stq hf Z Z Z (ex_move hf Z) fun a hf => ?_
    refine stepF hf Z Z Z (ex_call cf_32 hf Z) (iospace_Bus_find.calls k Aa Ab Ac Ae Af At a1 a2 b0 Va Ga Vb Gb Vc Gc Vf Gf Vt (hs.enter .nil) (Sr.old hr hs .nil (i := 0) Z (fun _ h => h) (fun _ h => h) (Sr.old hr hs .nil (i := 1) Z (fun _ h => h) (fun _ h => h) (Sr.old hr hs .nil (i := 2) Z (fun _ h => h) (fun _ h => h) (Sr.old hr hs .nil (i := 3) Z (fun _ h => h) (fun _ h => h) (Sr.old hr hs .nil (i := 4) Z (fun _ h => h) (fun _ h => h) (Sr.old hr hs .nil (i := 5) Z (fun _ h => h) (fun _ h => h) (Sr.old hr hs .nil (i := 6) Z (fun _ h => h) (fun _ h => h) (Sr.old hr hs .nil (i := 7) Z (fun _ h => h) (fun _ h => h) (Sr.old hr hs .nil (i := 8) Z (fun _ h => h) (fun _ h => h) (Sr.old hr hs .nil (i := 9) Z (fun _ h => h) (fun _ h => h) (Sr.nil _ _))))))))))) hs4) (fun v w hR a hf => ?_)
    replace hR := Or.resolve_left hR (fun q => by have := q.1; omega)
    replace hR := Or.resolve_left hR (fun q => by have := q.1; omega)
    replace hR := Or.resolve_right hR (fun q => by have := q.1; omega)
    obtain ⟨_, hb16, rfl, hs'⟩ := hR
    replace hs := hs.step .nil hs'
    clear hs'
    refine stq hf Z Z Z (ex_assign hf Z) fun a hf => ?_
    refine hK17 _ _ ?_
    refine hN3 _ _ ?_
    refine seq_reg (fun K18 hK18 => ?_)
    refine stq hf Z Z Z (ex_move hf Z) fun a hf => stq hf Z Z Z (ex_nep Try.underlying76 hf Z Z) fun a hf => ?_
    refine hK18 _ _ ?_
    refine cond_T hf Z ?_
    refine seq_reg (fun K19 hK19 => ?_)
    refine stq hf Z Z Z (ex_move hf Z) fun a hf => stq hf Z Z Z (ex_nilCheck hf Z) fun a hf => stq hf Z Z Z (ex_fieldAddrB fa_80_1 Z hf Z) fun a hf => stq hf Z Z Z (ex_load sc_3 hf Z (nd_cell (F := Fm) (hr.now hs (i := 6) Z) ((0, 0) : Nat × Nat) mapping.zero hb16.1 hb16.2 2 Z)) fun a hf => stq hf Z Z Z (ex_assign hf Z) fun a hf => ?_
    refine hK19 _ _ ?_
    refine wp_ret ?_
    refine hR2 _ _ ?_
    have eR := some_eq H; subst eR
    exact ret1 Try.results15 hf Z ⟨_, Z, ⟨Z, hs⟩⟩
   ·
    refine region_k (fun K21 hK21 => ?_)
    refine stq hf Z Z Z (ex_move hf Z) fun a hf => stq hf Z Z Z (ex_move hf Z) fun a hf => stq hf Z Z Z (ex_move hf Z) fun a hf => ?_
    refine stepF hf Z Z Z (ex_call cf_32 hf Z) (iospace_Bus_find.calls k Aa Ab Ac Ae Af At a1 a2 b0 Va Ga Vb Gb Vc Gc Vf Gf Vt (hs.enter .nil) (Sr.old hr hs .nil (i := 0) Z (fun _ h => h) (fun _ h => h) (Sr.old hr hs .nil (i := 1) Z (fun _ h => h) (fun _ h => h) (Sr.old hr hs .nil (i := 2) Z (fun _ h => h) (fun _ h => h) (Sr.old hr hs .nil (i := 3) Z (fun _ h => h) (fun _ h => h) (Sr.old hr hs .nil (i := 4) Z (fun _ h => h) (fun _ h => h) (Sr.old hr hs .nil (i := 5) Z (fun _ h => h) (fun _ h => h) (Sr.old hr hs .nil (i := 6) Z (fun _ h => h) (fun _ h => h) (Sr.old hr hs .nil (i := 7) Z (fun _ h => h) (fun _ h => h) (Sr.old hr hs .nil (i := 8) Z (fun _ h => h) (fun _ h => h) (Sr.old hr hs .nil (i := 9) Z (fun _ h => h) (fun _ h => h) (Sr.nil _ _))))))))))) hs4) (fun v w hR a hf => ?_)
    replace hR := Or.resolve_left hR (fun q => by have := q.1; omega)
    replace hR := Or.resolve_left hR (fun q => by have := q.1; omega)
    replace hR := Or.resolve_left hR (fun q => by have := q.1; omega)
    obtain ⟨_, rfl, hs'⟩ := hR
    replace hs := hs.step .nil hs'
    clear hs'
    refine stq hf Z Z Z (ex_assign hf Z) fun a hf => ?_
    refine hK21 _ _ ?_
    refine hN3 _ _ ?_
    refine seq_reg (fun K22 hK22 => ?_)
    refine stq hf Z Z Z (ex_move hf Z) fun a hf => stq hf Z Z Z (ex_nep Try.underlying76 hf Z Z) fun a hf => ?_
    refine hK22 _ _ ?_
    refine cond_F hf Z ?_
    refine wp_skip ?_
    refine hN2 _ _ ?_
    refine seq_reg (fun K23 hK23 => ?_)
    refine stq hf Z Z Z (ex_assign hf Z) fun a hf => ?_
    refine hK23 _ _ ?_
    refine wp_ret ?_
    have eR := some_eq H; subst eR
    exact ret1 Try.results15 hf Z ⟨_, Z, ⟨Z, hs⟩⟩

set_option maxRecDepth 100000 in
theorem iospace_Bus_Peek.calls {M : Nat → Prop} {w0 : World} (k : Nat) (Aa : (List mapping)) (Ab : (List mapping)) (Ac : (List mapping)) (Ae : (List Bool)) (Af : (List fault)) (At : (List Traced)) (a1 : Int) (a2 : Int) (b0 : Nat) (Va : Value) (Ga : (List (Nat × Nat))) (Vb : Value) (Gb : (List (Nat × Nat))) (Vc : Value) (Gc : (List (Nat × Nat))) (Vf : Value) (Gf : (List Nat)) (Vt : Value) {r : Int × Bool} (hs : St M w0 w0 []) (hr : Sr M w0 [bxs b0 71 [([Va], 1), ([Vb], 1), ([Vc], 1), (List.map Value.bool Ae, 256), ([Vf], 1), ([Vt], 1)], rsl Km Va (ids Fm Ga), nds Fm Ga Aa, rsl Km Vb (ids Fm Gb), nds Fm Gb Ab, rsl Km Vc (ids Fm Gc), nds Fm Gc Ac, rsl Kf Vf (ids Ff Gf), nds Ff Gf Af, rsl Kt Vt At])
  (h : iospace_Bus_Peek.f k Aa Ab Ac Ae Af At a1 a2 = some r) : Calls Try.prog 17 #[.pointer (some ⟨b0, 0, none⟩), .int .i64 a1, .int .u64 a2] w0 fun e w => ∃ v, e = .returned v ∧ (.tuple #[.int .u8 r.1, .bool r.2] = v ∧ St M w0 w []) := by
 have H := (iospace_Bus_Peek.f.eq_1 ..).symm.trans h
 clear h
 refine enter Try.func17 Z Try.ntmps17 Z (fun a hf => ?_)
 refine seq_reg (fun K1 hK1 => ?_)
 refine stq hf Z Z Z (ex_assign hf Z) fun a hf => stq hf Z Z Z (ex_assign hf Z) fun a hf => ?_
 refine hK1 _ _ ?_
 refine seq_n (fun Q2 hN2 hR2 hX2 => ?_)
 refine bnd H (fun s3 hs3 H => ?_)
 refine itt H (fun hq4 H => ?_) (fun hq4 H => ?_)
 ·
  refine region_k (fun K6 hK6 => ?_)
  refine stq hf Z Z Z (ex_move hf Z) fun a hf => stq hf Z Z Z (ex_move hf Z) fun a hf => stq hf Z Z Z (ex_move hf Z) fun a hf => ?_
  refine stepF hf Z Z Z (ex_call cf_32 hf Z) (iospace_Bus_find.calls k Aa Ab Ac Ae Af At a1 a2 b0 Va Ga Vb Gb Vc Gc Vf Gf Vt (hs.enter .nil) (Sr.old hr hs .nil (i := 0) Z (fun _ h => h) (fun _ h => h) (Sr.old hr hs .nil (i := 1) Z (fun _ h => h) (fun _ h => h) (Sr.old hr hs .nil (i := 2) Z (fun _ h => h) (fun _ h => h) (Sr.old hr hs .nil (i := 3) Z (fun _ h => h) (fun _ h => h) (Sr.old hr hs .nil (i := 4) Z (fun _ h => h) (fun _ h => h) (Sr.old hr hs .nil (i := 5) Z (fun _ h => h) (fun _ h => h) (Sr.old hr hs .nil (i := 6) Z (fun _ h => h) (fun _ h => h) (Sr.old hr hs .nil (i := 7) Z (fun _ h => h) (fun _ h => h) (Sr.old hr hs .nil (i := 8) Z (fun _ h => h) (fun _ h => h) (Sr.old hr hs .nil (i := 9) Z (fun _ h => h) (fun _ h => h) (Sr.nil _ _))))))))))) hs3) (fun v w hR a hf => ?_)
  replace hR := Or.resolve_right hR (fun q => by rcases q with q | q | q <;> (have := q.1; omega))
  obtain ⟨_, hb5, rfl, hs'⟩ := hR
  replace hs := hs.step .nil hs'
  clear hs'
  refine stq hf Z Z Z (ex_assign hf Z) fun a hf => ?_
  refine hK6 _ _ ?_
  refine hN2 _ _ ?_
  refine seq_n (fun Q7 hN7 hR7 hX7 => ?_)
  refine seq_reg (fun K8 hK8 => ?_)
  refine stq hf Z Z Z (ex_move hf Z) fun a hf => stq hf Z Z Z (ex_eqp Try.underlying76 hf Z Z) fun a hf => ?_
  refine hK8 _ _ ?_
  refine cond_F hf Z ?_
  refine wp_skip ?_
  refine hN7 _ _ ?_
  refine seq_reg (fun K9 hK9 => ?_)
  refine stq hf Z Z Z (ex_move hf Z) fun a hf => stq hf Z Z Z (ex_nilCheck hf Z) fun a hf => stq hf Z Z Z (ex_fieldAddrB fa_80_2 Z hf Z) fun a hf => stq hf Z Z Z (ex_load sc_78 hf Z (nd_cell (F := Fm) (hr.now hs (i := 2) Z) ((0, 0) : Nat × Nat) mapping.zero hb5.1 hb5.2 3 Z)) fun a hf => stq hf Z Z Z (ex_move hf Z) fun a hf => stq hf Z Z Z (ex_lookup1 mt_78 (nd_more (F := Fm) (hr.now hs (i := 2) Z) ((0, 0) : Nat × Nat) mapping.zero hb5.1 hb5.2 0 Z) hf Z Z) fun a hf => stq hf Z Z Z (ex_assign hf Z) fun a hf => stq hf Z Z Z (ex_assign hf Z) fun a hf => ?_
  refine hK9 _ _ ?_
  refine wp_ret ?_
  have eR := some_eq H; subst eR
  exact ret2 Try.results17 hf Z Z ⟨_, Z, ⟨Z, hs⟩⟩
 ·
  refine itt H (fun hq10 H => ?_) (fun hq10 H => ?_)
  ·
   refine region_k (fun K12 hK12 => ?_)
   refine stq hf Z Z Z (ex_move hf Z) fun a hf => stq hf Z Z Z (ex_move hf Z) fun a hf => stq hf Z Z Z (ex_move hf Z) fun a hf => ?_
   refine stepF hf Z Z Z (ex_call cf_32 hf Z) (iospace_Bus_find.calls k Aa Ab Ac Ae Af At a1 a2 b0 Va Ga Vb Gb Vc Gc Vf Gf Vt (hs.enter .nil) (Sr.old hr hs .nil (i := 0) Z (fun _ h => h) (fun _ h => h) (Sr.old hr hs .nil (i := 1) Z (fun _ h => h) (fun _ h => h) (Sr.old hr hs .nil (i := 2) Z (fun _ h => h) (fun _ h => h) (Sr.old hr hs .nil (i := 3) Z (fun _ h => h) (fun _ h => h) (Sr.old hr hs .nil (i := 4) Z (fun _ h => h) (fun _ h => h) (Sr.old hr hs .nil (i := 5) Z (fun _ h => h) (fun _ h => h) (Sr.old hr hs .nil (i := 6) Z (fun _ h => h) (fun _ h => h) (Sr.old hr hs .nil (i := 7) Z (fun _ h => h) (fun _ h => h) (Sr.old hr hs .nil (i := 8) Z (fun _ h => h) (fun _ h => h) (Sr.old hr hs .nil (i := 9) Z (fun _ h => h) (fun _ h => h) (Sr.nil _ _))))))))))) hs3) (fun v w hR a hf => ?_)
   replace hR := Or.resolve_left hR (fun q => by have := q.1; omega)
   replace hR := Or.resolve_right hR (fun q => by rcases q with q | q <;> (have := q.1; omega))
   obtain ⟨_, hb11, rfl, hs'⟩ := hR
   replace hs := hs.step .nil hs'
   clear hs'
   refine stq hf Z Z Z (ex_assign hf Z) fun a hf => ?_
   refine hK12 _ _ ?_
   refine hN2 _ _ ?_
   refine seq_n (fun Q13 hN13 hR13 hX13 => ?_)
   refine seq_reg (fun K14 hK14 => ?_)
   refine stq hf Z Z Z (ex_move hf Z) fun a hf => stq hf Z Z Z (ex_eqp Try.underlying76 hf Z Z) fun a hf => ?_
   refine hK14 _ _ ?_
   refine cond_F hf Z ?_
   refine wp_skip ?_
   refine hN13 _ _ ?_
   refine seq_reg (fun K15 hK15 => ?_)
   refine stq hf Z Z Z (ex_move hf Z) fun a hf => stq hf Z Z Z (ex_nilCheck hf Z) fun a hf => stq hf Z Z Z (ex_fieldAddrB fa_80_2 Z hf Z) fun a hf => stq hf Z Z Z (ex_load sc_78 hf Z (nd_cell (F := Fm) (hr.now hs (i := 4) Z) ((0, 0) : Nat × Nat) mapping.zero hb11.1 hb11.2 3 Z)) fun a hf => stq hf Z Z Z (ex_move hf Z) fun a hf => stq hf Z Z Z (ex_lookup1 mt_78 (nd_more (F := Fm) (hr.now hs (i := 4) Z) ((0, 0) : Nat × Nat) mapping.zero hb11.1 hb11.2 0 Z) hf Z Z) fun a hf => stq hf Z Z Z (ex_assign hf Z) fun a hf => stq hf Z Z Z (ex_assign hf Z) fun a hf => ?_
   refine hK15 _ _ ?_
   refine wp_ret ?_
   have eR := some_eq H; subst eR
   exact ret2 Try.results17 hf Z Z ⟨_, Z, ⟨Z, hs⟩⟩
  ·
   refine itt H (fun hq16 H => ?_) (fun hq16 H => ?_)
   ·
    refine region_k (fun K18 hK18 => ?_)
    refine stq hf Z Z Z (ex_move hf Z) fun a hf => stq hf Z Z Z (ex_move hf Z) fun a hf => stq hf Z Z Z (ex_move hf Z) fun a hf => ?_
    refine stepF hf Z Z Z (ex_call cf_32 hf Z) (iospace_Bus_find.calls k Aa Ab Ac Ae Af At a1 a2 b0 Va Ga Vb Gb Vc Gc Vf Gf Vt (hs.enter .nil) (Sr.old hr hs .nil (i := 0) Z (fun _ h => h) (fun _ h => h) (Sr.old hr hs .nil (i := 1) Z (fun _ h => h) (fun _ h => h) (Sr.old hr hs .nil (i := 2) Z (fun _ h => h) (fun _ h => h) (Sr.old hr hs .nil (i := 3) Z (fun _ h => h) (fun _ h => h) (Sr.old hr hs .nil (i := 4) Z (fun _ h => h) (fun _ h => h) (Sr.old hr hs .nil (i := 5) Z (fun _ h => h) (fun _ h => h) (Sr.old hr hs .nil (i := 6) Z (fun _ h => h) (fun _ h => h) (Sr.old hr hs .nil (i := 7) Z (fun _ h => h) (fun _ h => h) (Sr.old hr hs .nil (i := 8) Z (fun _ h => h) (fun _ h => h) (Sr.old hr hs .nil (i := 9) Z (fun _ h => h) (fun _ h => h) (Sr.nil _ _))))))))))) hs3) (fun v w hR a hf => ?_)
    replace hR := Or.resolve_left hR (fun q => by have := q.1; omega)
    replace hR := Or.resolve_left hR (fun q => by have := q.1; omega)
    replace hR := Or.resolve_right hR (fun q => by have := q.1; omega)
    obtain ⟨_, hb17, rfl, hs'⟩ := hR
    replace hs := hs.step .nil hs'
    clear hs'
    refine stq hf Z Z Z (ex_assign hf Z) fun a hf => ?_
    refine hK18 _ _ ?_
    refine hN2 _ _ ?_
    refine seq_n (fun Q19 hN19 hR19 hX19 => ?_)
    refine seq_reg (fun K20 hK20 => ?_)
    refine stq hf Z Z Z (ex_move hf Z) fun a hf => stq hf Z Z Z (ex_eqp Try.underlying76 hf Z Z) fun a hf => ?_
    refine hK20 _ _ ?_
    refine cond_F hf Z ?_
    refine wp_skip ?_
    refine hN19 _ _ ?_
    refine seq_reg (fun K21 hK21 => ?_)
    refine stq hf Z Z Z (ex_move hf Z) fun a hf => stq hf Z Z Z (ex_nilCheck hf Z) fun a hf => stq hf Z Z Z (ex_fieldAddrB fa_80_2 Z hf Z) fun a hf => stq hf Z Z Z (ex_load sc_78 hf Z (nd_cell (F := Fm) (hr.now hs (i := 6) Z) ((0, 0) : Nat × Nat) mapping.zero hb17.1 hb17.2 3 Z)) fun a hf => stq hf Z Z Z (ex_move hf Z) fun a hf => stq hf Z Z Z (ex_lookup1 mt_78 (nd_more (F := Fm) (hr.now hs (i := 6) Z) ((0, 0) : Nat × Nat) mapping.zero hb17.1 hb17.2 0 Z) hf Z Z) fun a hf => stq hf Z Z Z (ex_assign hf Z) fun a hf => stq hf Z Z Z (ex_assign hf Z) fun a hf => ?_
    refine hK21 _ _ ?_
    refine wp_ret ?_
    have eR := some_eq H; subst eR
    exact ret2 Try.results17 hf Z Z ⟨_, Z, ⟨Z, hs⟩⟩
   ·
    refine region_k (fun K23 hK23 => ?_)
    refine stq hf Z Z Z (ex_move hf Z) fun a hf => stq hf Z Z Z (ex_move hf Z) fun a hf => stq hf Z Z Z (ex_move hf Z) fun a hf => ?_
    refine stepF hf Z Z Z (ex_call cf_32 hf Z) (iospace_Bus_find.calls k Aa Ab Ac Ae Af At a1 a2 b0 Va Ga Vb Gb Vc Gc Vf Gf Vt (hs.enter .nil) (Sr.old hr hs .nil (i := 0) Z (fun _ h => h) (fun _ h => h) (Sr.old hr hs .nil (i := 1) Z (fun _ h => h) (fun _ h => h) (Sr.old hr hs .nil (i := 2) Z (fun _ h => h) (fun _ h => h) (Sr.old hr hs .nil (i := 3) Z (fun _ h => h) (fun _ h => h) (Sr.old hr hs .nil (i := 4) Z (fun _ h => h) (fun _ h => h) (Sr.old hr hs .nil (i := 5) Z (fun _ h => h) (fun _ h => h) (Sr.old hr hs .nil (i := 6) Z (fun _ h => h) (fun _ h => h) (Sr.old hr hs .nil (i := 7) Z (fun _ h => h) (fun _ h => h) (Sr.old hr hs .nil (i := 8) Z (fun _ h => h) (fun _ h => h) (Sr.old hr hs .nil (i := 9) Z (fun _ h => h) (fun _ h => h) (Sr.nil _ _))))))))))) hs3) (fun v w hR a hf => ?_)
    replace hR := Or.resolve_left hR (fun q => by have := q.1; omega)
    replace hR := Or.resolve_left hR (fun q => by have := q.1; omega)
    replace hR := Or.resolve_left hR (fun q => by have := q.1; omega)
    obtain ⟨_, rfl, hs'⟩ := hR
    replace hs := hs.step .nil hs'
    clear hs'
    refine stq hf Z Z Z (ex_assign hf Z) fun a hf => ?_
    refine hK23 _ _ ?_
    refine hN2 _ _ ?_
    refine seq_n (fun Q24 hN24 hR24 hX24 => ?_)
    refine seq_reg (fun K25 hK25 => ?_)
    refine stq hf Z Z Z (ex_move hf Z) fun a hf => stq hf Z Z Z (ex_eqp Try.underlying76 hf Z Z) fun a hf => ?_
    refine hK25 _ _ ?_
    refine cond_T hf Z ?_
    refine seq_reg (fun K26 hK26 => ?_)
    refine stq hf Z Z Z (ex_assign hf Z) fun a hf => stq hf Z Z Z (ex_assign hf Z) fun a hf => ?_
    refine hK26 _ _ ?_
    refine wp_ret ?_
    refine hR24 _ _ ?_
    have eR := some_eq H; subst eR
    exact ret2 Try.results17 hf Z Z ⟨_, Z, ⟨Z, hs⟩⟩

set_option maxRecDepth 100000 in
theorem iospace_Bus_Poke.calls {M : Nat → Prop} {w0 : World} (k : Nat) (Aa : (List mapping)) (Ab : (List mapping)) (Ac : (List mapping)) (Ae : (List Bool)) (Af : (List fault)) (At : (List Traced)) (a1 : Int) (a2 : Int) (a3 : Int) (b0 : Nat) (Va : Value) (Ga : (List (Nat × Nat))) (Vb : Value) (Gb : (List (Nat × Nat))) (Vc : Value) (Gc : (List (Nat × Nat))) (Vf : Value) (Gf : (List Nat)) (Vt : Value) {r : (List mapping) × (List mapping) × (List mapping) × Bool} (hs : St M w0 w0 [bxs b0 71 [([Va], 1), ([Vb], 1), ([Vc], 1), (List.map Value.bool Ae, 256), ([Vf], 1), ([Vt], 1)], osl Km Va (ids Fm Ga), nds Fm Ga Aa, osl Km Vb (ids Fm Gb), nds Fm Gb Ab, osl Km Vc (ids Fm Gc), nds Fm Gc Ac, osl Kf Vf (ids Ff Gf), nds Ff Gf Af, osl Kt Vt At]) (hr : Sr M w0 [])
  (h : iospace_Bus_Poke.f k Aa Ab Ac Ae Af At a1 a2 a3 = some r) : Calls Try.prog 42 #[.pointer (some ⟨b0, 0, none⟩), .int .i64 a1, .int .u64 a2, .int .u8 a3] w0 fun e w => ∃ v, e = .returned v ∧ (.bool r.2.2.2 = v ∧ St M w0 w [bxs b0 71 [([Va], 1), ([Vb], 1), ([Vc], 1), (List.map Value.bool Ae, 256), ([Vf], 1), ([Vt], 1)], osl Km Va (ids Fm Ga), nds Fm Ga r.1, osl Km Vb (ids Fm Gb), nds Fm Gb r.2.1, osl Km Vc (ids Fm Gc), nds Fm Gc r.2.2.1, osl Kf Vf (ids Ff Gf), nds Ff Gf Af, osl Kt Vt At]) := by
 have H := (iospace_Bus_Poke.f.eq_1 ..).symm.trans h
 clear h
 refine enter Try.func42 Z Try.ntmps42 Z (fun a hf => ?_)
 refine seq_reg (fun K1 hK1 => ?_)
 refine stq hf Z Z Z (ex_assign hf Z) fun a hf => ?_
 refine hK1 _ _ ?_
 refine seq_n (fun Q2 hN2 hR2 hX2 => ?_)
 refine bnd H (fun s3 hs3 H => ?_)
 refine itt H (fun hq4 H => ?_) (fun hq4 H => ?_)
 ·
  refine region_k (fun K6 hK6 => ?_)
  refine stq hf Z Z Z (ex_move hf Z) fun a hf => stq hf Z Z Z (ex_move hf Z) fun a hf => stq hf Z Z Z (ex_move hf Z) fun a hf => ?_
  refine stepF hf Z Z Z (ex_call cf_32 hf Z) (iospace_Bus_find.calls k Aa Ab Ac Ae Af At a1 a2 b0 Va Ga Vb Gb Vc Gc Vf Gf Vt (hs.enter sN) (Sr.own hs sN (i := 0) Z (fun _ h => h) (fun _ h => h) (Sr.own hs sN (i := 1) Z osl_rsl (fun _ h => h.1) (Sr.own hs sN (i := 2) Z (fun _ h => h) (fun _ h => h) (Sr.own hs sN (i := 3) Z osl_rsl (fun _ h => h.1) (Sr.own hs sN (i := 4) Z (fun _ h => h) (fun _ h => h) (Sr.own hs sN (i := 5) Z osl_rsl (fun _ h => h.1) (Sr.own hs sN (i := 6) Z (fun _ h => h) (fun _ h => h) (Sr.own hs sN (i := 7) Z osl_rsl (fun _ h => h.1) (Sr.own hs sN (i := 8) Z (fun _ h => h) (fun _ h => h) (Sr.own hs sN (i := 9) Z osl_rsl (fun _ h => h.1) (Sr.nil _ _))))))))))) hs3) (fun v w hR a hf => ?_)
  replace hR := Or.resolve_right hR (fun q => by rcases q with q | q | q <;> (have := q.1; omega))
  obtain ⟨_, hb5, rfl, hs'⟩ := hR
  replace hs := hs.step sN hs'
  clear hs'
  refine stq hf Z Z Z (ex_assign hf Z) fun a hf => ?_
  refine hK6 _ _ ?_
  refine hN2 _ _ ?_
  refine seq_n (fun Q7 hN7 hR7 hX7 => ?_)
  refine seq_reg (fun K8 hK8 => ?_)
  refine stq hf Z Z Z (ex_move hf Z) fun a hf => stq hf Z Z Z (ex_nep Try.underlying76 hf Z Z) fun a hf => ?_
  refine hK8 _ _ ?_
  refine cond_T hf Z ?_
  refine region_k (fun K9 hK9 => ?_)
  refine stq hf Z Z Z (ex_move hf Z) fun a hf => stq hf Z Z Z (ex_nilCheck hf Z) fun a hf => stq hf Z Z Z (ex_fieldAddrB fa_80_2 Z hf Z) fun a hf => stq hf Z Z Z (ex_load sc_78 hf Z (nd_cell (F := Fm) (hs.get (i := 2) Z) ((0, 0) : Nat × Nat) mapping.zero hb5.1 hb5.2 3 Z)) fun a hf => stq hf Z Z Z (ex_move hf Z) fun a hf => stq hf Z Z Z (ex_move hf Z) fun a hf => ?_
  refine stepS hf Z Z (er_mapUpdateN (F := Fm) (g0 := ((0, 0) : Nat × Nat)) (z0 := mapping.zero) (x' := (⟨(⟨((gd mapping.zero Aa s3.2).r.Base), ((gd mapping.zero Aa s3.2).r.Len)⟩ : Range), ((gd mapping.zero Aa s3.2).owner), (mput ((gd mapping.zero Aa s3.2).data) a2 a3)⟩ : mapping)) hs (.k (.k (.c sN))) hb5.1 hb5.2 mt_78 hf Z Z Z Z Z Z) (fun w hs => ?_)
  refine hK9 _ _ ?_
  refine hN7 _ _ ?_
  refine seq_reg (fun K10 hK10 => ?_)
  refine stq hf Z Z Z (ex_move hf Z) fun a hf => stq hf Z Z Z (ex_nep Try.underlying76 hf Z Z) fun a hf => stq hf Z Z Z (ex_assign hf Z) fun a hf => ?_
  refine hK10 _ _ ?_
  refine wp_ret ?_
  have eR := some_eq H; subst eR
  replace hs := hs.p9.p9.p9.p9.p9.p9.p9.p7.p9.p9
  exact ret1 Try.results42 hf Z ⟨_, Z, ⟨Z, hs⟩⟩
 ·
  refine itt H (fun hq11 H => ?_) (fun hq11 H => ?_)
  ·
   refine region_k (fun K13 hK13 => ?_)
   refine stq hf Z Z Z (ex_move hf Z) fun a hf => stq hf Z Z Z (ex_move hf Z) fun a hf => stq hf Z Z Z (ex_move hf Z) fun a hf => ?_
   refine stepF hf Z Z Z (ex_call cf_32 hf Z) (iospace_Bus_find.calls k Aa Ab Ac Ae Af At a1 a2 b0 Va Ga Vb Gb Vc Gc Vf Gf Vt (hs.enter sN) (Sr.own hs sN (i := 0) Z (fun _ h => h) (fun _ h => h) (Sr.own hs sN (i := 1) Z osl_rsl (fun _ h => h.1) (Sr.own hs sN (i := 2) Z (fun _ h => h) (fun _ h => h) (Sr.own hs sN (i := 3) Z osl_rsl (fun _ h => h.1) (Sr.own hs sN (i := 4) Z (fun _ h => h) (fun _ h => h) (Sr.own hs sN (i := 5) Z osl_rsl (fun _ h => h.1) (Sr.own hs sN (i := 6) Z (fun _ h => h) (fun _ h => h) (Sr.own hs sN (i := 7) Z osl_rsl (fun _ h => h.1) (Sr.own hs sN (i := 8) Z (fun _ h => h) (fun _ h => h) (Sr.own hs sN (i := 9) Z osl_rsl (fun _ h => h.1) (Sr.nil _ _))))))))))) hs3) (fun v w hR a hf => ?_)
   replace hR := Or.resolve_left hR (fun q => by have := q.1; omega)
   replace hR := Or.resolve_right hR (fun q => by rcases q with q | q <;> (have := q.1; omega))
   obtain ⟨_, hb12, rfl, hs'⟩ := hR
   replace hs := hs.step sN hs'
   clear hs'
   refine stq hf Z Z Z (ex_assign hf Z) fun a hf => ?_
   refine hK13 _ _ ?_
   refine hN2 _ _ ?_
   refine seq_n (fun Q14 hN14 hR14 hX14 => ?_)
   refine seq_reg (fun K15 hK15 => ?_)
   refine stq hf Z Z Z (ex_move hf Z) fun a hf => stq hf Z Z Z (ex_nep Try.underlying76 hf Z Z) fun a hf => ?_
   refine hK15 _ _ ?_
   refine cond_T hf Z ?_
   refine region_k (fun K16 hK16 => ?_)
   refine stq hf Z Z Z (ex_move hf Z) fun a hf => stq hf Z Z Z (ex_nilCheck hf Z) fun a hf => stq hf Z Z Z (ex_fieldAddrB fa_80_2 Z hf Z) fun a hf => stq hf Z Z Z (ex_load sc_78 hf Z (nd_cell (F := Fm) (hs.get (i := 4) Z) ((0, 0) : Nat × Nat) mapping.zero hb12.1 hb12.2 3 Z)) fun a hf => stq hf Z Z Z (ex_move hf Z) fun a hf => stq hf Z Z Z (ex_move hf Z) fun a hf => ?_
   refine stepS hf Z Z (er_mapUpdateN (F := Fm) (g0 := ((0, 0) : Nat × Nat)) (z0 := mapping.zero) (x' := (⟨(⟨((gd mapping.zero Ab s3.2).r.Base), ((gd mapping.zero Ab s3.2).r.Len)⟩ : Range), ((gd mapping.zero Ab s3.2).owner), (mput ((gd mapping.zero Ab s3.2).data) a2 a3)⟩ : mapping)) hs (.k (.k (.k (.k (.c sN))))) hb12.1 hb12.2 mt_78 hf Z Z Z Z Z Z) (fun w hs => ?_)
   refine hK16 _ _ ?_
   refine hN14 _ _ ?_
   refine seq_reg (fun K17 hK17 => ?_)
   refine stq hf Z Z Z (ex_move hf Z) fun a hf => stq hf Z Z Z (ex_nep Try.underlying76 hf Z Z) fun a hf => stq hf Z Z Z (ex_assign hf Z) fun a hf => ?_
   refine hK17 _ _ ?_
   refine wp_ret ?_
   have eR := some_eq H; subst eR
   replace hs := hs.p9.p9.p9.p9.p9.p5.p9.p9.p9.p9
   exact ret1 Try.results42 hf Z ⟨_, Z, ⟨Z, hs⟩⟩
  ·
   refine itt H (fun hq18 H => ?_) (fun hq18 H => ?_)
   ·
    refine region_k (fun K20 hK20 => ?_)
    refine stq hf Z Z Z (ex_move hf Z) fun a hf => stq hf Z Z Z (ex_move hf Z) fun a hf => stq hf Z Z Z (ex_move hf Z) fun a hf => ?_
    refine stepF hf Z Z Z (ex_call cf_32 hf Z) (iospace_Bus_find.calls k Aa Ab Ac Ae Af At a1 a2 b0 Va Ga Vb Gb Vc Gc Vf Gf Vt (hs.enter sN) (Sr.own hs sN (i := 0) Z (fun _ h => h) (fun _ h => h) (Sr.own hs sN (i := 1) Z osl_rsl (fun _ h => h.1) (Sr.own hs sN (i := 2) Z (fun _ h => h) (fun _ h => h) (Sr.own hs sN (i := 3) Z osl_rsl (fun _ h => h.1) (Sr.own hs sN (i := 4) Z (fun _ h => h) (fun _ h => h) (Sr.own hs sN (i := 5) Z osl_rsl (fun _ h => h.1) (Sr.own hs sN (i := 6) Z (fun _ h => h) (fun _ h => h) (Sr.own hs sN (i := 7) Z osl_rsl (fun _ h => h.1) (Sr.own hs sN (i := 8) Z (fun _ h => h) (fun _ h => h) (Sr.own hs sN (i := 9) Z osl_rsl (fun _ h => h.1) (Sr.nil _ _))))))))))) hs3) (fun v w hR a hf => ?_)
    replace hR := Or.resolve_left hR (fun q => by have := q.1; omega)
    replace hR := Or.resolve_left hR (fun q => by have := q.1; omega)
    replace hR := Or.resolve_right hR (fun q => by have := q.1; omega)
    obtain ⟨_, hb19, rfl, hs'⟩ := hR
    replace hs := hs.step sN hs'
    clear hs'
    refine stq hf Z Z Z (ex_assign hf Z) fun a hf => ?_
    refine hK20 _ _ ?_
    refine hN2 _ _ ?_
    refine seq_n (fun Q21 hN21 hR21 hX21 => ?_)
    refine seq_reg (fun K22 hK22 => ?_)
    refine stq hf Z Z Z (ex_move hf Z) fun a hf => stq hf Z Z Z (ex_nep Try.underlying76 hf Z Z) fun a hf => ?_
    refine hK22 _ _ ?_
    refine cond_T hf Z ?_
    refine region_k (fun K23 hK23 => ?_)
    refine stq hf Z Z Z (ex_move hf Z) fun a hf => stq hf Z Z Z (ex_nilCheck hf Z) fun a hf => stq hf Z Z Z (ex_fieldAddrB fa_80_2 Z hf Z) fun a hf => stq hf Z Z Z (ex_load sc_78 hf Z (nd_cell (F := Fm) (hs.get (i := 6) Z) ((0, 0) : Nat × Nat) mapping.zero hb19.1 hb19.2 3 Z)) fun a hf => stq hf Z Z Z (ex_move hf Z) fun a hf => stq hf Z Z Z (ex_move hf Z) fun a hf => ?_
    refine stepS hf Z Z (er_mapUpdateN (F := Fm) (g0 := ((0, 0) : Nat × Nat)) (z0 := mapping.zero) (x' := (⟨(⟨((gd mapping.zero Ac s3.2).r.Base), ((gd mapping.zero Ac s3.2).r.Len)⟩ : Range), ((gd mapping.zero Ac s3.2).owner), (mput ((gd mapping.zero Ac s3.2).data) a2 a3)⟩ : mapping)) hs (.k (.k (.k (.k (.k (.k (.c sN))))))) hb19.1 hb19.2 mt_78 hf Z Z Z Z Z Z) (fun w hs => ?_)
    refine hK23 _ _ ?_
    refine hN21 _ _ ?_
    refine seq_reg (fun K24 hK24 => ?_)
    refine stq hf Z Z Z (ex_move hf Z) fun a hf => stq hf Z Z Z (ex_nep Try.underlying76 hf Z Z) fun a hf => stq hf Z Z Z (ex_assign hf Z) fun a hf => ?_
    refine hK24 _ _ ?_
    refine wp_ret ?_
    have eR := some_eq H; subst eR
    replace hs := hs.p9.p9.p9.p3.p9.p9.p9.p9.p9.p9
    exact ret1 Try.results42 hf Z ⟨_, Z, ⟨Z, hs⟩⟩
   ·
    refine region_k (fun K26 hK26 => ?_)
    refine stq hf Z Z Z (ex_move hf Z) fun a hf => stq hf Z Z Z (ex_move hf Z) fun a hf => stq hf Z Z Z (ex_move hf Z) fun a hf => ?_
    refine stepF hf Z Z Z (ex_call cf_32 hf Z) (iospace_Bus_find.calls k Aa Ab Ac Ae Af At a1 a2 b0 Va Ga Vb Gb Vc Gc Vf Gf Vt (hs.enter sN) (Sr.own hs sN (i := 0) Z (fun _ h => h) (fun _ h => h) (Sr.own hs sN (i := 1) Z osl_rsl (fun _ h => h.1) (Sr.own hs sN (i := 2) Z (fun _ h => h) (fun _ h => h) (Sr.own hs sN (i := 3) Z osl_rsl (fun _ h => h.1) (Sr.own hs sN (i := 4) Z (fun _ h => h) (fun _ h => h) (Sr.own hs sN (i := 5) Z osl_rsl (fun _ h => h.1) (Sr.own hs sN (i := 6) Z (fun _ h => h) (fun _ h => h) (Sr.own hs sN (i := 7) Z osl_rsl (fun _ h => h.1) (Sr.own hs sN (i := 8) Z (fun _ h => h) (fun _ h => h) (Sr.own hs sN (i := 9) Z osl_rsl (fun _ h => h.1) (Sr.nil _ _))))))))))) hs3) (fun v w hR a hf => ?_)
    replace hR := Or.resolve_left hR (fun q => by have := q.1; omega)
    replace hR := Or.resolve_left hR (fun q => by have := q.1; omega)
    replace hR := Or.resolve_left hR (fun q => by have := q.1; omega)
    obtain ⟨_, rfl, hs'⟩ := hR
    replace hs := hs.step sN hs'
    clear hs'
    refine stq hf Z Z Z (ex_assign hf Z) fun a hf => ?_
    refine hK26 _ _ ?_
    refine hN2 _ _ ?_
    refine seq_n (fun Q27 hN27 hR27 hX27 => ?_)
    refine seq_reg (fun K28 hK28 => ?_)
    refine stq hf Z Z Z (ex_move hf Z) fun a hf => stq hf Z Z Z (ex_nep Try.underlying76 hf Z Z) fun a hf => ?_
    refine hK28 _ _ ?_
    refine cond_F hf Z ?_
    refine wp_skip ?_
    refine hN27 _ _ ?_
    refine seq_reg (fun K29 hK29 => ?_)
    refine stq hf Z Z Z (ex_move hf Z) fun a hf => stq hf Z Z Z (ex_nep Try.underlying76 hf Z Z) fun a hf => stq hf Z Z Z (ex_assign hf Z) fun a hf => ?_
    refine hK29 _ _ ?_
    refine wp_ret ?_
    have eR := some_eq H; subst eR
    exact ret1 Try.results42 hf Z ⟨_, Z, ⟨Z, hs⟩⟩

set_option maxRecDepth 100000 in
theorem iospace_mapping_store.calls {M : Nat → Prop} {w0 : World} (k : Nat) (a0_r_Base : Int) (a0_r_Len : Int) (a0_owner : Int) (a0_data : (List (Int × Int))) (a1 : Int) (a2 : Int) (a3 : Int) (b0 : Nat) (m0_data : Nat) {r : (List (Int × Int))} (hs : St M w0 w0 [bx b0 80 [.int .u64 a0_r_Base, .int .u64 a0_r_Len, .int .i64 a0_owner, .map (some m0_data)], mp m0_data .u64 .u8 a0_data]) (hr : Sr M w0 [])
  (h : iospace_mapping_store.f k a0_r_Base a0_r_Len a0_owner a0_data a1 a2 a3 = some r) : Calls Try.prog 36 #[.pointer (some ⟨b0, 0, none⟩), .int .u64 a1, .int .i64 a2, .int .u64 a3] w0 fun e w => ∃ v, e = .returned v ∧ (.tuple #[] = v ∧ St M w0 w [bx b0 80 [.int .u64 a0_r_Base, .int .u64 a0_r_Len, .int .i64 a0_owner, .map (some m0_data)], mp m0_data .u64 .u8 r]) := by
 have H := (iospace_mapping_store.f.eq_1 ..).symm.trans h
 clear h
 refine enter Try.func36 Z Try.ntmps36 Z (fun a hf => ?_)
 refine seq_reg (fun K1 hK1 => ?_)
 refine stq hf Z Z Z (ex_move hf Z) fun a hf => stq hf Z Z Z (ex_move hf Z) fun a hf => ?_
 refine hK1 _ _ ?_
 refine block_k (fun Q2 hN2 hR2 hX2 hY2 => ?_)
 refine loop_k (fun n a w => ∃ (y3 : (List (Int × Int))) (y4 : Int), Fr a 27 [(0, .pointer (some ⟨b0, 0, none⟩)), (1, .int .u64 a1), (3, .int .u64 a3), (9, .int .i64 a2), (10, .int .i64 y4)] ∧ St M w0 w [bx b0 80 [.int .u64 a0_r_Base, .int .u64 a0_r_Len, .int .i64 a0_owner, .map (some m0_data)], mp m0_data .u64 .u8 y3] ∧ iospace_mapping_store.l1 n a2 a1 a3 y3 y4 = some r) k ?_ (fun n6 a w hI Q6 hL6 hR6 hX6 => ?_)
 ·
  exact ⟨a0_data, 0, hf.sub ⟨Z, Z, Z, Z, Z, trivial⟩, hs, H⟩
 ·
  obtain ⟨y3, y4, hf, hs, H⟩ := hI
  cases n6 with
  | zero => exact absurd H (by rw [iospace_mapping_store.l1.eq_1]; intro h; cases h)
  | succ k6 =>
   replace H := (iospace_mapping_store.l1.eq_2 ..).symm.trans H
   refine seq_reg (fun K7 hK7 => ?_)
   refine stq hf Z Z Z (ex_lss hf Z Z) fun a hf => ?_
   refine hK7 _ _ ?_
   refine seq_n (fun Q8 hN8 hR8 hX8 => ?_)
   refine itt H (fun hc9 H => ?_) (fun hc9 H => ?_)
   ·
    replace hf := hf.castB (t := 11) Z (dec_t hc9)
    refine cond_T hf Z ?_
    refine wp_skip ?_
    refine hN8 _ _ ?_
    refine seq_n (fun Q10 hN10 hR10 hX10 => ?_)
    refine block_k (fun Q11 hN11 hR11 hX11 hY11 => ?_)
    refine seq_reg (fun K12 hK12 => ?_)
    refine stq hf Z Z Z (ex_move hf Z) fun a hf => stq hf Z Z Z (ex_assign hf Z) fun a hf => ?_
    refine hK12 _ _ ?_
    refine ck_some H (fun hc13 H => ?_)
    refine region_dS fol 13 [(0, .pointer (some ⟨b0, 0, none⟩)), (1, .int .u64 a1), (3, .int .u64 a3), (8, .int .i64 y4), (9, .int .i64 a2), (10, .int .i64 y4)] [(0, .pointer (some ⟨b0, 0, none⟩)), (1, .pointer (some ⟨b0, 0, none⟩)), (2, .pointer (some ⟨b0, 3, none⟩)), (3, .map (some m0_data)), (4, .int .u64 a1), (5, .int .i64 y4), (6, .int .u64 (IntKind.u64.wrap y4)), (7, .int .u64 (IntKind.u64.wrap (a1 + (IntKind.u64.wrap y4)))), (8, .int .u64 a3), (9, .int .i64 y4), (10, .int .i64 (IntKind.i64.wrap (8 * y4))), (11, .int .u64 (shrw .u64 a3 (IntKind.i64.wrap (8 * y4)))), (12, .int .u8 (IntKind.u8.wrap (shrw .u64 a3 (IntKind.i64.wrap (8 * y4)))))] [] (fun w => (bx b0 80 [.int .u64 a0_r_Base, .int .u64 a0_r_Len, .int .i64 a0_owner, .map (some m0_data)]).ok w ∧ True) hf ⟨Z, Z, Z, Z, Z, Z, trivial⟩ (by kernel_rfl) (by kernel_rfl) Z (by decide) ⟨hs.drew.get (i := 0) Z, trivial⟩ hs ((.cons (qy Z Z Z Z Z fun hR hf => ex_move hf Z) (.cons (qy Z Z Z Z Z fun hR hf => ex_nilCheck hf Z) (.cons (qy Z Z Z Z Z fun hR hf => ex_fieldAddrB fa_80_2 Z hf Z) (.cons (qy Z Z Z Z Z fun hR hf => ex_load sc_78 hf Z (bx_cell (hR.1) _ Z)) (.cons (qy Z Z Z Z Z fun hR hf => ex_move hf Z) (.cons (qy Z Z Z Z Z fun hR hf => ex_move hf Z) (.cons (qy Z Z Z Z Z fun hR hf => ex_conv Try.underlying3 Try.underlying22 hf Z) (.cons (qy Z Z Z Z Z fun hR hf => ex_add hf Z Z) (.cons (qy Z Z Z Z Z fun hR hf => ex_move hf Z) (.cons (qy Z Z Z Z Z fun hR hf => ex_move hf Z) (.cons (qy Z Z Z Z Z fun hR hf => ex_mul hf Z Z) (.cons (qy Z Z Z Z Z fun hR hf => ex_shr hf Z Z hc13) (.cons (qy Z Z Z Z Z fun hR hf => ex_conv Try.underlying22 Try.underlying5 hf Z) .nil)))))))))))))) (fun K14 hK14 => ?_)
    refine RW.zero (by kernel_rfl) (by kernel_rfl) [(0, .pointer (some ⟨b0, 0, none⟩)), (1, .int .u64 a1), (3, .int .u64 a3), (9, .int .i64 a2), (10, .int .i64 y4), (16, .map (some m0_data)), (20, .int .u64 (IntKind.u64.wrap (a1 + (IntKind.u64.wrap y4)))), (25, .int .u8 (IntKind.u8.wrap (shrw .u64 a3 (IntKind.i64.wrap (8 * y4)))))] ⟨Z, Z, Z, Z, Z, Z, Z, Z, trivial⟩ (fun a w hR hs hf => ?_)
    refine stepS hf Z Z (er_mapUpdate hs (.k (.c .nil)) mt_78 hf Z Z Z) (fun w hs => ?_)
    refine hK14 _ _ ?_
    refine hN11 _ _ ?_
    refine hN10 _ _ ?_
    refine region_k (fun K15 hK15 => ?_)
    refine stq hf Z Z Z (ex_add hf Z Z) fun a hf => stq hf Z Z Z (ex_move hf Z) fun a hf => ?_
    refine hK15 _ _ ?_
    replace hs := hs.p1
    exact hL6 k6 _ _ (Nat.lt_succ_self _) ⟨(mput y3 (IntKind.u64.wrap (a1 + (IntKind.u64.wrap y4))) (IntKind.u8.wrap (shrw .u64 a3 (IntKind.i64.wrap (8 * y4))))), (IntKind.i64.wrap (y4 + 1)), hf.sub ⟨Z, Z, Z, Z, Z, trivial⟩, hs, H⟩
   ·
    replace hf := hf.castB (t := 11) Z (dec_f hc9)
    refine cond_F hf Z ?_
    refine wp_exit ?_
    refine hX8 0 _ _ ?_
    refine hX6 0 _ _ ?_
    refine hX2 _ _ ?_
    have eR := some_eq H; subst eR
    first | refine ret0 Try.results36 hf ?_ | refine ret0n Try.results36 hf ?_
    exact ⟨_, Z, ⟨Z, hs⟩⟩

set_option maxRecDepth 100000 in
theorem iospace_Bus_fails_1.calls {M : Nat → Prop} {w0 : World} (k : Nat) (a0_space : Int) (a0_r_Base : Int) (a0_r_Len : Int) (a0_n : Int) (a1 : Access) (a2 : Range) (b0 : Nat) (b1 : Nat) (b2 : Nat) {r : Bool} (hs : St M w0 w0 []) (hr : Sr M w0 [bx b0 90 [.int .i64 a0_space, .int .u64 a0_r_Base, .int .u64 a0_r_Len, .int .i64 a0_n], bx b1 37 [.int .i64 a1.Space, .int .u64 a1.Addr, .int .i64 a1.Width, .bool a1.Write, .int .u64 a1.Value], bx b2 32 [.int .u64 a2.Base, .int .u64 a2.Len]])
  (h : iospace_Bus_fails_1.f k a0_space a0_r_Base a0_r_Len a0_n a1 a2 = some r) : Calls Try.prog 53 #[.pointer (some ⟨b0, 0, none⟩), .pointer (some ⟨b1, 0, none⟩), .pointer (some ⟨b2, 0, none⟩)] w0 fun e w => ∃ v, e = .returned v ∧ (.bool r = v ∧ St M w0 w []) := by
 have H := (iospace_Bus_fails_1.f.eq_1 ..).symm.trans h
 clear h
 refine enter Try.func53 Z Try.ntmps53 Z (fun a hf => ?_)
 refine seq_reg (fun K1 hK1 => ?_)
 refine stq hf Z Z Z (ex_assign hf Z) fun a hf => ?_
 refine hK1 _ _ ?_
 refine seq_n (fun Q2 hN2 hR2 hX2 => ?_)
 refine itt H (fun hc3 H => ?_) (fun hc3 H => ?_)
 ·
  refine bnd H (fun s4 hs4 H => ?_)
  refine region_dS fol 15 [(0, .pointer (some ⟨b0, 0, none⟩)), (1, .pointer (some ⟨b1, 0, none⟩)), (2, .pointer (some ⟨b2, 0, none⟩)), (4, .bool false)] [(0, .pointer (some ⟨b0, 0, none⟩)), (1, .pointer (some ⟨b0, 0, none⟩)), (2, .pointer (some ⟨b0, 0, none⟩)), (3, .int .i64 a0_space), (4, .pointer (some ⟨b1, 0, none⟩)), (5, .int .i64 a1.Space), (6, .bool true), (7, .bool true), (8, .pointer (some ⟨b0, 0, none⟩)), (9, .pointer (some ⟨b0, 0, none⟩)), (10, .pointer (some ⟨b0, 1, none⟩)), (11, .agg #[.int .u64 a0_r_Base, .int .u64 a0_r_Len]), (12, .agg #[.int .u64 a2.Base, .int .u64 a2.Len])] [13] (fun w => (bx b0 90 [.int .i64 a0_space, .int .u64 a0_r_Base, .int .u64 a0_r_Len, .int .i64 a0_n]).ok w ∧ (bx b1 37 [.int .i64 a1.Space, .int .u64 a1.Addr, .int .i64 a1.Width, .bool a1.Write, .int .u64 a1.Value]).ok w ∧ (bx b2 32 [.int .u64 a2.Base, .int .u64 a2.Len]).ok w ∧ True) hf ⟨Z, Z, Z, Z, trivial⟩ (by kernel_rfl) (by kernel_rfl) Z (by decide) ⟨hr.now hs.drew (i := 0) Z, hr.now hs.drew (i := 1) Z, hr.now hs.drew (i := 2) Z, trivial⟩ hs ((.cons (qy Z Z Z Z Z fun hR hf => ex_move hf Z) (.cons (qy Z Z Z Z Z fun hR hf => ex_nilCheck hf Z) (.cons (qy Z Z Z Z Z fun hR hf => ex_fieldAddrB fa_90_0 Z hf Z) (.cons (qy Z Z Z Z Z fun hR hf => ex_load sc_3 hf Z (bx_cell (hR.1) _ Z)) (.cons (qy Z Z Z Z Z fun hR hf => ex_fieldAddrB fa_37_0 Z hf Z) (.cons (qy Z Z Z Z Z fun hR hf => ex_load sc_3 hf Z (bx_cell (hR.2.1) _ Z)) (.cons (qy Z Z Z Z Z fun hR hf => ex_castB (ex_eql hf Z Z) (dec_t hc3)) (.cons (qy Z Z Z Z Z fun hR hf => ex_move hf Z) (.cons (qy Z Z Z Z Z fun hR hf => ex_move hf Z) (.cons (qy Z Z Z Z Z fun hR hf => ex_nilCheck hf Z) (.cons (qy Z Z Z Z Z fun hR hf => ex_fieldAddrB fa_90_1 Z hf Z) (.cons (qy Z Z Z Z Z fun hR hf => ex_loadA (cs := [.int .u64 a0_r_Base, .int .u64 a0_r_Len]) ag_32 hf Z (bx_cells (hR.1) Z)) (.cons (qy Z Z Z Z Z fun hR hf => ex_loadA (cs := [.int .u64 a2.Base, .int .u64 a2.Len]) ag_32 hf Z (bx_cells (hR.2.2.1) Z)) .nil)))))))))))))) (fun K5 hK5 => ?_)
  refine RW.one 13 (by kernel_rfl) (by kernel_rfl) rfl (fun d hd => by cases hd; rfl) [(12, .bool true), (16, .agg #[.int .u64 a0_r_Base, .int .u64 a0_r_Len]), (17, .agg #[.int .u64 a2.Base, .int .u64 a2.Len])] ⟨rfl, rfl, rfl, trivial⟩ (fun a w hR hs hf => ⟨wanted_yes hf rfl, ?_⟩)
  refine estep_f (ex_call cf_28 hf Z) (iospace_overlap.calls k (⟨a0_r_Base, a0_r_Len⟩ : Range) a2 (hs.enter .nil) (Sr.nil _ _) hs4) (fun v w hR => ?_)
  obtain ⟨rfl, hs'⟩ := hR
  replace hs := hs.step .nil hs'
  clear hs'
  refine ⟨[(14, .bool s4)], _, [], (fun _ => True), hs.fn, Z, Z, ⟨hr.now hs (i := 0) Z, hr.now hs (i := 1) Z, hr.now hs (i := 2) Z, trivial⟩, trivial, hs, (by kernel_rfl), (.cons (qy Z Z Z Z Z fun hR hf => ex_pickT hf Z Z) .nil), ?_⟩
  refine RW.zero (by kernel_rfl) (by kernel_rfl) [(4, .bool false), (19, .bool s4)] ⟨Z, Z, trivial⟩ (fun a w hR hs hf => ?_)
  refine stq hf Z Z Z (ex_assign hf Z) fun a hf => ?_
  refine hK5 _ _ ?_
  refine hN2 _ _ ?_
  refine wp_ret ?_
  have eR := some_eq H; subst eR
  exact ret1 Try.results53 hf Z ⟨_, Z, ⟨Z, hs⟩⟩
 ·
  refine region_dS fol 15 [(0, .pointer (some ⟨b0, 0, none⟩)), (1, .pointer (some ⟨b1, 0, none⟩)), (2, .pointer (some ⟨b2, 0, none⟩)), (4, .bool false)] [(0, .pointer (some ⟨b0, 0, none⟩)), (1, .pointer (some ⟨b0, 0, none⟩)), (2, .pointer (some ⟨b0, 0, none⟩)), (3, .int .i64 a0_space), (4, .pointer (some ⟨b1, 0, none⟩)), (5, .int .i64 a1.Space), (6, .bool false), (7, .bool false), (8, undef), (9, undef), (10, undef), (11, undef), (12, undef), (13, undef), (14, .bool false)] [] (fun w => (bx b0 90 [.int .i64 a0_space, .int .u64 a0_r_Base, .int .u64 a0_r_Len, .int .i64 a0_n]).ok w ∧ (bx b1 37 [.int .i64 a1.Space, .int .u64 a1.Addr, .int .i64 a1.Width, .bool a1.Write, .int .u64 a1.Value]).ok w ∧ True) hf ⟨Z, Z, Z, Z, trivial⟩ (by kernel_rfl) (by kernel_rfl) Z (by decide) ⟨hr.now hs.drew (i := 0) Z, hr.now hs.drew (i := 1) Z, trivial⟩ hs ((.cons (qy Z Z Z Z Z fun hR hf => ex_move hf Z) (.cons (qy Z Z Z Z Z fun hR hf => ex_nilCheck hf Z) (.cons (qy Z Z Z Z Z fun hR hf => ex_fieldAddrB fa_90_0 Z hf Z) (.cons (qy Z Z Z Z Z fun hR hf => ex_load sc_3 hf Z (bx_cell (hR.1) _ Z)) (.cons (qy Z Z Z Z Z fun hR hf => ex_fieldAddrB fa_37_0 Z hf Z) (.cons (qy Z Z Z Z Z fun hR hf => ex_load sc_3 hf Z (bx_cell (hR.2.1) _ Z)) (.cons (qy Z Z Z Z Z fun hR hf => ex_castB (ex_eql hf Z Z) (dec_f hc3)) (.cons (qy Z Z Z Z Z fun hR hf => ex_move hf Z) (.cons (qn Z Z Z Z Z) (.cons (qn Z Z Z Z Z) (.cons (qn Z Z Z Z Z) (.cons (qn Z Z Z Z Z) (.cons (qn Z Z Z Z Z) (.cons (qn Z Z Z Z Z) (.cons (qy Z Z Z Z Z fun hR hf => ex_pickF hf Z Z) .nil)))))))))))))))) (fun K6 hK6 => ?_)
  refine RW.zero (by kernel_rfl) (by kernel_rfl) [(4, .bool false), (19, .bool false)] ⟨Z, Z, trivial⟩ (fun a w hR hs hf => ?_)
  refine stq hf Z Z Z (ex_assign hf Z) fun a hf => ?_
  refine hK6 _ _ ?_
  refine hN2 _ _ ?_
  refine wp_ret ?_
  have eR := some_eq H; subst eR
  exact ret1 Try.results53 hf Z ⟨_, Z, ⟨Z, hs⟩⟩

set_option maxRecDepth 100000 in
theorem slices_IndexFunc_iospace_fault_iospace_fault__fails_1.calls {M : Nat → Prop} {w0 : World} (k : Nat) (a0 : (List fault)) (a1_0 : Access) (a1_1 : Range) (v0 : Value) (G0 : (List Nat)) (b1_0 : Nat) (b1_1 : Nat) {r : Int} (hs : St M w0 w0 []) (hr : Sr M w0 [rsl Kf v0 (ids Ff G0), nds Ff G0 a0, bx b1_0 37 [.int .i64 a1_0.Space, .int .u64 a1_0.Addr, .int .i64 a1_0.Width, .bool a1_0.Write, .int .u64 a1_0.Value], bx b1_1 32 [.int .u64 a1_1.Base, .int .u64 a1_1.Len]])
  (h : slices_IndexFunc_iospace_fault_iospace_fault__fails_1.f k a0 a1_0 a1_1 = some r) : Calls Try.prog 52 #[v0, .func (.func 53) #[] #[.pointer (some ⟨b1_0, 0, none⟩), .pointer (some ⟨b1_1, 0, none⟩)]] w0 fun e w => ∃ v, e = .returned v ∧ (.int .i64 r = v ∧ St M w0 w []) := by
 have H := (slices_IndexFunc_iospace_fault_iospace_fault__fails_1.f.eq_1 ..).symm.trans h
 clear h
 refine enter Try.func52 Z Try.ntmps52 Z (fun a hf => ?_)
 refine seq_reg (fun K1 hK1 => ?_)
 refine stq hf Z Z Z (ex_assign hf Z) fun a hf => ?_
 refine hK1 _ _ ?_
 refine bnd H (fun x2 H2 HO2 => ?_)
 clear H
 refine seq_cut (fun a w => ∃ (x2s : Unit), x2 = .go x2s ∧ Fr a 19 [] ∧ St M w0 w []) (fun Q2 hJ2 hR2 hX2 => ?_) (fun a w hJ => ?_)
 ·
  replace H := H2
  refine seq_reg (fun K3 hK3 => ?_)
  refine stq hf Z Z Z (ex_move hf Z) fun a hf => stq hf Z Z Z (ex_lenS Try.underlying69 (ids_isSl (hr.now hs (i := 0) Z) (hr.now hs (i := 1) Z)) hf Z) fun a hf => stq hf Z Z Z (ex_move hf Z) fun a hf => ?_
  refine hK3 _ _ ?_
  refine block_k (fun Q4 hN4 hR4 hX4 hY4 => ?_)
  refine loop_k (fun n a w => ∃ (y5 : Int), Fr a 19 [(0, v0), (1, .func (.func 53) #[] #[.pointer (some ⟨b1_0, 0, none⟩), .pointer (some ⟨b1_1, 0, none⟩)]), (7, .int .i64 (a0.length : Int)), (8, .int .i64 y5)] ∧ St M w0 w [] ∧ slices_IndexFunc_iospace_fault_iospace_fault__fails_1.l1 n a0 a1_0 a1_1 y5 = some x2) k ?_ (fun n7 a w hI Q7 hL7 hR7 hX7 => ?_)
  ·
   exact ⟨0, hf.sub ⟨Z, Z, Z, Z, trivial⟩, hs, H⟩
  ·
   obtain ⟨y5, hf, hs, H⟩ := hI
   cases n7 with
   | zero => exact absurd H (by rw [slices_IndexFunc_iospace_fault_iospace_fault__fails_1.l1.eq_1]; intro h; cases h)
   | succ k7 =>
    replace H := (slices_IndexFunc_iospace_fault_iospace_fault__fails_1.l1.eq_2 ..).symm.trans H
    refine seq_reg (fun K8 hK8 => ?_)
    refine stq hf Z Z Z (ex_lss hf Z Z) fun a hf => ?_
    refine hK8 _ _ ?_
    refine seq_n (fun Q9 hN9 hR9 hX9 => ?_)
    refine itt H (fun hc10 H => ?_) (fun hc10 H => ?_)
    ·
     replace hf := hf.castB (t := 9) Z (dec_t hc10)
     refine cond_T hf Z ?_
     refine wp_skip ?_
     refine hN9 _ _ ?_
     refine seq_n (fun Q11 hN11 hR11 hX11 => ?_)
     refine block_k (fun Q12 hN12 hR12 hX12 hY12 => ?_)
     refine seq_reg (fun K13 hK13 => ?_)
     refine stq hf Z Z Z (ex_move hf Z) fun a hf => stq hf Z Z Z (ex_assign hf Z) fun a hf => ?_
     refine hK13 _ _ ?_
     refine ck_some H (fun hc14 H => ?_)
     refine bnd H (fun s15 hs15 H => ?_)
     refine seq_reg (fun K16 hK16 => ?_)
     refine stq hf Z Z Z (ex_move hf Z) fun a hf => stq hf Z Z Z (ex_move hf Z) fun a hf => stq hf Z Z Z (ex_move hf Z) fun a hf => stq hf Z Z Z (ex_indexAddr sa_69 (ids_isSl (hr.now hs (i := 0) Z) (hr.now hs (i := 1) Z)) hc14.1 hc14.2 hf Z Z) fun a hf => stq hf Z Z Z (ex_load sc_88 hf Z (ids_cell (F := Ff) (hr.now hs (i := 0) Z) (hr.now hs (i := 1) Z) (0 : Nat) hc14.1 hc14.2)) fun a hf => ?_
     refine stepF hf Z Z Z (ex_callV cf_53 hf Z Z) (iospace_Bus_fails_1.calls k7 ((gd fault.zero a0 y5).space) ((gd fault.zero a0 y5).r.Base) ((gd fault.zero a0 y5).r.Len) ((gd fault.zero a0 y5).n) a1_0 a1_1 (Ff.blk (gd (0 : Nat) G0 y5)) b1_0 b1_1 (hs.enter .nil) (Sr.old hr hs .nil (i := 1) Z (fun _ h => nd_bx_ok (F := Ff) h (0 : Nat) fault.zero hc14.1 hc14.2) (nd_bx_fs (F := Ff) (nds_len (hr.now hs (i := 1) Z)) (0 : Nat) fault.zero hc14.1 hc14.2) (Sr.old hr hs .nil (i := 2) Z (fun _ h => h) (fun _ h => h) (Sr.old hr hs .nil (i := 3) Z (fun _ h => h) (fun _ h => h) (Sr.nil _ _)))) hs15) (fun v w hR a hf => ?_)
     obtain ⟨rfl, hs'⟩ := hR
     replace hs := hs.step .nil hs'
     clear hs'
     refine hK16 _ _ ?_
     refine itt H (fun hc17 H => ?_) (fun hc17 H => ?_)
     ·
      replace hf := hf.castB (t := 16) Z hc17
      refine cond_T hf Z ?_
      refine seq_reg (fun K18 hK18 => ?_)
      refine stq hf Z Z Z (ex_move hf Z) fun a hf => stq hf Z Z Z (ex_assign hf Z) fun a hf => ?_
      refine hK18 _ _ ?_
      refine wp_ret ?_
      refine hR12 _ _ ?_
      refine hR11 _ _ ?_
      refine hR7 _ _ ?_
      refine hR4 _ _ ?_
      have e2 := some_eq H; subst e2; replace H := el_rt HO2
      refine hR2 _ _ ?_
      have eR := some_eq H; subst eR
      exact ret1 Try.results52 hf Z ⟨_, Z, ⟨Z, hs⟩⟩
     ·
      replace hf := hf.castB (t := 16) Z (bool_f hc17)
      refine cond_F hf Z ?_
      refine wp_skip ?_
      refine hN12 _ _ ?_
      refine hN11 _ _ ?_
      refine region_k (fun K19 hK19 => ?_)
      refine stq hf Z Z Z (ex_add hf Z Z) fun a hf => stq hf Z Z Z (ex_move hf Z) fun a hf => ?_
      refine hK19 _ _ ?_
      exact hL7 k7 _ _ (Nat.lt_succ_self _) ⟨(IntKind.i64.wrap (y5 + 1)), hf.sub ⟨Z, Z, Z, Z, trivial⟩, hs, H⟩
    ·
     replace hf := hf.castB (t := 9) Z (dec_f hc10)
     refine cond_F hf Z ?_
     refine wp_exit ?_
     refine hX9 0 _ _ ?_
     refine hX7 0 _ _ ?_
     refine hX4 _ _ ?_
     have e2 := some_eq H; subst e2
     exact hJ2 _ _ ⟨_, Z, hf.sub trivial, hs⟩
 ·
  obtain ⟨x2s, rfl, hf, hs⟩ := hJ
  replace H := el_go HO2
  clear HO2
  refine seq_reg (fun K20 hK20 => ?_)
  refine stq hf Z Z Z (ex_assign hf Z) fun a hf => ?_
  refine hK20 _ _ ?_
  refine wp_ret ?_
  have eR := some_eq H; subst eR
  exact ret1 Try.results52 hf Z ⟨_, Z, ⟨Z, hs⟩⟩

end Go.Proofs.Ytigadacjaglfeaa.X
