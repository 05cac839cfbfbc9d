/- Each function of the machine comes to what its pure function says. -/
import Derived.Test.YtigadacjaglfeaaFc1
import Derived.Test.YtigadacjaglfeaaIns
import Derived.Test.YtigadacjaglfeaaFb
namespace Go.Proofs.Ytigadacjaglfeaa.X
open Go Go.RowKit Go.Sx
set_option linter.unusedVariables false

set_option maxRecDepth 100000 in
theorem iospace_Bus_Unmap_1.calls {M : Nat → Prop} {w0 : World} (k : Nat) (a0_r_Base : Int) (a0_r_Len : Int) (a0_owner : Int) (a0_data : (List (Int × Int))) (a1 : Range) (b0 : Nat) (m0_data : Nat) (b1 : Nat) {r : Bool} (hs : St M w0 w0 []) (hr : Sr M w0 [bx b0 80 [.int .u64 a0_r_Base, .int .u64 a0_r_Len, .int .i64 a0_owner, .map (some m0_data)], mp m0_data .u64 .u8 a0_data, bx b1 32 [.int .u64 a1.Base, .int .u64 a1.Len]])
  (h : iospace_Bus_Unmap_1.f k a0_r_Base a0_r_Len a0_owner a0_data a1 = some r) : Calls Try.prog 58 #[.pointer (some ⟨b0, 0, none⟩), .pointer (some ⟨b1, 0, none⟩)] w0 fun e w => ∃ v, e = .returned v ∧ (.bool r = v ∧ St M w0 w []) := by
 have H := (iospace_Bus_Unmap_1.f.eq_1 ..).symm.trans h
 clear h
 refine enter Try.func58 Z Try.ntmps58 Z (fun a hf => ?_)
 refine seq_reg (fun K1 hK1 => ?_)
 refine stq hf Z Z Z (ex_assign hf Z) fun a hf => ?_
 refine hK1 _ _ ?_
 refine seq_n (fun Q2 hN2 hR2 hX2 => ?_)
 refine region_dS fol 6 [(0, .pointer (some ⟨b0, 0, none⟩)), (1, .pointer (some ⟨b1, 0, none⟩)), (3, .bool false)] [(0, .pointer (some ⟨b0, 0, none⟩)), (1, .pointer (some ⟨b0, 0, none⟩)), (2, .pointer (some ⟨b0, 0, none⟩)), (3, .agg #[.int .u64 a0_r_Base, .int .u64 a0_r_Len]), (4, .agg #[.int .u64 a1.Base, .int .u64 a1.Len]), (5, .bool ((a0_r_Base == a1.Base) && ((a0_r_Len == a1.Len) && true)))] [] (fun w => (bx b0 80 [.int .u64 a0_r_Base, .int .u64 a0_r_Len, .int .i64 a0_owner, .map (some m0_data)]).ok w ∧ (bx b1 32 [.int .u64 a1.Base, .int .u64 a1.Len]).ok w ∧ True) hf ⟨Z, Z, Z, trivial⟩ (by kernel_rfl) (by kernel_rfl) Z (by decide) ⟨hr.now hs.drew (i := 0) Z, hr.now hs.drew (i := 2) Z, trivial⟩ hs ((.cons (qy Z Z Z Z Z fun hR hf => ex_move hf Z) (.cons (qy Z Z Z Z Z fun hR hf => ex_nilCheck hf Z) (.cons (qy Z Z Z Z Z fun hR hf => ex_fieldAddrB fa_80_0 Z hf Z) (.cons (qy Z Z Z Z Z fun hR hf => ex_loadA (cs := [.int .u64 a0_r_Base, .int .u64 a0_r_Len]) ag_32 hf Z (bx_cells (hR.1) Z)) (.cons (qy Z Z Z Z Z fun hR hf => ex_loadA (cs := [.int .u64 a1.Base, .int .u64 a1.Len]) ag_32 hf Z (bx_cells (hR.2.1) Z)) (.cons (qy Z Z Z Z Z fun hR hf => ex_eqS (FE.mk Try.underlying32 (by kernel_rfl) (by kernel_rfl) (.i (by decide) Try.underlying22 Z Z (.i (by decide) Try.underlying22 Z Z .nil))) hf Z Z) .nil))))))) (fun K3 hK3 => ?_)
 refine RW.zero (by kernel_rfl) (by kernel_rfl) [(3, .bool false), (9, .bool ((a0_r_Base == a1.Base) && ((a0_r_Len == a1.Len) && true)))] ⟨Z, Z, trivial⟩ (fun a w hR hs hf => ?_)
 refine stq hf Z Z Z (ex_assign hf Z) fun a hf => ?_
 refine hK3 _ _ ?_
 refine hN2 _ _ ?_
 refine wp_ret ?_
 have eR := some_eq H; subst eR
 exact ret1 Try.results58 hf Z ⟨_, Z, ⟨Z, hs⟩⟩

set_option maxRecDepth 100000 in
theorem slices_IndexFunc_iospace_mapping_iospace_mapping__Unmap_1.calls {M : Nat → Prop} {w0 : World} (k : Nat) (a0 : (List mapping)) (a1_0 : Range) (v0 : Value) (G0 : (List (Nat × Nat))) (b1_0 : Nat) {r : Int} (hs : St M w0 w0 []) (hr : Sr M w0 [rsl Km v0 (ids Fm G0), nds Fm G0 a0, bx b1_0 32 [.int .u64 a1_0.Base, .int .u64 a1_0.Len]])
  (h : slices_IndexFunc_iospace_mapping_iospace_mapping__Unmap_1.f k a0 a1_0 = some r) : Calls Try.prog 49 #[v0, .func (.func 58) #[] #[.pointer (some ⟨b1_0, 0, none⟩)]] w0 fun e w => ∃ v, e = .returned v ∧ (.int .i64 r = v ∧ St M w0 w []) := by
 have H := (slices_IndexFunc_iospace_mapping_iospace_mapping__Unmap_1.f.eq_1 ..).symm.trans h
 clear h
 refine enter Try.func49 Z Try.ntmps49 Z (fun a hf => ?_)
 refine seq_reg (fun K1 hK1 => ?_)
 refine stq hf Z Z Z (ex_assign hf Z) fun a hf => ?_
 refine hK1 _ _ ?_
 refine bnd H (fun x2 H2 HO2 => ?_)
 clear H
 refine seq_cut (fun a w => ∃ (x2s : Unit), x2 = .go x2s ∧ Fr a 19 [] ∧ St M w0 w []) (fun Q2 hJ2 hR2 hX2 => ?_) (fun a w hJ => ?_)
 ·
  replace H := H2
  refine seq_reg (fun K3 hK3 => ?_)
  refine stq hf Z Z Z (ex_move hf Z) fun a hf => stq hf Z Z Z (ex_lenS Try.underlying67 (ids_isSl (hr.now hs (i := 0) Z) (hr.now hs (i := 1) Z)) hf Z) fun a hf => stq hf Z Z Z (ex_move hf Z) fun a hf => ?_
  refine hK3 _ _ ?_
  refine block_k (fun Q4 hN4 hR4 hX4 hY4 => ?_)
  refine loop_k (fun n a w => ∃ (y5 : Int), Fr a 19 [(0, v0), (1, .func (.func 58) #[] #[.pointer (some ⟨b1_0, 0, none⟩)]), (7, .int .i64 (a0.length : Int)), (8, .int .i64 y5)] ∧ St M w0 w [] ∧ slices_IndexFunc_iospace_mapping_iospace_mapping__Unmap_1.l1 n a0 a1_0 y5 = some x2) k ?_ (fun n7 a w hI Q7 hL7 hR7 hX7 => ?_)
  ·
   exact ⟨0, hf.sub ⟨Z, Z, Z, Z, trivial⟩, hs, H⟩
  ·
   obtain ⟨y5, hf, hs, H⟩ := hI
   cases n7 with
   | zero => exact absurd H (by rw [slices_IndexFunc_iospace_mapping_iospace_mapping__Unmap_1.l1.eq_1]; intro h; cases h)
   | succ k7 =>
    replace H := (slices_IndexFunc_iospace_mapping_iospace_mapping__Unmap_1.l1.eq_2 ..).symm.trans H
    refine seq_reg (fun K8 hK8 => ?_)
    refine stq hf Z Z Z (ex_lss hf Z Z) fun a hf => ?_
    refine hK8 _ _ ?_
    refine seq_n (fun Q9 hN9 hR9 hX9 => ?_)
    refine itt H (fun hc10 H => ?_) (fun hc10 H => ?_)
    ·
     replace hf := hf.castB (t := 9) Z (dec_t hc10)
     refine cond_T hf Z ?_
     refine wp_skip ?_
     refine hN9 _ _ ?_
     refine seq_n (fun Q11 hN11 hR11 hX11 => ?_)
     refine block_k (fun Q12 hN12 hR12 hX12 hY12 => ?_)
     refine seq_reg (fun K13 hK13 => ?_)
     refine stq hf Z Z Z (ex_move hf Z) fun a hf => stq hf Z Z Z (ex_assign hf Z) fun a hf => ?_
     refine hK13 _ _ ?_
     refine ck_some H (fun hc14 H => ?_)
     refine bnd H (fun s15 hs15 H => ?_)
     refine seq_reg (fun K16 hK16 => ?_)
     refine stq hf Z Z Z (ex_move hf Z) fun a hf => stq hf Z Z Z (ex_move hf Z) fun a hf => stq hf Z Z Z (ex_move hf Z) fun a hf => stq hf Z Z Z (ex_indexAddr sa_67 (ids_isSl (hr.now hs (i := 0) Z) (hr.now hs (i := 1) Z)) hc14.1 hc14.2 hf Z Z) fun a hf => stq hf Z Z Z (ex_load sc_76 hf Z (ids_cell (F := Fm) (hr.now hs (i := 0) Z) (hr.now hs (i := 1) Z) ((0, 0) : Nat × Nat) hc14.1 hc14.2)) fun a hf => ?_
     refine stepF hf Z Z Z (ex_callV cf_58 hf Z Z) (iospace_Bus_Unmap_1.calls k7 ((gd mapping.zero a0 y5).r.Base) ((gd mapping.zero a0 y5).r.Len) ((gd mapping.zero a0 y5).owner) ((gd mapping.zero a0 y5).data) a1_0 (Fm.blk (gd ((0, 0) : Nat × Nat) G0 y5)) ((gd ((0, 0) : Nat × Nat) G0 y5).2) b1_0 (hs.enter .nil) (Sr.old hr hs .nil (i := 1) Z (fun _ h => nd_bx_ok (F := Fm) h ((0, 0) : Nat × Nat) mapping.zero hc14.1 hc14.2) (nd_bx_fs (F := Fm) (nds_len (hr.now hs (i := 1) Z)) ((0, 0) : Nat × Nat) mapping.zero hc14.1 hc14.2) (Sr.old hr hs .nil (i := 1) Z (fun _ h => nd_mo_ok (F := Fm) h ((0, 0) : Nat × Nat) mapping.zero hc14.1 hc14.2 0 Z) (nd_mo_fs (F := Fm) (nds_len (hr.now hs (i := 1) Z)) ((0, 0) : Nat × Nat) mapping.zero hc14.1 hc14.2 0 Z) (Sr.old hr hs .nil (i := 2) Z (fun _ h => h) (fun _ h => h) (Sr.nil _ _)))) hs15) (fun v w hR a hf => ?_)
     obtain ⟨rfl, hs'⟩ := hR
     replace hs := hs.step .nil hs'
     clear hs'
     refine hK16 _ _ ?_
     refine itt H (fun hc17 H => ?_) (fun hc17 H => ?_)
     ·
      replace hf := hf.castB (t := 16) Z hc17
      refine cond_T hf Z ?_
      refine seq_reg (fun K18 hK18 => ?_)
      refine stq hf Z Z Z (ex_move hf Z) fun a hf => stq hf Z Z Z (ex_assign hf Z) fun a hf => ?_
      refine hK18 _ _ ?_
      refine wp_ret ?_
      refine hR12 _ _ ?_
      refine hR11 _ _ ?_
      refine hR7 _ _ ?_
      refine hR4 _ _ ?_
      have e2 := some_eq H; subst e2; replace H := el_rt HO2
      refine hR2 _ _ ?_
      have eR := some_eq H; subst eR
      exact ret1 Try.results49 hf Z ⟨_, Z, ⟨Z, hs⟩⟩
     ·
      replace hf := hf.castB (t := 16) Z (bool_f hc17)
      refine cond_F hf Z ?_
      refine wp_skip ?_
      refine hN12 _ _ ?_
      refine hN11 _ _ ?_
      refine region_k (fun K19 hK19 => ?_)
      refine stq hf Z Z Z (ex_add hf Z Z) fun a hf => stq hf Z Z Z (ex_move hf Z) fun a hf => ?_
      refine hK19 _ _ ?_
      exact hL7 k7 _ _ (Nat.lt_succ_self _) ⟨(IntKind.i64.wrap (y5 + 1)), hf.sub ⟨Z, Z, Z, Z, trivial⟩, hs, H⟩
    ·
     replace hf := hf.castB (t := 9) Z (dec_f hc10)
     refine cond_F hf Z ?_
     refine wp_exit ?_
     refine hX9 0 _ _ ?_
     refine hX7 0 _ _ ?_
     refine hX4 _ _ ?_
     have e2 := some_eq H; subst e2
     exact hJ2 _ _ ⟨_, Z, hf.sub trivial, hs⟩
 ·
  obtain ⟨x2s, rfl, hf, hs⟩ := hJ
  replace H := el_go HO2
  clear HO2
  refine seq_reg (fun K20 hK20 => ?_)
  refine stq hf Z Z Z (ex_assign hf Z) fun a hf => ?_
  refine hK20 _ _ ?_
  refine wp_ret ?_
  have eR := some_eq H; subst eR
  exact ret1 Try.results49 hf Z ⟨_, Z, ⟨Z, hs⟩⟩

set_option maxRecDepth 100000 in
theorem iospace_Bus_Unmap.calls {M : Nat → Prop} {w0 : World} (k : Nat) (Aa : (List mapping)) (Ab : (List mapping)) (Ac : (List mapping)) (Ae : (List Bool)) (Af : (List fault)) (At : (List Traced)) (a1 : Int) (a2 : Range) (b0 : Nat) (Va : Value) (Ga : (List (Nat × Nat))) (Vb : Value) (Gb : (List (Nat × Nat))) (Vc : Value) (Gc : (List (Nat × Nat))) (Vf : Value) (Gf : (List Nat)) (Vt : Value) {r : (List mapping) × (List mapping) × (List mapping) × Int} (hs : St M w0 w0 [bxs b0 71 [([Va], 1), ([Vb], 1), ([Vc], 1), (List.map Value.bool Ae, 256), ([Vf], 1), ([Vt], 1)], osl Km Va (ids Fm Ga), nds Fm Ga Aa, osl Km Vb (ids Fm Gb), nds Fm Gb Ab, osl Km Vc (ids Fm Gc), nds Fm Gc Ac, osl Kf Vf (ids Ff Gf), nds Ff Gf Af, osl Kt Vt At]) (hr : Sr M w0 [])
  (h : iospace_Bus_Unmap.f k Aa Ab Ac Ae Af At a1 a2 = some r) : Calls Try.prog 38 #[.pointer (some ⟨b0, 0, none⟩), .int .i64 a1, .agg #[.int .u64 a2.Base, .int .u64 a2.Len]] w0 fun e w => ∃ v, e = .returned v ∧ (∃ (g0 : Value) (g1 : List (Nat × Nat)) (g2 : Value) (g3 : List (Nat × Nat)) (g4 : Value) (g5 : List (Nat × Nat)), .int .i64 r.2.2.2 = v ∧ St M w0 w [bxs b0 71 [([g0], 1), ([g2], 1), ([g4], 1), (List.map Value.bool Ae, 256), ([Vf], 1), ([Vt], 1)], osl Km g0 (ids Fm g1), nds Fm g1 r.1, osl Km g2 (ids Fm g3), nds Fm g3 r.2.1, osl Km g4 (ids Fm g5), nds Fm g5 r.2.2.1, osl Kf Vf (ids Ff Gf), nds Ff Gf Af, osl Kt Vt At]) := by
 have H := (iospace_Bus_Unmap.f.eq_1 ..).symm.trans h
 clear h
 refine enter Try.func38 Z Try.ntmps38 Z (fun a hf => ?_)
 refine seq_reg (fun K2 hK2 => ?_)
 refine stepV hf Z Z Z (er_box (cs := [.int .u64 a2.Base, .int .u64 a2.Len]) hs hf Z Z) (fun v w hR a hf => ?_)
 obtain ⟨b1, rfl, hs⟩ := hR
 refine stq hf Z Z Z (ex_assign hf Z) fun a hf => ?_
 refine hK2 _ _ ?_
 refine seq_n (fun Q3 hN3 hR3 hX3 => ?_)
 refine bnd H (fun s4 hs4 H => ?_)
 refine seq_reg (fun K5 hK5 => ?_)
 refine stq hf Z Z Z (ex_move hf Z) fun a hf => ?_
 refine stepF hf Z Z Z (ex_call cf_23 hf Z) (iospace_validSpace.calls k a1 (hs.enter sN) (Sr.nil _ _) hs4) (fun v w hR a hf => ?_)
 obtain ⟨rfl, hs'⟩ := hR
 replace hs := hs.step sN hs'
 clear hs'
 refine stq hf Z Z Z (ex_not hf Z) fun a hf => ?_
 refine hK5 _ _ ?_
 refine itt H (fun hc6 H => ?_) (fun hc6 H => ?_)
 ·
  replace hf := hf.castB (t := 10) Z (nbool_f hc6)
  refine cond_F hf Z ?_
  refine wp_skip ?_
  refine hN3 _ _ ?_
  refine bnd H (fun x7 H7 HO7 => ?_)
  clear H
  refine seq_cut (fun a w => Fr a 36 [(0, .pointer (some ⟨b0, 0, none⟩)), (1, .int .i64 a1), (7, .int .i64 x7)] ∧ St M w0 w [bxs b0 71 [([Va], 1), ([Vb], 1), ([Vc], 1), (List.map Value.bool Ae, 256), ([Vf], 1), ([Vt], 1)], osl Km Va (ids Fm Ga), nds Fm Ga Aa, osl Km Vb (ids Fm Gb), nds Fm Gb Ab, osl Km Vc (ids Fm Gc), nds Fm Gc Ac, osl Kf Vf (ids Ff Gf), nds Ff Gf Af, osl Kt Vt At]) (fun Q7 hJ7 hR7 hX7 => ?_) (fun a w hJ => ?_)
  ·
   replace H := H7
   refine itt H (fun hc8 H => ?_) (fun hc8 H => ?_)
   ·
    refine bnd H (fun s9 hs9 H => ?_)
    refine region_k (fun K10 hK10 => ?_)
    refine stq hf Z Z Z (ex_move hf Z) fun a hf => stq hf Z Z Z (ex_move hf Z) fun a hf => stq hf Z Z Z (ex_nilCheck hf Z) fun a hf => stq hf Z Z Z (ex_fieldAddrB fa_71_0 Z hf Z) fun a hf => stq hf Z Z Z (ex_indexAddrAC 0 ia_68 Z hc8 (by decide) Z hf Z Z) fun a hf => stq hf Z Z Z (ex_load sc_67 hf Z (sb_cell1 (i := 0) (hs.get (i := 1) Z) Z Z)) fun a hf => stq hf Z Z Z (ex_makeFunc hf Z) fun a hf => ?_
    refine stepF hf Z Z Z (ex_call cf_49 hf Z) (slices_IndexFunc_iospace_mapping_iospace_mapping__Unmap_1.calls k Aa a2 Va Ga b1 (hs.enter sN) (Sr.own hs sN (i := 2) Z osl_rsl (fun _ h => h.1) (Sr.own hs sN (i := 3) Z (fun _ h => h) (fun _ h => h) (Sr.own hs sN (i := 0) Z (fun _ h => h) (fun _ h => h) (Sr.nil _ _)))) hs9) (fun v w hR a hf => ?_)
    obtain ⟨rfl, hs'⟩ := hR
    replace hs := hs.step sN hs'
    clear hs'
    refine stq hf Z Z Z (ex_assign hf Z) fun a hf => ?_
    refine hK10 _ _ ?_
    replace hs := hs.keep (.d sN)
    have e7 := some_eq H; subst e7
    exact hJ7 _ _ ⟨hf.sub ⟨Z, Z, Z, trivial⟩, hs⟩
   ·
    refine itt H (fun hc11 H => ?_) (fun hc11 H => ?_)
    ·
     refine bnd H (fun s12 hs12 H => ?_)
     refine region_k (fun K13 hK13 => ?_)
     refine stq hf Z Z Z (ex_move hf Z) fun a hf => stq hf Z Z Z (ex_move hf Z) fun a hf => stq hf Z Z Z (ex_nilCheck hf Z) fun a hf => stq hf Z Z Z (ex_fieldAddrB fa_71_0 Z hf Z) fun a hf => stq hf Z Z Z (ex_indexAddrAC 1 ia_68 Z hc11 (by decide) Z hf Z Z) fun a hf => stq hf Z Z Z (ex_load sc_67 hf Z (sb_cell1 (i := 1) (hs.get (i := 1) Z) Z Z)) fun a hf => stq hf Z Z Z (ex_makeFunc hf Z) fun a hf => ?_
     refine stepF hf Z Z Z (ex_call cf_49 hf Z) (slices_IndexFunc_iospace_mapping_iospace_mapping__Unmap_1.calls k Ab a2 Vb Gb b1 (hs.enter sN) (Sr.own hs sN (i := 4) Z osl_rsl (fun _ h => h.1) (Sr.own hs sN (i := 5) Z (fun _ h => h) (fun _ h => h) (Sr.own hs sN (i := 0) Z (fun _ h => h) (fun _ h => h) (Sr.nil _ _)))) hs12) (fun v w hR a hf => ?_)
     obtain ⟨rfl, hs'⟩ := hR
     replace hs := hs.step sN hs'
     clear hs'
     refine stq hf Z Z Z (ex_assign hf Z) fun a hf => ?_
     refine hK13 _ _ ?_
     replace hs := hs.keep (.d sN)
     have e7 := some_eq H; subst e7
     exact hJ7 _ _ ⟨hf.sub ⟨Z, Z, Z, trivial⟩, hs⟩
    ·
     refine itt H (fun hc14 H => ?_) (fun hc14 H => ?_)
     ·
      refine bnd H (fun s15 hs15 H => ?_)
      refine region_k (fun K16 hK16 => ?_)
      refine stq hf Z Z Z (ex_move hf Z) fun a hf => stq hf Z Z Z (ex_move hf Z) fun a hf => stq hf Z Z Z (ex_nilCheck hf Z) fun a hf => stq hf Z Z Z (ex_fieldAddrB fa_71_0 Z hf Z) fun a hf => stq hf Z Z Z (ex_indexAddrAC 2 ia_68 Z hc14 (by decide) Z hf Z Z) fun a hf => stq hf Z Z Z (ex_load sc_67 hf Z (sb_cell1 (i := 2) (hs.get (i := 1) Z) Z Z)) fun a hf => stq hf Z Z Z (ex_makeFunc hf Z) fun a hf => ?_
      refine stepF hf Z Z Z (ex_call cf_49 hf Z) (slices_IndexFunc_iospace_mapping_iospace_mapping__Unmap_1.calls k Ac a2 Vc Gc b1 (hs.enter sN) (Sr.own hs sN (i := 6) Z osl_rsl (fun _ h => h.1) (Sr.own hs sN (i := 7) Z (fun _ h => h) (fun _ h => h) (Sr.own hs sN (i := 0) Z (fun _ h => h) (fun _ h => h) (Sr.nil _ _)))) hs15) (fun v w hR a hf => ?_)
      obtain ⟨rfl, hs'⟩ := hR
      replace hs := hs.step sN hs'
      clear hs'
      refine stq hf Z Z Z (ex_assign hf Z) fun a hf => ?_
      refine hK16 _ _ ?_
      replace hs := hs.keep (.d sN)
      have e7 := some_eq H; subst e7
      exact hJ7 _ _ ⟨hf.sub ⟨Z, Z, Z, trivial⟩, hs⟩
     ·
      cases H
  ·
   obtain ⟨hf, hs⟩ := hJ
   replace H := HO7
   clear HO7
   refine seq_n (fun Q17 hN17 hR17 hX17 => ?_)
   refine seq_reg (fun K18 hK18 => ?_)
   refine stq hf Z Z Z (ex_move hf Z) fun a hf => stq hf Z Z Z (ex_lss hf Z Z) fun a hf => ?_
   refine hK18 _ _ ?_
   refine itt H (fun hc19 H => ?_) (fun hc19 H => ?_)
   ·
    replace hf := hf.castB (t := 20) Z (dec_t hc19)
    refine cond_T hf Z ?_
    refine seq_reg (fun K20 hK20 => ?_)
    refine stq hf Z Z Z (ex_assign hf Z) fun a hf => ?_
    refine hK20 _ _ ?_
    refine wp_ret ?_
    refine hR17 _ _ ?_
    have eR := some_eq H; subst eR
    exact ret1 Try.results38 hf Z ⟨_, Z, ⟨Va, Ga, Vb, Gb, Vc, Gc, Z, hs⟩⟩
   ·
    replace hf := hf.castB (t := 20) Z (dec_f hc19)
    refine cond_F hf Z ?_
    refine wp_skip ?_
    refine hN17 _ _ ?_
    refine bnd H (fun x21 H21 HO21 => ?_)
    clear H
    refine seq_cut (fun a w => ∃ (v22 : Value) (G23 : List (Nat × Nat)) (v24 : Value) (G25 : List (Nat × Nat)) (v26 : Value) (G27 : List (Nat × Nat)), Fr a 36 [] ∧ St M w0 w [bxs b0 71 [([v22], 1), ([v24], 1), ([v26], 1), (List.map Value.bool Ae, 256), ([Vf], 1), ([Vt], 1)], osl Km v22 (ids Fm G23), nds Fm G23 x21.1, osl Km v24 (ids Fm G25), nds Fm G25 x21.2.1, osl Km v26 (ids Fm G27), nds Fm G27 x21.2.2, osl Kf Vf (ids Ff Gf), nds Ff Gf Af, osl Kt Vt At]) (fun Q21 hJ21 hR21 hX21 => ?_) (fun a w hJ => ?_)
    ·
     replace H := H21
     refine itt H (fun hc28 H => ?_) (fun hc28 H => ?_)
     ·
      refine ck_some H (fun hc29 H => ?_)
      refine region_o2S fol 14 [(0, .pointer (some ⟨b0, 0, none⟩)), (1, .int .i64 a1), (7, .int .i64 x7)] [] [(0, .pointer (some ⟨b0, 0, none⟩)), (1, .int .i64 a1), (2, .pointer (some ⟨b0, 0, none⟩)), (3, .int .i64 a1), (4, .pointer (some ⟨b0, 0, none⟩)), (5, .pointer (some ⟨b0, 0, none⟩)), (6, .pointer (some ⟨b0, 0, none⟩)), (7, Va), (8, .int .i64 x7), (9, .int .i64 x7), (10, .int .i64 (IntKind.i64.wrap (x7 + 1))), (12, .pointer (some ⟨b0, 0, none⟩)), (13, .pointer (some ⟨b0, 0, none⟩))] [11] (fun w => (bxs b0 71 [([Va], 1), ([Vb], 1), ([Vc], 1), (List.map Value.bool Ae, 256), ([Vf], 1), ([Vt], 1)]).ok w ∧ True) hf ⟨Z, Z, Z, trivial⟩ trivial (by kernel_rfl) (by kernel_rfl) (by kernel_rfl) Z (by decide) ⟨hs.drew.get (i := 0) Z, trivial⟩ hs ((.cons (qyo Z Z Z Z Z fun hR hf => ex_move hf Z) (.cons (qyo Z Z Z Z Z fun hR hf => ex_move hf Z) (.cons (qyo Z Z Z Z Z fun hR hf => ex_move hf Z) (.cons (qyo Z Z Z Z Z fun hR hf => ex_move hf Z) (.cons (qyo Z Z Z Z Z fun hR hf => ex_nilCheck hf Z) (.cons (qyo Z Z Z Z Z fun hR hf => ex_fieldAddrB fa_71_0 Z hf Z) (.cons (qyo Z Z Z Z Z fun hR hf => ex_indexAddrAC 0 ia_68 Z hc28 (by decide) Z hf Z Z) (.cons (qyo Z Z Z Z Z fun hR hf => ex_load sc_67 hf Z (sb_cell1 (i := 0) (hR.1) Z Z)) (.cons (qyo Z Z Z Z Z fun hR hf => ex_move hf Z) (.cons (qyo Z Z Z Z Z fun hR hf => ex_move hf Z) (.cons (qyo Z Z Z Z Z fun hR hf => ex_add hf Z Z) (.cons (qyo Z Z Z Z Z fun hR hf => ex_nilCheck hf Z) (.cons (qyo Z Z Z Z Z fun hR hf => ex_fieldAddrB fa_71_0 Z hf Z) .nil)))))))))))))) (fun K31 hK31 => ?_)
      refine RWo.one 11 (by kernel_rfl) (by kernel_rfl) rfl (fun d hd => by cases hd; rfl) [(28, Va), (29, .int .i64 x7), (31, .int .i64 (IntKind.i64.wrap (x7 + 1)))] ⟨rfl, rfl, rfl, trivial⟩ (fun a w hR hs hf => ⟨wanted_yes hf rfl, ?_⟩)
      refine estep_f (ex_call cf_59 hf Z) (delete_67.calls (ids Fm Ga) x7 (IntKind.i64.wrap (x7 + 1)) Va (hs.enter (.k (.c sN))) (delete_nd (F := Fm) (L := Aa) (hs.get (i := 2) Z) hc29)) (fun v w hR => ?_)
      obtain ⟨v30, rfl, hs'⟩ := hR
      replace hs := hs.step (.k (.c sN)) hs'
      clear hs'
      replace hs := hs.p2
      replace hs := St.ndel (F := Fm) (G := Ga) (L := Aa) hc29 hs
      refine ⟨[], _, [], (fun _ => True), hs.fn, Z, Z, ⟨hs.get (i := 2) Z, trivial⟩, trivial, hs, (by kernel_rfl), .nil, ?_⟩
      refine RWo.zero (by kernel_rfl) (by kernel_rfl) [(22, .int .i64 a1), (32, v30), (34, .pointer (some ⟨b0, 0, none⟩))] ⟨Z, Z, Z, trivial⟩ (fun a w hR hs hf => ?_)
      refine stq hf Z Z Z (ex_indexAddrAC 0 ia_68 Z hc28 (by decide) Z hf Z Z) fun a hf => ?_
      refine stepS hf Z Z (er_storeS1 (i := 0) hs (.k (.k (.c sN))) hf Z Z (IsSl.one (ids_isSl (osl_rsl _ (hs.get (i := 1) Z)) (hs.get (i := 0) Z))) sz_67 Z Z) (fun w hs => ?_)
      refine hK31 _ _ ?_
      replace hs := hs.p9.p9.p9.p9.p9.p9.p9.p8.p9.p9
      have e21 := some_eq H; subst e21
      exact hJ21 _ _ ⟨v30, (Ga.take x7.toNat ++ Ga.drop (IntKind.i64.wrap (x7 + 1)).toNat), Vb, Gb, Vc, Gc, hf.sub trivial, hs⟩
     ·
      refine itt H (fun hc32 H => ?_) (fun hc32 H => ?_)
      ·
       refine ck_some H (fun hc33 H => ?_)
       refine region_o2S fol 14 [(0, .pointer (some ⟨b0, 0, none⟩)), (1, .int .i64 a1), (7, .int .i64 x7)] [] [(0, .pointer (some ⟨b0, 0, none⟩)), (1, .int .i64 a1), (2, .pointer (some ⟨b0, 0, none⟩)), (3, .int .i64 a1), (4, .pointer (some ⟨b0, 0, none⟩)), (5, .pointer (some ⟨b0, 0, none⟩)), (6, .pointer (some ⟨b0, 1, none⟩)), (7, Vb), (8, .int .i64 x7), (9, .int .i64 x7), (10, .int .i64 (IntKind.i64.wrap (x7 + 1))), (12, .pointer (some ⟨b0, 0, none⟩)), (13, .pointer (some ⟨b0, 0, none⟩))] [11] (fun w => (bxs b0 71 [([Va], 1), ([Vb], 1), ([Vc], 1), (List.map Value.bool Ae, 256), ([Vf], 1), ([Vt], 1)]).ok w ∧ True) hf ⟨Z, Z, Z, trivial⟩ trivial (by kernel_rfl) (by kernel_rfl) (by kernel_rfl) Z (by decide) ⟨hs.drew.get (i := 0) Z, trivial⟩ hs ((.cons (qyo Z Z Z Z Z fun hR hf => ex_move hf Z) (.cons (qyo Z Z Z Z Z fun hR hf => ex_move hf Z) (.cons (qyo Z Z Z Z Z fun hR hf => ex_move hf Z) (.cons (qyo Z Z Z Z Z fun hR hf => ex_move hf Z) (.cons (qyo Z Z Z Z Z fun hR hf => ex_nilCheck hf Z) (.cons (qyo Z Z Z Z Z fun hR hf => ex_fieldAddrB fa_71_0 Z hf Z) (.cons (qyo Z Z Z Z Z fun hR hf => ex_indexAddrAC 1 ia_68 Z hc32 (by decide) Z hf Z Z) (.cons (qyo Z Z Z Z Z fun hR hf => ex_load sc_67 hf Z (sb_cell1 (i := 1) (hR.1) Z Z)) (.cons (qyo Z Z Z Z Z fun hR hf => ex_move hf Z) (.cons (qyo Z Z Z Z Z fun hR hf => ex_move hf Z) (.cons (qyo Z Z Z Z Z fun hR hf => ex_add hf Z Z) (.cons (qyo Z Z Z Z Z fun hR hf => ex_nilCheck hf Z) (.cons (qyo Z Z Z Z Z fun hR hf => ex_fieldAddrB fa_71_0 Z hf Z) .nil)))))))))))))) (fun K35 hK35 => ?_)
       refine RWo.one 11 (by kernel_rfl) (by kernel_rfl) rfl (fun d hd => by cases hd; rfl) [(28, Vb), (29, .int .i64 x7), (31, .int .i64 (IntKind.i64.wrap (x7 + 1)))] ⟨rfl, rfl, rfl, trivial⟩ (fun a w hR hs hf => ⟨wanted_yes hf rfl, ?_⟩)
       refine estep_f (ex_call cf_59 hf Z) (delete_67.calls (ids Fm Gb) x7 (IntKind.i64.wrap (x7 + 1)) Vb (hs.enter (.k (.k (.k (.c sN))))) (delete_nd (F := Fm) (L := Ab) (hs.get (i := 4) Z) hc33)) (fun v w hR => ?_)
       obtain ⟨v34, rfl, hs'⟩ := hR
       replace hs := hs.step (.k (.k (.k (.c sN)))) hs'
       clear hs'
       replace hs := hs.p4
       replace hs := St.ndel (F := Fm) (G := Gb) (L := Ab) hc33 hs
       refine ⟨[], _, [], (fun _ => True), hs.fn, Z, Z, ⟨hs.get (i := 2) Z, trivial⟩, trivial, hs, (by kernel_rfl), .nil, ?_⟩
       refine RWo.zero (by kernel_rfl) (by kernel_rfl) [(22, .int .i64 a1), (32, v34), (34, .pointer (some ⟨b0, 0, none⟩))] ⟨Z, Z, Z, trivial⟩ (fun a w hR hs hf => ?_)
       refine stq hf Z Z Z (ex_indexAddrAC 1 ia_68 Z hc32 (by decide) Z hf Z Z) fun a hf => ?_
       refine stepS hf Z Z (er_storeS1 (i := 1) hs (.k (.k (.c sN))) hf Z Z (IsSl.one (ids_isSl (osl_rsl _ (hs.get (i := 1) Z)) (hs.get (i := 0) Z))) sz_67 Z Z) (fun w hs => ?_)
       refine hK35 _ _ ?_
       replace hs := hs.p9.p9.p9.p9.p9.p6.p7.p9.p9.p9
       have e21 := some_eq H; subst e21
       exact hJ21 _ _ ⟨Va, Ga, v34, (Gb.take x7.toNat ++ Gb.drop (IntKind.i64.wrap (x7 + 1)).toNat), Vc, Gc, hf.sub trivial, hs⟩
      ·
       refine itt H (fun hc36 H => ?_) (fun hc36 H => ?_)
       ·
        refine ck_some H (fun hc37 H => ?_)
        refine region_o2S fol 14 [(0, .pointer (some ⟨b0, 0, none⟩)), (1, .int .i64 a1), (7, .int .i64 x7)] [] [(0, .pointer (some ⟨b0, 0, none⟩)), (1, .int .i64 a1), (2, .pointer (some ⟨b0, 0, none⟩)), (3, .int .i64 a1), (4, .pointer (some ⟨b0, 0, none⟩)), (5, .pointer (some ⟨b0, 0, none⟩)), (6, .pointer (some ⟨b0, 2, none⟩)), (7, Vc), (8, .int .i64 x7), (9, .int .i64 x7), (10, .int .i64 (IntKind.i64.wrap (x7 + 1))), (12, .pointer (some ⟨b0, 0, none⟩)), (13, .pointer (some ⟨b0, 0, none⟩))] [11] (fun w => (bxs b0 71 [([Va], 1), ([Vb], 1), ([Vc], 1), (List.map Value.bool Ae, 256), ([Vf], 1), ([Vt], 1)]).ok w ∧ True) hf ⟨Z, Z, Z, trivial⟩ trivial (by kernel_rfl) (by kernel_rfl) (by kernel_rfl) Z (by decide) ⟨hs.drew.get (i := 0) Z, trivial⟩ hs ((.cons (qyo Z Z Z Z Z fun hR hf => ex_move hf Z) (.cons (qyo Z Z Z Z Z fun hR hf => ex_move hf Z) (.cons (qyo Z Z Z Z Z fun hR hf => ex_move hf Z) (.cons (qyo Z Z Z Z Z fun hR hf => ex_move hf Z) (.cons (qyo Z Z Z Z Z fun hR hf => ex_nilCheck hf Z) (.cons (qyo Z Z Z Z Z fun hR hf => ex_fieldAddrB fa_71_0 Z hf Z) (.cons (qyo Z Z Z Z Z fun hR hf => ex_indexAddrAC 2 ia_68 Z hc36 (by decide) Z hf Z Z) (.cons (qyo Z Z Z Z Z fun hR hf => ex_load sc_67 hf Z (sb_cell1 (i := 2) (hR.1) Z Z)) (.cons (qyo Z Z Z Z Z fun hR hf => ex_move hf Z) (.cons (qyo Z Z Z Z Z fun hR hf => ex_move hf Z) (.cons (qyo Z Z Z Z Z fun hR hf => ex_add hf Z Z) (.cons (qyo Z Z Z Z Z fun hR hf => ex_nilCheck hf Z) (.cons (qyo Z Z Z Z Z fun hR hf => ex_fieldAddrB fa_71_0 Z hf Z) .nil)))))))))))))) (fun K39 hK39 => ?_)
        refine RWo.one 11 (by kernel_rfl) (by kernel_rfl) rfl (fun d hd => by cases hd; rfl) [(28, Vc), (29, .int .i64 x7), (31, .int .i64 (IntKind.i64.wrap (x7 + 1)))] ⟨rfl, rfl, rfl, trivial⟩ (fun a w hR hs hf => ⟨wanted_yes hf rfl, ?_⟩)
        refine estep_f (ex_call cf_59 hf Z) (delete_67.calls (ids Fm Gc) x7 (IntKind.i64.wrap (x7 + 1)) Vc (hs.enter (.k (.k (.k (.k (.k (.c sN))))))) (delete_nd (F := Fm) (L := Ac) (hs.get (i := 6) Z) hc37)) (fun v w hR => ?_)
        obtain ⟨v38, rfl, hs'⟩ := hR
        replace hs := hs.step (.k (.k (.k (.k (.k (.c sN)))))) hs'
        clear hs'
        replace hs := hs.p6
        replace hs := St.ndel (F := Fm) (G := Gc) (L := Ac) hc37 hs
        refine ⟨[], _, [], (fun _ => True), hs.fn, Z, Z, ⟨hs.get (i := 2) Z, trivial⟩, trivial, hs, (by kernel_rfl), .nil, ?_⟩
        refine RWo.zero (by kernel_rfl) (by kernel_rfl) [(22, .int .i64 a1), (32, v38), (34, .pointer (some ⟨b0, 0, none⟩))] ⟨Z, Z, Z, trivial⟩ (fun a w hR hs hf => ?_)
        refine stq hf Z Z Z (ex_indexAddrAC 2 ia_68 Z hc36 (by decide) Z hf Z Z) fun a hf => ?_
        refine stepS hf Z Z (er_storeS1 (i := 2) hs (.k (.k (.c sN))) hf Z Z (IsSl.one (ids_isSl (osl_rsl _ (hs.get (i := 1) Z)) (hs.get (i := 0) Z))) sz_67 Z Z) (fun w hs => ?_)
        refine hK39 _ _ ?_
        replace hs := hs.p9.p9.p9.p4.p5.p9.p9.p9.p9.p9
        have e21 := some_eq H; subst e21
        exact hJ21 _ _ ⟨Va, Ga, Vb, Gb, v38, (Gc.take x7.toNat ++ Gc.drop (IntKind.i64.wrap (x7 + 1)).toNat), hf.sub trivial, hs⟩
       ·
        cases H
    ·
     obtain ⟨v22, G23, v24, G25, v26, G27, hf, hs⟩ := hJ
     replace H := HO21
     clear HO21
     refine seq_reg (fun K40 hK40 => ?_)
     refine stq hf Z Z Z (ex_assign hf Z) fun a hf => ?_
     refine hK40 _ _ ?_
     refine wp_ret ?_
     have eR := some_eq H; subst eR
     exact ret1 Try.results38 hf Z ⟨_, Z, ⟨v22, G23, v24, G25, v26, G27, Z, hs⟩⟩
 ·
  replace hf := hf.castB (t := 10) Z (nbool_t hc6)
  refine cond_T hf Z ?_
  refine seq_reg (fun K41 hK41 => ?_)
  refine stq hf Z Z Z (ex_assign hf Z) fun a hf => ?_
  refine hK41 _ _ ?_
  refine wp_ret ?_
  refine hR3 _ _ ?_
  have eR := some_eq H; subst eR
  replace hs := hs.keep (.d sN)
  exact ret1 Try.results38 hf Z ⟨_, Z, ⟨Va, Ga, Vb, Gb, Vc, Gc, Z, hs⟩⟩

set_option maxRecDepth 100000 in
theorem help_Mod.calls {M : Nat → Prop} {w0 : World} (k : Nat) (a0 : Int) (a1 : Int) {r : Int} (hs : St M w0 w0 []) (hr : Sr M w0 [])
  (h : help_Mod.f k a0 a1 = some r) : Calls Try.prog 10 #[.int .i64 a0, .int .i64 a1] w0 fun e w => ∃ v, e = .returned v ∧ (.int .i64 r = v ∧ St M w0 w []) := by
 have H := (help_Mod.f.eq_1 ..).symm.trans h
 clear h
 refine enter Try.func10 Z Try.ntmps10 Z (fun a hf => ?_)
 refine seq_reg (fun K1 hK1 => ?_)
 refine stq hf Z Z Z (ex_assign hf Z) fun a hf => ?_
 refine hK1 _ _ ?_
 refine ck_some H (fun hc2 H => ?_)
 refine seq_reg (fun K3 hK3 => ?_)
 refine stq hf Z Z Z (ex_move hf Z) fun a hf => stq hf Z Z Z (ex_conv Try.underlying3 Try.underlying72 hf Z) fun a hf => stq hf Z Z Z (ex_move hf Z) fun a hf => stq hf Z Z Z (ex_conv Try.underlying3 Try.underlying72 hf Z) fun a hf => stq hf Z Z Z (ex_rem hf Z Z hc2) fun a hf => stq hf Z Z Z (ex_conv Try.underlying72 Try.underlying3 hf Z) fun a hf => stq hf Z Z Z (ex_assign hf Z) fun a hf => ?_
 refine hK3 _ _ ?_
 refine wp_ret ?_
 have eR := some_eq H; subst eR
 exact ret1 Try.results10 hf Z ⟨_, Z, ⟨Z, hs⟩⟩

set_option maxRecDepth 100000 in
theorem ref09_Ones.calls {M : Nat → Prop} {w0 : World} (k : Nat) (a0 : Int) {r : Int} (hs : St M w0 w0 []) (hr : Sr M w0 [])
  (h : ref09_Ones.f k a0 = some r) : Calls Try.prog 14 #[.int .i64 a0] w0 fun e w => ∃ v, e = .returned v ∧ (.int .u64 r = v ∧ St M w0 w []) := by
 have H := (ref09_Ones.f.eq_1 ..).symm.trans h
 clear h
 refine enter Try.func14 Z Try.ntmps14 Z (fun a hf => ?_)
 refine seq_reg (fun K1 hK1 => ?_)
 refine stq hf Z Z Z (ex_assign hf Z) fun a hf => ?_
 refine hK1 _ _ ?_
 refine ck_some H (fun hc2 H => ?_)
 refine seq_reg (fun K3 hK3 => ?_)
 refine stq hf Z Z Z (ex_move hf Z) fun a hf => stq hf Z Z Z (ex_mul hf Z Z) fun a hf => stq hf Z Z Z (ex_sub hf Z Z) fun a hf => stq hf Z Z Z (ex_conv Try.underlying3 Try.underlying72 hf Z) fun a hf => stq hf Z Z Z (ex_shr hf Z Z hc2) fun a hf => stq hf Z Z Z (ex_assign hf Z) fun a hf => ?_
 refine hK3 _ _ ?_
 refine wp_ret ?_
 have eR := some_eq H; subst eR
 exact ret1 Try.results14 hf Z ⟨_, Z, ⟨Z, hs⟩⟩

set_option maxRecDepth 100000 in
theorem ref09_Bus_TakeTrace.calls {M : Nat → Prop} {w0 : World} (k : Nat) (Ad : (List ref09_mapping)) (Ae : (List Bool)) (Af : (List ref09_fault)) (At : (List Traced)) (b0 : Nat) (Vd : Value) (Gd : (List SlV)) (Vf : Value) (Vt : Value) {r : (List Traced) × (List Traced)} (hs : St M w0 w0 [bxs b0 56 [([Vd], 1), (List.map Value.bool Ae, 256), ([Vf], 1), ([Vt], 1)], osl KR Vd (List.zip Gd Ad), ndv FR Gd Ad, osl KF Vf Af, osl Kt Vt At]) (hr : Sr M w0 [])
  (h : ref09_Bus_TakeTrace.f k Ad Ae Af At = some r) : Calls Try.prog 22 #[.pointer (some ⟨b0, 0, none⟩)] w0 fun e w => ∃ v, e = .returned v ∧ (∃ (g0 : Value) (g1 : Value), g1 = v ∧ St M w0 w [bxs b0 56 [([Vd], 1), (List.map Value.bool Ae, 256), ([Vf], 1), ([g0], 1)], osl Kt g0 r.1, osl KR Vd (List.zip Gd Ad), ndv FR Gd Ad, osl KF Vf Af, osl Kt g1 r.2]) := by
 have H := (ref09_Bus_TakeTrace.f.eq_1 ..).symm.trans h
 clear h
 refine enter Try.func22 Z Try.ntmps22 Z (fun a hf => ?_)
 refine seq_reg (fun K1 hK1 => ?_)
 refine stq hf Z Z Z (ex_assign hf Z) fun a hf => ?_
 refine hK1 _ _ ?_
 refine seq_reg (fun K2 hK2 => ?_)
 refine stq hf Z Z Z (ex_move hf Z) fun a hf => stq hf Z Z Z (ex_nilCheck hf Z) fun a hf => stq hf Z Z Z (ex_fieldAddrB fa_56_3 Z hf Z) fun a hf => stq hf Z Z Z (ex_load sc_54 hf Z (sb_cell1 (i := 3) (hs.get (i := 0) Z) Z Z)) fun a hf => stq hf Z Z Z (ex_assign hf Z) fun a hf => ?_
 refine hK2 _ _ ?_
 refine seq_reg (fun K3 hK3 => ?_)
 refine stq hf Z Z Z (ex_move hf Z) fun a hf => stq hf Z Z Z (ex_nilCheck hf Z) fun a hf => stq hf Z Z Z (ex_fieldAddrB fa_56_3 Z hf Z) fun a hf => ?_
 refine stepS hf Z Z (er_storeS1 (i := 3) hs (.c sN) hf Z Z (IsSl.one isl_nil) sz_54 Z Z) (fun w hs => ?_)
 refine hK3 _ _ ?_
 refine seq_reg (fun K4 hK4 => ?_)
 refine stq hf Z Z Z (ex_move hf Z) fun a hf => stq hf Z Z Z (ex_assign hf Z) fun a hf => ?_
 refine hK4 _ _ ?_
 refine wp_ret ?_
 have eR := some_eq H; subst eR
 replace hs := hs.nilS Kt
 replace hs := hs.p5.p5.p5.p5.p4.p5
 exact ret1 Try.results22 hf Z ⟨_, Z, ⟨(.slice none 0 0), Vt, Z, hs⟩⟩

set_option maxRecDepth 100000 in
theorem ref09_Bus_Enable.calls {M : Nat → Prop} {w0 : World} (k : Nat) (Ad : (List ref09_mapping)) (Ae : (List Bool)) (Af : (List ref09_fault)) (At : (List Traced)) (a1 : Int) (a2 : Bool) (b0 : Nat) (Vd : Value) (Gd : (List SlV)) (Vf : Value) (Vt : Value) {r : (List Bool) × Int} (hs : St M w0 w0 [bxs b0 56 [([Vd], 1), (List.map Value.bool Ae, 256), ([Vf], 1), ([Vt], 1)], osl KR Vd (List.zip Gd Ad), ndv FR Gd Ad, osl KF Vf Af, osl Kt Vt At]) (hr : Sr M w0 [])
  (h : ref09_Bus_Enable.f k Ad Ae Af At a1 a2 = some r) : Calls Try.prog 40 #[.pointer (some ⟨b0, 0, none⟩), .int .i64 a1, .bool a2] w0 fun e w => ∃ v, e = .returned v ∧ (.int .i64 r.2 = v ∧ St M w0 w [bxs b0 56 [([Vd], 1), (List.map Value.bool r.1, 256), ([Vf], 1), ([Vt], 1)], osl KR Vd (List.zip Gd Ad), ndv FR Gd Ad, osl KF Vf Af, osl Kt Vt At]) := by
 have H := (ref09_Bus_Enable.f.eq_1 ..).symm.trans h
 clear h
 refine enter Try.func40 Z Try.ntmps40 Z (fun a hf => ?_)
 refine seq_reg (fun K1 hK1 => ?_)
 refine stq hf Z Z Z (ex_assign hf Z) fun a hf => ?_
 refine hK1 _ _ ?_
 refine seq_n (fun Q2 hN2 hR2 hX2 => ?_)
 refine bnd H (fun x3 H3 HO3 => ?_)
 clear H
 refine seq_cut (fun a w => Fr a 19 [(0, .pointer (some ⟨b0, 0, none⟩)), (1, .int .i64 a1), (2, .bool a2), (12, .bool x3)] ∧ St M w0 w [bxs b0 56 [([Vd], 1), (List.map Value.bool Ae, 256), ([Vf], 1), ([Vt], 1)], osl KR Vd (List.zip Gd Ad), ndv FR Gd Ad, osl KF Vf Af, osl Kt Vt At]) (fun Q3 hJ3 hR3 hX3 => ?_) (fun a w hJ => ?_)
 ·
  replace H := H3
  refine itt H (fun hc4 H => ?_) (fun hc4 H => ?_)
  ·
   refine region_k (fun K5 hK5 => ?_)
   refine stq hf Z Z Z (ex_move hf Z) fun a hf => stq hf Z Z Z (ex_lss hf Z Z) fun a hf => stq hf Z Z Z (ex_move hf Z) fun a hf => ?_
   replace hf := hf.castB (t := 8) Z (dec_t hc4)
   replace hf := hf.castB (t := 9) Z (dec_t hc4)
   refine stepN hf Z Z Z fun a hf => stepN hf Z Z Z fun a hf => stq hf Z Z Z (ex_pickT hf Z Z) fun a hf => ?_
   refine hK5 _ _ ?_
   have e3 := some_eq H; subst e3
   exact hJ3 _ _ ⟨hf.sub ⟨Z, Z, Z, Z, trivial⟩, hs⟩
  ·
   refine region_k (fun K6 hK6 => ?_)
   refine stq hf Z Z Z (ex_move hf Z) fun a hf => stq hf Z Z Z (ex_lss hf Z Z) fun a hf => stq hf Z Z Z (ex_move hf Z) fun a hf => ?_
   replace hf := hf.castB (t := 8) Z (dec_f hc4)
   replace hf := hf.castB (t := 9) Z (dec_f hc4)
   refine stq hf Z Z Z (ex_move hf Z) fun a hf => stq hf Z Z Z (ex_geq hf Z Z) fun a hf => stq hf Z Z Z (ex_pickF hf Z Z) fun a hf => ?_
   refine hK6 _ _ ?_
   have e3 := some_eq H; subst e3
   exact hJ3 _ _ ⟨hf.sub ⟨Z, Z, Z, Z, trivial⟩, hs⟩
 ·
  obtain ⟨hf, hs⟩ := hJ
  replace H := HO3
  clear HO3
  refine itt H (fun hc7 H => ?_) (fun hc7 H => ?_)
  ·
   replace hf := hf.castB (t := 12) Z hc7
   refine cond_T hf Z ?_
   refine seq_reg (fun K8 hK8 => ?_)
   refine stq hf Z Z Z (ex_assign hf Z) fun a hf => ?_
   refine hK8 _ _ ?_
   refine wp_ret ?_
   refine hR2 _ _ ?_
   have eR := some_eq H; subst eR
   exact ret1 Try.results40 hf Z ⟨_, Z, ⟨Z, hs⟩⟩
  ·
   replace hf := hf.castB (t := 12) Z (bool_f hc7)
   refine cond_F hf Z ?_
   refine wp_skip ?_
   refine hN2 _ _ ?_
   refine ck_some H (fun hc9 H => ?_)
   refine seq_reg (fun K10 hK10 => ?_)
   refine stq hf Z Z Z (ex_move hf Z) fun a hf => stq hf Z Z Z (ex_move hf Z) fun a hf => stq hf Z Z Z (ex_move hf Z) fun a hf => stq hf Z Z Z (ex_nilCheck hf Z) fun a hf => stq hf Z Z Z (ex_fieldAddrB fa_56_1 Z hf Z) fun a hf => stq hf Z Z Z (ex_indexAddrA ia_52 Z hc9.1 hc9.2 hf Z Z) fun a hf => ?_
   refine stepS hf Z Z (er_storeS (f := Value.bool) (xs := Ae) (u := a2) (i := 1) hs (.c sN) hf Z Z Z sz_4 Z Z hc9.1 hc9.2) (fun w hs => ?_)
   refine hK10 _ _ ?_
   refine seq_reg (fun K11 hK11 => ?_)
   refine stq hf Z Z Z (ex_assign hf Z) fun a hf => ?_
   refine hK11 _ _ ?_
   refine wp_ret ?_
   have eR := some_eq H; subst eR
   exact ret1 Try.results40 hf Z ⟨_, Z, ⟨Z, hs⟩⟩

set_option maxRecDepth 100000 in
theorem ref09_Bus_Enabled.calls {M : Nat → Prop} {w0 : World} (k : Nat) (Ad : (List ref09_mapping)) (Ae : (List Bool)) (Af : (List ref09_fault)) (At : (List Traced)) (a1 : Int) (b0 : Nat) (Vd : Value) (Gd : (List SlV)) (Vf : Value) (Vt : Value) {r : Bool} (hs : St M w0 w0 []) (hr : Sr M w0 [bxs b0 56 [([Vd], 1), (List.map Value.bool Ae, 256), ([Vf], 1), ([Vt], 1)], rsl KR Vd (List.zip Gd Ad), ndv FR Gd Ad, rsl KF Vf Af, rsl Kt Vt At])
  (h : ref09_Bus_Enabled.f k Ad Ae Af At a1 = some r) : Calls Try.prog 48 #[.pointer (some ⟨b0, 0, none⟩), .int .i64 a1] w0 fun e w => ∃ v, e = .returned v ∧ (.bool r = v ∧ St M w0 w []) := by
 have H := (ref09_Bus_Enabled.f.eq_1 ..).symm.trans h
 clear h
 refine enter Try.func48 Z Try.ntmps48 Z (fun a hf => ?_)
 refine seq_reg (fun K1 hK1 => ?_)
 refine stq hf Z Z Z (ex_assign hf Z) fun a hf => ?_
 refine hK1 _ _ ?_
 refine itt H (fun hc2 H => ?_) (fun hc2 H => ?_)
 ·
  refine itt H (fun hc3 H => ?_) (fun hc3 H => ?_)
  ·
   refine ck_some H (fun hc4 H => ?_)
   refine seq_reg (fun K5 hK5 => ?_)
   refine stq hf Z Z Z (ex_move hf Z) fun a hf => stq hf Z Z Z (ex_geq hf Z Z) fun a hf => stq hf Z Z Z (ex_move hf Z) fun a hf => ?_
   replace hf := hf.castB (t := 6) Z (dec_t hc2)
   replace hf := hf.castB (t := 7) Z (dec_t hc2)
   refine stq hf Z Z Z (ex_move hf Z) fun a hf => stq hf Z Z Z (ex_lss hf Z Z) fun a hf => stq hf Z Z Z (ex_pickT hf Z Z) fun a hf => stq hf Z Z Z (ex_move hf Z) fun a hf => ?_
   replace hf := hf.castB (t := 9) Z (dec_t hc3)
   replace hf := hf.castB (t := 10) Z (dec_t hc3)
   replace hf := hf.castB (t := 11) Z (dec_t hc3)
   refine stq hf Z Z Z (ex_move hf Z) fun a hf => stq hf Z Z Z (ex_move hf Z) fun a hf => stq hf Z Z Z (ex_nilCheck hf Z) fun a hf => stq hf Z Z Z (ex_fieldAddrB fa_56_1 Z hf Z) fun a hf => stq hf Z Z Z (ex_indexAddrA ia_52 Z hc4.1 hc4.2 hf Z Z) fun a hf => stq hf Z Z Z (ex_load sc_4 hf Z (sb_cell (f := Value.bool) (xs := Ae) (i := 1) (z := false) (hr.now hs (i := 0) Z) Z Z hc4.1 hc4.2)) fun a hf => stq hf Z Z Z (ex_pickT hf Z Z) fun a hf => stq hf Z Z Z (ex_assign hf Z) fun a hf => ?_
   refine hK5 _ _ ?_
   refine wp_ret ?_
   have eR := some_eq H; subst eR
   exact ret1 Try.results48 hf Z ⟨_, Z, ⟨Z, hs⟩⟩
  ·
   refine seq_reg (fun K6 hK6 => ?_)
   refine stq hf Z Z Z (ex_move hf Z) fun a hf => stq hf Z Z Z (ex_geq hf Z Z) fun a hf => stq hf Z Z Z (ex_move hf Z) fun a hf => ?_
   replace hf := hf.castB (t := 6) Z (dec_t hc2)
   replace hf := hf.castB (t := 7) Z (dec_t hc2)
   refine stq hf Z Z Z (ex_move hf Z) fun a hf => stq hf Z Z Z (ex_lss hf Z Z) fun a hf => stq hf Z Z Z (ex_pickT hf Z Z) fun a hf => stq hf Z Z Z (ex_move hf Z) fun a hf => ?_
   replace hf := hf.castB (t := 9) Z (dec_f hc3)
   replace hf := hf.castB (t := 10) Z (dec_f hc3)
   replace hf := hf.castB (t := 11) Z (dec_f hc3)
   refine stepN hf Z Z Z fun a hf => stepN hf Z Z Z fun a hf => stepN hf Z Z Z fun a hf => stepN hf Z Z Z fun a hf => stepN hf Z Z Z fun a hf => stepN hf Z Z Z fun a hf => stq hf Z Z Z (ex_pickF hf Z Z) fun a hf => stq hf Z Z Z (ex_assign hf Z) fun a hf => ?_
   refine hK6 _ _ ?_
   refine wp_ret ?_
   have eR := some_eq H; subst eR
   exact ret1 Try.results48 hf Z ⟨_, Z, ⟨Z, hs⟩⟩
 ·
  refine seq_reg (fun K7 hK7 => ?_)
  refine stq hf Z Z Z (ex_move hf Z) fun a hf => stq hf Z Z Z (ex_geq hf Z Z) fun a hf => stq hf Z Z Z (ex_move hf Z) fun a hf => ?_
  replace hf := hf.castB (t := 6) Z (dec_f hc2)
  replace hf := hf.castB (t := 7) Z (dec_f hc2)
  refine stepN hf Z Z Z fun a hf => stepN hf Z Z Z fun a hf => stq hf Z Z Z (ex_pickF hf Z Z) fun a hf => stq hf Z Z Z (ex_move hf Z) fun a hf => stepN hf Z Z Z fun a hf => stepN hf Z Z Z fun a hf => stepN hf Z Z Z fun a hf => stepN hf Z Z Z fun a hf => stepN hf Z Z Z fun a hf => stepN hf Z Z Z fun a hf => stq hf Z Z Z (ex_pickF hf Z Z) fun a hf => stq hf Z Z Z (ex_assign hf Z) fun a hf => ?_
  refine hK7 _ _ ?_
  refine wp_ret ?_
  have eR := some_eq H; subst eR
  exact ret1 Try.results48 hf Z ⟨_, Z, ⟨Z, hs⟩⟩

set_option maxRecDepth 100000 in
theorem ref09_has.calls {M : Nat → Prop} {w0 : World} (k : Nat) (a0 : Range) (a1 : Int) {r : Bool} (hs : St M w0 w0 []) (hr : Sr M w0 [])
  (h : ref09_has.f k a0 a1 = some r) : Calls Try.prog 64 #[.agg #[.int .u64 a0.Base, .int .u64 a0.Len], .int .u64 a1] w0 fun e w => ∃ v, e = .returned v ∧ (.bool r = v ∧ St M w0 w []) := by
 have H := (ref09_has.f.eq_1 ..).symm.trans h
 clear h
 refine enter Try.func64 Z Try.ntmps64 Z (fun a hf => ?_)
 refine seq_reg (fun K2 hK2 => ?_)
 refine stepV hf Z Z Z (er_box (cs := [.int .u64 a0.Base, .int .u64 a0.Len]) hs hf Z Z) (fun v w hR a hf => ?_)
 obtain ⟨b1, rfl, hs⟩ := hR
 refine stq hf Z Z Z (ex_assign hf Z) fun a hf => ?_
 refine hK2 _ _ ?_
 refine itt H (fun hc3 H => ?_) (fun hc3 H => ?_)
 ·
  refine seq_reg (fun K4 hK4 => ?_)
  refine stq hf Z Z Z (ex_move hf Z) fun a hf => stq hf Z Z Z (ex_fieldAddrB fa_32_0 Z hf Z) fun a hf => stq hf Z Z Z (ex_load sc_22 hf Z (bx_cell (hs.get (i := 0) Z) _ Z)) fun a hf => stq hf Z Z Z (ex_geq hf Z Z) fun a hf => stq hf Z Z Z (ex_move hf Z) fun a hf => ?_
  replace hf := hf.castB (t := 8) Z (dec_t hc3)
  replace hf := hf.castB (t := 9) Z (dec_t hc3)
  refine stq hf Z Z Z (ex_move hf Z) fun a hf => stq hf Z Z Z (ex_fieldAddrB fa_32_0 Z hf Z) fun a hf => stq hf Z Z Z (ex_load sc_22 hf Z (bx_cell (hs.get (i := 0) Z) _ Z)) fun a hf => stq hf Z Z Z (ex_sub hf Z Z) fun a hf => stq hf Z Z Z (ex_fieldAddrB fa_32_1 Z hf Z) fun a hf => stq hf Z Z Z (ex_load sc_22 hf Z (bx_cell (hs.get (i := 0) Z) _ Z)) fun a hf => stq hf Z Z Z (ex_lss hf Z Z) fun a hf => stq hf Z Z Z (ex_pickT hf Z Z) fun a hf => stq hf Z Z Z (ex_assign hf Z) fun a hf => ?_
  refine hK4 _ _ ?_
  refine wp_ret ?_
  have eR := some_eq H; subst eR
  replace hs := hs.keep (.d .nil)
  exact ret1 Try.results64 hf Z ⟨_, Z, ⟨Z, hs⟩⟩
 ·
  refine seq_reg (fun K5 hK5 => ?_)
  refine stq hf Z Z Z (ex_move hf Z) fun a hf => stq hf Z Z Z (ex_fieldAddrB fa_32_0 Z hf Z) fun a hf => stq hf Z Z Z (ex_load sc_22 hf Z (bx_cell (hs.get (i := 0) Z) _ Z)) fun a hf => stq hf Z Z Z (ex_geq hf Z Z) fun a hf => stq hf Z Z Z (ex_move hf Z) fun a hf => ?_
  replace hf := hf.castB (t := 8) Z (dec_f hc3)
  replace hf := hf.castB (t := 9) Z (dec_f hc3)
  refine stepN hf Z Z Z fun a hf => stepN hf Z Z Z fun a hf => stepN hf Z Z Z fun a hf => stepN hf Z Z Z fun a hf => stepN hf Z Z Z fun a hf => stepN hf Z Z Z fun a hf => stepN hf Z Z Z fun a hf => stq hf Z Z Z (ex_pickF hf Z Z) fun a hf => stq hf Z Z Z (ex_assign hf Z) fun a hf => ?_
  refine hK5 _ _ ?_
  refine wp_ret ?_
  have eR := some_eq H; subst eR
  replace hs := hs.keep (.d .nil)
  exact ret1 Try.results64 hf Z ⟨_, Z, ⟨Z, hs⟩⟩

set_option maxRecDepth 100000 in
theorem ref09_Bus_find.calls {M : Nat → Prop} {w0 : World} (k : Nat) (Ad : (List ref09_mapping)) (Ae : (List Bool)) (Af : (List ref09_fault)) (At : (List Traced)) (a1 : Int) (a2 : Int) (b0 : Nat) (Vd : Value) (Gd : (List SlV)) (Vf : Value) (Vt : Value) {r : Int} (hs : St M w0 w0 []) (hr : Sr M w0 [bxs b0 56 [([Vd], 1), (List.map Value.bool Ae, 256), ([Vf], 1), ([Vt], 1)], rsl KR Vd (List.zip Gd Ad), ndv FR Gd Ad, rsl KF Vf Af, rsl Kt Vt At])
  (h : ref09_Bus_find.f k Ad Ae Af At a1 a2 = some r) : Calls Try.prog 60 #[.pointer (some ⟨b0, 0, none⟩), .int .i64 a1, .int .u64 a2] w0 fun e w => ∃ v, e = .returned v ∧ (.int .i64 r = v ∧ St M w0 w []) := by
 have H := (ref09_Bus_find.f.eq_1 ..).symm.trans h
 clear h
 refine enter Try.func60 Z Try.ntmps60 Z (fun a hf => ?_)
 refine seq_reg (fun K1 hK1 => ?_)
 refine stq hf Z Z Z (ex_assign hf Z) fun a hf => ?_
 refine hK1 _ _ ?_
 refine bnd H (fun x2 H2 HO2 => ?_)
 clear H
 refine seq_cut (fun a w => ∃ (x2s : Unit), x2 = .go x2s ∧ Fr a 40 [] ∧ St M w0 w []) (fun Q2 hJ2 hR2 hX2 => ?_) (fun a w hJ => ?_)
 ·
  replace H := H2
  refine seq_reg (fun K3 hK3 => ?_)
  refine stq hf Z Z Z (ex_assign hf Z) fun a hf => ?_
  refine hK3 _ _ ?_
  refine block_k (fun Q4 hN4 hR4 hX4 hY4 => ?_)
  refine loop_k (fun n a w => ∃ (y5 : Int), Fr a 40 [(0, .pointer (some ⟨b0, 0, none⟩)), (1, .int .i64 a1), (2, .int .u64 a2), (7, .int .i64 y5)] ∧ St M w0 w [] ∧ ref09_Bus_find.l1 n Ad a1 a2 y5 = some x2) k ?_ (fun n7 a w hI Q7 hL7 hR7 hX7 => ?_)
  ·
   exact ⟨0, hf.sub ⟨Z, Z, Z, Z, trivial⟩, hs, H⟩
  ·
   obtain ⟨y5, hf, hs, H⟩ := hI
   cases n7 with
   | zero => exact absurd H (by rw [ref09_Bus_find.l1.eq_1]; intro h; cases h)
   | succ k7 =>
    replace H := (ref09_Bus_find.l1.eq_2 ..).symm.trans H
    refine seq_n (fun Q8 hN8 hR8 hX8 => ?_)
    refine seq_reg (fun K9 hK9 => ?_)
    refine stq hf Z Z Z (ex_move hf Z) fun a hf => stq hf Z Z Z (ex_move hf Z) fun a hf => stq hf Z Z Z (ex_nilCheck hf Z) fun a hf => stq hf Z Z Z (ex_fieldAddrB fa_56_0 Z hf Z) fun a hf => stq hf Z Z Z (ex_load sc_51 hf Z (sb_cell1 (i := 0) (hr.now hs (i := 0) Z) Z Z)) fun a hf => stq hf Z Z Z (ex_lenS Try.underlying51 (nv_isSl (hr.now hs (i := 1) Z) (hr.now hs (i := 2) Z)) hf Z) fun a hf => stq hf Z Z Z (ex_lss hf Z Z) fun a hf => ?_
    refine hK9 _ _ ?_
    refine itt H (fun hc10 H => ?_) (fun hc10 H => ?_)
    ·
     replace hf := hf.castB (t := 14) Z (dec_t hc10)
     refine cond_T hf Z ?_
     refine wp_skip ?_
     refine hN8 _ _ ?_
     refine seq_n (fun Q11 hN11 hR11 hX11 => ?_)
     refine block_k (fun Q12 hN12 hR12 hX12 hY12 => ?_)
     refine bnd H (fun x13 H13 HO13 => ?_)
     clear H
     refine seq_cut (fun a w => Fr a 40 [(0, .pointer (some ⟨b0, 0, none⟩)), (1, .int .i64 a1), (2, .int .u64 a2), (7, .int .i64 y5), (38, .bool x13)] ∧ St M w0 w []) (fun Q13 hJ13 hR13 hX13 => ?_) (fun a w hJ => ?_)
     ·
      replace H := H13
      refine ck_some H (fun hc14 H => ?_)
      refine itt H (fun hc15 H => ?_) (fun hc15 H => ?_)
      ·
       refine bnd H (fun s16 hs16 H => ?_)
       refine region_k (fun K17 hK17 => ?_)
       refine stq hf Z Z Z (ex_move hf Z) fun a hf => stq hf Z Z Z (ex_nilCheck hf Z) fun a hf => stq hf Z Z Z (ex_fieldAddrB fa_56_0 Z hf Z) fun a hf => stq hf Z Z Z (ex_load sc_51 hf Z (sb_cell1 (i := 0) (hr.now hs (i := 0) Z) Z Z)) fun a hf => stq hf Z Z Z (ex_move hf Z) fun a hf => stq hf Z Z Z (ex_indexAddr sa_51 (nv_isSl (hr.now hs (i := 1) Z) (hr.now hs (i := 2) Z)) hc14.1 hc14.2 hf Z Z) fun a hf => stq hf Z Z Z (ex_fieldAddrS fa_100_0 Z hf Z) fun a hf => stq hf Z Z Z (ex_load sc_3 hf Z (nv_cell (K := KR) (F := FR) (f := 0) (hr.now hs (i := 1) Z) (hr.now hs (i := 2) Z) SlV.zero ref09_mapping.zero hc14.1 hc14.2 Z)) fun a hf => stq hf Z Z Z (ex_move hf Z) fun a hf => stq hf Z Z Z (ex_eql hf Z Z) fun a hf => stq hf Z Z Z (ex_move hf Z) fun a hf => ?_
       replace hf := hf.castB (t := 26) Z (dec_t hc15)
       replace hf := hf.castB (t := 27) Z (dec_t hc15)
       refine stq hf Z Z Z (ex_move hf Z) fun a hf => stq hf Z Z Z (ex_nilCheck hf Z) fun a hf => stq hf Z Z Z (ex_fieldAddrB fa_56_0 Z hf Z) fun a hf => stq hf Z Z Z (ex_load sc_51 hf Z (sb_cell1 (i := 0) (hr.now hs (i := 0) Z) Z Z)) fun a hf => stq hf Z Z Z (ex_move hf Z) fun a hf => stq hf Z Z Z (ex_indexAddr sa_51 (nv_isSl (hr.now hs (i := 1) Z) (hr.now hs (i := 2) Z)) hc14.1 hc14.2 hf Z Z) fun a hf => stq hf Z Z Z (ex_fieldAddrS fa_100_1 Z hf Z) fun a hf => stq hf Z Z Z (ex_loadA (cs := [.int .u64 ((gd ref09_mapping.zero Ad y5).m.Base), .int .u64 ((gd ref09_mapping.zero Ad y5).m.Len)]) ag_32 hf Z (nv_cells (K := KR) (F := FR) (f := 1) (hr.now hs (i := 1) Z) (hr.now hs (i := 2) Z) SlV.zero ref09_mapping.zero hc14.1 hc14.2 Z)) fun a hf => stq hf Z Z Z (ex_move hf Z) fun a hf => ?_
       refine stepF hf Z Z Z (ex_call cf_64 hf Z) (ref09_has.calls k7 (⟨((gd ref09_mapping.zero Ad y5).m.Base), ((gd ref09_mapping.zero Ad y5).m.Len)⟩ : Range) a2 (hs.enter .nil) (Sr.nil _ _) hs16) (fun v w hR a hf => ?_)
       obtain ⟨rfl, hs'⟩ := hR
       replace hs := hs.step .nil hs'
       clear hs'
       refine stq hf Z Z Z (ex_pickT hf Z Z) fun a hf => ?_
       refine hK17 _ _ ?_
       have e13 := some_eq H; subst e13
       exact hJ13 _ _ ⟨hf.sub ⟨Z, Z, Z, Z, Z, trivial⟩, hs⟩
      ·
       refine region_k (fun K18 hK18 => ?_)
       refine stq hf Z Z Z (ex_move hf Z) fun a hf => stq hf Z Z Z (ex_nilCheck hf Z) fun a hf => stq hf Z Z Z (ex_fieldAddrB fa_56_0 Z hf Z) fun a hf => stq hf Z Z Z (ex_load sc_51 hf Z (sb_cell1 (i := 0) (hr.now hs (i := 0) Z) Z Z)) fun a hf => stq hf Z Z Z (ex_move hf Z) fun a hf => stq hf Z Z Z (ex_indexAddr sa_51 (nv_isSl (hr.now hs (i := 1) Z) (hr.now hs (i := 2) Z)) hc14.1 hc14.2 hf Z Z) fun a hf => stq hf Z Z Z (ex_fieldAddrS fa_100_0 Z hf Z) fun a hf => stq hf Z Z Z (ex_load sc_3 hf Z (nv_cell (K := KR) (F := FR) (f := 0) (hr.now hs (i := 1) Z) (hr.now hs (i := 2) Z) SlV.zero ref09_mapping.zero hc14.1 hc14.2 Z)) fun a hf => stq hf Z Z Z (ex_move hf Z) fun a hf => stq hf Z Z Z (ex_eql hf Z Z) fun a hf => stq hf Z Z Z (ex_move hf Z) fun a hf => ?_
       replace hf := hf.castB (t := 26) Z (dec_f hc15)
       replace hf := hf.castB (t := 27) Z (dec_f hc15)
       refine stepN hf Z Z Z fun a hf => stepN hf Z Z Z fun a hf => stepN hf Z Z Z fun a hf => stepN hf Z Z Z fun a hf => stepN hf Z Z Z fun a hf => stepN hf Z Z Z fun a hf => stepN hf Z Z Z fun a hf => stepN hf Z Z Z fun a hf => stepN hf Z Z Z fun a hf => stepN hf Z Z Z fun a hf => stq hf Z Z Z (ex_pickF hf Z Z) fun a hf => ?_
       refine hK18 _ _ ?_
       have e13 := some_eq H; subst e13
       exact hJ13 _ _ ⟨hf.sub ⟨Z, Z, Z, Z, Z, trivial⟩, hs⟩
     ·
      obtain ⟨hf, hs⟩ := hJ
      replace H := HO13
      clear HO13
      refine itt H (fun hc19 H => ?_) (fun hc19 H => ?_)
      ·
       replace hf := hf.castB (t := 38) Z hc19
       refine cond_T hf Z ?_
       refine seq_reg (fun K20 hK20 => ?_)
       refine stq hf Z Z Z (ex_move hf Z) fun a hf => stq hf Z Z Z (ex_assign hf Z) fun a hf => ?_
       refine hK20 _ _ ?_
       refine wp_ret ?_
       refine hR12 _ _ ?_
       refine hR11 _ _ ?_
       refine hR7 _ _ ?_
       refine hR4 _ _ ?_
       have e2 := some_eq H; subst e2; replace H := el_rt HO2
       refine hR2 _ _ ?_
       have eR := some_eq H; subst eR
       exact ret1 Try.results60 hf Z ⟨_, Z, ⟨Z, hs⟩⟩
      ·
       replace hf := hf.castB (t := 38) Z (bool_f hc19)
       refine cond_F hf Z ?_
       refine wp_skip ?_
       refine hN12 _ _ ?_
       refine hN11 _ _ ?_
       refine region_k (fun K21 hK21 => ?_)
       refine stq hf Z Z Z (ex_move hf Z) fun a hf => stq hf Z Z Z (ex_add hf Z Z) fun a hf => stq hf Z Z Z (ex_assign hf Z) fun a hf => ?_
       refine hK21 _ _ ?_
       exact hL7 k7 _ _ (Nat.lt_succ_self _) ⟨(IntKind.i64.wrap (y5 + 1)), hf.sub ⟨Z, Z, Z, Z, trivial⟩, hs, H⟩
    ·
     replace hf := hf.castB (t := 14) Z (dec_f hc10)
     refine cond_F hf Z ?_
     refine wp_exit ?_
     refine hX8 0 _ _ ?_
     refine hX7 0 _ _ ?_
     refine hX4 _ _ ?_
     have e2 := some_eq H; subst e2
     exact hJ2 _ _ ⟨_, Z, hf.sub trivial, hs⟩
 ·
  obtain ⟨x2s, rfl, hf, hs⟩ := hJ
  replace H := el_go HO2
  clear HO2
  refine seq_reg (fun K22 hK22 => ?_)
  refine stq hf Z Z Z (ex_assign hf Z) fun a hf => ?_
  refine hK22 _ _ ?_
  refine wp_ret ?_
  have eR := some_eq H; subst eR
  exact ret1 Try.results60 hf Z ⟨_, Z, ⟨Z, hs⟩⟩

set_option maxRecDepth 100000 in
theorem ref09_Bus_Owner.calls {M : Nat → Prop} {w0 : World} (k : Nat) (Ad : (List ref09_mapping)) (Ae : (List Bool)) (Af : (List ref09_fault)) (At : (List Traced)) (a1 : Int) (a2 : Int) (b0 : Nat) (Vd : Value) (Gd : (List SlV)) (Vf : Value) (Vt : Value) {r : Int} (hs : St M w0 w0 []) (hr : Sr M w0 [bxs b0 56 [([Vd], 1), (List.map Value.bool Ae, 256), ([Vf], 1), ([Vt], 1)], rsl KR Vd (List.zip Gd Ad), ndv FR Gd Ad, rsl KF Vf Af, rsl Kt Vt At])
  (h : ref09_Bus_Owner.f k Ad Ae Af At a1 a2 = some r) : Calls Try.prog 46 #[.pointer (some ⟨b0, 0, none⟩), .int .i64 a1, .int .u64 a2] w0 fun e w => ∃ v, e = .returned v ∧ (.int .i64 r = v ∧ St M w0 w []) := by
 have H := (ref09_Bus_Owner.f.eq_1 ..).symm.trans h
 clear h
 refine enter Try.func46 Z Try.ntmps46 Z (fun a hf => ?_)
 refine seq_reg (fun K1 hK1 => ?_)
 refine stq hf Z Z Z (ex_assign hf Z) fun a hf => ?_
 refine hK1 _ _ ?_
 refine seq_n (fun Q2 hN2 hR2 hX2 => ?_)
 refine bnd H (fun s3 hs3 H => ?_)
 refine seq_reg (fun K4 hK4 => ?_)
 refine stq hf Z Z Z (ex_move hf Z) fun a hf => stq hf Z Z Z (ex_move hf Z) fun a hf => stq hf Z Z Z (ex_move hf Z) fun a hf => ?_
 refine stepF hf Z Z Z (ex_call cf_60 hf Z) (ref09_Bus_find.calls k Ad Ae Af At a1 a2 b0 Vd Gd Vf Vt (hs.enter .nil) (Sr.old hr hs .nil (i := 0) Z (fun _ h => h) (fun _ h => h) (Sr.old hr hs .nil (i := 1) Z (fun _ h => h) (fun _ h => h) (Sr.old hr hs .nil (i := 2) Z (fun _ h => h) (fun _ h => h) (Sr.old hr hs .nil (i := 3) Z (fun _ h => h) (fun _ h => h) (Sr.old hr hs .nil (i := 4) Z (fun _ h => h) (fun _ h => h) (Sr.nil _ _)))))) hs3) (fun v w hR a hf => ?_)
 obtain ⟨rfl, hs'⟩ := hR
 replace hs := hs.step .nil hs'
 clear hs'
 refine stq hf Z Z Z (ex_assign hf Z) fun a hf => ?_
 refine hK4 _ _ ?_
 refine seq_reg (fun K5 hK5 => ?_)
 refine stq hf Z Z Z (ex_move hf Z) fun a hf => stq hf Z Z Z (ex_geq hf Z Z) fun a hf => ?_
 refine hK5 _ _ ?_
 refine itt H (fun hc6 H => ?_) (fun hc6 H => ?_)
 ·
  replace hf := hf.castB (t := 13) Z (dec_t hc6)
  refine cond_T hf Z ?_
  refine ck_some H (fun hc7 H => ?_)
  refine seq_reg (fun K8 hK8 => ?_)
  refine stq hf Z Z Z (ex_move hf Z) fun a hf => stq hf Z Z Z (ex_nilCheck hf Z) fun a hf => stq hf Z Z Z (ex_fieldAddrB fa_56_0 Z hf Z) fun a hf => stq hf Z Z Z (ex_load sc_51 hf Z (sb_cell1 (i := 0) (hr.now hs (i := 0) Z) Z Z)) fun a hf => stq hf Z Z Z (ex_move hf Z) fun a hf => stq hf Z Z Z (ex_indexAddr sa_51 (nv_isSl (hr.now hs (i := 1) Z) (hr.now hs (i := 2) Z)) hc7.1 hc7.2 hf Z Z) fun a hf => stq hf Z Z Z (ex_fieldAddrS fa_100_2 Z hf Z) fun a hf => stq hf Z Z Z (ex_load sc_3 hf Z (nv_cell (K := KR) (F := FR) (f := 3) (hr.now hs (i := 1) Z) (hr.now hs (i := 2) Z) SlV.zero ref09_mapping.zero hc7.1 hc7.2 Z)) fun a hf => stq hf Z Z Z (ex_assign hf Z) fun a hf => ?_
  refine hK8 _ _ ?_
  refine wp_ret ?_
  refine hR2 _ _ ?_
  have eR := some_eq H; subst eR
  exact ret1 Try.results46 hf Z ⟨_, Z, ⟨Z, hs⟩⟩
 ·
  replace hf := hf.castB (t := 13) Z (dec_f hc6)
  refine cond_F hf Z ?_
  refine wp_skip ?_
  refine hN2 _ _ ?_
  refine seq_reg (fun K9 hK9 => ?_)
  refine stq hf Z Z Z (ex_assign hf Z) fun a hf => ?_
  refine hK9 _ _ ?_
  refine wp_ret ?_
  have eR := some_eq H; subst eR
  exact ret1 Try.results46 hf Z ⟨_, Z, ⟨Z, hs⟩⟩

set_option maxRecDepth 100000 in
theorem ref09_Bus_Peek.calls {M : Nat → Prop} {w0 : World} (k : Nat) (Ad : (List ref09_mapping)) (Ae : (List Bool)) (Af : (List ref09_fault)) (At : (List Traced)) (a1 : Int) (a2 : Int) (b0 : Nat) (Vd : Value) (Gd : (List SlV)) (Vf : Value) (Vt : Value) {r : Int × Bool} (hs : St M w0 w0 []) (hr : Sr M w0 [bxs b0 56 [([Vd], 1), (List.map Value.bool Ae, 256), ([Vf], 1), ([Vt], 1)], rsl KR Vd (List.zip Gd Ad), ndv FR Gd Ad, rsl KF Vf Af, rsl Kt Vt At])
  (h : ref09_Bus_Peek.f k Ad Ae Af At a1 a2 = some r) : Calls Try.prog 45 #[.pointer (some ⟨b0, 0, none⟩), .int .i64 a1, .int .u64 a2] w0 fun e w => ∃ v, e = .returned v ∧ (.tuple #[.int .u8 r.1, .bool r.2] = v ∧ St M w0 w []) := by
 have H := (ref09_Bus_Peek.f.eq_1 ..).symm.trans h
 clear h
 refine enter Try.func45 Z Try.ntmps45 Z (fun a hf => ?_)
 refine seq_reg (fun K1 hK1 => ?_)
 refine stq hf Z Z Z (ex_assign hf Z) fun a hf => stq hf Z Z Z (ex_assign hf Z) fun a hf => ?_
 refine hK1 _ _ ?_
 refine bnd H (fun s2 hs2 H => ?_)
 refine seq_reg (fun K3 hK3 => ?_)
 refine stq hf Z Z Z (ex_move hf Z) fun a hf => stq hf Z Z Z (ex_move hf Z) fun a hf => stq hf Z Z Z (ex_move hf Z) fun a hf => ?_
 refine stepF hf Z Z Z (ex_call cf_60 hf Z) (ref09_Bus_find.calls k Ad Ae Af At a1 a2 b0 Vd Gd Vf Vt (hs.enter .nil) (Sr.old hr hs .nil (i := 0) Z (fun _ h => h) (fun _ h => h) (Sr.old hr hs .nil (i := 1) Z (fun _ h => h) (fun _ h => h) (Sr.old hr hs .nil (i := 2) Z (fun _ h => h) (fun _ h => h) (Sr.old hr hs .nil (i := 3) Z (fun _ h => h) (fun _ h => h) (Sr.old hr hs .nil (i := 4) Z (fun _ h => h) (fun _ h => h) (Sr.nil _ _)))))) hs2) (fun v w hR a hf => ?_)
 obtain ⟨rfl, hs'⟩ := hR
 replace hs := hs.step .nil hs'
 clear hs'
 refine stq hf Z Z Z (ex_assign hf Z) fun a hf => ?_
 refine hK3 _ _ ?_
 refine seq_n (fun Q4 hN4 hR4 hX4 => ?_)
 refine seq_reg (fun K5 hK5 => ?_)
 refine stq hf Z Z Z (ex_move hf Z) fun a hf => stq hf Z Z Z (ex_lss hf Z Z) fun a hf => ?_
 refine hK5 _ _ ?_
 refine itt H (fun hc6 H => ?_) (fun hc6 H => ?_)
 ·
  replace hf := hf.castB (t := 14) Z (dec_t hc6)
  refine cond_T hf Z ?_
  refine seq_reg (fun K7 hK7 => ?_)
  refine stq hf Z Z Z (ex_assign hf Z) fun a hf => stq hf Z Z Z (ex_assign hf Z) fun a hf => ?_
  refine hK7 _ _ ?_
  refine wp_ret ?_
  refine hR4 _ _ ?_
  have eR := some_eq H; subst eR
  exact ret2 Try.results45 hf Z Z ⟨_, Z, ⟨Z, hs⟩⟩
 ·
  replace hf := hf.castB (t := 14) Z (dec_f hc6)
  refine cond_F hf Z ?_
  refine wp_skip ?_
  refine hN4 _ _ ?_
  refine seq_n (fun Q8 hN8 hR8 hX8 => ?_)
  refine ck_some H (fun hc9 H => ?_)
  refine ck_some H (fun hc10 H => ?_)
  refine region_dS fol 21 [(0, .pointer (some ⟨b0, 0, none⟩)), (2, .int .u64 a2), (6, .int .u8 0), (7, .bool false), (8, .int .i64 s2)] [(0, .pointer (some ⟨b0, 0, none⟩)), (1, .pointer (some ⟨b0, 0, none⟩)), (2, .pointer (some ⟨b0, 0, none⟩)), (3, Vd), (4, .int .i64 s2), (5, .pointer (some (sla Vd (s2.toNat * 5)))), (6, .pointer (some (sla Vd (s2.toNat * 5 + 4)))), (7, (gd SlV.zero Gd s2).v), (8, .int .u64 a2), (9, .pointer (some ⟨b0, 0, none⟩)), (10, .pointer (some ⟨b0, 0, none⟩)), (11, .pointer (some ⟨b0, 0, none⟩)), (12, Vd), (13, .int .i64 s2), (14, .pointer (some (sla Vd (s2.toNat * 5)))), (15, .pointer (some (sla Vd (s2.toNat * 5 + 1)))), (16, .pointer (some (sla Vd (s2.toNat * 5 + 1)))), (17, .int .u64 ((gd ref09_mapping.zero Ad s2).m.Base)), (18, .int .u64 (IntKind.u64.wrap (a2 - ((gd ref09_mapping.zero Ad s2).m.Base)))), (19, .pointer (some (sla (gd SlV.zero Gd s2).v ((IntKind.u64.wrap (a2 - ((gd ref09_mapping.zero Ad s2).m.Base))).toNat * 1)))), (20, .int .u8 (gd 0 ((gd ref09_mapping.zero Ad s2).bytes) (IntKind.u64.wrap (a2 - ((gd ref09_mapping.zero Ad s2).m.Base)))))] [] (fun w => (bxs b0 56 [([Vd], 1), (List.map Value.bool Ae, 256), ([Vf], 1), ([Vt], 1)]).ok w ∧ (rsl KR Vd (List.zip Gd Ad)).ok w ∧ (ndv FR Gd Ad).ok w ∧ True) hf ⟨Z, Z, Z, Z, Z, trivial⟩ (by kernel_rfl) (by kernel_rfl) Z (by decide) ⟨hr.now hs.drew (i := 0) Z, hr.now hs.drew (i := 1) Z, hr.now hs.drew (i := 2) Z, trivial⟩ hs ((.cons (qy Z Z Z Z Z fun hR hf => ex_move hf Z) (.cons (qy Z Z Z Z Z fun hR hf => ex_nilCheck hf Z) (.cons (qy Z Z Z Z Z fun hR hf => ex_fieldAddrB fa_56_0 Z hf Z) (.cons (qy Z Z Z Z Z fun hR hf => ex_load sc_51 hf Z (sb_cell1 (i := 0) (hR.1) Z Z)) (.cons (qy Z Z Z Z Z fun hR hf => ex_move hf Z) (.cons (qy Z Z Z Z Z fun hR hf => ex_indexAddr sa_51 (nv_isSl hR.2.1 hR.2.2.1) hc9.1 hc9.2 hf Z Z) (.cons (qy Z Z Z Z Z fun hR hf => ex_fieldAddrS fa_100_3 Z hf Z) (.cons (qy Z Z Z Z Z fun hR hf => ex_load sc_23 hf Z (nv_cell (K := KR) (F := FR) (f := 4) hR.2.1 hR.2.2.1 SlV.zero ref09_mapping.zero hc9.1 hc9.2 Z)) (.cons (qy Z Z Z Z Z fun hR hf => ex_move hf Z) (.cons (qy Z Z Z Z Z fun hR hf => ex_move hf Z) (.cons (qy Z Z Z Z Z fun hR hf => ex_nilCheck hf Z) (.cons (qy Z Z Z Z Z fun hR hf => ex_fieldAddrB fa_56_0 Z hf Z) (.cons (qy Z Z Z Z Z fun hR hf => ex_load sc_51 hf Z (sb_cell1 (i := 0) (hR.1) Z Z)) (.cons (qy Z Z Z Z Z fun hR hf => ex_move hf Z) (.cons (qy Z Z Z Z Z fun hR hf => ex_indexAddr sa_51 (nv_isSl hR.2.1 hR.2.2.1) hc9.1 hc9.2 hf Z Z) (.cons (qy Z Z Z Z Z fun hR hf => ex_fieldAddrS fa_100_1 Z hf Z) (.cons (qy Z Z Z Z Z fun hR hf => ex_fieldAddrS fa_32_0 Z hf Z) (.cons (qy Z Z Z Z Z fun hR hf => ex_load sc_22 hf Z (nv_cell (K := KR) (F := FR) (f := 1) hR.2.1 hR.2.2.1 SlV.zero ref09_mapping.zero hc9.1 hc9.2 Z)) (.cons (qy Z Z Z Z Z fun hR hf => ex_sub hf Z Z) (.cons (qy Z Z Z Z Z fun hR hf => ex_indexAddr sa_23 (rsl_isSl (osl_rsl _ (nv_more (F := FR) hR.2.2.1 SlV.zero ref09_mapping.zero hc9.1 hc9.2 0 Z))) hc10.1 hc10.2 hf Z Z) (.cons (qy Z Z Z Z Z fun hR hf => ex_load sc_5 hf Z (el_cell (K := K_uint8) (f := 0) (rsl_rd (osl_rsl _ (nv_more (F := FR) hR.2.2.1 SlV.zero ref09_mapping.zero hc9.1 hc9.2 0 Z))) hc10.1 hc10.2 Z)) .nil)))))))))))))))))))))) (fun K11 hK11 => ?_)
  refine RW.zero (by kernel_rfl) (by kernel_rfl) [(6, .int .u8 0), (7, .bool false), (35, .int .u8 (gd 0 ((gd ref09_mapping.zero Ad s2).bytes) (IntKind.u64.wrap (a2 - ((gd ref09_mapping.zero Ad s2).m.Base)))))] ⟨Z, Z, Z, trivial⟩ (fun a w hR hs hf => ?_)
  refine stq hf Z Z Z (ex_assign hf Z) fun a hf => stq hf Z Z Z (ex_assign hf Z) fun a hf => ?_
  refine hK11 _ _ ?_
  refine hN8 _ _ ?_
  refine wp_ret ?_
  have eR := some_eq H; subst eR
  exact ret2 Try.results45 hf Z Z ⟨_, Z, ⟨Z, hs⟩⟩

set_option maxRecDepth 100000 in
theorem ref09_Bus_Poke.calls {M : Nat → Prop} {w0 : World} (k : Nat) (Ad : (List ref09_mapping)) (Ae : (List Bool)) (Af : (List ref09_fault)) (At : (List Traced)) (a1 : Int) (a2 : Int) (a3 : Int) (b0 : Nat) (Vd : Value) (Gd : (List SlV)) (Vf : Value) (Vt : Value) {r : (List ref09_mapping) × Bool} (hs : St M w0 w0 [bxs b0 56 [([Vd], 1), (List.map Value.bool Ae, 256), ([Vf], 1), ([Vt], 1)], osl KR Vd (List.zip Gd Ad), ndv FR Gd Ad, osl KF Vf Af, osl Kt Vt At]) (hr : Sr M w0 [])
  (h : ref09_Bus_Poke.f k Ad Ae Af At a1 a2 a3 = some r) : Calls Try.prog 43 #[.pointer (some ⟨b0, 0, none⟩), .int .i64 a1, .int .u64 a2, .int .u8 a3] w0 fun e w => ∃ v, e = .returned v ∧ (.bool r.2 = v ∧ St M w0 w [bxs b0 56 [([Vd], 1), (List.map Value.bool Ae, 256), ([Vf], 1), ([Vt], 1)], osl KR Vd (List.zip Gd r.1), ndv FR Gd r.1, osl KF Vf Af, osl Kt Vt At]) := by
 have H := (ref09_Bus_Poke.f.eq_1 ..).symm.trans h
 clear h
 refine enter Try.func43 Z Try.ntmps43 Z (fun a hf => ?_)
 refine seq_reg (fun K1 hK1 => ?_)
 refine stq hf Z Z Z (ex_assign hf Z) fun a hf => ?_
 refine hK1 _ _ ?_
 refine bnd H (fun s2 hs2 H => ?_)
 refine seq_reg (fun K3 hK3 => ?_)
 refine stq hf Z Z Z (ex_move hf Z) fun a hf => stq hf Z Z Z (ex_move hf Z) fun a hf => stq hf Z Z Z (ex_move hf Z) fun a hf => ?_
 refine stepF hf Z Z Z (ex_call cf_60 hf Z) (ref09_Bus_find.calls k Ad Ae Af At a1 a2 b0 Vd Gd Vf Vt (hs.enter sN) (Sr.own hs sN (i := 0) Z (fun _ h => h) (fun _ h => h) (Sr.own hs sN (i := 1) Z osl_rsl (fun _ h => h.1) (Sr.own hs sN (i := 2) Z (fun _ h => h) (fun _ h => h) (Sr.own hs sN (i := 3) Z osl_rsl (fun _ h => h.1) (Sr.own hs sN (i := 4) Z osl_rsl (fun _ h => h.1) (Sr.nil _ _)))))) hs2) (fun v w hR a hf => ?_)
 obtain ⟨rfl, hs'⟩ := hR
 replace hs := hs.step sN hs'
 clear hs'
 refine stq hf Z Z Z (ex_assign hf Z) fun a hf => ?_
 refine hK3 _ _ ?_
 refine bnd H (fun x4 H4 HO4 => ?_)
 clear H
 refine seq_cut (fun a w => Fr a 39 [(9, .int .i64 s2)] ∧ St M w0 w [bxs b0 56 [([Vd], 1), (List.map Value.bool Ae, 256), ([Vf], 1), ([Vt], 1)], osl KR Vd (List.zip Gd x4), ndv FR Gd x4, osl KF Vf Af, osl Kt Vt At]) (fun Q4 hJ4 hR4 hX4 => ?_) (fun a w hJ => ?_)
 ·
  replace H := H4
  refine seq_reg (fun K5 hK5 => ?_)
  refine stq hf Z Z Z (ex_move hf Z) fun a hf => stq hf Z Z Z (ex_geq hf Z Z) fun a hf => ?_
  refine hK5 _ _ ?_
  refine itt H (fun hc6 H => ?_) (fun hc6 H => ?_)
  ·
   replace hf := hf.castB (t := 15) Z (dec_t hc6)
   refine cond_T hf Z ?_
   refine ck_some H (fun hc7 H => ?_)
   refine ck_some H (fun hc8 H => ?_)
   refine region_dS fol 20 [(0, .pointer (some ⟨b0, 0, none⟩)), (2, .int .u64 a2), (3, .int .u8 a3), (9, .int .i64 s2)] [(0, .pointer (some ⟨b0, 0, none⟩)), (1, .pointer (some ⟨b0, 0, none⟩)), (2, .pointer (some ⟨b0, 0, none⟩)), (3, Vd), (4, .int .i64 s2), (5, .pointer (some (sla Vd (s2.toNat * 5)))), (6, .pointer (some (sla Vd (s2.toNat * 5 + 4)))), (7, (gd SlV.zero Gd s2).v), (8, .int .u64 a2), (9, .pointer (some ⟨b0, 0, none⟩)), (10, .pointer (some ⟨b0, 0, none⟩)), (11, .pointer (some ⟨b0, 0, none⟩)), (12, Vd), (13, .int .i64 s2), (14, .pointer (some (sla Vd (s2.toNat * 5)))), (15, .pointer (some (sla Vd (s2.toNat * 5 + 1)))), (16, .pointer (some (sla Vd (s2.toNat * 5 + 1)))), (17, .int .u64 ((gd ref09_mapping.zero Ad s2).m.Base)), (18, .int .u64 (IntKind.u64.wrap (a2 - ((gd ref09_mapping.zero Ad s2).m.Base)))), (19, .int .u8 a3)] [] (fun w => (bxs b0 56 [([Vd], 1), (List.map Value.bool Ae, 256), ([Vf], 1), ([Vt], 1)]).ok w ∧ (osl KR Vd (List.zip Gd Ad)).ok w ∧ (ndv FR Gd Ad).ok w ∧ True) hf ⟨Z, Z, Z, Z, trivial⟩ (by kernel_rfl) (by kernel_rfl) Z (by decide) ⟨hs.drew.get (i := 0) Z, hs.drew.get (i := 1) Z, hs.drew.get (i := 2) Z, trivial⟩ hs ((.cons (qy Z Z Z Z Z fun hR hf => ex_move hf Z) (.cons (qy Z Z Z Z Z fun hR hf => ex_nilCheck hf Z) (.cons (qy Z Z Z Z Z fun hR hf => ex_fieldAddrB fa_56_0 Z hf Z) (.cons (qy Z Z Z Z Z fun hR hf => ex_load sc_51 hf Z (sb_cell1 (i := 0) (hR.1) Z Z)) (.cons (qy Z Z Z Z Z fun hR hf => ex_move hf Z) (.cons (qy Z Z Z Z Z fun hR hf => ex_indexAddr sa_51 (nv_isSl (osl_rsl _ hR.2.1) hR.2.2.1) hc7.1 hc7.2 hf Z Z) (.cons (qy Z Z Z Z Z fun hR hf => ex_fieldAddrS fa_100_3 Z hf Z) (.cons (qy Z Z Z Z Z fun hR hf => ex_load sc_23 hf Z (nv_cell (K := KR) (F := FR) (f := 4) (osl_rsl _ hR.2.1) hR.2.2.1 SlV.zero ref09_mapping.zero hc7.1 hc7.2 Z)) (.cons (qy Z Z Z Z Z fun hR hf => ex_move hf Z) (.cons (qy Z Z Z Z Z fun hR hf => ex_move hf Z) (.cons (qy Z Z Z Z Z fun hR hf => ex_nilCheck hf Z) (.cons (qy Z Z Z Z Z fun hR hf => ex_fieldAddrB fa_56_0 Z hf Z) (.cons (qy Z Z Z Z Z fun hR hf => ex_load sc_51 hf Z (sb_cell1 (i := 0) (hR.1) Z Z)) (.cons (qy Z Z Z Z Z fun hR hf => ex_move hf Z) (.cons (qy Z Z Z Z Z fun hR hf => ex_indexAddr sa_51 (nv_isSl (osl_rsl _ hR.2.1) hR.2.2.1) hc7.1 hc7.2 hf Z Z) (.cons (qy Z Z Z Z Z fun hR hf => ex_fieldAddrS fa_100_1 Z hf Z) (.cons (qy Z Z Z Z Z fun hR hf => ex_fieldAddrS fa_32_0 Z hf Z) (.cons (qy Z Z Z Z Z fun hR hf => ex_load sc_22 hf Z (nv_cell (K := KR) (F := FR) (f := 1) (osl_rsl _ hR.2.1) hR.2.2.1 SlV.zero ref09_mapping.zero hc7.1 hc7.2 Z)) (.cons (qy Z Z Z Z Z fun hR hf => ex_sub hf Z Z) (.cons (qy Z Z Z Z Z fun hR hf => ex_move hf Z) .nil))))))))))))))))))))) (fun K9 hK9 => ?_)
   refine RW.zero (by kernel_rfl) (by kernel_rfl) [(9, .int .i64 s2), (23, (gd SlV.zero Gd s2).v), (34, .int .u64 (IntKind.u64.wrap (a2 - ((gd ref09_mapping.zero Ad s2).m.Base)))), (35, .int .u8 a3)] ⟨Z, Z, Z, Z, trivial⟩ (fun a w hR hs hf => ?_)
   refine stq hf Z Z Z (ex_indexAddr sa_23 (rsl_isSl (osl_rsl _ (nv_more (F := FR) (hs.get (i := 2) Z) SlV.zero ref09_mapping.zero hc7.1 hc7.2 0 Z))) hc8.1 hc8.2 hf Z Z) fun a hf => ?_
   refine stepS hf Z Z (er_storeV (F := FR) (K' := K_uint8) (g0 := SlV.zero) (z0 := ref09_mapping.zero) (x' := (⟨((gd ref09_mapping.zero Ad s2).space), (⟨((gd ref09_mapping.zero Ad s2).m.Base), ((gd ref09_mapping.zero Ad s2).m.Len)⟩ : Range), ((gd ref09_mapping.zero Ad s2).owner), (((gd ref09_mapping.zero Ad s2).bytes).set (IntKind.u64.wrap (a2 - ((gd ref09_mapping.zero Ad s2).m.Base))).toNat a3)⟩ : ref09_mapping)) (e' := a3) hs (.k (.k (.c sN))) hc7.1 hc7.2 hc8.1 hc8.2 hf Z Z Z sz_5 Z Z Z Z) (fun w hs => ?_)
   rw [← osl_zip_set (K := KR) (G := Gd) (L := Ad) (x' := (⟨((gd ref09_mapping.zero Ad s2).space), (⟨((gd ref09_mapping.zero Ad s2).m.Base), ((gd ref09_mapping.zero Ad s2).m.Len)⟩ : Range), ((gd ref09_mapping.zero Ad s2).owner), (((gd ref09_mapping.zero Ad s2).bytes).set (IntKind.u64.wrap (a2 - ((gd ref09_mapping.zero Ad s2).m.Base))).toNat a3)⟩ : ref09_mapping)) ref09_mapping.zero (by have := ndv_len (hs.get (i := 0) rfl); simpa using this) hc7.1 hc7.2 (fun _ => rfl)] at hs
   refine hK9 _ _ ?_
   replace hs := hs.p4.p4.p2.p4.p4
   have e4 := some_eq H; subst e4
   exact hJ4 _ _ ⟨hf.sub ⟨Z, trivial⟩, hs⟩
  ·
   replace hf := hf.castB (t := 15) Z (dec_f hc6)
   refine cond_F hf Z ?_
   refine wp_skip ?_
   have e4 := some_eq H; subst e4
   exact hJ4 _ _ ⟨hf.sub ⟨Z, trivial⟩, hs⟩
 ·
  obtain ⟨hf, hs⟩ := hJ
  replace H := HO4
  clear HO4
  refine seq_reg (fun K10 hK10 => ?_)
  refine stq hf Z Z Z (ex_move hf Z) fun a hf => stq hf Z Z Z (ex_geq hf Z Z) fun a hf => stq hf Z Z Z (ex_assign hf Z) fun a hf => ?_
  refine hK10 _ _ ?_
  refine wp_ret ?_
  have eR := some_eq H; subst eR
  exact ret1 Try.results43 hf Z ⟨_, Z, ⟨Z, hs⟩⟩

set_option maxRecDepth 100000 in
theorem help_Equal_api_Traced.calls {M : Nat → Prop} {w0 : World} (k : Nat) (a0 : (List Traced)) (a1 : (List Traced)) (v0 : Value) (v1 : Value) {r : Bool} (hs : St M w0 w0 []) (hr : Sr M w0 [rsl Kt v0 a0, rsl Kt v1 a1])
  (h : help_Equal_api_Traced.f k a0 a1 = some r) : Calls Try.prog 20 #[v0, v1] w0 fun e w => ∃ v, e = .returned v ∧ (.bool r = v ∧ St M w0 w []) := by
 have H := (help_Equal_api_Traced.f.eq_1 ..).symm.trans h
 clear h
 refine enter Try.func20 Z Try.ntmps20 Z (fun a hf => ?_)
 refine seq_reg (fun K1 hK1 => ?_)
 refine stq hf Z Z Z (ex_assign hf Z) fun a hf => ?_
 refine hK1 _ _ ?_
 refine seq_n (fun Q2 hN2 hR2 hX2 => ?_)
 refine seq_reg (fun K3 hK3 => ?_)
 refine stq hf Z Z Z (ex_move hf Z) fun a hf => stq hf Z Z Z (ex_lenS Try.underlying54 (rsl_isSl (hr.now hs (i := 0) Z)) hf Z) fun a hf => stq hf Z Z Z (ex_move hf Z) fun a hf => stq hf Z Z Z (ex_lenS Try.underlying54 (rsl_isSl (hr.now hs (i := 1) Z)) hf Z) fun a hf => stq hf Z Z Z (ex_neq hf Z Z) fun a hf => ?_
 refine hK3 _ _ ?_
 refine itt H (fun hc4 H => ?_) (fun hc4 H => ?_)
 ·
  replace hf := hf.castB (t := 10) Z (ndec_f hc4)
  refine cond_F hf Z ?_
  refine wp_skip ?_
  refine hN2 _ _ ?_
  refine bnd H (fun x5 H5 HO5 => ?_)
  clear H
  refine seq_cut (fun a w => ∃ (x5s : Unit), x5 = .go x5s ∧ Fr a 26 [] ∧ St M w0 w []) (fun Q5 hJ5 hR5 hX5 => ?_) (fun a w hJ => ?_)
  ·
   replace H := H5
   refine seq_reg (fun K6 hK6 => ?_)
   refine stq hf Z Z Z (ex_assign hf Z) fun a hf => ?_
   refine hK6 _ _ ?_
   refine block_k (fun Q7 hN7 hR7 hX7 hY7 => ?_)
   refine loop_k (fun n a w => ∃ (y8 : Int), Fr a 26 [(0, v0), (1, v1), (5, .int .i64 y8)] ∧ St M w0 w [] ∧ help_Equal_api_Traced.l1 n a0 a1 y8 = some x5) k ?_ (fun n10 a w hI Q10 hL10 hR10 hX10 => ?_)
   ·
    exact ⟨0, hf.sub ⟨Z, Z, Z, trivial⟩, hs, H⟩
   ·
    obtain ⟨y8, hf, hs, H⟩ := hI
    cases n10 with
    | zero => exact absurd H (by rw [help_Equal_api_Traced.l1.eq_1]; intro h; cases h)
    | succ k10 =>
     replace H := (help_Equal_api_Traced.l1.eq_2 ..).symm.trans H
     refine seq_n (fun Q11 hN11 hR11 hX11 => ?_)
     refine seq_reg (fun K12 hK12 => ?_)
     refine stq hf Z Z Z (ex_move hf Z) fun a hf => stq hf Z Z Z (ex_move hf Z) fun a hf => stq hf Z Z Z (ex_lenS Try.underlying54 (rsl_isSl (hr.now hs (i := 0) Z)) hf Z) fun a hf => stq hf Z Z Z (ex_lss hf Z Z) fun a hf => ?_
     refine hK12 _ _ ?_
     refine itt H (fun hc13 H => ?_) (fun hc13 H => ?_)
     ·
      replace hf := hf.castB (t := 14) Z (dec_t hc13)
      refine cond_T hf Z ?_
      refine wp_skip ?_
      refine hN11 _ _ ?_
      refine seq_n (fun Q14 hN14 hR14 hX14 => ?_)
      refine block_k (fun Q15 hN15 hR15 hX15 hY15 => ?_)
      refine seq_n (fun Q16 hN16 hR16 hX16 => ?_)
      refine ck_some H (fun hc17 H => ?_)
      refine ck_some H (fun hc18 H => ?_)
      refine region_dS fol 9 [(0, v0), (1, v1), (5, .int .i64 y8)] [(0, v0), (1, .int .i64 y8), (2, .pointer (some (sla v0 (y8.toNat * 8)))), (3, .agg #[.int .i64 ((gd Traced.zero a0 y8).Access.Space), .int .u64 ((gd Traced.zero a0 y8).Access.Addr), .int .i64 ((gd Traced.zero a0 y8).Access.Width), .bool ((gd Traced.zero a0 y8).Access.Write), .int .u64 ((gd Traced.zero a0 y8).Access.Value), .int .i64 ((gd Traced.zero a0 y8).Owner), .bool ((gd Traced.zero a0 y8).Live), .bool ((gd Traced.zero a0 y8).Failed)]), (4, v1), (5, .int .i64 y8), (6, .pointer (some (sla v1 (y8.toNat * 8)))), (7, .agg #[.int .i64 ((gd Traced.zero a1 y8).Access.Space), .int .u64 ((gd Traced.zero a1 y8).Access.Addr), .int .i64 ((gd Traced.zero a1 y8).Access.Width), .bool ((gd Traced.zero a1 y8).Access.Write), .int .u64 ((gd Traced.zero a1 y8).Access.Value), .int .i64 ((gd Traced.zero a1 y8).Owner), .bool ((gd Traced.zero a1 y8).Live), .bool ((gd Traced.zero a1 y8).Failed)]), (8, .bool (!(((((gd Traced.zero a0 y8).Access.Space) == ((gd Traced.zero a1 y8).Access.Space)) && ((((gd Traced.zero a0 y8).Access.Addr) == ((gd Traced.zero a1 y8).Access.Addr)) && ((((gd Traced.zero a0 y8).Access.Width) == ((gd Traced.zero a1 y8).Access.Width)) && ((((gd Traced.zero a0 y8).Access.Write) == ((gd Traced.zero a1 y8).Access.Write)) && ((((gd Traced.zero a0 y8).Access.Value) == ((gd Traced.zero a1 y8).Access.Value)) && true))))) && ((((gd Traced.zero a0 y8).Owner) == ((gd Traced.zero a1 y8).Owner)) && ((((gd Traced.zero a0 y8).Live) == ((gd Traced.zero a1 y8).Live)) && ((((gd Traced.zero a0 y8).Failed) == ((gd Traced.zero a1 y8).Failed)) && true))))))] [] (fun w => (rsl Kt v0 a0).ok w ∧ (rsl Kt v1 a1).ok w ∧ True) hf ⟨Z, Z, Z, trivial⟩ (by kernel_rfl) (by kernel_rfl) Z (by decide) ⟨hr.now hs.drew (i := 0) Z, hr.now hs.drew (i := 1) Z, trivial⟩ hs ((.cons (qy Z Z Z Z Z fun hR hf => ex_move hf Z) (.cons (qy Z Z Z Z Z fun hR hf => ex_move hf Z) (.cons (qy Z Z Z Z Z fun hR hf => ex_indexAddr sa_54 (rsl_isSl hR.1) hc17.1 hc17.2 hf Z Z) (.cons (qy Z Z Z Z Z fun hR hf => ex_loadA (cs := [.int .i64 ((gd Traced.zero a0 y8).Access.Space), .int .u64 ((gd Traced.zero a0 y8).Access.Addr), .int .i64 ((gd Traced.zero a0 y8).Access.Width), .bool ((gd Traced.zero a0 y8).Access.Write), .int .u64 ((gd Traced.zero a0 y8).Access.Value), .int .i64 ((gd Traced.zero a0 y8).Owner), .bool ((gd Traced.zero a0 y8).Live), .bool ((gd Traced.zero a0 y8).Failed)]) ag_63 hf Z (el_cells (K := Kt) (rsl_rd hR.1) hc17.1 hc17.2 Z)) (.cons (qy Z Z Z Z Z fun hR hf => ex_move hf Z) (.cons (qy Z Z Z Z Z fun hR hf => ex_move hf Z) (.cons (qy Z Z Z Z Z fun hR hf => ex_indexAddr sa_54 (rsl_isSl hR.2.1) hc18.1 hc18.2 hf Z Z) (.cons (qy Z Z Z Z Z fun hR hf => ex_loadA (cs := [.int .i64 ((gd Traced.zero a1 y8).Access.Space), .int .u64 ((gd Traced.zero a1 y8).Access.Addr), .int .i64 ((gd Traced.zero a1 y8).Access.Width), .bool ((gd Traced.zero a1 y8).Access.Write), .int .u64 ((gd Traced.zero a1 y8).Access.Value), .int .i64 ((gd Traced.zero a1 y8).Owner), .bool ((gd Traced.zero a1 y8).Live), .bool ((gd Traced.zero a1 y8).Failed)]) ag_63 hf Z (el_cells (K := Kt) (rsl_rd hR.2.1) hc18.1 hc18.2 Z)) (.cons (qy Z Z Z Z Z fun hR hf => ex_neS (FE.mkt Try.underlying63 (by kernel_rfl) (by kernel_rfl) (.s (us := [.int .i64 ((gd Traced.zero a0 y8).Access.Space), .int .u64 ((gd Traced.zero a0 y8).Access.Addr), .int .i64 ((gd Traced.zero a0 y8).Access.Width), .bool ((gd Traced.zero a0 y8).Access.Write), .int .u64 ((gd Traced.zero a0 y8).Access.Value)]) (vs := [.int .i64 ((gd Traced.zero a1 y8).Access.Space), .int .u64 ((gd Traced.zero a1 y8).Access.Addr), .int .i64 ((gd Traced.zero a1 y8).Access.Width), .bool ((gd Traced.zero a1 y8).Access.Write), .int .u64 ((gd Traced.zero a1 y8).Access.Value)]) (by decide) Try.underlying37 (by kernel_rfl) (by kernel_rfl) Z Z Z (.i (by decide) Try.underlying3 Z Z (.i (by decide) Try.underlying22 Z Z (.i (by decide) Try.underlying3 Z Z (.b (by decide) Try.underlying4 Z Z (.i (by decide) Try.underlying22 Z Z .nil))))) (.i (by decide) Try.underlying3 Z Z (.b (by decide) Try.underlying4 Z Z (.b (by decide) Try.underlying4 Z Z .nil))))) hf Z Z) .nil)))))))))) (fun K19 hK19 => ?_)
      refine RW.zero (by kernel_rfl) (by kernel_rfl) [(0, v0), (1, v1), (5, .int .i64 y8), (25, .bool (!(((((gd Traced.zero a0 y8).Access.Space) == ((gd Traced.zero a1 y8).Access.Space)) && ((((gd Traced.zero a0 y8).Access.Addr) == ((gd Traced.zero a1 y8).Access.Addr)) && ((((gd Traced.zero a0 y8).Access.Width) == ((gd Traced.zero a1 y8).Access.Width)) && ((((gd Traced.zero a0 y8).Access.Write) == ((gd Traced.zero a1 y8).Access.Write)) && ((((gd Traced.zero a0 y8).Access.Value) == ((gd Traced.zero a1 y8).Access.Value)) && true))))) && ((((gd Traced.zero a0 y8).Owner) == ((gd Traced.zero a1 y8).Owner)) && ((((gd Traced.zero a0 y8).Live) == ((gd Traced.zero a1 y8).Live)) && ((((gd Traced.zero a0 y8).Failed) == ((gd Traced.zero a1 y8).Failed)) && true))))))] ⟨Z, Z, Z, Z, trivial⟩ (fun a w hR hs hf => ?_)
      refine hK19 _ _ ?_
      refine hN16 _ _ ?_
      refine itt H (fun hc20 H => ?_) (fun hc20 H => ?_)
      ·
       replace hf := hf.castB (t := 25) Z (nbool_f hc20)
       refine cond_F hf Z ?_
       refine wp_skip ?_
       refine hN15 _ _ ?_
       refine hN14 _ _ ?_
       refine region_k (fun K21 hK21 => ?_)
       refine stq hf Z Z Z (ex_move hf Z) fun a hf => stq hf Z Z Z (ex_add hf Z Z) fun a hf => stq hf Z Z Z (ex_assign hf Z) fun a hf => ?_
       refine hK21 _ _ ?_
       exact hL10 k10 _ _ (Nat.lt_succ_self _) ⟨(IntKind.i64.wrap (y8 + 1)), hf.sub ⟨Z, Z, Z, trivial⟩, hs, H⟩
      ·
       replace hf := hf.castB (t := 25) Z (nbool_t hc20)
       refine cond_T hf Z ?_
       refine seq_reg (fun K22 hK22 => ?_)
       refine stq hf Z Z Z (ex_assign hf Z) fun a hf => ?_
       refine hK22 _ _ ?_
       refine wp_ret ?_
       refine hR15 _ _ ?_
       refine hR14 _ _ ?_
       refine hR10 _ _ ?_
       refine hR7 _ _ ?_
       have e5 := some_eq H; subst e5; replace H := el_rt HO5
       refine hR5 _ _ ?_
       have eR := some_eq H; subst eR
       exact ret1 Try.results20 hf Z ⟨_, Z, ⟨Z, hs⟩⟩
     ·
      replace hf := hf.castB (t := 14) Z (dec_f hc13)
      refine cond_F hf Z ?_
      refine wp_exit ?_
      refine hX11 0 _ _ ?_
      refine hX10 0 _ _ ?_
      refine hX7 _ _ ?_
      have e5 := some_eq H; subst e5
      exact hJ5 _ _ ⟨_, Z, hf.sub trivial, hs⟩
  ·
   obtain ⟨x5s, rfl, hf, hs⟩ := hJ
   replace H := el_go HO5
   clear HO5
   refine seq_reg (fun K23 hK23 => ?_)
   refine stq hf Z Z Z (ex_assign hf Z) fun a hf => ?_
   refine hK23 _ _ ?_
   refine wp_ret ?_
   have eR := some_eq H; subst eR
   exact ret1 Try.results20 hf Z ⟨_, Z, ⟨Z, hs⟩⟩
 ·
  replace hf := hf.castB (t := 10) Z (ndec_t hc4)
  refine cond_T hf Z ?_
  refine seq_reg (fun K24 hK24 => ?_)
  refine stq hf Z Z Z (ex_assign hf Z) fun a hf => ?_
  refine hK24 _ _ ?_
  refine wp_ret ?_
  refine hR2 _ _ ?_
  have eR := some_eq H; subst eR
  exact ret1 Try.results20 hf Z ⟨_, Z, ⟨Z, hs⟩⟩

set_option maxRecDepth 100000 in
theorem ref09_ordinary.calls {M : Nat → Prop} {w0 : World} (k : Nat) (a0 : Int) {r : Bool} (hs : St M w0 w0 []) (hr : Sr M w0 [])
  (h : ref09_ordinary.f k a0 = some r) : Calls Try.prog 55 #[.int .i64 a0] w0 fun e w => ∃ v, e = .returned v ∧ (.bool r = v ∧ St M w0 w []) := by
 have H := (ref09_ordinary.f.eq_1 ..).symm.trans h
 clear h
 refine enter Try.func55 Z Try.ntmps55 Z (fun a hf => ?_)
 refine seq_reg (fun K1 hK1 => ?_)
 refine stq hf Z Z Z (ex_assign hf Z) fun a hf => ?_
 refine hK1 _ _ ?_
 refine itt H (fun hc2 H => ?_) (fun hc2 H => ?_)
 ·
  refine seq_reg (fun K3 hK3 => ?_)
  refine stq hf Z Z Z (ex_move hf Z) fun a hf => stq hf Z Z Z (ex_geq hf Z Z) fun a hf => stq hf Z Z Z (ex_move hf Z) fun a hf => ?_
  replace hf := hf.castB (t := 4) Z (dec_t hc2)
  replace hf := hf.castB (t := 5) Z (dec_t hc2)
  refine stq hf Z Z Z (ex_move hf Z) fun a hf => stq hf Z Z Z (ex_leq hf Z Z) fun a hf => stq hf Z Z Z (ex_pickT hf Z Z) fun a hf => stq hf Z Z Z (ex_assign hf Z) fun a hf => ?_
  refine hK3 _ _ ?_
  refine wp_ret ?_
  have eR := some_eq H; subst eR
  exact ret1 Try.results55 hf Z ⟨_, Z, ⟨Z, hs⟩⟩
 ·
  refine seq_reg (fun K4 hK4 => ?_)
  refine stq hf Z Z Z (ex_move hf Z) fun a hf => stq hf Z Z Z (ex_geq hf Z Z) fun a hf => stq hf Z Z Z (ex_move hf Z) fun a hf => ?_
  replace hf := hf.castB (t := 4) Z (dec_f hc2)
  replace hf := hf.castB (t := 5) Z (dec_f hc2)
  refine stepN hf Z Z Z fun a hf => stepN hf Z Z Z fun a hf => stq hf Z Z Z (ex_pickF hf Z Z) fun a hf => stq hf Z Z Z (ex_assign hf Z) fun a hf => ?_
  refine hK4 _ _ ?_
  refine wp_ret ?_
  have eR := some_eq H; subst eR
  exact ret1 Try.results55 hf Z ⟨_, Z, ⟨Z, hs⟩⟩

set_option maxRecDepth 100000 in
theorem ref09_ValidRange.calls {M : Nat → Prop} {w0 : World} (k : Nat) (a0 : Range) {r : Bool} (hs : St M w0 w0 []) (hr : Sr M w0 [])
  (h : ref09_ValidRange.f k a0 = some r) : Calls Try.prog 56 #[.agg #[.int .u64 a0.Base, .int .u64 a0.Len]] w0 fun e w => ∃ v, e = .returned v ∧ (.bool r = v ∧ St M w0 w []) := by
 have H := (ref09_ValidRange.f.eq_1 ..).symm.trans h
 clear h
 refine enter Try.func56 Z Try.ntmps56 Z (fun a hf => ?_)
 refine seq_reg (fun K2 hK2 => ?_)
 refine stepV hf Z Z Z (er_box (cs := [.int .u64 a0.Base, .int .u64 a0.Len]) hs hf Z Z) (fun v w hR a hf => ?_)
 obtain ⟨b1, rfl, hs⟩ := hR
 refine stq hf Z Z Z (ex_assign hf Z) fun a hf => ?_
 refine hK2 _ _ ?_
 refine itt H (fun hc3 H => ?_) (fun hc3 H => ?_)
 ·
  refine itt H (fun hc4 H => ?_) (fun hc4 H => ?_)
  ·
   refine seq_reg (fun K5 hK5 => ?_)
   refine stq hf Z Z Z (ex_fieldAddrB fa_32_1 Z hf Z) fun a hf => stq hf Z Z Z (ex_load sc_22 hf Z (bx_cell (hs.get (i := 0) Z) _ Z)) fun a hf => stq hf Z Z Z (ex_geq hf Z Z) fun a hf => stq hf Z Z Z (ex_move hf Z) fun a hf => ?_
   replace hf := hf.castB (t := 5) Z (dec_t hc3)
   replace hf := hf.castB (t := 6) Z (dec_t hc3)
   refine stq hf Z Z Z (ex_fieldAddrB fa_32_1 Z hf Z) fun a hf => stq hf Z Z Z (ex_load sc_22 hf Z (bx_cell (hs.get (i := 0) Z) _ Z)) fun a hf => stq hf Z Z Z (ex_leq hf Z Z) fun a hf => stq hf Z Z Z (ex_pickT hf Z Z) fun a hf => stq hf Z Z Z (ex_move hf Z) fun a hf => ?_
   replace hf := hf.castB (t := 9) Z (dec_t hc4)
   replace hf := hf.castB (t := 10) Z (dec_t hc4)
   replace hf := hf.castB (t := 11) Z (dec_t hc4)
   refine stq hf Z Z Z (ex_fieldAddrB fa_32_0 Z hf Z) fun a hf => stq hf Z Z Z (ex_load sc_22 hf Z (bx_cell (hs.get (i := 0) Z) _ Z)) fun a hf => stq hf Z Z Z (ex_fieldAddrB fa_32_1 Z hf Z) fun a hf => stq hf Z Z Z (ex_load sc_22 hf Z (bx_cell (hs.get (i := 0) Z) _ Z)) fun a hf => stq hf Z Z Z (ex_sub hf Z Z) fun a hf => stq hf Z Z Z (ex_sub hf Z Z) fun a hf => stq hf Z Z Z (ex_leq hf Z Z) fun a hf => stq hf Z Z Z (ex_pickT hf Z Z) fun a hf => stq hf Z Z Z (ex_assign hf Z) fun a hf => ?_
   refine hK5 _ _ ?_
   refine wp_ret ?_
   have eR := some_eq H; subst eR
   replace hs := hs.keep (.d .nil)
   exact ret1 Try.results56 hf Z ⟨_, Z, ⟨Z, hs⟩⟩
  ·
   refine seq_reg (fun K6 hK6 => ?_)
   refine stq hf Z Z Z (ex_fieldAddrB fa_32_1 Z hf Z) fun a hf => stq hf Z Z Z (ex_load sc_22 hf Z (bx_cell (hs.get (i := 0) Z) _ Z)) fun a hf => stq hf Z Z Z (ex_geq hf Z Z) fun a hf => stq hf Z Z Z (ex_move hf Z) fun a hf => ?_
   replace hf := hf.castB (t := 5) Z (dec_t hc3)
   replace hf := hf.castB (t := 6) Z (dec_t hc3)
   refine stq hf Z Z Z (ex_fieldAddrB fa_32_1 Z hf Z) fun a hf => stq hf Z Z Z (ex_load sc_22 hf Z (bx_cell (hs.get (i := 0) Z) _ Z)) fun a hf => stq hf Z Z Z (ex_leq hf Z Z) fun a hf => stq hf Z Z Z (ex_pickT hf Z Z) fun a hf => stq hf Z Z Z (ex_move hf Z) fun a hf => ?_
   replace hf := hf.castB (t := 9) Z (dec_f hc4)
   replace hf := hf.castB (t := 10) Z (dec_f hc4)
   replace hf := hf.castB (t := 11) Z (dec_f hc4)
   refine stepN hf Z Z Z fun a hf => stepN hf Z Z Z fun a hf => stepN hf Z Z Z fun a hf => stepN hf Z Z Z fun a hf => stepN hf Z Z Z fun a hf => stepN hf Z Z Z fun a hf => stepN hf Z Z Z fun a hf => stq hf Z Z Z (ex_pickF hf Z Z) fun a hf => stq hf Z Z Z (ex_assign hf Z) fun a hf => ?_
   refine hK6 _ _ ?_
   refine wp_ret ?_
   have eR := some_eq H; subst eR
   replace hs := hs.keep (.d .nil)
   exact ret1 Try.results56 hf Z ⟨_, Z, ⟨Z, hs⟩⟩
 ·
  refine seq_reg (fun K7 hK7 => ?_)
  refine stq hf Z Z Z (ex_fieldAddrB fa_32_1 Z hf Z) fun a hf => stq hf Z Z Z (ex_load sc_22 hf Z (bx_cell (hs.get (i := 0) Z) _ Z)) fun a hf => stq hf Z Z Z (ex_geq hf Z Z) fun a hf => stq hf Z Z Z (ex_move hf Z) fun a hf => ?_
  replace hf := hf.castB (t := 5) Z (dec_f hc3)
  replace hf := hf.castB (t := 6) Z (dec_f hc3)
  refine stepN hf Z Z Z fun a hf => stepN hf Z Z Z fun a hf => stepN hf Z Z Z fun a hf => stq hf Z Z Z (ex_pickF hf Z Z) fun a hf => stq hf Z Z Z (ex_move hf Z) fun a hf => stepN hf Z Z Z fun a hf => stepN hf Z Z Z fun a hf => stepN hf Z Z Z fun a hf => stepN hf Z Z Z fun a hf => stepN hf Z Z Z fun a hf => stepN hf Z Z Z fun a hf => stepN hf Z Z Z fun a hf => stq hf Z Z Z (ex_pickF hf Z Z) fun a hf => stq hf Z Z Z (ex_assign hf Z) fun a hf => ?_
  refine hK7 _ _ ?_
  refine wp_ret ?_
  have eR := some_eq H; subst eR
  replace hs := hs.keep (.d .nil)
  exact ret1 Try.results56 hf Z ⟨_, Z, ⟨Z, hs⟩⟩

set_option maxRecDepth 100000 in
theorem ref09_Bus_PlanFault.calls {M : Nat → Prop} {w0 : World} (k : Nat) (Ad : (List ref09_mapping)) (Ae : (List Bool)) (Af : (List ref09_fault)) (At : (List Traced)) (a1 : Int) (a2 : Range) (a3 : Int) (b0 : Nat) (Vd : Value) (Gd : (List SlV)) (Vf : Value) (Vt : Value) {r : (List ref09_fault) × Int} (hs : St M w0 w0 [bxs b0 56 [([Vd], 1), (List.map Value.bool Ae, 256), ([Vf], 1), ([Vt], 1)], osl KR Vd (List.zip Gd Ad), ndv FR Gd Ad, osl KF Vf Af, osl Kt Vt At]) (hr : Sr M w0 [])
  (h : ref09_Bus_PlanFault.f k Ad Ae Af At a1 a2 a3 = some r) : Calls Try.prog 41 #[.pointer (some ⟨b0, 0, none⟩), .int .i64 a1, .agg #[.int .u64 a2.Base, .int .u64 a2.Len], .int .i64 a3] w0 fun e w => ∃ v, e = .returned v ∧ (∃ (g0 : Value), .int .i64 r.2 = v ∧ St M w0 w [bxs b0 56 [([Vd], 1), (List.map Value.bool Ae, 256), ([g0], 1), ([Vt], 1)], osl KF g0 r.1, osl KR Vd (List.zip Gd Ad), ndv FR Gd Ad, osl Kt Vt At]) := by
 have H := (ref09_Bus_PlanFault.f.eq_1 ..).symm.trans h
 clear h
 refine enter Try.func41 Z Try.ntmps41 Z (fun a hf => ?_)
 refine seq_reg (fun K2 hK2 => ?_)
 refine stepV hf Z Z Z (er_box (cs := [.int .u64 a2.Base, .int .u64 a2.Len]) hs hf Z Z) (fun v w hR a hf => ?_)
 obtain ⟨b1, rfl, hs⟩ := hR
 refine stq hf Z Z Z (ex_assign hf Z) fun a hf => ?_
 refine hK2 _ _ ?_
 refine seq_n (fun Q3 hN3 hR3 hX3 => ?_)
 refine bnd H (fun x4 H4 HO4 => ?_)
 clear H
 refine seq_cut (fun a w => Fr a 62 [(0, .pointer (some ⟨b0, 0, none⟩)), (1, .int .i64 a1), (3, .int .i64 a3), (6, .pointer (some ⟨b1, 0, none⟩)), (26, .bool x4)] ∧ St M w0 w [bxs b0 56 [([Vd], 1), (List.map Value.bool Ae, 256), ([Vf], 1), ([Vt], 1)], osl KR Vd (List.zip Gd Ad), ndv FR Gd Ad, osl KF Vf Af, osl Kt Vt At, bx b1 32 [.int .u64 a2.Base, .int .u64 a2.Len]]) (fun Q4 hJ4 hR4 hX4 => ?_) (fun a w hJ => ?_)
 ·
  replace H := H4
  refine bnd H (fun s5 hs5 H => ?_)
  refine itt H (fun hc6 H => ?_) (fun hc6 H => ?_)
  ·
   refine bnd H (fun s7 hs7 H => ?_)
   refine itt H (fun hc8 H => ?_) (fun hc8 H => ?_)
   ·
    refine itt H (fun hc9 H => ?_) (fun hc9 H => ?_)
    ·
     refine region_k (fun K10 hK10 => ?_)
     refine stq hf Z Z Z (ex_move hf Z) fun a hf => ?_
     refine stepF hf Z Z Z (ex_call cf_55 hf Z) (ref09_ordinary.calls k a1 (hs.enter sN) (Sr.nil _ _) hs5) (fun v w hR a hf => ?_)
     obtain ⟨rfl, hs'⟩ := hR
     replace hs := hs.step sN hs'
     clear hs'
     refine stq hf Z Z Z (ex_not hf Z) fun a hf => stq hf Z Z Z (ex_move hf Z) fun a hf => ?_
     replace hf := hf.castB (t := 12) Z hc6
     replace hf := hf.castB (t := 13) Z (nbool_f hc6)
     replace hf := hf.castB (t := 14) Z (nbool_f hc6)
     refine stq hf Z Z Z (ex_loadA (cs := [.int .u64 a2.Base, .int .u64 a2.Len]) ag_32 hf Z (bx_cells (hs.get (i := 0) Z) Z)) fun a hf => ?_
     refine stepF hf Z Z Z (ex_call cf_56 hf Z) (ref09_ValidRange.calls k a2 (hs.enter sN) (Sr.nil _ _) hs7) (fun v w hR a hf => ?_)
     obtain ⟨rfl, hs'⟩ := hR
     replace hs := hs.step sN hs'
     clear hs'
     refine stq hf Z Z Z (ex_not hf Z) fun a hf => stq hf Z Z Z (ex_pickF hf Z Z) fun a hf => stq hf Z Z Z (ex_move hf Z) fun a hf => ?_
     replace hf := hf.castB (t := 16) Z hc8
     replace hf := hf.castB (t := 17) Z (nbool_f hc8)
     replace hf := hf.castB (t := 18) Z (nbool_f hc8)
     replace hf := hf.castB (t := 19) Z (nbool_f hc8)
     refine stq hf Z Z Z (ex_move hf Z) fun a hf => stq hf Z Z Z (ex_lss hf Z Z) fun a hf => stq hf Z Z Z (ex_pickF hf Z Z) fun a hf => stq hf Z Z Z (ex_move hf Z) fun a hf => ?_
     replace hf := hf.castB (t := 21) Z (dec_t hc9)
     replace hf := hf.castB (t := 22) Z (dec_t hc9)
     replace hf := hf.castB (t := 23) Z (dec_t hc9)
     refine stepN hf Z Z Z fun a hf => stepN hf Z Z Z fun a hf => stq hf Z Z Z (ex_pickT hf Z Z) fun a hf => ?_
     refine hK10 _ _ ?_
     replace hs := hs.p5.p5.p5.p5.p5
     have e4 := some_eq H; subst e4
     exact hJ4 _ _ ⟨hf.sub ⟨Z, Z, Z, Z, Z, trivial⟩, hs⟩
    ·
     refine region_k (fun K11 hK11 => ?_)
     refine stq hf Z Z Z (ex_move hf Z) fun a hf => ?_
     refine stepF hf Z Z Z (ex_call cf_55 hf Z) (ref09_ordinary.calls k a1 (hs.enter sN) (Sr.nil _ _) hs5) (fun v w hR a hf => ?_)
     obtain ⟨rfl, hs'⟩ := hR
     replace hs := hs.step sN hs'
     clear hs'
     refine stq hf Z Z Z (ex_not hf Z) fun a hf => stq hf Z Z Z (ex_move hf Z) fun a hf => ?_
     replace hf := hf.castB (t := 12) Z hc6
     replace hf := hf.castB (t := 13) Z (nbool_f hc6)
     replace hf := hf.castB (t := 14) Z (nbool_f hc6)
     refine stq hf Z Z Z (ex_loadA (cs := [.int .u64 a2.Base, .int .u64 a2.Len]) ag_32 hf Z (bx_cells (hs.get (i := 0) Z) Z)) fun a hf => ?_
     refine stepF hf Z Z Z (ex_call cf_56 hf Z) (ref09_ValidRange.calls k a2 (hs.enter sN) (Sr.nil _ _) hs7) (fun v w hR a hf => ?_)
     obtain ⟨rfl, hs'⟩ := hR
     replace hs := hs.step sN hs'
     clear hs'
     refine stq hf Z Z Z (ex_not hf Z) fun a hf => stq hf Z Z Z (ex_pickF hf Z Z) fun a hf => stq hf Z Z Z (ex_move hf Z) fun a hf => ?_
     replace hf := hf.castB (t := 16) Z hc8
     replace hf := hf.castB (t := 17) Z (nbool_f hc8)
     replace hf := hf.castB (t := 18) Z (nbool_f hc8)
     replace hf := hf.castB (t := 19) Z (nbool_f hc8)
     refine stq hf Z Z Z (ex_move hf Z) fun a hf => stq hf Z Z Z (ex_lss hf Z Z) fun a hf => stq hf Z Z Z (ex_pickF hf Z Z) fun a hf => stq hf Z Z Z (ex_move hf Z) fun a hf => ?_
     replace hf := hf.castB (t := 21) Z (dec_f hc9)
     replace hf := hf.castB (t := 22) Z (dec_f hc9)
     replace hf := hf.castB (t := 23) Z (dec_f hc9)
     refine stq hf Z Z Z (ex_move hf Z) fun a hf => stq hf Z Z Z (ex_gtr hf Z Z) fun a hf => stq hf Z Z Z (ex_pickF hf Z Z) fun a hf => ?_
     refine hK11 _ _ ?_
     replace hs := hs.p5.p5.p5.p5.p5
     have e4 := some_eq H; subst e4
     exact hJ4 _ _ ⟨hf.sub ⟨Z, Z, Z, Z, Z, trivial⟩, hs⟩
   ·
    refine region_k (fun K12 hK12 => ?_)
    refine stq hf Z Z Z (ex_move hf Z) fun a hf => ?_
    refine stepF hf Z Z Z (ex_call cf_55 hf Z) (ref09_ordinary.calls k a1 (hs.enter sN) (Sr.nil _ _) hs5) (fun v w hR a hf => ?_)
    obtain ⟨rfl, hs'⟩ := hR
    replace hs := hs.step sN hs'
    clear hs'
    refine stq hf Z Z Z (ex_not hf Z) fun a hf => stq hf Z Z Z (ex_move hf Z) fun a hf => ?_
    replace hf := hf.castB (t := 12) Z hc6
    replace hf := hf.castB (t := 13) Z (nbool_f hc6)
    replace hf := hf.castB (t := 14) Z (nbool_f hc6)
    refine stq hf Z Z Z (ex_loadA (cs := [.int .u64 a2.Base, .int .u64 a2.Len]) ag_32 hf Z (bx_cells (hs.get (i := 0) Z) Z)) fun a hf => ?_
    refine stepF hf Z Z Z (ex_call cf_56 hf Z) (ref09_ValidRange.calls k a2 (hs.enter sN) (Sr.nil _ _) hs7) (fun v w hR a hf => ?_)
    obtain ⟨rfl, hs'⟩ := hR
    replace hs := hs.step sN hs'
    clear hs'
    refine stq hf Z Z Z (ex_not hf Z) fun a hf => stq hf Z Z Z (ex_pickF hf Z Z) fun a hf => stq hf Z Z Z (ex_move hf Z) fun a hf => ?_
    replace hf := hf.castB (t := 16) Z (bool_f hc8)
    replace hf := hf.castB (t := 17) Z (nbool_t hc8)
    replace hf := hf.castB (t := 18) Z (nbool_t hc8)
    replace hf := hf.castB (t := 19) Z (nbool_t hc8)
    refine stepN hf Z Z Z fun a hf => stepN hf Z Z Z fun a hf => stq hf Z Z Z (ex_pickT hf Z Z) fun a hf => stq hf Z Z Z (ex_move hf Z) fun a hf => stepN hf Z Z Z fun a hf => stepN hf Z Z Z fun a hf => stq hf Z Z Z (ex_pickT hf Z Z) fun a hf => ?_
    refine hK12 _ _ ?_
    replace hs := hs.p5.p5.p5.p5.p5
    have e4 := some_eq H; subst e4
    exact hJ4 _ _ ⟨hf.sub ⟨Z, Z, Z, Z, Z, trivial⟩, hs⟩
  ·
   refine region_k (fun K13 hK13 => ?_)
   refine stq hf Z Z Z (ex_move hf Z) fun a hf => ?_
   refine stepF hf Z Z Z (ex_call cf_55 hf Z) (ref09_ordinary.calls k a1 (hs.enter sN) (Sr.nil _ _) hs5) (fun v w hR a hf => ?_)
   obtain ⟨rfl, hs'⟩ := hR
   replace hs := hs.step sN hs'
   clear hs'
   refine stq hf Z Z Z (ex_not hf Z) fun a hf => stq hf Z Z Z (ex_move hf Z) fun a hf => ?_
   replace hf := hf.castB (t := 12) Z (bool_f hc6)
   replace hf := hf.castB (t := 13) Z (nbool_t hc6)
   replace hf := hf.castB (t := 14) Z (nbool_t hc6)
   refine stepN hf Z Z Z fun a hf => stepN hf Z Z Z fun a hf => stepN hf Z Z Z fun a hf => stq hf Z Z Z (ex_pickT hf Z Z) fun a hf => stq hf Z Z Z (ex_move hf Z) fun a hf => stepN hf Z Z Z fun a hf => stepN hf Z Z Z fun a hf => stq hf Z Z Z (ex_pickT hf Z Z) fun a hf => stq hf Z Z Z (ex_move hf Z) fun a hf => stepN hf Z Z Z fun a hf => stepN hf Z Z Z fun a hf => stq hf Z Z Z (ex_pickT hf Z Z) fun a hf => ?_
   refine hK13 _ _ ?_
   replace hs := hs.p5.p5.p5.p5.p5
   have e4 := some_eq H; subst e4
   exact hJ4 _ _ ⟨hf.sub ⟨Z, Z, Z, Z, Z, trivial⟩, hs⟩
 ·
  obtain ⟨hf, hs⟩ := hJ
  replace H := HO4
  clear HO4
  refine itt H (fun hc14 H => ?_) (fun hc14 H => ?_)
  ·
   replace hf := hf.castB (t := 26) Z hc14
   refine cond_T hf Z ?_
   refine seq_reg (fun K15 hK15 => ?_)
   refine stq hf Z Z Z (ex_assign hf Z) fun a hf => ?_
   refine hK15 _ _ ?_
   refine wp_ret ?_
   refine hR3 _ _ ?_
   have eR := some_eq H; subst eR
   replace hs := hs.keep (.k (.k (.k (.k (.k (.d .nil))))))
   replace hs := hs.p4.p3.p3.p4.p4
   exact ret1 Try.results41 hf Z ⟨_, Z, ⟨Vf, Z, hs⟩⟩
  ·
   replace hf := hf.castB (t := 26) Z (bool_f hc14)
   refine cond_F hf Z ?_
   refine wp_skip ?_
   refine hN3 _ _ ?_
   refine seq_reg (fun K16 hK16 => ?_)
   refine stq hf Z Z Z (ex_assign hf Z) fun a hf => ?_
   refine hK16 _ _ ?_
   refine bnd H (fun x17 H17 HO17 => ?_)
   clear H
   refine seq_cut (fun a w => Fr a 62 [(0, .pointer (some ⟨b0, 0, none⟩)), (1, .int .i64 a1), (3, .int .i64 a3), (6, .pointer (some ⟨b1, 0, none⟩)), (9, .int .i64 x17)] ∧ St M w0 w [bxs b0 56 [([Vd], 1), (List.map Value.bool Ae, 256), ([Vf], 1), ([Vt], 1)], osl KR Vd (List.zip Gd Ad), ndv FR Gd Ad, osl KF Vf Af, osl Kt Vt At, bx b1 32 [.int .u64 a2.Base, .int .u64 a2.Len]]) (fun Q17 hJ17 hR17 hX17 => ?_) (fun a w hJ => ?_)
   ·
    replace H := H17
    refine seq_reg (fun K18 hK18 => ?_)
    refine stq hf Z Z Z (ex_assign hf Z) fun a hf => ?_
    refine hK18 _ _ ?_
    refine block_k (fun Q19 hN19 hR19 hX19 hY19 => ?_)
    refine loop_k (fun n a w => ∃ (y20 : Int) (y21 : Int), Fr a 62 [(0, .pointer (some ⟨b0, 0, none⟩)), (1, .int .i64 a1), (3, .int .i64 a3), (6, .pointer (some ⟨b1, 0, none⟩)), (9, .int .i64 y20), (10, .int .i64 y21)] ∧ St M w0 w [bxs b0 56 [([Vd], 1), (List.map Value.bool Ae, 256), ([Vf], 1), ([Vt], 1)], osl KR Vd (List.zip Gd Ad), ndv FR Gd Ad, osl KF Vf Af, osl Kt Vt At, bx b1 32 [.int .u64 a2.Base, .int .u64 a2.Len]] ∧ ref09_Bus_PlanFault.l1 n Af y20 y21 = some x17) k ?_ (fun n23 a w hI Q23 hL23 hR23 hX23 => ?_)
    ·
     exact ⟨0, 0, hf.sub ⟨Z, Z, Z, Z, Z, Z, trivial⟩, hs, H⟩
    ·
     obtain ⟨y20, y21, hf, hs, H⟩ := hI
     cases n23 with
     | zero => exact absurd H (by rw [ref09_Bus_PlanFault.l1.eq_1]; intro h; cases h)
     | succ k23 =>
      replace H := (ref09_Bus_PlanFault.l1.eq_2 ..).symm.trans H
      refine seq_n (fun Q24 hN24 hR24 hX24 => ?_)
      refine seq_reg (fun K25 hK25 => ?_)
      refine stq hf Z Z Z (ex_move hf Z) fun a hf => stq hf Z Z Z (ex_move hf Z) fun a hf => stq hf Z Z Z (ex_nilCheck hf Z) fun a hf => stq hf Z Z Z (ex_fieldAddrB fa_56_2 Z hf Z) fun a hf => stq hf Z Z Z (ex_load sc_53 hf Z (sb_cell1 (i := 2) (hs.get (i := 0) Z) Z Z)) fun a hf => stq hf Z Z Z (ex_lenS Try.underlying53 (rsl_isSl (osl_rsl _ (hs.get (i := 3) Z))) hf Z) fun a hf => stq hf Z Z Z (ex_lss hf Z Z) fun a hf => ?_
      refine hK25 _ _ ?_
      refine itt H (fun hc26 H => ?_) (fun hc26 H => ?_)
      ·
       replace hf := hf.castB (t := 33) Z (dec_t hc26)
       refine cond_T hf Z ?_
       refine wp_skip ?_
       refine hN24 _ _ ?_
       refine bnd H (fun x27 H27 HO27 => ?_)
       clear H
       refine seq_cut (fun a w => Fr a 62 [(0, .pointer (some ⟨b0, 0, none⟩)), (1, .int .i64 a1), (3, .int .i64 a3), (6, .pointer (some ⟨b1, 0, none⟩)), (9, .int .i64 x27), (10, .int .i64 y21)] ∧ St M w0 w [bxs b0 56 [([Vd], 1), (List.map Value.bool Ae, 256), ([Vf], 1), ([Vt], 1)], osl KR Vd (List.zip Gd Ad), ndv FR Gd Ad, osl KF Vf Af, osl Kt Vt At, bx b1 32 [.int .u64 a2.Base, .int .u64 a2.Len]]) (fun Q27 hJ27 hR27 hX27 => ?_) (fun a w hJ => ?_)
       ·
        replace H := H27
        refine block_k (fun Q28 hN28 hR28 hX28 hY28 => ?_)
        refine ck_some H (fun hc29 H => ?_)
        refine seq_reg (fun K30 hK30 => ?_)
        refine stq hf Z Z Z (ex_move hf Z) fun a hf => stq hf Z Z Z (ex_nilCheck hf Z) fun a hf => stq hf Z Z Z (ex_fieldAddrB fa_56_2 Z hf Z) fun a hf => stq hf Z Z Z (ex_load sc_53 hf Z (sb_cell1 (i := 2) (hs.get (i := 0) Z) Z Z)) fun a hf => stq hf Z Z Z (ex_move hf Z) fun a hf => stq hf Z Z Z (ex_indexAddr sa_53 (rsl_isSl (osl_rsl _ (hs.get (i := 3) Z))) hc29.1 hc29.2 hf Z Z) fun a hf => stq hf Z Z Z (ex_fieldAddrS fa_103_2 Z hf Z) fun a hf => stq hf Z Z Z (ex_load sc_3 hf Z (el_cell (K := KF) (f := 3) (rsl_rd (osl_rsl _ (hs.get (i := 3) Z))) hc29.1 hc29.2 Z)) fun a hf => stq hf Z Z Z (ex_gtr hf Z Z) fun a hf => ?_
        refine hK30 _ _ ?_
        refine itt H (fun hc31 H => ?_) (fun hc31 H => ?_)
        ·
         replace hf := hf.castB (t := 44) Z (dec_t hc31)
         refine cond_T hf Z ?_
         refine region_k (fun K32 hK32 => ?_)
         refine stq hf Z Z Z (ex_move hf Z) fun a hf => stq hf Z Z Z (ex_add hf Z Z) fun a hf => stq hf Z Z Z (ex_assign hf Z) fun a hf => ?_
         refine hK32 _ _ ?_
         refine hN28 _ _ ?_
         have e27 := some_eq H; subst e27
         exact hJ27 _ _ ⟨hf.sub ⟨Z, Z, Z, Z, Z, Z, trivial⟩, hs⟩
        ·
         replace hf := hf.castB (t := 44) Z (dec_f hc31)
         refine cond_F hf Z ?_
         refine wp_skip ?_
         refine hN28 _ _ ?_
         have e27 := some_eq H; subst e27
         exact hJ27 _ _ ⟨hf.sub ⟨Z, Z, Z, Z, Z, Z, trivial⟩, hs⟩
       ·
        obtain ⟨hf, hs⟩ := hJ
        replace H := HO27
        clear HO27
        refine region_k (fun K33 hK33 => ?_)
        refine stq hf Z Z Z (ex_move hf Z) fun a hf => stq hf Z Z Z (ex_add hf Z Z) fun a hf => stq hf Z Z Z (ex_assign hf Z) fun a hf => ?_
        refine hK33 _ _ ?_
        exact hL23 k23 _ _ (Nat.lt_succ_self _) ⟨x27, (IntKind.i64.wrap (y21 + 1)), hf.sub ⟨Z, Z, Z, Z, Z, Z, trivial⟩, hs, H⟩
      ·
       replace hf := hf.castB (t := 33) Z (dec_f hc26)
       refine cond_F hf Z ?_
       refine wp_exit ?_
       refine hX24 0 _ _ ?_
       refine hX23 0 _ _ ?_
       refine hX19 _ _ ?_
       have e17 := some_eq H; subst e17
       exact hJ17 _ _ ⟨hf.sub ⟨Z, Z, Z, Z, Z, trivial⟩, hs⟩
   ·
    obtain ⟨hf, hs⟩ := hJ
    replace H := HO17
    clear HO17
    refine seq_n (fun Q34 hN34 hR34 hX34 => ?_)
    refine seq_reg (fun K35 hK35 => ?_)
    refine stq hf Z Z Z (ex_move hf Z) fun a hf => stq hf Z Z Z (ex_geq hf Z Z) fun a hf => ?_
    refine hK35 _ _ ?_
    refine itt H (fun hc36 H => ?_) (fun hc36 H => ?_)
    ·
     replace hf := hf.castB (t := 48) Z (dec_t hc36)
     refine cond_T hf Z ?_
     refine seq_reg (fun K37 hK37 => ?_)
     refine stq hf Z Z Z (ex_assign hf Z) fun a hf => ?_
     refine hK37 _ _ ?_
     refine wp_ret ?_
     refine hR34 _ _ ?_
     have eR := some_eq H; subst eR
     replace hs := hs.keep (.k (.k (.k (.k (.k (.d .nil))))))
     replace hs := hs.p4.p3.p3.p4.p4
     exact ret1 Try.results41 hf Z ⟨_, Z, ⟨Vf, Z, hs⟩⟩
    ·
     replace hf := hf.castB (t := 48) Z (dec_f hc36)
     refine cond_F hf Z ?_
     refine wp_skip ?_
     refine hN34 _ _ ?_
     refine seq_n (fun Q38 hN38 hR38 hX38 => ?_)
     refine ck_some H (fun hc40 H => ?_)
     refine region_dS fol 11 [(0, .pointer (some ⟨b0, 0, none⟩)), (1, .int .i64 a1), (3, .int .i64 a3), (6, .pointer (some ⟨b1, 0, none⟩))] [(0, .pointer (some ⟨b0, 0, none⟩)), (1, .pointer (some ⟨b0, 0, none⟩)), (2, .pointer (some ⟨b0, 0, none⟩)), (3, .pointer (some ⟨b0, 257, none⟩)), (4, Vf), (5, .int .i64 a1), (6, .agg #[.int .u64 a2.Base, .int .u64 a2.Len]), (7, .int .i64 a3), (8, .agg #[.int .i64 a1, .int .u64 a2.Base, .int .u64 a2.Len, .int .i64 a3])] [9, 10] (fun w => (bxs b0 56 [([Vd], 1), (List.map Value.bool Ae, 256), ([Vf], 1), ([Vt], 1)]).ok w ∧ (bx b1 32 [.int .u64 a2.Base, .int .u64 a2.Len]).ok w ∧ True) hf ⟨Z, Z, Z, Z, trivial⟩ (by kernel_rfl) (by kernel_rfl) Z (by decide) ⟨hs.drew.get (i := 0) Z, hs.drew.get (i := 5) Z, trivial⟩ hs ((.cons (qy Z Z Z Z Z fun hR hf => ex_move hf Z) (.cons (qy Z Z Z Z Z fun hR hf => ex_move hf Z) (.cons (qy Z Z Z Z Z fun hR hf => ex_nilCheck hf Z) (.cons (qy Z Z Z Z Z fun hR hf => ex_fieldAddrB fa_56_2 Z hf Z) (.cons (qy Z Z Z Z Z fun hR hf => ex_load sc_53 hf Z (sb_cell1 (i := 2) (hR.1) Z Z)) (.cons (qy Z Z Z Z Z fun hR hf => ex_move hf Z) (.cons (qy Z Z Z Z Z fun hR hf => ex_loadA (cs := [.int .u64 a2.Base, .int .u64 a2.Len]) ag_32 hf Z (bx_cells (hR.2.1) Z)) (.cons (qy Z Z Z Z Z fun hR hf => ex_move hf Z) (.cons (qy Z Z Z Z Z fun hR hf => ex_build (cs := [.int .i64 a1, .int .u64 a2.Base, .int .u64 a2.Len, .int .i64 a3]) bt_103 hf Z (.cons Z (.cons Z (.cons Z .nil))) Z) .nil)))))))))) (fun K42 hK42 => ?_)
     refine RW.one 9 (by kernel_rfl) (by kernel_rfl) rfl (fun d hd => by cases hd; rfl) [(57, .agg #[.int .i64 a1, .int .u64 a2.Base, .int .u64 a2.Len, .int .i64 a3])] ⟨rfl, trivial⟩ (fun a w hR hs hf => ⟨wanted_yes hf rfl, ?_⟩)
     refine estep_v (er_buildSlice (K := KF) (xs := [(⟨a1, (⟨a2.Base, a2.Len⟩ : Range), a3⟩ : ref09_fault)]) hs Try.underlying53 ep_103 Z Z hf Z (.cons Z .nil) Z Z) (fun v39 w hs => ?_)
     refine ⟨[], _, [10], (fun _ => True), hs.fn, Z, Z, ⟨hs.get (i := 1) Z, hs.get (i := 6) Z, trivial⟩, trivial, hs, (by kernel_rfl), .nil, ?_⟩
     refine RW.one 10 (by kernel_rfl) (by kernel_rfl) rfl (fun d hd => by cases hd; rfl) [(53, Vf), (58, v39)] ⟨rfl, rfl, trivial⟩ (fun a w hR hs hf => ⟨wanted_yes hf rfl, ?_⟩)
     refine estep_v (er_append (K := KF) hs (.k (.k (.k (.k (.c sN))))) (osl_rsl _ (hs.get (i := 0) Z)) Z Try.underlying53 ep_103 hc40 Z hf Z Z) (fun v41 w hs => ?_)
     refine ⟨[], _, [], (fun _ => True), hs.fn, Z, Z, ⟨⟨hs.get (i := 2) Z, hs.get (i := 6) Z, trivial⟩, trivial⟩, trivial, hs, (by kernel_rfl), .nil, ?_⟩
     refine RW.zero (by kernel_rfl) (by kernel_rfl) [(49, .pointer (some ⟨b0, 0, none⟩)), (59, v41)] ⟨Z, Z, trivial⟩ (fun a w hR hs hf => ?_)
     refine stq hf Z Z Z (ex_nilCheck hf Z) fun a hf => stq hf Z Z Z (ex_fieldAddrB fa_56_2 Z hf Z) fun a hf => ?_
     refine stepS hf Z Z (er_storeS1 (i := 2) hs (.k (.k (.c sN))) hf Z Z (IsSl.one (rsl_isSl (osl_rsl _ (hs.get (i := 0) Z)))) sz_53 Z Z) (fun w hs => ?_)
     refine hK42 _ _ ?_
     refine hN38 _ _ ?_
     refine seq_reg (fun K43 hK43 => ?_)
     refine stq hf Z Z Z (ex_assign hf Z) fun a hf => ?_
     refine hK43 _ _ ?_
     refine wp_ret ?_
     have eR := some_eq H; subst eR
     replace hs := hs.keep (.k (.k (.d (.k (.k (.k (.d .nil)))))))
     exact ret1 Try.results41 hf Z ⟨_, Z, ⟨v41, Z, hs⟩⟩

set_option maxRecDepth 100000 in
theorem ref09_overlap.calls {M : Nat → Prop} {w0 : World} (k : Nat) (a0 : Range) (a1 : Range) {r : Bool} (hs : St M w0 w0 []) (hr : Sr M w0 [])
  (h : ref09_overlap.f k a0 a1 = some r) : Calls Try.prog 57 #[.agg #[.int .u64 a0.Base, .int .u64 a0.Len], .agg #[.int .u64 a1.Base, .int .u64 a1.Len]] w0 fun e w => ∃ v, e = .returned v ∧ (.bool r = v ∧ St M w0 w []) := by
 have H := (ref09_overlap.f.eq_1 ..).symm.trans h
 clear h
 refine enter Try.func57 Z Try.ntmps57 Z (fun a hf => ?_)
 refine seq_reg (fun K3 hK3 => ?_)
 refine stepV hf Z Z Z (er_box (cs := [.int .u64 a0.Base, .int .u64 a0.Len]) hs hf Z Z) (fun v w hR a hf => ?_)
 obtain ⟨b1, rfl, hs⟩ := hR
 refine stepV hf Z Z Z (er_box (cs := [.int .u64 a1.Base, .int .u64 a1.Len]) hs hf Z Z) (fun v w hR a hf => ?_)
 obtain ⟨b2, rfl, hs⟩ := hR
 refine stq hf Z Z Z (ex_assign hf Z) fun a hf => ?_
 refine hK3 _ _ ?_
 refine bnd H (fun s4 hs4 H => ?_)
 refine itt H (fun hc5 H => ?_) (fun hc5 H => ?_)
 ·
  refine seq_reg (fun K6 hK6 => ?_)
  refine stq hf Z Z Z (ex_loadA (cs := [.int .u64 a0.Base, .int .u64 a0.Len]) ag_32 hf Z (bx_cells (hs.get (i := 1) Z) Z)) fun a hf => stq hf Z Z Z (ex_fieldAddrB fa_32_0 Z hf Z) fun a hf => stq hf Z Z Z (ex_load sc_22 hf Z (bx_cell (hs.get (i := 0) Z) _ Z)) fun a hf => ?_
  refine stepF hf Z Z Z (ex_call cf_64 hf Z) (ref09_has.calls k a0 a1.Base (hs.enter sN) (Sr.nil _ _) hs4) (fun v w hR a hf => ?_)
  obtain ⟨rfl, hs'⟩ := hR
  replace hs := hs.step sN hs'
  clear hs'
  refine stq hf Z Z Z (ex_move hf Z) fun a hf => ?_
  replace hf := hf.castB (t := 8) Z hc5
  replace hf := hf.castB (t := 9) Z hc5
  refine stepN hf Z Z Z fun a hf => stepN hf Z Z Z fun a hf => stepN hf Z Z Z fun a hf => stepN hf Z Z Z fun a hf => stq hf Z Z Z (ex_pickT hf Z Z) fun a hf => stq hf Z Z Z (ex_assign hf Z) fun a hf => ?_
  refine hK6 _ _ ?_
  refine wp_ret ?_
  have eR := some_eq H; subst eR
  replace hs := hs.keep (.d (.d .nil))
  exact ret1 Try.results57 hf Z ⟨_, Z, ⟨Z, hs⟩⟩
 ·
  refine bnd H (fun s7 hs7 H => ?_)
  refine seq_reg (fun K8 hK8 => ?_)
  refine stq hf Z Z Z (ex_loadA (cs := [.int .u64 a0.Base, .int .u64 a0.Len]) ag_32 hf Z (bx_cells (hs.get (i := 1) Z) Z)) fun a hf => stq hf Z Z Z (ex_fieldAddrB fa_32_0 Z hf Z) fun a hf => stq hf Z Z Z (ex_load sc_22 hf Z (bx_cell (hs.get (i := 0) Z) _ Z)) fun a hf => ?_
  refine stepF hf Z Z Z (ex_call cf_64 hf Z) (ref09_has.calls k a0 a1.Base (hs.enter sN) (Sr.nil _ _) hs4) (fun v w hR a hf => ?_)
  obtain ⟨rfl, hs'⟩ := hR
  replace hs := hs.step sN hs'
  clear hs'
  refine stq hf Z Z Z (ex_move hf Z) fun a hf => ?_
  replace hf := hf.castB (t := 8) Z (bool_f hc5)
  replace hf := hf.castB (t := 9) Z (bool_f hc5)
  refine stq hf Z Z Z (ex_loadA (cs := [.int .u64 a1.Base, .int .u64 a1.Len]) ag_32 hf Z (bx_cells (hs.get (i := 0) Z) Z)) fun a hf => stq hf Z Z Z (ex_fieldAddrB fa_32_0 Z hf Z) fun a hf => stq hf Z Z Z (ex_load sc_22 hf Z (bx_cell (hs.get (i := 1) Z) _ Z)) fun a hf => ?_
  refine stepF hf Z Z Z (ex_call cf_64 hf Z) (ref09_has.calls k a1 a0.Base (hs.enter sN) (Sr.nil _ _) hs7) (fun v w hR a hf => ?_)
  obtain ⟨rfl, hs'⟩ := hR
  replace hs := hs.step sN hs'
  clear hs'
  refine stq hf Z Z Z (ex_pickF hf Z Z) fun a hf => stq hf Z Z Z (ex_assign hf Z) fun a hf => ?_
  refine hK8 _ _ ?_
  refine wp_ret ?_
  have eR := some_eq H; subst eR
  replace hs := hs.keep (.d (.d .nil))
  exact ret1 Try.results57 hf Z ⟨_, Z, ⟨Z, hs⟩⟩

end Go.Proofs.Ytigadacjaglfeaa.X
