/- Each function of the machine comes to what its pure function says. -/
import Derived.Test.YtigadacjaglfeaaFc1
import Derived.Test.YtigadacjaglfeaaFc2
import Derived.Test.YtigadacjaglfeaaFc3
import Derived.Test.YtigadacjaglfeaaFb
namespace Go.Proofs.Ytigadacjaglfeaa.X
open Go Go.RowKit Go.Sx
set_option linter.unusedVariables false

set_option maxHeartbeats 4000000 in
set_option maxRecDepth 100000 in
theorem iospace_Bus_Access.calls {M : Nat → Prop} {w0 : World} (k : Nat) (Aa : (List mapping)) (Ab : (List mapping)) (Ac : (List mapping)) (Ae : (List Bool)) (Af : (List fault)) (At : (List Traced)) (a1 : Access) (b0 : Nat) (Va : Value) (Ga : (List (Nat × Nat))) (Vb : Value) (Gb : (List (Nat × Nat))) (Vc : Value) (Gc : (List (Nat × Nat))) (Vf : Value) (Gf : (List Nat)) (Vt : Value) {r : (List fault) × (List Traced) × (List mapping) × (List mapping) × (List mapping) × Int × Int} (hs : St M w0 w0 [bxs b0 71 [([Va], 1), ([Vb], 1), ([Vc], 1), (List.map Value.bool Ae, 256), ([Vf], 1), ([Vt], 1)], osl Km Va (ids Fm Ga), nds Fm Ga Aa, osl Km Vb (ids Fm Gb), nds Fm Gb Ab, osl Km Vc (ids Fm Gc), nds Fm Gc Ac, osl Kf Vf (ids Ff Gf), nds Ff Gf Af, osl Kt Vt At]) (hr : Sr M w0 [])
  (h : iospace_Bus_Access.f k Aa Ab Ac Ae Af At a1 = some r) : Calls Try.prog 13 #[.pointer (some ⟨b0, 0, none⟩), .agg #[.int .i64 a1.Space, .int .u64 a1.Addr, .int .i64 a1.Width, .bool a1.Write, .int .u64 a1.Value]] w0 fun e w => ∃ v, e = .returned v ∧ (∃ (g0 : Value) (g1 : List Nat) (g2 : Value), .tuple #[.int .u64 r.2.2.2.2.2.1, .int .i64 r.2.2.2.2.2.2] = v ∧ St M w0 w [bxs b0 71 [([Va], 1), ([Vb], 1), ([Vc], 1), (List.map Value.bool Ae, 256), ([g0], 1), ([g2], 1)], osl Kf g0 (ids Ff g1), nds Ff g1 r.1, osl Kt g2 r.2.1, osl Km Va (ids Fm Ga), nds Fm Ga r.2.2.1, osl Km Vb (ids Fm Gb), nds Fm Gb r.2.2.2.1, osl Km Vc (ids Fm Gc), nds Fm Gc r.2.2.2.2.1]) := by
 have H := (iospace_Bus_Access.f.eq_1 ..).symm.trans h
 clear h
 refine enter Try.func13 Z Try.ntmps13 Z (fun a hf => ?_)
 refine seq_reg (fun K2 hK2 => ?_)
 refine stepV hf Z Z Z (er_box (cs := [.int .i64 a1.Space, .int .u64 a1.Addr, .int .i64 a1.Width, .bool a1.Write, .int .u64 a1.Value]) hs hf Z Z) (fun v w hR a hf => ?_)
 obtain ⟨b1, rfl, hs⟩ := hR
 refine stq hf Z Z Z (ex_assign hf Z) fun a hf => stq hf Z Z Z (ex_assign hf Z) fun a hf => ?_
 refine hK2 _ _ ?_
 refine seq_n (fun Q3 hN3 hR3 hX3 => ?_)
 refine block_k (fun Q4 hN4 hR4 hX4 hY4 => ?_)
 refine bnd H (fun s5 hs5 H => ?_)
 refine seq_reg (fun K6 hK6 => ?_)
 refine stq hf Z Z Z (ex_loadA (cs := [.int .i64 a1.Space, .int .u64 a1.Addr, .int .i64 a1.Width, .bool a1.Write, .int .u64 a1.Value]) ag_37 hf Z (bx_cells (hs.get (i := 0) Z) Z)) fun a hf => ?_
 refine stepF hf Z Z Z (ex_call cf_30 hf Z) (iospace_wellFormed.calls k a1 (hs.enter sN) (Sr.nil _ _) hs5) (fun v w hR a hf => ?_)
 obtain ⟨rfl, hs'⟩ := hR
 replace hs := hs.step sN hs'
 clear hs'
 refine stq hf Z Z Z (ex_not hf Z) fun a hf => stq hf Z Z Z (ex_assign hf Z) fun a hf => ?_
 refine hK6 _ _ ?_
 refine itt H (fun hc7 H => ?_) (fun hc7 H => ?_)
 ·
  replace hf := hf.castB (t := 8) Z (nbool_f hc7)
  refine cond_F hf Z ?_
  refine seq_reg (fun K8 hK8 => ?_)
  refine stq hf Z Z Z (ex_move hf Z) fun a hf => stq hf Z Z Z (ex_nilCheck hf Z) fun a hf => stq hf Z Z Z (ex_fieldAddrB fa_71_3 Z hf Z) fun a hf => stq hf Z Z Z (ex_load sc_54 hf Z (sb_cell1 (i := 5) (hs.get (i := 1) Z) Z Z)) fun a hf => stq hf Z Z Z (ex_lenS Try.underlying54 (rsl_isSl (osl_rsl _ (hs.get (i := 10) Z))) hf Z) fun a hf => stq hf Z Z Z (ex_geq hf Z Z) fun a hf => stq hf Z Z Z (ex_assign hf Z) fun a hf => ?_
  refine hK8 _ _ ?_
  refine itt H (fun hc9 H => ?_) (fun hc9 H => ?_)
  ·
   replace hf := hf.castB (t := 12) Z (dec_t hc9)
   refine cond_T hf Z ?_
   refine seq_reg (fun K10 hK10 => ?_)
   refine stq hf Z Z Z (ex_assign hf Z) fun a hf => stq hf Z Z Z (ex_assign hf Z) fun a hf => ?_
   refine hK10 _ _ ?_
   refine wp_ret ?_
   refine hR4 _ _ ?_
   refine hR3 _ _ ?_
   have eR := some_eq H; subst eR
   replace hs := hs.keep (.d sN)
   replace hs := hs.p6.p6.p6.p6.p6.p6.p9.p9.p9.p9
   exact ret2 Try.results13 hf Z Z ⟨_, Z, ⟨Vf, Gf, Vt, Z, hs⟩⟩
  ·
   replace hf := hf.castB (t := 12) Z (dec_f hc9)
   refine cond_F hf Z ?_
   refine wp_skip ?_
   refine hN4 _ _ ?_
   refine hN3 _ _ ?_
   refine seq_n (fun Q11 hN11 hR11 hX11 => ?_)
   refine bnd H (fun s12 hs12 H => ?_)
   refine region_dS fol 6 [(0, .pointer (some ⟨b0, 0, none⟩)), (3, .pointer (some ⟨b1, 0, none⟩))] [(0, .pointer (some ⟨b1, 4, none⟩)), (1, .int .u64 a1.Value), (2, .pointer (some ⟨b1, 2, none⟩)), (3, .int .i64 a1.Width)] [4] (fun w => (bx b1 37 [.int .i64 a1.Space, .int .u64 a1.Addr, .int .i64 a1.Width, .bool a1.Write, .int .u64 a1.Value]).ok w ∧ True) hf ⟨Z, Z, trivial⟩ (by kernel_rfl) (by kernel_rfl) Z (by decide) ⟨hs.drew.get (i := 0) Z, trivial⟩ hs ((.cons (qy Z Z Z Z Z fun hR hf => ex_fieldAddrB fa_37_4 Z hf Z) (.cons (qy Z Z Z Z Z fun hR hf => ex_load sc_22 hf Z (bx_cell (hR.1) _ Z)) (.cons (qy Z Z Z Z Z fun hR hf => ex_fieldAddrB fa_37_2 Z hf Z) (.cons (qy Z Z Z Z Z fun hR hf => ex_load sc_3 hf Z (bx_cell (hR.1) _ Z)) .nil))))) (fun K13 hK13 => ?_)
   refine RW.one 4 (by kernel_rfl) (by kernel_rfl) rfl (fun d hd => by cases hd; rfl) [(22, .int .i64 a1.Width)] ⟨rfl, trivial⟩ (fun a w hR hs hf => ⟨wanted_yes hf rfl, ?_⟩)
   refine estep_f (ex_call cf_31 hf Z) (iospace_mask.calls k a1.Width (hs.enter sN) (Sr.nil _ _) hs12) (fun v w hR => ?_)
   obtain ⟨rfl, hs'⟩ := hR
   replace hs := hs.step sN hs'
   clear hs'
   refine ⟨[(5, .int .u64 (bitw .and .u64 a1.Value s12))], _, [], (fun _ => True), hs.fn, Z, Z, ⟨hs.get (i := 0) Z, trivial⟩, trivial, hs, (by kernel_rfl), (.cons (qy Z Z Z Z Z fun hR hf => ex_bits Z hf Z Z) .nil), ?_⟩
   refine RW.zero (by kernel_rfl) (by kernel_rfl) [(0, .pointer (some ⟨b0, 0, none⟩)), (3, .pointer (some ⟨b1, 0, none⟩)), (24, .int .u64 (bitw .and .u64 a1.Value s12))] ⟨Z, Z, Z, trivial⟩ (fun a w hR hs hf => ?_)
   refine stq hf Z Z Z (ex_fieldAddrB fa_37_4 Z hf Z) fun a hf => ?_
   refine stepS hf Z Z (er_storeB hs (.c sN) hf Z Z Z sz_22 Z) (fun w hs => ?_)
   refine hK13 _ _ ?_
   refine hN11 _ _ ?_
   refine seq_n (fun Q14 hN14 hR14 hX14 => ?_)
   refine bnd H (fun s15 hs15 H => ?_)
   refine itt H (fun hq16 H => ?_) (fun hq16 H => ?_)
   ·
    refine region_k (fun K18 hK18 => ?_)
    refine stq hf Z Z Z (ex_move hf Z) fun a hf => stq hf Z Z Z (ex_fieldAddrB fa_37_0 Z hf Z) fun a hf => stq hf Z Z Z (ex_load sc_3 hf Z (bx_cell (hs.get (i := 0) Z) _ Z)) fun a hf => stq hf Z Z Z (ex_fieldAddrB fa_37_1 Z hf Z) fun a hf => stq hf Z Z Z (ex_load sc_22 hf Z (bx_cell (hs.get (i := 0) Z) _ Z)) fun a hf => ?_
    refine stepF hf Z Z Z (ex_call cf_32 hf Z) (iospace_Bus_find.calls k Aa Ab Ac Ae Af At a1.Space a1.Addr b0 Va Ga Vb Gb Vc Gc Vf Gf Vt (hs.enter sN) (Sr.own hs sN (i := 1) Z (fun _ h => h) (fun _ h => h) (Sr.own hs sN (i := 2) Z osl_rsl (fun _ h => h.1) (Sr.own hs sN (i := 3) Z (fun _ h => h) (fun _ h => h) (Sr.own hs sN (i := 4) Z osl_rsl (fun _ h => h.1) (Sr.own hs sN (i := 5) Z (fun _ h => h) (fun _ h => h) (Sr.own hs sN (i := 6) Z osl_rsl (fun _ h => h.1) (Sr.own hs sN (i := 7) Z (fun _ h => h) (fun _ h => h) (Sr.own hs sN (i := 8) Z osl_rsl (fun _ h => h.1) (Sr.own hs sN (i := 9) Z (fun _ h => h) (fun _ h => h) (Sr.own hs sN (i := 10) Z osl_rsl (fun _ h => h.1) (Sr.nil _ _))))))))))) hs15) (fun v w hR a hf => ?_)
    replace hR := Or.resolve_right hR (fun q => by rcases q with q | q | q <;> (have := q.1; omega))
    obtain ⟨_, hb17, rfl, hs'⟩ := hR
    replace hs := hs.step sN hs'
    clear hs'
    refine stq hf Z Z Z (ex_assign hf Z) fun a hf => ?_
    refine hK18 _ _ ?_
    refine hN14 _ _ ?_
    refine seq_reg (fun K20 hK20 => ?_)
    refine stq hf Z Z Z (ex_loadA (cs := [.int .i64 a1.Space, .int .u64 a1.Addr, .int .i64 a1.Width, .bool a1.Write, .int .u64 (bitw .and .u64 a1.Value s12)]) ag_37 hf Z (bx_cells (hs.get (i := 0) Z) Z)) fun a hf => stq hf Z Z Z (ex_build (cs := [.int .i64 a1.Space, .int .u64 a1.Addr, .int .i64 a1.Width, .bool a1.Write, .int .u64 (bitw .and .u64 a1.Value s12), .int .i64 (-1), .bool false, .bool false]) bt_63 hf Z (.cons Z (.cons Z .nil)) Z) fun a hf => ?_
    refine stepV hf Z Z Z (er_alloc hs ti_63 (cs := [.int .i64 0, .int .u64 0, .int .i64 0, .bool false, .int .u64 0, .int .i64 0, .bool false, .bool false]) Z) (fun v w hR a hf => ?_)
    obtain ⟨b19, rfl, hs⟩ := hR
    refine stepS hf Z Z (er_storeAB (vs := [.int .i64 a1.Space, .int .u64 a1.Addr, .int .i64 a1.Width, .bool a1.Write, .int .u64 (bitw .and .u64 a1.Value s12), .int .i64 (-1), .bool false, .bool false]) (cs' := [.int .i64 a1.Space, .int .u64 a1.Addr, .int .i64 a1.Width, .bool a1.Write, .int .u64 (bitw .and .u64 a1.Value s12), .int .i64 (-1), .bool false, .bool false]) hs (.c sN) sz_63 hf Z Z (all1 Z (all1 Z (all1 Z (all1 Z (all1 Z (all1 Z (all1 Z (all1 Z (all1_nil))))))))) Z Z) (fun w hs => ?_)
    refine hK20 _ _ ?_
    refine bnd H (fun x21 H21 HO21 => ?_)
    clear H
    refine seq_cut (fun a w => Fr a 144 [(0, .pointer (some ⟨b0, 0, none⟩)), (3, .pointer (some ⟨b1, 0, none⟩)), (6, .pointer (some ⟨Fm.blk (gd ((0, 0) : Nat × Nat) Ga s15.2), 0, none⟩)), (7, .pointer (some ⟨b19, 0, none⟩))] ∧ St M w0 w [bxs b0 71 [([Va], 1), ([Vb], 1), ([Vc], 1), (List.map Value.bool Ae, 256), ([Vf], 1), ([Vt], 1)], osl Km Va (ids Fm Ga), nds Fm Ga Aa, osl Km Vb (ids Fm Gb), nds Fm Gb Ab, osl Km Vc (ids Fm Gc), nds Fm Gc Ac, osl Kf Vf (ids Ff Gf), nds Ff Gf Af, osl Kt Vt At, bx b1 37 [.int .i64 a1.Space, .int .u64 a1.Addr, .int .i64 a1.Width, .bool a1.Write, .int .u64 (bitw .and .u64 a1.Value s12)], bx b19 63 [.int .i64 a1.Space, .int .u64 a1.Addr, .int .i64 a1.Width, .bool a1.Write, .int .u64 (bitw .and .u64 a1.Value s12), .int .i64 ((gd mapping.zero Aa s15.2).owner), .bool x21, .bool false]]) (fun Q21 hJ21 hR21 hX21 => ?_) (fun a w hJ => ?_)
    ·
     replace H := H21
     refine seq_reg (fun K22 hK22 => ?_)
     refine stq hf Z Z Z (ex_move hf Z) fun a hf => stq hf Z Z Z (ex_nep Try.underlying76 hf Z Z) fun a hf => ?_
     refine hK22 _ _ ?_
     refine cond_T hf Z ?_
     refine seq_reg (fun K23 hK23 => ?_)
     refine stq hf Z Z Z (ex_move hf Z) fun a hf => stq hf Z Z Z (ex_nilCheck hf Z) fun a hf => stq hf Z Z Z (ex_fieldAddrB fa_80_1 Z hf Z) fun a hf => stq hf Z Z Z (ex_load sc_3 hf Z (nd_cell (F := Fm) (hs.get (i := 4) Z) ((0, 0) : Nat × Nat) mapping.zero hb17.1 hb17.2 2 Z)) fun a hf => stq hf Z Z Z (ex_fieldAddrB fa_63_1 Z hf Z) fun a hf => ?_
     refine stepS hf Z Z (er_storeB hs (.c sN) hf Z Z Z sz_3 Z) (fun w hs => ?_)
     refine hK23 _ _ ?_
     refine bnd H (fun s24 hs24 H => ?_)
     refine itt H (fun hc25 H => ?_) (fun hc25 H => ?_)
     ·
      refine ck_some H (fun hc26 H => ?_)
      refine region_dS fol 24 [(0, .pointer (some ⟨b0, 0, none⟩)), (3, .pointer (some ⟨b1, 0, none⟩)), (6, .pointer (some ⟨Fm.blk (gd ((0, 0) : Nat × Nat) Ga s15.2), 0, none⟩)), (7, .pointer (some ⟨b19, 0, none⟩))] [(0, .pointer (some ⟨b1, 1, none⟩)), (1, .int .u64 a1.Addr), (2, .pointer (some ⟨b1, 2, none⟩)), (3, .int .i64 a1.Width), (4, .int .i64 (IntKind.i64.wrap (a1.Width - 1))), (5, .int .u64 (IntKind.u64.wrap (IntKind.i64.wrap (a1.Width - 1)))), (6, .int .u64 (IntKind.u64.wrap (a1.Addr + (IntKind.u64.wrap (IntKind.i64.wrap (a1.Width - 1)))))), (7, .pointer (some ⟨Fm.blk (gd ((0, 0) : Nat × Nat) Ga s15.2), 0, none⟩)), (8, .pointer (some ⟨Fm.blk (gd ((0, 0) : Nat × Nat) Ga s15.2), 0, none⟩)), (9, .pointer (some ⟨Fm.blk (gd ((0, 0) : Nat × Nat) Ga s15.2), 0, none⟩)), (10, .agg #[.int .u64 ((gd mapping.zero Aa s15.2).r.Base), .int .u64 ((gd mapping.zero Aa s15.2).r.Len)])] [11] (fun w => (bx b1 37 [.int .i64 a1.Space, .int .u64 a1.Addr, .int .i64 a1.Width, .bool a1.Write, .int .u64 (bitw .and .u64 a1.Value s12)]).ok w ∧ (nds Fm Ga Aa).ok w ∧ (bxs b0 71 [([Va], 1), ([Vb], 1), ([Vc], 1), (List.map Value.bool Ae, 256), ([Vf], 1), ([Vt], 1)]).ok w ∧ True) hf ⟨Z, Z, Z, Z, trivial⟩ (by kernel_rfl) (by kernel_rfl) Z (by decide) ⟨hs.drew.get (i := 1) Z, hs.drew.get (i := 4) Z, hs.drew.get (i := 2) Z, trivial⟩ hs ((.cons (qy Z Z Z Z Z fun hR hf => ex_fieldAddrB fa_37_1 Z hf Z) (.cons (qy Z Z Z Z Z fun hR hf => ex_load sc_22 hf Z (bx_cell (hR.1) _ Z)) (.cons (qy Z Z Z Z Z fun hR hf => ex_fieldAddrB fa_37_2 Z hf Z) (.cons (qy Z Z Z Z Z fun hR hf => ex_load sc_3 hf Z (bx_cell (hR.1) _ Z)) (.cons (qy Z Z Z Z Z fun hR hf => ex_sub hf Z Z) (.cons (qy Z Z Z Z Z fun hR hf => ex_conv Try.underlying3 Try.underlying22 hf Z) (.cons (qy Z Z Z Z Z fun hR hf => ex_add hf Z Z) (.cons (qy Z Z Z Z Z fun hR hf => ex_move hf Z) (.cons (qy Z Z Z Z Z fun hR hf => ex_nilCheck hf Z) (.cons (qy Z Z Z Z Z fun hR hf => ex_fieldAddrB fa_80_0 Z hf Z) (.cons (qy Z Z Z Z Z fun hR hf => ex_loadA (cs := [.int .u64 ((gd mapping.zero Aa s15.2).r.Base), .int .u64 ((gd mapping.zero Aa s15.2).r.Len)]) ag_32 hf Z (bx_cells (nd_node (F := Fm) hR.2.1 ((0, 0) : Nat × Nat) mapping.zero hb17.1 hb17.2 _ List.mem_cons_self) Z)) .nil)))))))))))) (fun K27 hK27 => ?_)
      refine RW.one 11 (by kernel_rfl) (by kernel_rfl) rfl (fun d hd => by cases hd; rfl) [(51, .agg #[.int .u64 ((gd mapping.zero Aa s15.2).r.Base), .int .u64 ((gd mapping.zero Aa s15.2).r.Len)])] ⟨rfl, trivial⟩ (fun a w hR hs hf => ⟨wanted_yes hf rfl, ?_⟩)
      refine estep_f (ex_call cf_33 hf Z) (iospace_last.calls k (⟨((gd mapping.zero Aa s15.2).r.Base), ((gd mapping.zero Aa s15.2).r.Len)⟩ : Range) (hs.enter sN) (Sr.nil _ _) hs24) (fun v w hR => ?_)
      obtain ⟨rfl, hs'⟩ := hR
      replace hs := hs.step sN hs'
      clear hs'
      refine ⟨[(12, .bool true), (13, .bool true), (14, .pointer (some ⟨b0, 0, none⟩)), (15, .pointer (some ⟨Fm.blk (gd ((0, 0) : Nat × Nat) Ga s15.2), 0, none⟩)), (16, .pointer (some ⟨Fm.blk (gd ((0, 0) : Nat × Nat) Ga s15.2), 0, none⟩)), (17, .pointer (some ⟨Fm.blk (gd ((0, 0) : Nat × Nat) Ga s15.2), 2, none⟩)), (18, .int .i64 ((gd mapping.zero Aa s15.2).owner)), (19, .pointer (some ⟨b0, 0, none⟩)), (20, .pointer (some ⟨b0, 3, none⟩)), (21, .pointer (some ⟨b0, 3 + ((gd mapping.zero Aa s15.2).owner).toNat, none⟩)), (22, .bool (gd false Ae ((gd mapping.zero Aa s15.2).owner))), (23, .bool (gd false Ae ((gd mapping.zero Aa s15.2).owner)))], _, [], (fun _ => True), hs.fn, Z, Z, ⟨hs.get (i := 1) Z, hs.get (i := 4) Z, hs.get (i := 2) Z, trivial⟩, trivial, hs, (by kernel_rfl), (.cons (qy Z Z Z Z Z fun hR hf => ex_castB (ex_leq hf Z Z) (dec_t hc25)) (.cons (qy Z Z Z Z Z fun hR hf => ex_move hf Z) (.cons (qy Z Z Z Z Z fun hR hf => ex_move hf Z) (.cons (qy Z Z Z Z Z fun hR hf => ex_move hf Z) (.cons (qy Z Z Z Z Z fun hR hf => ex_nilCheck hf Z) (.cons (qy Z Z Z Z Z fun hR hf => ex_fieldAddrB fa_80_1 Z hf Z) (.cons (qy Z Z Z Z Z fun hR hf => ex_load sc_3 hf Z (nd_cell (F := Fm) hR.1.2.1 ((0, 0) : Nat × Nat) mapping.zero hb17.1 hb17.2 2 Z)) (.cons (qy Z Z Z Z Z fun hR hf => ex_nilCheck hf Z) (.cons (qy Z Z Z Z Z fun hR hf => ex_fieldAddrB fa_71_1 Z hf Z) (.cons (qy Z Z Z Z Z fun hR hf => ex_indexAddrA ia_52 Z hc26.1 hc26.2 hf Z Z) (.cons (qy Z Z Z Z Z fun hR hf => ex_load sc_4 hf Z (sb_cell (f := Value.bool) (xs := Ae) (i := 3) (z := false) (hR.1.2.2.1) Z Z hc26.1 hc26.2)) (.cons (qy Z Z Z Z Z fun hR hf => ex_pickT hf Z Z) .nil)))))))))))), ?_⟩
      refine RW.zero (by kernel_rfl) (by kernel_rfl) [(0, .pointer (some ⟨b0, 0, none⟩)), (3, .pointer (some ⟨b1, 0, none⟩)), (6, .pointer (some ⟨Fm.blk (gd ((0, 0) : Nat × Nat) Ga s15.2), 0, none⟩)), (7, .pointer (some ⟨b19, 0, none⟩)), (64, .bool (gd false Ae ((gd mapping.zero Aa s15.2).owner)))] ⟨Z, Z, Z, Z, Z, trivial⟩ (fun a w hR hs hf => ?_)
      refine stq hf Z Z Z (ex_fieldAddrB fa_63_2 Z hf Z) fun a hf => ?_
      refine stepS hf Z Z (er_storeB hs (.c sN) hf Z Z Z sz_4 Z) (fun w hs => ?_)
      refine hK27 _ _ ?_
      replace hs := hs.p1.p11.p11.p11.p11.p11.p11.p11.p11.p11.p11
      have e21 := some_eq H; subst e21
      exact hJ21 _ _ ⟨hf.sub ⟨Z, Z, Z, Z, trivial⟩, hs⟩
     ·
      refine region_dS fol 24 [(0, .pointer (some ⟨b0, 0, none⟩)), (3, .pointer (some ⟨b1, 0, none⟩)), (6, .pointer (some ⟨Fm.blk (gd ((0, 0) : Nat × Nat) Ga s15.2), 0, none⟩)), (7, .pointer (some ⟨b19, 0, none⟩))] [(0, .pointer (some ⟨b1, 1, none⟩)), (1, .int .u64 a1.Addr), (2, .pointer (some ⟨b1, 2, none⟩)), (3, .int .i64 a1.Width), (4, .int .i64 (IntKind.i64.wrap (a1.Width - 1))), (5, .int .u64 (IntKind.u64.wrap (IntKind.i64.wrap (a1.Width - 1)))), (6, .int .u64 (IntKind.u64.wrap (a1.Addr + (IntKind.u64.wrap (IntKind.i64.wrap (a1.Width - 1)))))), (7, .pointer (some ⟨Fm.blk (gd ((0, 0) : Nat × Nat) Ga s15.2), 0, none⟩)), (8, .pointer (some ⟨Fm.blk (gd ((0, 0) : Nat × Nat) Ga s15.2), 0, none⟩)), (9, .pointer (some ⟨Fm.blk (gd ((0, 0) : Nat × Nat) Ga s15.2), 0, none⟩)), (10, .agg #[.int .u64 ((gd mapping.zero Aa s15.2).r.Base), .int .u64 ((gd mapping.zero Aa s15.2).r.Len)])] [11] (fun w => (bx b1 37 [.int .i64 a1.Space, .int .u64 a1.Addr, .int .i64 a1.Width, .bool a1.Write, .int .u64 (bitw .and .u64 a1.Value s12)]).ok w ∧ (nds Fm Ga Aa).ok w ∧ True) hf ⟨Z, Z, Z, Z, trivial⟩ (by kernel_rfl) (by kernel_rfl) Z (by decide) ⟨hs.drew.get (i := 1) Z, hs.drew.get (i := 4) Z, trivial⟩ hs ((.cons (qy Z Z Z Z Z fun hR hf => ex_fieldAddrB fa_37_1 Z hf Z) (.cons (qy Z Z Z Z Z fun hR hf => ex_load sc_22 hf Z (bx_cell (hR.1) _ Z)) (.cons (qy Z Z Z Z Z fun hR hf => ex_fieldAddrB fa_37_2 Z hf Z) (.cons (qy Z Z Z Z Z fun hR hf => ex_load sc_3 hf Z (bx_cell (hR.1) _ Z)) (.cons (qy Z Z Z Z Z fun hR hf => ex_sub hf Z Z) (.cons (qy Z Z Z Z Z fun hR hf => ex_conv Try.underlying3 Try.underlying22 hf Z) (.cons (qy Z Z Z Z Z fun hR hf => ex_add hf Z Z) (.cons (qy Z Z Z Z Z fun hR hf => ex_move hf Z) (.cons (qy Z Z Z Z Z fun hR hf => ex_nilCheck hf Z) (.cons (qy Z Z Z Z Z fun hR hf => ex_fieldAddrB fa_80_0 Z hf Z) (.cons (qy Z Z Z Z Z fun hR hf => ex_loadA (cs := [.int .u64 ((gd mapping.zero Aa s15.2).r.Base), .int .u64 ((gd mapping.zero Aa s15.2).r.Len)]) ag_32 hf Z (bx_cells (nd_node (F := Fm) hR.2.1 ((0, 0) : Nat × Nat) mapping.zero hb17.1 hb17.2 _ List.mem_cons_self) Z)) .nil)))))))))))) (fun K28 hK28 => ?_)
      refine RW.one 11 (by kernel_rfl) (by kernel_rfl) rfl (fun d hd => by cases hd; rfl) [(51, .agg #[.int .u64 ((gd mapping.zero Aa s15.2).r.Base), .int .u64 ((gd mapping.zero Aa s15.2).r.Len)])] ⟨rfl, trivial⟩ (fun a w hR hs hf => ⟨wanted_yes hf rfl, ?_⟩)
      refine estep_f (ex_call cf_33 hf Z) (iospace_last.calls k (⟨((gd mapping.zero Aa s15.2).r.Base), ((gd mapping.zero Aa s15.2).r.Len)⟩ : Range) (hs.enter sN) (Sr.nil _ _) hs24) (fun v w hR => ?_)
      obtain ⟨rfl, hs'⟩ := hR
      replace hs := hs.step sN hs'
      clear hs'
      refine ⟨[(12, .bool false), (13, .bool false), (14, undef), (15, undef), (16, undef), (17, undef), (18, undef), (19, undef), (20, undef), (21, undef), (22, undef), (23, .bool false)], _, [], (fun _ => True), hs.fn, Z, Z, ⟨hs.get (i := 1) Z, hs.get (i := 4) Z, trivial⟩, trivial, hs, (by kernel_rfl), (.cons (qy Z Z Z Z Z fun hR hf => ex_castB (ex_leq hf Z Z) (dec_f hc25)) (.cons (qy Z Z Z Z Z fun hR hf => ex_move hf Z) (.cons (qn Z Z Z Z Z) (.cons (qn Z Z Z Z Z) (.cons (qn Z Z Z Z Z) (.cons (qn Z Z Z Z Z) (.cons (qn Z Z Z Z Z) (.cons (qn Z Z Z Z Z) (.cons (qn Z Z Z Z Z) (.cons (qn Z Z Z Z Z) (.cons (qn Z Z Z Z Z) (.cons (qy Z Z Z Z Z fun hR hf => ex_pickF hf Z Z) .nil)))))))))))), ?_⟩
      refine RW.zero (by kernel_rfl) (by kernel_rfl) [(0, .pointer (some ⟨b0, 0, none⟩)), (3, .pointer (some ⟨b1, 0, none⟩)), (6, .pointer (some ⟨Fm.blk (gd ((0, 0) : Nat × Nat) Ga s15.2), 0, none⟩)), (7, .pointer (some ⟨b19, 0, none⟩)), (64, .bool false)] ⟨Z, Z, Z, Z, Z, trivial⟩ (fun a w hR hs hf => ?_)
      refine stq hf Z Z Z (ex_fieldAddrB fa_63_2 Z hf Z) fun a hf => ?_
      refine stepS hf Z Z (er_storeB hs (.c sN) hf Z Z Z sz_4 Z) (fun w hs => ?_)
      refine hK28 _ _ ?_
      replace hs := hs.p1.p11.p11.p11.p11.p11.p11.p11.p11.p11.p11
      have e21 := some_eq H; subst e21
      exact hJ21 _ _ ⟨hf.sub ⟨Z, Z, Z, Z, trivial⟩, hs⟩
    ·
     obtain ⟨hf, hs⟩ := hJ
     replace H := HO21
     clear HO21
     refine bnd H (fun x29 H29 HO29 => ?_)
     clear H
     refine seq_cut (fun a w => ∃ (v30 : Value) (G31 : List Nat), Fr a 144 [(0, .pointer (some ⟨b0, 0, none⟩)), (3, .pointer (some ⟨b1, 0, none⟩)), (6, .pointer (some ⟨Fm.blk (gd ((0, 0) : Nat × Nat) Ga s15.2), 0, none⟩)), (7, .pointer (some ⟨b19, 0, none⟩))] ∧ St M w0 w [bxs b0 71 [([Va], 1), ([Vb], 1), ([Vc], 1), (List.map Value.bool Ae, 256), ([v30], 1), ([Vt], 1)], osl Km Va (ids Fm Ga), nds Fm Ga Aa, osl Km Vb (ids Fm Gb), nds Fm Gb Ab, osl Km Vc (ids Fm Gc), nds Fm Gc Ac, osl Kf v30 (ids Ff G31), nds Ff G31 x29.1, osl Kt Vt At, bx b1 37 [.int .i64 a1.Space, .int .u64 a1.Addr, .int .i64 a1.Width, .bool a1.Write, .int .u64 (bitw .and .u64 a1.Value s12)], bx b19 63 [.int .i64 a1.Space, .int .u64 a1.Addr, .int .i64 a1.Width, .bool a1.Write, .int .u64 (bitw .and .u64 a1.Value s12), .int .i64 ((gd mapping.zero Aa s15.2).owner), .bool x21, .bool x29.2]]) (fun Q29 hJ29 hR29 hX29 => ?_) (fun a w hJ => ?_)
     ·
      replace H := H29
      refine itt H (fun hc32 H => ?_) (fun hc32 H => ?_)
      ·
       refine bnd H (fun s33 hs33 H => ?_)
       refine region_k (fun K36 hK36 => ?_)
       refine stq hf Z Z Z (ex_fieldAddrB fa_63_2 Z hf Z) fun a hf => stq hf Z Z Z (ex_load sc_4 hf Z (bx_cell (hs.get (i := 11) Z) _ Z)) fun a hf => stq hf Z Z Z (ex_move hf Z) fun a hf => ?_
       replace hf := hf.castB (t := 67) Z hc32
       replace hf := hf.castB (t := 68) Z hc32
       refine stq hf Z Z Z (ex_move hf Z) fun a hf => stq hf Z Z Z (ex_loadA (cs := [.int .i64 a1.Space, .int .u64 a1.Addr, .int .i64 a1.Width, .bool a1.Write, .int .u64 (bitw .and .u64 a1.Value s12)]) ag_37 hf Z (bx_cells (hs.get (i := 10) Z) Z)) fun a hf => ?_
       refine stepF hf Z Z Z (ex_call cf_34 hf Z) (iospace_Bus_fails.calls k Aa Ab Ac Ae Af At (⟨a1.Space, a1.Addr, a1.Width, a1.Write, (bitw .and .u64 a1.Value s12)⟩ : Access) b0 Va Ga Vb Gb Vc Gc Vf Gf Vt (hs.enter (.c (.c (.c (.c (.c (.c (.c (.c (.c (.c sN))))))))))) (Sr.nil _ _) hs33) (fun v w hR a hf => ?_)
       obtain ⟨v34, b35, rfl, hs'⟩ := hR
       replace hs := hs.step (.c (.c (.c (.c (.c (.c (.c (.c (.c (.c sN)))))))))) hs'
       clear hs'
       refine stq hf Z Z Z (ex_pickT hf Z Z) fun a hf => stq hf Z Z Z (ex_fieldAddrB fa_63_3 Z hf Z) fun a hf => ?_
       refine stepS hf Z Z (er_storeB hs (.k (.k (.k (.k (.k (.k (.k (.k (.k (.k (.k (.c .nil)))))))))))) hf Z Z Z sz_4 Z) (fun w hs => ?_)
       refine hK36 _ _ ?_
       replace hs := hs.p11.p11.p5.p5.p11.p11.p11.p11.p11.p11.p11
       have e29 := some_eq H; subst e29
       exact hJ29 _ _ ⟨v34, b35, hf.sub ⟨Z, Z, Z, Z, trivial⟩, hs⟩
      ·
       refine region_k (fun K37 hK37 => ?_)
       refine stq hf Z Z Z (ex_fieldAddrB fa_63_2 Z hf Z) fun a hf => stq hf Z Z Z (ex_load sc_4 hf Z (bx_cell (hs.get (i := 11) Z) _ Z)) fun a hf => stq hf Z Z Z (ex_move hf Z) fun a hf => ?_
       replace hf := hf.castB (t := 67) Z (bool_f hc32)
       replace hf := hf.castB (t := 68) Z (bool_f hc32)
       refine stepN hf Z Z Z fun a hf => stepN hf Z Z Z fun a hf => stepN hf Z Z Z fun a hf => stq hf Z Z Z (ex_pickF hf Z Z) fun a hf => stq hf Z Z Z (ex_fieldAddrB fa_63_3 Z hf Z) fun a hf => ?_
       refine stepS hf Z Z (er_storeB hs (.k (.k (.k (.k (.k (.k (.k (.k (.k (.k (.k (.c .nil)))))))))))) hf Z Z Z sz_4 Z) (fun w hs => ?_)
       refine hK37 _ _ ?_
       replace hs := hs.p11.p11.p11.p11.p11.p11.p11.p11.p11.p11.p11
       have e29 := some_eq H; subst e29
       exact hJ29 _ _ ⟨Vf, Gf, hf.sub ⟨Z, Z, Z, Z, trivial⟩, hs⟩
     ·
      obtain ⟨v30, G31, hf, hs⟩ := hJ
      replace H := HO29
      clear HO29
      refine bnd H (fun x38 H38 HO38 => ?_)
      clear H
      refine seq_cut (fun a w => Fr a 144 [(0, .pointer (some ⟨b0, 0, none⟩)), (3, .pointer (some ⟨b1, 0, none⟩)), (7, .pointer (some ⟨b19, 0, none⟩))] ∧ St M w0 w [bxs b0 71 [([Va], 1), ([Vb], 1), ([Vc], 1), (List.map Value.bool Ae, 256), ([v30], 1), ([Vt], 1)], osl Km Va (ids Fm Ga), nds Fm Ga x38.1, osl Km Vb (ids Fm Gb), nds Fm Gb Ab, osl Km Vc (ids Fm Gc), nds Fm Gc Ac, osl Kf v30 (ids Ff G31), nds Ff G31 x29.1, osl Kt Vt At, bx b1 37 [.int .i64 a1.Space, .int .u64 a1.Addr, .int .i64 a1.Width, .bool a1.Write, .int .u64 (bitw .and .u64 a1.Value s12)], bx b19 63 [.int .i64 a1.Space, .int .u64 a1.Addr, .int .i64 a1.Width, .bool a1.Write, .int .u64 x38.2, .int .i64 ((gd mapping.zero Aa s15.2).owner), .bool x21, .bool x29.2]]) (fun Q38 hJ38 hR38 hX38 => ?_) (fun a w hJ => ?_)
      ·
       replace H := H38
       refine block_k (fun Q39 hN39 hR39 hX39 hY39 => ?_)
       refine bnd H (fun x40 H40 HO40 => ?_)
       clear H
       refine seq_cut (fun a w => Fr a 144 [(0, .pointer (some ⟨b0, 0, none⟩)), (3, .pointer (some ⟨b1, 0, none⟩)), (6, .pointer (some ⟨Fm.blk (gd ((0, 0) : Nat × Nat) Ga s15.2), 0, none⟩)), (7, .pointer (some ⟨b19, 0, none⟩)), (74, .bool x40)] ∧ St M w0 w [bxs b0 71 [([Va], 1), ([Vb], 1), ([Vc], 1), (List.map Value.bool Ae, 256), ([v30], 1), ([Vt], 1)], osl Km Va (ids Fm Ga), nds Fm Ga Aa, osl Km Vb (ids Fm Gb), nds Fm Gb Ab, osl Km Vc (ids Fm Gc), nds Fm Gc Ac, osl Kf v30 (ids Ff G31), nds Ff G31 x29.1, osl Kt Vt At, bx b1 37 [.int .i64 a1.Space, .int .u64 a1.Addr, .int .i64 a1.Width, .bool a1.Write, .int .u64 (bitw .and .u64 a1.Value s12)], bx b19 63 [.int .i64 a1.Space, .int .u64 a1.Addr, .int .i64 a1.Width, .bool a1.Write, .int .u64 (bitw .and .u64 a1.Value s12), .int .i64 ((gd mapping.zero Aa s15.2).owner), .bool x21, .bool x29.2]]) (fun Q40 hJ40 hR40 hX40 => ?_) (fun a w hJ => ?_)
       ·
        replace H := H40
        refine itt H (fun hc41 H => ?_) (fun hc41 H => ?_)
        ·
         refine region_k (fun K42 hK42 => ?_)
         refine stq hf Z Z Z (ex_fieldAddrB fa_37_3 Z hf Z) fun a hf => stq hf Z Z Z (ex_load sc_4 hf Z (bx_cell (hs.get (i := 10) Z) _ Z)) fun a hf => stq hf Z Z Z (ex_not hf Z) fun a hf => stq hf Z Z Z (ex_move hf Z) fun a hf => ?_
         replace hf := hf.castB (t := 76) Z hc41
         replace hf := hf.castB (t := 77) Z (nbool_f hc41)
         replace hf := hf.castB (t := 78) Z (nbool_f hc41)
         refine stepN hf Z Z Z fun a hf => stepN hf Z Z Z fun a hf => stq hf Z Z Z (ex_pickF hf Z Z) fun a hf => stq hf Z Z Z (ex_assign hf Z) fun a hf => ?_
         refine hK42 _ _ ?_
         have e40 := some_eq H; subst e40
         exact hJ40 _ _ ⟨hf.sub ⟨Z, Z, Z, Z, Z, trivial⟩, hs⟩
        ·
         refine region_k (fun K43 hK43 => ?_)
         refine stq hf Z Z Z (ex_fieldAddrB fa_37_3 Z hf Z) fun a hf => stq hf Z Z Z (ex_load sc_4 hf Z (bx_cell (hs.get (i := 10) Z) _ Z)) fun a hf => stq hf Z Z Z (ex_not hf Z) fun a hf => stq hf Z Z Z (ex_move hf Z) fun a hf => ?_
         replace hf := hf.castB (t := 76) Z (bool_f hc41)
         replace hf := hf.castB (t := 77) Z (nbool_t hc41)
         replace hf := hf.castB (t := 78) Z (nbool_t hc41)
         refine stq hf Z Z Z (ex_fieldAddrB fa_63_3 Z hf Z) fun a hf => stq hf Z Z Z (ex_load sc_4 hf Z (bx_cell (hs.get (i := 11) Z) _ Z)) fun a hf => stq hf Z Z Z (ex_pickT hf Z Z) fun a hf => stq hf Z Z Z (ex_assign hf Z) fun a hf => ?_
         refine hK43 _ _ ?_
         have e40 := some_eq H; subst e40
         exact hJ40 _ _ ⟨hf.sub ⟨Z, Z, Z, Z, Z, trivial⟩, hs⟩
       ·
        obtain ⟨hf, hs⟩ := hJ
        replace H := HO40
        clear HO40
        refine itt H (fun hc44 H => ?_) (fun hc44 H => ?_)
        ·
         replace hf := hf.castB (t := 74) Z hc44
         refine cond_T hf Z ?_
         refine region_k (fun K45 hK45 => ?_)
         refine stq hf Z Z Z (ex_fieldAddrB fa_63_0 Z hf Z) fun a hf => stq hf Z Z Z (ex_fieldAddrB fa_37_4 Z hf Z) fun a hf => ?_
         refine stepS hf Z Z (er_storeB hs (.k (.k (.k (.k (.k (.k (.k (.k (.k (.k (.k (.c .nil)))))))))))) hf Z Z Z sz_22 Z) (fun w hs => ?_)
         refine hK45 _ _ ?_
         refine hN39 _ _ ?_
         replace hs := hs.p11.p11.p11.p11.p11.p11.p11.p11.p11.p11.p11
         have e38 := some_eq H; subst e38
         exact hJ38 _ _ ⟨hf.sub ⟨Z, Z, Z, trivial⟩, hs⟩
        ·
         replace hf := hf.castB (t := 74) Z (bool_f hc44)
         refine cond_F hf Z ?_
         refine bnd H (fun x46 H46 HO46 => ?_)
         clear H
         refine seq_cut (fun a w => Fr a 144 [(0, .pointer (some ⟨b0, 0, none⟩)), (3, .pointer (some ⟨b1, 0, none⟩)), (6, .pointer (some ⟨Fm.blk (gd ((0, 0) : Nat × Nat) Ga s15.2), 0, none⟩)), (7, .pointer (some ⟨b19, 0, none⟩)), (84, .bool x46)] ∧ St M w0 w [bxs b0 71 [([Va], 1), ([Vb], 1), ([Vc], 1), (List.map Value.bool Ae, 256), ([v30], 1), ([Vt], 1)], osl Km Va (ids Fm Ga), nds Fm Ga Aa, osl Km Vb (ids Fm Gb), nds Fm Gb Ab, osl Km Vc (ids Fm Gc), nds Fm Gc Ac, osl Kf v30 (ids Ff G31), nds Ff G31 x29.1, osl Kt Vt At, bx b1 37 [.int .i64 a1.Space, .int .u64 a1.Addr, .int .i64 a1.Width, .bool a1.Write, .int .u64 (bitw .and .u64 a1.Value s12)], bx b19 63 [.int .i64 a1.Space, .int .u64 a1.Addr, .int .i64 a1.Width, .bool a1.Write, .int .u64 (bitw .and .u64 a1.Value s12), .int .i64 ((gd mapping.zero Aa s15.2).owner), .bool x21, .bool x29.2]]) (fun Q46 hJ46 hR46 hX46 => ?_) (fun a w hJ => ?_)
         ·
          replace H := H46
          refine itt H (fun hc47 H => ?_) (fun hc47 H => ?_)
          ·
           refine region_k (fun K48 hK48 => ?_)
           refine stq hf Z Z Z (ex_fieldAddrB fa_37_3 Z hf Z) fun a hf => stq hf Z Z Z (ex_load sc_4 hf Z (bx_cell (hs.get (i := 10) Z) _ Z)) fun a hf => stq hf Z Z Z (ex_not hf Z) fun a hf => stq hf Z Z Z (ex_move hf Z) fun a hf => ?_
           replace hf := hf.castB (t := 86) Z hc47
           replace hf := hf.castB (t := 87) Z (nbool_f hc47)
           replace hf := hf.castB (t := 88) Z (nbool_f hc47)
           refine stepN hf Z Z Z fun a hf => stepN hf Z Z Z fun a hf => stq hf Z Z Z (ex_pickF hf Z Z) fun a hf => stq hf Z Z Z (ex_assign hf Z) fun a hf => ?_
           refine hK48 _ _ ?_
           have e46 := some_eq H; subst e46
           exact hJ46 _ _ ⟨hf.sub ⟨Z, Z, Z, Z, Z, trivial⟩, hs⟩
          ·
           refine region_k (fun K49 hK49 => ?_)
           refine stq hf Z Z Z (ex_fieldAddrB fa_37_3 Z hf Z) fun a hf => stq hf Z Z Z (ex_load sc_4 hf Z (bx_cell (hs.get (i := 10) Z) _ Z)) fun a hf => stq hf Z Z Z (ex_not hf Z) fun a hf => stq hf Z Z Z (ex_move hf Z) fun a hf => ?_
           replace hf := hf.castB (t := 86) Z (bool_f hc47)
           replace hf := hf.castB (t := 87) Z (nbool_t hc47)
           replace hf := hf.castB (t := 88) Z (nbool_t hc47)
           refine stq hf Z Z Z (ex_fieldAddrB fa_63_2 Z hf Z) fun a hf => stq hf Z Z Z (ex_load sc_4 hf Z (bx_cell (hs.get (i := 11) Z) _ Z)) fun a hf => stq hf Z Z Z (ex_pickT hf Z Z) fun a hf => stq hf Z Z Z (ex_assign hf Z) fun a hf => ?_
           refine hK49 _ _ ?_
           have e46 := some_eq H; subst e46
           exact hJ46 _ _ ⟨hf.sub ⟨Z, Z, Z, Z, Z, trivial⟩, hs⟩
         ·
          obtain ⟨hf, hs⟩ := hJ
          replace H := HO46
          clear HO46
          refine itt H (fun hc50 H => ?_) (fun hc50 H => ?_)
          ·
           replace hf := hf.castB (t := 84) Z hc50
           refine cond_T hf Z ?_
           refine bnd H (fun s51 hs51 H => ?_)
           refine region_k (fun K52 hK52 => ?_)
           refine stq hf Z Z Z (ex_move hf Z) fun a hf => stq hf Z Z Z (ex_fieldAddrB fa_37_1 Z hf Z) fun a hf => stq hf Z Z Z (ex_load sc_22 hf Z (bx_cell (hs.get (i := 10) Z) _ Z)) fun a hf => stq hf Z Z Z (ex_fieldAddrB fa_37_2 Z hf Z) fun a hf => stq hf Z Z Z (ex_load sc_3 hf Z (bx_cell (hs.get (i := 10) Z) _ Z)) fun a hf => ?_
           refine stepF hf Z Z Z (ex_call cf_35 hf Z) (iospace_mapping_load.calls k ((gd mapping.zero Aa s15.2).r.Base) ((gd mapping.zero Aa s15.2).r.Len) ((gd mapping.zero Aa s15.2).owner) ((gd mapping.zero Aa s15.2).data) a1.Addr a1.Width (Fm.blk (gd ((0, 0) : Nat × Nat) Ga s15.2)) ((gd ((0, 0) : Nat × Nat) Ga s15.2).2) (hs.enter sN) (Sr.own hs sN (i := 2) Z (fun _ h => nd_bx_ok (F := Fm) h ((0, 0) : Nat × Nat) mapping.zero hb17.1 hb17.2) (nd_bx_fs (F := Fm) (nds_len (hs.get (i := 2) Z)) ((0, 0) : Nat × Nat) mapping.zero hb17.1 hb17.2) (Sr.own hs sN (i := 2) Z (fun _ h => nd_mo_ok (F := Fm) h ((0, 0) : Nat × Nat) mapping.zero hb17.1 hb17.2 0 Z) (nd_mo_fs (F := Fm) (nds_len (hs.get (i := 2) Z)) ((0, 0) : Nat × Nat) mapping.zero hb17.1 hb17.2 0 Z) (Sr.nil _ _))) hs51) (fun v w hR a hf => ?_)
           obtain ⟨rfl, hs'⟩ := hR
           replace hs := hs.step sN hs'
           clear hs'
           refine stq hf Z Z Z (ex_fieldAddrB fa_63_0 Z hf Z) fun a hf => stq hf Z Z Z (ex_fieldAddrB fa_37_4 Z hf Z) fun a hf => ?_
           refine stepS hf Z Z (er_storeB hs (.k (.k (.k (.k (.k (.k (.k (.k (.k (.k (.k (.c .nil)))))))))))) hf Z Z Z sz_22 Z) (fun w hs => ?_)
           refine hK52 _ _ ?_
           refine hN39 _ _ ?_
           replace hs := hs.p11.p11.p11.p11.p11.p11.p11.p11.p11.p11.p11
           have e38 := some_eq H; subst e38
           exact hJ38 _ _ ⟨hf.sub ⟨Z, Z, Z, trivial⟩, hs⟩
          ·
           replace hf := hf.castB (t := 84) Z (bool_f hc50)
           refine cond_F hf Z ?_
           refine seq_reg (fun K53 hK53 => ?_)
           refine stq hf Z Z Z (ex_fieldAddrB fa_37_3 Z hf Z) fun a hf => stq hf Z Z Z (ex_load sc_4 hf Z (bx_cell (hs.get (i := 10) Z) _ Z)) fun a hf => stq hf Z Z Z (ex_not hf Z) fun a hf => stq hf Z Z Z (ex_assign hf Z) fun a hf => ?_
           refine hK53 _ _ ?_
           refine itt H (fun hc54 H => ?_) (fun hc54 H => ?_)
           ·
            replace hf := hf.castB (t := 100) Z (nbool_f hc54)
            refine cond_F hf Z ?_
            refine bnd H (fun x55 H55 HO55 => ?_)
            clear H
            refine seq_cut (fun a w => Fr a 144 [(0, .pointer (some ⟨b0, 0, none⟩)), (3, .pointer (some ⟨b1, 0, none⟩)), (6, .pointer (some ⟨Fm.blk (gd ((0, 0) : Nat × Nat) Ga s15.2), 0, none⟩)), (7, .pointer (some ⟨b19, 0, none⟩)), (109, .bool x55)] ∧ St M w0 w [bxs b0 71 [([Va], 1), ([Vb], 1), ([Vc], 1), (List.map Value.bool Ae, 256), ([v30], 1), ([Vt], 1)], osl Km Va (ids Fm Ga), nds Fm Ga Aa, osl Km Vb (ids Fm Gb), nds Fm Gb Ab, osl Km Vc (ids Fm Gc), nds Fm Gc Ac, osl Kf v30 (ids Ff G31), nds Ff G31 x29.1, osl Kt Vt At, bx b1 37 [.int .i64 a1.Space, .int .u64 a1.Addr, .int .i64 a1.Width, .bool a1.Write, .int .u64 (bitw .and .u64 a1.Value s12)], bx b19 63 [.int .i64 a1.Space, .int .u64 a1.Addr, .int .i64 a1.Width, .bool a1.Write, .int .u64 (bitw .and .u64 a1.Value s12), .int .i64 ((gd mapping.zero Aa s15.2).owner), .bool x21, .bool x29.2]]) (fun Q55 hJ55 hR55 hX55 => ?_) (fun a w hJ => ?_)
            ·
             replace H := H55
             refine itt H (fun hc56 H => ?_) (fun hc56 H => ?_)
             ·
              refine region_k (fun K57 hK57 => ?_)
              refine stq hf Z Z Z (ex_fieldAddrB fa_63_2 Z hf Z) fun a hf => stq hf Z Z Z (ex_load sc_4 hf Z (bx_cell (hs.get (i := 11) Z) _ Z)) fun a hf => stq hf Z Z Z (ex_move hf Z) fun a hf => ?_
              replace hf := hf.castB (t := 102) Z hc54
              replace hf := hf.castB (t := 103) Z (nbool_f hc54)
              replace hf := hf.castB (t := 111) Z hc56
              replace hf := hf.castB (t := 112) Z hc56
              refine stq hf Z Z Z (ex_fieldAddrB fa_63_3 Z hf Z) fun a hf => stq hf Z Z Z (ex_load sc_4 hf Z (bx_cell (hs.get (i := 11) Z) _ Z)) fun a hf => stq hf Z Z Z (ex_not hf Z) fun a hf => stq hf Z Z Z (ex_pickT hf Z Z) fun a hf => stq hf Z Z Z (ex_assign hf Z) fun a hf => ?_
              refine hK57 _ _ ?_
              have e55 := some_eq H; subst e55
              exact hJ55 _ _ ⟨hf.sub ⟨Z, Z, Z, Z, Z, trivial⟩, hs⟩
             ·
              refine region_k (fun K58 hK58 => ?_)
              refine stq hf Z Z Z (ex_fieldAddrB fa_63_2 Z hf Z) fun a hf => stq hf Z Z Z (ex_load sc_4 hf Z (bx_cell (hs.get (i := 11) Z) _ Z)) fun a hf => stq hf Z Z Z (ex_move hf Z) fun a hf => ?_
              replace hf := hf.castB (t := 102) Z hc54
              replace hf := hf.castB (t := 103) Z (nbool_f hc54)
              replace hf := hf.castB (t := 111) Z (bool_f hc56)
              replace hf := hf.castB (t := 112) Z (bool_f hc56)
              refine stepN hf Z Z Z fun a hf => stepN hf Z Z Z fun a hf => stepN hf Z Z Z fun a hf => stq hf Z Z Z (ex_pickF hf Z Z) fun a hf => stq hf Z Z Z (ex_assign hf Z) fun a hf => ?_
              refine hK58 _ _ ?_
              have e55 := some_eq H; subst e55
              exact hJ55 _ _ ⟨hf.sub ⟨Z, Z, Z, Z, Z, trivial⟩, hs⟩
            ·
             obtain ⟨hf, hs⟩ := hJ
             replace H := HO55
             clear HO55
             refine itt H (fun hc59 H => ?_) (fun hc59 H => ?_)
             ·
              replace hf := hf.castB (t := 109) Z hc59
              refine cond_T hf Z ?_
              refine bnd H (fun s61 hs61 H => ?_)
              refine region_k (fun K62 hK62 => ?_)
              refine stq hf Z Z Z (ex_move hf Z) fun a hf => stq hf Z Z Z (ex_fieldAddrB fa_37_1 Z hf Z) fun a hf => stq hf Z Z Z (ex_load sc_22 hf Z (bx_cell (hs.get (i := 10) Z) _ Z)) fun a hf => stq hf Z Z Z (ex_fieldAddrB fa_37_2 Z hf Z) fun a hf => stq hf Z Z Z (ex_load sc_3 hf Z (bx_cell (hs.get (i := 10) Z) _ Z)) fun a hf => stq hf Z Z Z (ex_fieldAddrB fa_37_4 Z hf Z) fun a hf => stq hf Z Z Z (ex_load sc_22 hf Z (bx_cell (hs.get (i := 10) Z) _ Z)) fun a hf => ?_
              replace hs := hs.p2
              have hl60 := nds_len (hs.get (i := 0) Z)
              replace hs := hs.focus (F := Fm) ((0, 0) : Nat × Nat) mapping.zero hb17.1 hb17.2
              replace hs : St M w0 _ [bx (Fm.blk (gd ((0, 0) : Nat × Nat) Ga s15.2)) 80 [.int .u64 ((gd mapping.zero Aa s15.2).r.Base), .int .u64 ((gd mapping.zero Aa s15.2).r.Len), .int .i64 ((gd mapping.zero Aa s15.2).owner), .map (some (gd ((0, 0) : Nat × Nat) Ga s15.2).2)], mp (gd ((0, 0) : Nat × Nat) Ga s15.2).2 .u64 .u8 ((gd mapping.zero Aa s15.2).data), nds Fm (Ga.eraseIdx s15.2.toNat) (Aa.eraseIdx s15.2.toNat), bxs b0 71 [([Va], 1), ([Vb], 1), ([Vc], 1), (List.map Value.bool Ae, 256), ([v30], 1), ([Vt], 1)], osl Km Va (ids Fm Ga), osl Km Vb (ids Fm Gb), nds Fm Gb Ab, osl Km Vc (ids Fm Gc), nds Fm Gc Ac, osl Kf v30 (ids Ff G31), nds Ff G31 x29.1, osl Kt Vt At, bx b1 37 [.int .i64 a1.Space, .int .u64 a1.Addr, .int .i64 a1.Width, .bool a1.Write, .int .u64 (bitw .and .u64 a1.Value s12)], bx b19 63 [.int .i64 a1.Space, .int .u64 a1.Addr, .int .i64 a1.Width, .bool a1.Write, .int .u64 (bitw .and .u64 a1.Value s12), .int .i64 ((gd mapping.zero Aa s15.2).owner), .bool x21, .bool x29.2]] := hs
              refine stepF hf Z Z Z (ex_call cf_36 hf Z) (iospace_mapping_store.calls k ((gd mapping.zero Aa s15.2).r.Base) ((gd mapping.zero Aa s15.2).r.Len) ((gd mapping.zero Aa s15.2).owner) ((gd mapping.zero Aa s15.2).data) a1.Addr a1.Width (bitw .and .u64 a1.Value s12) (Fm.blk (gd ((0, 0) : Nat × Nat) Ga s15.2)) ((gd ((0, 0) : Nat × Nat) Ga s15.2).2) (hs.enter (.c (.c sN))) (Sr.nil _ _) hs61) (fun v w hR a hf => ?_)
              obtain ⟨rfl, hs'⟩ := hR
              replace hs := hs.step (.c (.c sN)) hs'
              clear hs'
              replace hs := hs.p2.p2.p2
              replace hs := St.unfocus (F := Fm) (G := Ga) (L := Aa) (i := s15.2) (g := (gd ((0, 0) : Nat × Nat) Ga s15.2)) (u := (⟨(⟨((gd mapping.zero Aa s15.2).r.Base), ((gd mapping.zero Aa s15.2).r.Len)⟩ : Range), ((gd mapping.zero Aa s15.2).owner), s61⟩ : mapping)) hb17.1 hb17.2 hl60 ((0, 0) : Nat × Nat) Z hs
              refine hK62 _ _ ?_
              refine hN39 _ _ ?_
              replace hs := hs.p11.p11.p11.p11.p11.p11.p11.p11.p11.p9.p11.p11
              have e38 := some_eq H; subst e38
              exact hJ38 _ _ ⟨hf.sub ⟨Z, Z, Z, trivial⟩, hs⟩
             ·
              replace hf := hf.castB (t := 109) Z (bool_f hc59)
              refine cond_F hf Z ?_
              refine wp_skip ?_
              refine hN39 _ _ ?_
              have e38 := some_eq H; subst e38
              exact hJ38 _ _ ⟨hf.sub ⟨Z, Z, Z, trivial⟩, hs⟩
           ·
            replace hf := hf.castB (t := 100) Z (nbool_t hc54)
            refine cond_T hf Z ?_
            refine bnd H (fun s63 hs63 H => ?_)
            refine region_k (fun K64 hK64 => ?_)
            refine stq hf Z Z Z (ex_fieldAddrB fa_37_2 Z hf Z) fun a hf => stq hf Z Z Z (ex_load sc_3 hf Z (bx_cell (hs.get (i := 10) Z) _ Z)) fun a hf => ?_
            refine stepF hf Z Z Z (ex_call cf_31 hf Z) (iospace_mask.calls k a1.Width (hs.enter sN) (Sr.nil _ _) hs63) (fun v w hR a hf => ?_)
            obtain ⟨rfl, hs'⟩ := hR
            replace hs := hs.step sN hs'
            clear hs'
            refine stq hf Z Z Z (ex_fieldAddrB fa_63_0 Z hf Z) fun a hf => stq hf Z Z Z (ex_fieldAddrB fa_37_4 Z hf Z) fun a hf => ?_
            refine stepS hf Z Z (er_storeB hs (.k (.k (.k (.k (.k (.k (.k (.k (.k (.k (.k (.c .nil)))))))))))) hf Z Z Z sz_22 Z) (fun w hs => ?_)
            refine hK64 _ _ ?_
            refine hN39 _ _ ?_
            replace hs := hs.p11.p11.p11.p11.p11.p11.p11.p11.p11.p11.p11
            have e38 := some_eq H; subst e38
            exact hJ38 _ _ ⟨hf.sub ⟨Z, Z, Z, trivial⟩, hs⟩
      ·
       obtain ⟨hf, hs⟩ := hJ
       replace H := HO38
       clear HO38
       refine seq_n (fun Q65 hN65 hR65 hX65 => ?_)
       refine ck_some H (fun hc67 H => ?_)
       refine region_dS fol 8 [(0, .pointer (some ⟨b0, 0, none⟩)), (3, .pointer (some ⟨b1, 0, none⟩)), (7, .pointer (some ⟨b19, 0, none⟩))] [(0, .pointer (some ⟨b0, 0, none⟩)), (1, .pointer (some ⟨b0, 0, none⟩)), (2, .pointer (some ⟨b0, 0, none⟩)), (3, .pointer (some ⟨b0, 260, none⟩)), (4, Vt), (5, .agg #[.int .i64 a1.Space, .int .u64 a1.Addr, .int .i64 a1.Width, .bool a1.Write, .int .u64 x38.2, .int .i64 ((gd mapping.zero Aa s15.2).owner), .bool x21, .bool x29.2])] [6, 7] (fun w => (bxs b0 71 [([Va], 1), ([Vb], 1), ([Vc], 1), (List.map Value.bool Ae, 256), ([v30], 1), ([Vt], 1)]).ok w ∧ (bx b19 63 [.int .i64 a1.Space, .int .u64 a1.Addr, .int .i64 a1.Width, .bool a1.Write, .int .u64 x38.2, .int .i64 ((gd mapping.zero Aa s15.2).owner), .bool x21, .bool x29.2]).ok w ∧ True) hf ⟨Z, Z, Z, trivial⟩ (by kernel_rfl) (by kernel_rfl) Z (by decide) ⟨hs.drew.get (i := 0) Z, hs.drew.get (i := 11) Z, trivial⟩ hs ((.cons (qy Z Z Z Z Z fun hR hf => ex_move hf Z) (.cons (qy Z Z Z Z Z fun hR hf => ex_move hf Z) (.cons (qy Z Z Z Z Z fun hR hf => ex_nilCheck hf Z) (.cons (qy Z Z Z Z Z fun hR hf => ex_fieldAddrB fa_71_3 Z hf Z) (.cons (qy Z Z Z Z Z fun hR hf => ex_load sc_54 hf Z (sb_cell1 (i := 5) (hR.1) Z Z)) (.cons (qy Z Z Z Z Z fun hR hf => ex_loadA (cs := [.int .i64 a1.Space, .int .u64 a1.Addr, .int .i64 a1.Width, .bool a1.Write, .int .u64 x38.2, .int .i64 ((gd mapping.zero Aa s15.2).owner), .bool x21, .bool x29.2]) ag_63 hf Z (bx_cells (hR.2.1) Z)) .nil))))))) (fun K69 hK69 => ?_)
       refine RW.one 6 (by kernel_rfl) (by kernel_rfl) rfl (fun d hd => by cases hd; rfl) [(130, .agg #[.int .i64 a1.Space, .int .u64 a1.Addr, .int .i64 a1.Width, .bool a1.Write, .int .u64 x38.2, .int .i64 ((gd mapping.zero Aa s15.2).owner), .bool x21, .bool x29.2])] ⟨rfl, trivial⟩ (fun a w hR hs hf => ⟨wanted_yes hf rfl, ?_⟩)
       refine estep_v (er_buildSlice (K := Kt) (xs := [(⟨(⟨a1.Space, a1.Addr, a1.Width, a1.Write, x38.2⟩ : Access), ((gd mapping.zero Aa s15.2).owner), x21, x29.2⟩ : Traced)]) hs Try.underlying54 ep_63 Z Z hf Z (.cons Z .nil) Z Z) (fun v66 w hs => ?_)
       refine ⟨[], _, [7], (fun _ => True), hs.fn, Z, Z, ⟨hs.get (i := 1) Z, hs.get (i := 12) Z, trivial⟩, trivial, hs, (by kernel_rfl), .nil, ?_⟩
       refine RW.one 7 (by kernel_rfl) (by kernel_rfl) rfl (fun d hd => by cases hd; rfl) [(129, Vt), (131, v66)] ⟨rfl, rfl, trivial⟩ (fun a w hR hs hf => ⟨wanted_yes hf rfl, ?_⟩)
       refine estep_v (er_append (K := Kt) hs (.k (.k (.k (.k (.k (.k (.k (.k (.k (.k (.c sN))))))))))) (osl_rsl _ (hs.get (i := 0) Z)) Z Try.underlying54 ep_63 hc67 Z hf Z Z) (fun v68 w hs => ?_)
       refine ⟨[], _, [], (fun _ => True), hs.fn, Z, Z, ⟨⟨hs.get (i := 2) Z, hs.get (i := 12) Z, trivial⟩, trivial⟩, trivial, hs, (by kernel_rfl), .nil, ?_⟩
       refine RW.zero (by kernel_rfl) (by kernel_rfl) [(3, .pointer (some ⟨b1, 0, none⟩)), (7, .pointer (some ⟨b19, 0, none⟩)), (125, .pointer (some ⟨b0, 0, none⟩)), (132, v68)] ⟨Z, Z, Z, Z, trivial⟩ (fun a w hR hs hf => ?_)
       refine stq hf Z Z Z (ex_nilCheck hf Z) fun a hf => stq hf Z Z Z (ex_fieldAddrB fa_71_3 Z hf Z) fun a hf => ?_
       refine stepS hf Z Z (er_storeS1 (i := 5) hs (.k (.k (.c sN))) hf Z Z (IsSl.one (rsl_isSl (osl_rsl _ (hs.get (i := 0) Z)))) sz_54 Z Z) (fun w hs => ?_)
       refine hK69 _ _ ?_
       refine hN65 _ _ ?_
       refine seq_n (fun Q70 hN70 hR70 hX70 => ?_)
       refine block_k (fun Q71 hN71 hR71 hX71 hY71 => ?_)
       refine seq_reg (fun K72 hK72 => ?_)
       refine stq hf Z Z Z (ex_fieldAddrB fa_63_3 Z hf Z) fun a hf => stq hf Z Z Z (ex_load sc_4 hf Z (bx_cell (hs.get (i := 12) Z) _ Z)) fun a hf => stq hf Z Z Z (ex_assign hf Z) fun a hf => ?_
       refine hK72 _ _ ?_
       refine itt H (fun hc73 H => ?_) (fun hc73 H => ?_)
       ·
        replace hf := hf.castB (t := 135) Z hc73
        refine cond_T hf Z ?_
        refine seq_reg (fun K74 hK74 => ?_)
        refine stq hf Z Z Z (ex_assign hf Z) fun a hf => stq hf Z Z Z (ex_assign hf Z) fun a hf => ?_
        refine hK74 _ _ ?_
        refine wp_ret ?_
        refine hR71 _ _ ?_
        refine hR70 _ _ ?_
        have eR := some_eq H; subst eR
        replace hs := hs.keep (.k (.k (.d (.k (.k (.k (.k (.k (.k (.k (.k (.d (.d .nil)))))))))))))
        replace hs := hs.p7.p7.p7.p7.p7.p7.p7.p9.p9.p9
        exact ret2 Try.results13 hf Z Z ⟨_, Z, ⟨v30, G31, v68, Z, hs⟩⟩
       ·
        replace hf := hf.castB (t := 135) Z (bool_f hc73)
        refine cond_F hf Z ?_
        refine seq_reg (fun K75 hK75 => ?_)
        refine stq hf Z Z Z (ex_fieldAddrB fa_37_3 Z hf Z) fun a hf => stq hf Z Z Z (ex_load sc_4 hf Z (bx_cell (hs.get (i := 11) Z) _ Z)) fun a hf => stq hf Z Z Z (ex_assign hf Z) fun a hf => ?_
        refine hK75 _ _ ?_
        refine itt H (fun hc76 H => ?_) (fun hc76 H => ?_)
        ·
         replace hf := hf.castB (t := 138) Z hc76
         refine cond_T hf Z ?_
         refine seq_reg (fun K77 hK77 => ?_)
         refine stq hf Z Z Z (ex_assign hf Z) fun a hf => stq hf Z Z Z (ex_assign hf Z) fun a hf => ?_
         refine hK77 _ _ ?_
         refine wp_ret ?_
         refine hR71 _ _ ?_
         refine hR70 _ _ ?_
         have eR := some_eq H; subst eR
         replace hs := hs.keep (.k (.k (.d (.k (.k (.k (.k (.k (.k (.k (.k (.d (.d .nil)))))))))))))
         replace hs := hs.p7.p7.p7.p7.p7.p7.p7.p9.p9.p9
         exact ret2 Try.results13 hf Z Z ⟨_, Z, ⟨v30, G31, v68, Z, hs⟩⟩
        ·
         replace hf := hf.castB (t := 138) Z (bool_f hc76)
         refine cond_F hf Z ?_
         refine wp_skip ?_
         refine hN71 _ _ ?_
         refine hN70 _ _ ?_
         refine seq_reg (fun K78 hK78 => ?_)
         refine stq hf Z Z Z (ex_fieldAddrB fa_63_0 Z hf Z) fun a hf => stq hf Z Z Z (ex_fieldAddrB fa_37_4 Z hf Z) fun a hf => stq hf Z Z Z (ex_load sc_22 hf Z (bx_cell (hs.get (i := 12) Z) _ Z)) fun a hf => stq hf Z Z Z (ex_assign hf Z) fun a hf => stq hf Z Z Z (ex_assign hf Z) fun a hf => ?_
         refine hK78 _ _ ?_
         refine wp_ret ?_
         have eR := some_eq H; subst eR
         replace hs := hs.keep (.k (.k (.d (.k (.k (.k (.k (.k (.k (.k (.k (.d (.d .nil)))))))))))))
         replace hs := hs.p7.p7.p7.p7.p7.p7.p7.p9.p9.p9
         exact ret2 Try.results13 hf Z Z ⟨_, Z, ⟨v30, G31, v68, Z, hs⟩⟩
   ·
    refine itt H (fun hq79 H => ?_) (fun hq79 H => ?_)
    ·
     refine region_k (fun K81 hK81 => ?_)
     refine stq hf Z Z Z (ex_move hf Z) fun a hf => stq hf Z Z Z (ex_fieldAddrB fa_37_0 Z hf Z) fun a hf => stq hf Z Z Z (ex_load sc_3 hf Z (bx_cell (hs.get (i := 0) Z) _ Z)) fun a hf => stq hf Z Z Z (ex_fieldAddrB fa_37_1 Z hf Z) fun a hf => stq hf Z Z Z (ex_load sc_22 hf Z (bx_cell (hs.get (i := 0) Z) _ Z)) fun a hf => ?_
     refine stepF hf Z Z Z (ex_call cf_32 hf Z) (iospace_Bus_find.calls k Aa Ab Ac Ae Af At a1.Space a1.Addr b0 Va Ga Vb Gb Vc Gc Vf Gf Vt (hs.enter sN) (Sr.own hs sN (i := 1) Z (fun _ h => h) (fun _ h => h) (Sr.own hs sN (i := 2) Z osl_rsl (fun _ h => h.1) (Sr.own hs sN (i := 3) Z (fun _ h => h) (fun _ h => h) (Sr.own hs sN (i := 4) Z osl_rsl (fun _ h => h.1) (Sr.own hs sN (i := 5) Z (fun _ h => h) (fun _ h => h) (Sr.own hs sN (i := 6) Z osl_rsl (fun _ h => h.1) (Sr.own hs sN (i := 7) Z (fun _ h => h) (fun _ h => h) (Sr.own hs sN (i := 8) Z osl_rsl (fun _ h => h.1) (Sr.own hs sN (i := 9) Z (fun _ h => h) (fun _ h => h) (Sr.own hs sN (i := 10) Z osl_rsl (fun _ h => h.1) (Sr.nil _ _))))))))))) hs15) (fun v w hR a hf => ?_)
     replace hR := Or.resolve_left hR (fun q => by have := q.1; omega)
     replace hR := Or.resolve_right hR (fun q => by rcases q with q | q <;> (have := q.1; omega))
     obtain ⟨_, hb80, rfl, hs'⟩ := hR
     replace hs := hs.step sN hs'
     clear hs'
     refine stq hf Z Z Z (ex_assign hf Z) fun a hf => ?_
     refine hK81 _ _ ?_
     refine hN14 _ _ ?_
     refine seq_reg (fun K83 hK83 => ?_)
     refine stq hf Z Z Z (ex_loadA (cs := [.int .i64 a1.Space, .int .u64 a1.Addr, .int .i64 a1.Width, .bool a1.Write, .int .u64 (bitw .and .u64 a1.Value s12)]) ag_37 hf Z (bx_cells (hs.get (i := 0) Z) Z)) fun a hf => stq hf Z Z Z (ex_build (cs := [.int .i64 a1.Space, .int .u64 a1.Addr, .int .i64 a1.Width, .bool a1.Write, .int .u64 (bitw .and .u64 a1.Value s12), .int .i64 (-1), .bool false, .bool false]) bt_63 hf Z (.cons Z (.cons Z .nil)) Z) fun a hf => ?_
     refine stepV hf Z Z Z (er_alloc hs ti_63 (cs := [.int .i64 0, .int .u64 0, .int .i64 0, .bool false, .int .u64 0, .int .i64 0, .bool false, .bool false]) Z) (fun v w hR a hf => ?_)
     obtain ⟨b82, rfl, hs⟩ := hR
     refine stepS hf Z Z (er_storeAB (vs := [.int .i64 a1.Space, .int .u64 a1.Addr, .int .i64 a1.Width, .bool a1.Write, .int .u64 (bitw .and .u64 a1.Value s12), .int .i64 (-1), .bool false, .bool false]) (cs' := [.int .i64 a1.Space, .int .u64 a1.Addr, .int .i64 a1.Width, .bool a1.Write, .int .u64 (bitw .and .u64 a1.Value s12), .int .i64 (-1), .bool false, .bool false]) hs (.c sN) sz_63 hf Z Z (all1 Z (all1 Z (all1 Z (all1 Z (all1 Z (all1 Z (all1 Z (all1 Z (all1_nil))))))))) Z Z) (fun w hs => ?_)
     refine hK83 _ _ ?_
     refine bnd H (fun x84 H84 HO84 => ?_)
     clear H
     refine seq_cut (fun a w => Fr a 144 [(0, .pointer (some ⟨b0, 0, none⟩)), (3, .pointer (some ⟨b1, 0, none⟩)), (6, .pointer (some ⟨Fm.blk (gd ((0, 0) : Nat × Nat) Gb s15.2), 0, none⟩)), (7, .pointer (some ⟨b82, 0, none⟩))] ∧ St M w0 w [bxs b0 71 [([Va], 1), ([Vb], 1), ([Vc], 1), (List.map Value.bool Ae, 256), ([Vf], 1), ([Vt], 1)], osl Km Va (ids Fm Ga), nds Fm Ga Aa, osl Km Vb (ids Fm Gb), nds Fm Gb Ab, osl Km Vc (ids Fm Gc), nds Fm Gc Ac, osl Kf Vf (ids Ff Gf), nds Ff Gf Af, osl Kt Vt At, bx b1 37 [.int .i64 a1.Space, .int .u64 a1.Addr, .int .i64 a1.Width, .bool a1.Write, .int .u64 (bitw .and .u64 a1.Value s12)], bx b82 63 [.int .i64 a1.Space, .int .u64 a1.Addr, .int .i64 a1.Width, .bool a1.Write, .int .u64 (bitw .and .u64 a1.Value s12), .int .i64 ((gd mapping.zero Ab s15.2).owner), .bool x84, .bool false]]) (fun Q84 hJ84 hR84 hX84 => ?_) (fun a w hJ => ?_)
     ·
      replace H := H84
      refine seq_reg (fun K85 hK85 => ?_)
      refine stq hf Z Z Z (ex_move hf Z) fun a hf => stq hf Z Z Z (ex_nep Try.underlying76 hf Z Z) fun a hf => ?_
      refine hK85 _ _ ?_
      refine cond_T hf Z ?_
      refine seq_reg (fun K86 hK86 => ?_)
      refine stq hf Z Z Z (ex_move hf Z) fun a hf => stq hf Z Z Z (ex_nilCheck hf Z) fun a hf => stq hf Z Z Z (ex_fieldAddrB fa_80_1 Z hf Z) fun a hf => stq hf Z Z Z (ex_load sc_3 hf Z (nd_cell (F := Fm) (hs.get (i := 6) Z) ((0, 0) : Nat × Nat) mapping.zero hb80.1 hb80.2 2 Z)) fun a hf => stq hf Z Z Z (ex_fieldAddrB fa_63_1 Z hf Z) fun a hf => ?_
      refine stepS hf Z Z (er_storeB hs (.c sN) hf Z Z Z sz_3 Z) (fun w hs => ?_)
      refine hK86 _ _ ?_
      refine bnd H (fun s87 hs87 H => ?_)
      refine itt H (fun hc88 H => ?_) (fun hc88 H => ?_)
      ·
       refine ck_some H (fun hc89 H => ?_)
       refine region_dS fol 24 [(0, .pointer (some ⟨b0, 0, none⟩)), (3, .pointer (some ⟨b1, 0, none⟩)), (6, .pointer (some ⟨Fm.blk (gd ((0, 0) : Nat × Nat) Gb s15.2), 0, none⟩)), (7, .pointer (some ⟨b82, 0, none⟩))] [(0, .pointer (some ⟨b1, 1, none⟩)), (1, .int .u64 a1.Addr), (2, .pointer (some ⟨b1, 2, none⟩)), (3, .int .i64 a1.Width), (4, .int .i64 (IntKind.i64.wrap (a1.Width - 1))), (5, .int .u64 (IntKind.u64.wrap (IntKind.i64.wrap (a1.Width - 1)))), (6, .int .u64 (IntKind.u64.wrap (a1.Addr + (IntKind.u64.wrap (IntKind.i64.wrap (a1.Width - 1)))))), (7, .pointer (some ⟨Fm.blk (gd ((0, 0) : Nat × Nat) Gb s15.2), 0, none⟩)), (8, .pointer (some ⟨Fm.blk (gd ((0, 0) : Nat × Nat) Gb s15.2), 0, none⟩)), (9, .pointer (some ⟨Fm.blk (gd ((0, 0) : Nat × Nat) Gb s15.2), 0, none⟩)), (10, .agg #[.int .u64 ((gd mapping.zero Ab s15.2).r.Base), .int .u64 ((gd mapping.zero Ab s15.2).r.Len)])] [11] (fun w => (bx b1 37 [.int .i64 a1.Space, .int .u64 a1.Addr, .int .i64 a1.Width, .bool a1.Write, .int .u64 (bitw .and .u64 a1.Value s12)]).ok w ∧ (nds Fm Gb Ab).ok w ∧ (bxs b0 71 [([Va], 1), ([Vb], 1), ([Vc], 1), (List.map Value.bool Ae, 256), ([Vf], 1), ([Vt], 1)]).ok w ∧ True) hf ⟨Z, Z, Z, Z, trivial⟩ (by kernel_rfl) (by kernel_rfl) Z (by decide) ⟨hs.drew.get (i := 1) Z, hs.drew.get (i := 6) Z, hs.drew.get (i := 2) Z, trivial⟩ hs ((.cons (qy Z Z Z Z Z fun hR hf => ex_fieldAddrB fa_37_1 Z hf Z) (.cons (qy Z Z Z Z Z fun hR hf => ex_load sc_22 hf Z (bx_cell (hR.1) _ Z)) (.cons (qy Z Z Z Z Z fun hR hf => ex_fieldAddrB fa_37_2 Z hf Z) (.cons (qy Z Z Z Z Z fun hR hf => ex_load sc_3 hf Z (bx_cell (hR.1) _ Z)) (.cons (qy Z Z Z Z Z fun hR hf => ex_sub hf Z Z) (.cons (qy Z Z Z Z Z fun hR hf => ex_conv Try.underlying3 Try.underlying22 hf Z) (.cons (qy Z Z Z Z Z fun hR hf => ex_add hf Z Z) (.cons (qy Z Z Z Z Z fun hR hf => ex_move hf Z) (.cons (qy Z Z Z Z Z fun hR hf => ex_nilCheck hf Z) (.cons (qy Z Z Z Z Z fun hR hf => ex_fieldAddrB fa_80_0 Z hf Z) (.cons (qy Z Z Z Z Z fun hR hf => ex_loadA (cs := [.int .u64 ((gd mapping.zero Ab s15.2).r.Base), .int .u64 ((gd mapping.zero Ab s15.2).r.Len)]) ag_32 hf Z (bx_cells (nd_node (F := Fm) hR.2.1 ((0, 0) : Nat × Nat) mapping.zero hb80.1 hb80.2 _ List.mem_cons_self) Z)) .nil)))))))))))) (fun K90 hK90 => ?_)
       refine RW.one 11 (by kernel_rfl) (by kernel_rfl) rfl (fun d hd => by cases hd; rfl) [(51, .agg #[.int .u64 ((gd mapping.zero Ab s15.2).r.Base), .int .u64 ((gd mapping.zero Ab s15.2).r.Len)])] ⟨rfl, trivial⟩ (fun a w hR hs hf => ⟨wanted_yes hf rfl, ?_⟩)
       refine estep_f (ex_call cf_33 hf Z) (iospace_last.calls k (⟨((gd mapping.zero Ab s15.2).r.Base), ((gd mapping.zero Ab s15.2).r.Len)⟩ : Range) (hs.enter sN) (Sr.nil _ _) hs87) (fun v w hR => ?_)
       obtain ⟨rfl, hs'⟩ := hR
       replace hs := hs.step sN hs'
       clear hs'
       refine ⟨[(12, .bool true), (13, .bool true), (14, .pointer (some ⟨b0, 0, none⟩)), (15, .pointer (some ⟨Fm.blk (gd ((0, 0) : Nat × Nat) Gb s15.2), 0, none⟩)), (16, .pointer (some ⟨Fm.blk (gd ((0, 0) : Nat × Nat) Gb s15.2), 0, none⟩)), (17, .pointer (some ⟨Fm.blk (gd ((0, 0) : Nat × Nat) Gb s15.2), 2, none⟩)), (18, .int .i64 ((gd mapping.zero Ab s15.2).owner)), (19, .pointer (some ⟨b0, 0, none⟩)), (20, .pointer (some ⟨b0, 3, none⟩)), (21, .pointer (some ⟨b0, 3 + ((gd mapping.zero Ab s15.2).owner).toNat, none⟩)), (22, .bool (gd false Ae ((gd mapping.zero Ab s15.2).owner))), (23, .bool (gd false Ae ((gd mapping.zero Ab s15.2).owner)))], _, [], (fun _ => True), hs.fn, Z, Z, ⟨hs.get (i := 1) Z, hs.get (i := 6) Z, hs.get (i := 2) Z, trivial⟩, trivial, hs, (by kernel_rfl), (.cons (qy Z Z Z Z Z fun hR hf => ex_castB (ex_leq hf Z Z) (dec_t hc88)) (.cons (qy Z Z Z Z Z fun hR hf => ex_move hf Z) (.cons (qy Z Z Z Z Z fun hR hf => ex_move hf Z) (.cons (qy Z Z Z Z Z fun hR hf => ex_move hf Z) (.cons (qy Z Z Z Z Z fun hR hf => ex_nilCheck hf Z) (.cons (qy Z Z Z Z Z fun hR hf => ex_fieldAddrB fa_80_1 Z hf Z) (.cons (qy Z Z Z Z Z fun hR hf => ex_load sc_3 hf Z (nd_cell (F := Fm) hR.1.2.1 ((0, 0) : Nat × Nat) mapping.zero hb80.1 hb80.2 2 Z)) (.cons (qy Z Z Z Z Z fun hR hf => ex_nilCheck hf Z) (.cons (qy Z Z Z Z Z fun hR hf => ex_fieldAddrB fa_71_1 Z hf Z) (.cons (qy Z Z Z Z Z fun hR hf => ex_indexAddrA ia_52 Z hc89.1 hc89.2 hf Z Z) (.cons (qy Z Z Z Z Z fun hR hf => ex_load sc_4 hf Z (sb_cell (f := Value.bool) (xs := Ae) (i := 3) (z := false) (hR.1.2.2.1) Z Z hc89.1 hc89.2)) (.cons (qy Z Z Z Z Z fun hR hf => ex_pickT hf Z Z) .nil)))))))))))), ?_⟩
       refine RW.zero (by kernel_rfl) (by kernel_rfl) [(0, .pointer (some ⟨b0, 0, none⟩)), (3, .pointer (some ⟨b1, 0, none⟩)), (6, .pointer (some ⟨Fm.blk (gd ((0, 0) : Nat × Nat) Gb s15.2), 0, none⟩)), (7, .pointer (some ⟨b82, 0, none⟩)), (64, .bool (gd false Ae ((gd mapping.zero Ab s15.2).owner)))] ⟨Z, Z, Z, Z, Z, trivial⟩ (fun a w hR hs hf => ?_)
       refine stq hf Z Z Z (ex_fieldAddrB fa_63_2 Z hf Z) fun a hf => ?_
       refine stepS hf Z Z (er_storeB hs (.c sN) hf Z Z Z sz_4 Z) (fun w hs => ?_)
       refine hK90 _ _ ?_
       replace hs := hs.p1.p11.p11.p11.p11.p11.p11.p11.p11.p11.p11
       have e84 := some_eq H; subst e84
       exact hJ84 _ _ ⟨hf.sub ⟨Z, Z, Z, Z, trivial⟩, hs⟩
      ·
       refine region_dS fol 24 [(0, .pointer (some ⟨b0, 0, none⟩)), (3, .pointer (some ⟨b1, 0, none⟩)), (6, .pointer (some ⟨Fm.blk (gd ((0, 0) : Nat × Nat) Gb s15.2), 0, none⟩)), (7, .pointer (some ⟨b82, 0, none⟩))] [(0, .pointer (some ⟨b1, 1, none⟩)), (1, .int .u64 a1.Addr), (2, .pointer (some ⟨b1, 2, none⟩)), (3, .int .i64 a1.Width), (4, .int .i64 (IntKind.i64.wrap (a1.Width - 1))), (5, .int .u64 (IntKind.u64.wrap (IntKind.i64.wrap (a1.Width - 1)))), (6, .int .u64 (IntKind.u64.wrap (a1.Addr + (IntKind.u64.wrap (IntKind.i64.wrap (a1.Width - 1)))))), (7, .pointer (some ⟨Fm.blk (gd ((0, 0) : Nat × Nat) Gb s15.2), 0, none⟩)), (8, .pointer (some ⟨Fm.blk (gd ((0, 0) : Nat × Nat) Gb s15.2), 0, none⟩)), (9, .pointer (some ⟨Fm.blk (gd ((0, 0) : Nat × Nat) Gb s15.2), 0, none⟩)), (10, .agg #[.int .u64 ((gd mapping.zero Ab s15.2).r.Base), .int .u64 ((gd mapping.zero Ab s15.2).r.Len)])] [11] (fun w => (bx b1 37 [.int .i64 a1.Space, .int .u64 a1.Addr, .int .i64 a1.Width, .bool a1.Write, .int .u64 (bitw .and .u64 a1.Value s12)]).ok w ∧ (nds Fm Gb Ab).ok w ∧ True) hf ⟨Z, Z, Z, Z, trivial⟩ (by kernel_rfl) (by kernel_rfl) Z (by decide) ⟨hs.drew.get (i := 1) Z, hs.drew.get (i := 6) Z, trivial⟩ hs ((.cons (qy Z Z Z Z Z fun hR hf => ex_fieldAddrB fa_37_1 Z hf Z) (.cons (qy Z Z Z Z Z fun hR hf => ex_load sc_22 hf Z (bx_cell (hR.1) _ Z)) (.cons (qy Z Z Z Z Z fun hR hf => ex_fieldAddrB fa_37_2 Z hf Z) (.cons (qy Z Z Z Z Z fun hR hf => ex_load sc_3 hf Z (bx_cell (hR.1) _ Z)) (.cons (qy Z Z Z Z Z fun hR hf => ex_sub hf Z Z) (.cons (qy Z Z Z Z Z fun hR hf => ex_conv Try.underlying3 Try.underlying22 hf Z) (.cons (qy Z Z Z Z Z fun hR hf => ex_add hf Z Z) (.cons (qy Z Z Z Z Z fun hR hf => ex_move hf Z) (.cons (qy Z Z Z Z Z fun hR hf => ex_nilCheck hf Z) (.cons (qy Z Z Z Z Z fun hR hf => ex_fieldAddrB fa_80_0 Z hf Z) (.cons (qy Z Z Z Z Z fun hR hf => ex_loadA (cs := [.int .u64 ((gd mapping.zero Ab s15.2).r.Base), .int .u64 ((gd mapping.zero Ab s15.2).r.Len)]) ag_32 hf Z (bx_cells (nd_node (F := Fm) hR.2.1 ((0, 0) : Nat × Nat) mapping.zero hb80.1 hb80.2 _ List.mem_cons_self) Z)) .nil)))))))))))) (fun K91 hK91 => ?_)
       refine RW.one 11 (by kernel_rfl) (by kernel_rfl) rfl (fun d hd => by cases hd; rfl) [(51, .agg #[.int .u64 ((gd mapping.zero Ab s15.2).r.Base), .int .u64 ((gd mapping.zero Ab s15.2).r.Len)])] ⟨rfl, trivial⟩ (fun a w hR hs hf => ⟨wanted_yes hf rfl, ?_⟩)
       refine estep_f (ex_call cf_33 hf Z) (iospace_last.calls k (⟨((gd mapping.zero Ab s15.2).r.Base), ((gd mapping.zero Ab s15.2).r.Len)⟩ : Range) (hs.enter sN) (Sr.nil _ _) hs87) (fun v w hR => ?_)
       obtain ⟨rfl, hs'⟩ := hR
       replace hs := hs.step sN hs'
       clear hs'
       refine ⟨[(12, .bool false), (13, .bool false), (14, undef), (15, undef), (16, undef), (17, undef), (18, undef), (19, undef), (20, undef), (21, undef), (22, undef), (23, .bool false)], _, [], (fun _ => True), hs.fn, Z, Z, ⟨hs.get (i := 1) Z, hs.get (i := 6) Z, trivial⟩, trivial, hs, (by kernel_rfl), (.cons (qy Z Z Z Z Z fun hR hf => ex_castB (ex_leq hf Z Z) (dec_f hc88)) (.cons (qy Z Z Z Z Z fun hR hf => ex_move hf Z) (.cons (qn Z Z Z Z Z) (.cons (qn Z Z Z Z Z) (.cons (qn Z Z Z Z Z) (.cons (qn Z Z Z Z Z) (.cons (qn Z Z Z Z Z) (.cons (qn Z Z Z Z Z) (.cons (qn Z Z Z Z Z) (.cons (qn Z Z Z Z Z) (.cons (qn Z Z Z Z Z) (.cons (qy Z Z Z Z Z fun hR hf => ex_pickF hf Z Z) .nil)))))))))))), ?_⟩
       refine RW.zero (by kernel_rfl) (by kernel_rfl) [(0, .pointer (some ⟨b0, 0, none⟩)), (3, .pointer (some ⟨b1, 0, none⟩)), (6, .pointer (some ⟨Fm.blk (gd ((0, 0) : Nat × Nat) Gb s15.2), 0, none⟩)), (7, .pointer (some ⟨b82, 0, none⟩)), (64, .bool false)] ⟨Z, Z, Z, Z, Z, trivial⟩ (fun a w hR hs hf => ?_)
       refine stq hf Z Z Z (ex_fieldAddrB fa_63_2 Z hf Z) fun a hf => ?_
       refine stepS hf Z Z (er_storeB hs (.c sN) hf Z Z Z sz_4 Z) (fun w hs => ?_)
       refine hK91 _ _ ?_
       replace hs := hs.p1.p11.p11.p11.p11.p11.p11.p11.p11.p11.p11
       have e84 := some_eq H; subst e84
       exact hJ84 _ _ ⟨hf.sub ⟨Z, Z, Z, Z, trivial⟩, hs⟩
     ·
      obtain ⟨hf, hs⟩ := hJ
      replace H := HO84
      clear HO84
      refine bnd H (fun x92 H92 HO92 => ?_)
      clear H
      refine seq_cut (fun a w => ∃ (v93 : Value) (G94 : List Nat), Fr a 144 [(0, .pointer (some ⟨b0, 0, none⟩)), (3, .pointer (some ⟨b1, 0, none⟩)), (6, .pointer (some ⟨Fm.blk (gd ((0, 0) : Nat × Nat) Gb s15.2), 0, none⟩)), (7, .pointer (some ⟨b82, 0, none⟩))] ∧ St M w0 w [bxs b0 71 [([Va], 1), ([Vb], 1), ([Vc], 1), (List.map Value.bool Ae, 256), ([v93], 1), ([Vt], 1)], osl Km Va (ids Fm Ga), nds Fm Ga Aa, osl Km Vb (ids Fm Gb), nds Fm Gb Ab, osl Km Vc (ids Fm Gc), nds Fm Gc Ac, osl Kf v93 (ids Ff G94), nds Ff G94 x92.1, osl Kt Vt At, bx b1 37 [.int .i64 a1.Space, .int .u64 a1.Addr, .int .i64 a1.Width, .bool a1.Write, .int .u64 (bitw .and .u64 a1.Value s12)], bx b82 63 [.int .i64 a1.Space, .int .u64 a1.Addr, .int .i64 a1.Width, .bool a1.Write, .int .u64 (bitw .and .u64 a1.Value s12), .int .i64 ((gd mapping.zero Ab s15.2).owner), .bool x84, .bool x92.2]]) (fun Q92 hJ92 hR92 hX92 => ?_) (fun a w hJ => ?_)
      ·
       replace H := H92
       refine itt H (fun hc95 H => ?_) (fun hc95 H => ?_)
       ·
        refine bnd H (fun s96 hs96 H => ?_)
        refine region_k (fun K99 hK99 => ?_)
        refine stq hf Z Z Z (ex_fieldAddrB fa_63_2 Z hf Z) fun a hf => stq hf Z Z Z (ex_load sc_4 hf Z (bx_cell (hs.get (i := 11) Z) _ Z)) fun a hf => stq hf Z Z Z (ex_move hf Z) fun a hf => ?_
        replace hf := hf.castB (t := 67) Z hc95
        replace hf := hf.castB (t := 68) Z hc95
        refine stq hf Z Z Z (ex_move hf Z) fun a hf => stq hf Z Z Z (ex_loadA (cs := [.int .i64 a1.Space, .int .u64 a1.Addr, .int .i64 a1.Width, .bool a1.Write, .int .u64 (bitw .and .u64 a1.Value s12)]) ag_37 hf Z (bx_cells (hs.get (i := 10) Z) Z)) fun a hf => ?_
        refine stepF hf Z Z Z (ex_call cf_34 hf Z) (iospace_Bus_fails.calls k Aa Ab Ac Ae Af At (⟨a1.Space, a1.Addr, a1.Width, a1.Write, (bitw .and .u64 a1.Value s12)⟩ : Access) b0 Va Ga Vb Gb Vc Gc Vf Gf Vt (hs.enter (.c (.c (.c (.c (.c (.c (.c (.c (.c (.c sN))))))))))) (Sr.nil _ _) hs96) (fun v w hR a hf => ?_)
        obtain ⟨v97, b98, rfl, hs'⟩ := hR
        replace hs := hs.step (.c (.c (.c (.c (.c (.c (.c (.c (.c (.c sN)))))))))) hs'
        clear hs'
        refine stq hf Z Z Z (ex_pickT hf Z Z) fun a hf => stq hf Z Z Z (ex_fieldAddrB fa_63_3 Z hf Z) fun a hf => ?_
        refine stepS hf Z Z (er_storeB hs (.k (.k (.k (.k (.k (.k (.k (.k (.k (.k (.k (.c .nil)))))))))))) hf Z Z Z sz_4 Z) (fun w hs => ?_)
        refine hK99 _ _ ?_
        replace hs := hs.p11.p11.p5.p5.p11.p11.p11.p11.p11.p11.p11
        have e92 := some_eq H; subst e92
        exact hJ92 _ _ ⟨v97, b98, hf.sub ⟨Z, Z, Z, Z, trivial⟩, hs⟩
       ·
        refine region_k (fun K100 hK100 => ?_)
        refine stq hf Z Z Z (ex_fieldAddrB fa_63_2 Z hf Z) fun a hf => stq hf Z Z Z (ex_load sc_4 hf Z (bx_cell (hs.get (i := 11) Z) _ Z)) fun a hf => stq hf Z Z Z (ex_move hf Z) fun a hf => ?_
        replace hf := hf.castB (t := 67) Z (bool_f hc95)
        replace hf := hf.castB (t := 68) Z (bool_f hc95)
        refine stepN hf Z Z Z fun a hf => stepN hf Z Z Z fun a hf => stepN hf Z Z Z fun a hf => stq hf Z Z Z (ex_pickF hf Z Z) fun a hf => stq hf Z Z Z (ex_fieldAddrB fa_63_3 Z hf Z) fun a hf => ?_
        refine stepS hf Z Z (er_storeB hs (.k (.k (.k (.k (.k (.k (.k (.k (.k (.k (.k (.c .nil)))))))))))) hf Z Z Z sz_4 Z) (fun w hs => ?_)
        refine hK100 _ _ ?_
        replace hs := hs.p11.p11.p11.p11.p11.p11.p11.p11.p11.p11.p11
        have e92 := some_eq H; subst e92
        exact hJ92 _ _ ⟨Vf, Gf, hf.sub ⟨Z, Z, Z, Z, trivial⟩, hs⟩
      ·
       obtain ⟨v93, G94, hf, hs⟩ := hJ
       replace H := HO92
       clear HO92
       refine bnd H (fun x101 H101 HO101 => ?_)
       clear H
       refine seq_cut (fun a w => Fr a 144 [(0, .pointer (some ⟨b0, 0, none⟩)), (3, .pointer (some ⟨b1, 0, none⟩)), (7, .pointer (some ⟨b82, 0, none⟩))] ∧ St M w0 w [bxs b0 71 [([Va], 1), ([Vb], 1), ([Vc], 1), (List.map Value.bool Ae, 256), ([v93], 1), ([Vt], 1)], osl Km Va (ids Fm Ga), nds Fm Ga Aa, osl Km Vb (ids Fm Gb), nds Fm Gb x101.1, osl Km Vc (ids Fm Gc), nds Fm Gc Ac, osl Kf v93 (ids Ff G94), nds Ff G94 x92.1, osl Kt Vt At, bx b1 37 [.int .i64 a1.Space, .int .u64 a1.Addr, .int .i64 a1.Width, .bool a1.Write, .int .u64 (bitw .and .u64 a1.Value s12)], bx b82 63 [.int .i64 a1.Space, .int .u64 a1.Addr, .int .i64 a1.Width, .bool a1.Write, .int .u64 x101.2, .int .i64 ((gd mapping.zero Ab s15.2).owner), .bool x84, .bool x92.2]]) (fun Q101 hJ101 hR101 hX101 => ?_) (fun a w hJ => ?_)
       ·
        replace H := H101
        refine block_k (fun Q102 hN102 hR102 hX102 hY102 => ?_)
        refine bnd H (fun x103 H103 HO103 => ?_)
        clear H
        refine seq_cut (fun a w => Fr a 144 [(0, .pointer (some ⟨b0, 0, none⟩)), (3, .pointer (some ⟨b1, 0, none⟩)), (6, .pointer (some ⟨Fm.blk (gd ((0, 0) : Nat × Nat) Gb s15.2), 0, none⟩)), (7, .pointer (some ⟨b82, 0, none⟩)), (74, .bool x103)] ∧ St M w0 w [bxs b0 71 [([Va], 1), ([Vb], 1), ([Vc], 1), (List.map Value.bool Ae, 256), ([v93], 1), ([Vt], 1)], osl Km Va (ids Fm Ga), nds Fm Ga Aa, osl Km Vb (ids Fm Gb), nds Fm Gb Ab, osl Km Vc (ids Fm Gc), nds Fm Gc Ac, osl Kf v93 (ids Ff G94), nds Ff G94 x92.1, osl Kt Vt At, bx b1 37 [.int .i64 a1.Space, .int .u64 a1.Addr, .int .i64 a1.Width, .bool a1.Write, .int .u64 (bitw .and .u64 a1.Value s12)], bx b82 63 [.int .i64 a1.Space, .int .u64 a1.Addr, .int .i64 a1.Width, .bool a1.Write, .int .u64 (bitw .and .u64 a1.Value s12), .int .i64 ((gd mapping.zero Ab s15.2).owner), .bool x84, .bool x92.2]]) (fun Q103 hJ103 hR103 hX103 => ?_) (fun a w hJ => ?_)
        ·
         replace H := H103
         refine itt H (fun hc104 H => ?_) (fun hc104 H => ?_)
         ·
          refine region_k (fun K105 hK105 => ?_)
          refine stq hf Z Z Z (ex_fieldAddrB fa_37_3 Z hf Z) fun a hf => stq hf Z Z Z (ex_load sc_4 hf Z (bx_cell (hs.get (i := 10) Z) _ Z)) fun a hf => stq hf Z Z Z (ex_not hf Z) fun a hf => stq hf Z Z Z (ex_move hf Z) fun a hf => ?_
          replace hf := hf.castB (t := 76) Z hc104
          replace hf := hf.castB (t := 77) Z (nbool_f hc104)
          replace hf := hf.castB (t := 78) Z (nbool_f hc104)
          refine stepN hf Z Z Z fun a hf => stepN hf Z Z Z fun a hf => stq hf Z Z Z (ex_pickF hf Z Z) fun a hf => stq hf Z Z Z (ex_assign hf Z) fun a hf => ?_
          refine hK105 _ _ ?_
          have e103 := some_eq H; subst e103
          exact hJ103 _ _ ⟨hf.sub ⟨Z, Z, Z, Z, Z, trivial⟩, hs⟩
         ·
          refine region_k (fun K106 hK106 => ?_)
          refine stq hf Z Z Z (ex_fieldAddrB fa_37_3 Z hf Z) fun a hf => stq hf Z Z Z (ex_load sc_4 hf Z (bx_cell (hs.get (i := 10) Z) _ Z)) fun a hf => stq hf Z Z Z (ex_not hf Z) fun a hf => stq hf Z Z Z (ex_move hf Z) fun a hf => ?_
          replace hf := hf.castB (t := 76) Z (bool_f hc104)
          replace hf := hf.castB (t := 77) Z (nbool_t hc104)
          replace hf := hf.castB (t := 78) Z (nbool_t hc104)
          refine stq hf Z Z Z (ex_fieldAddrB fa_63_3 Z hf Z) fun a hf => stq hf Z Z Z (ex_load sc_4 hf Z (bx_cell (hs.get (i := 11) Z) _ Z)) fun a hf => stq hf Z Z Z (ex_pickT hf Z Z) fun a hf => stq hf Z Z Z (ex_assign hf Z) fun a hf => ?_
          refine hK106 _ _ ?_
          have e103 := some_eq H; subst e103
          exact hJ103 _ _ ⟨hf.sub ⟨Z, Z, Z, Z, Z, trivial⟩, hs⟩
        ·
         obtain ⟨hf, hs⟩ := hJ
         replace H := HO103
         clear HO103
         refine itt H (fun hc107 H => ?_) (fun hc107 H => ?_)
         ·
          replace hf := hf.castB (t := 74) Z hc107
          refine cond_T hf Z ?_
          refine region_k (fun K108 hK108 => ?_)
          refine stq hf Z Z Z (ex_fieldAddrB fa_63_0 Z hf Z) fun a hf => stq hf Z Z Z (ex_fieldAddrB fa_37_4 Z hf Z) fun a hf => ?_
          refine stepS hf Z Z (er_storeB hs (.k (.k (.k (.k (.k (.k (.k (.k (.k (.k (.k (.c .nil)))))))))))) hf Z Z Z sz_22 Z) (fun w hs => ?_)
          refine hK108 _ _ ?_
          refine hN102 _ _ ?_
          replace hs := hs.p11.p11.p11.p11.p11.p11.p11.p11.p11.p11.p11
          have e101 := some_eq H; subst e101
          exact hJ101 _ _ ⟨hf.sub ⟨Z, Z, Z, trivial⟩, hs⟩
         ·
          replace hf := hf.castB (t := 74) Z (bool_f hc107)
          refine cond_F hf Z ?_
          refine bnd H (fun x109 H109 HO109 => ?_)
          clear H
          refine seq_cut (fun a w => Fr a 144 [(0, .pointer (some ⟨b0, 0, none⟩)), (3, .pointer (some ⟨b1, 0, none⟩)), (6, .pointer (some ⟨Fm.blk (gd ((0, 0) : Nat × Nat) Gb s15.2), 0, none⟩)), (7, .pointer (some ⟨b82, 0, none⟩)), (84, .bool x109)] ∧ St M w0 w [bxs b0 71 [([Va], 1), ([Vb], 1), ([Vc], 1), (List.map Value.bool Ae, 256), ([v93], 1), ([Vt], 1)], osl Km Va (ids Fm Ga), nds Fm Ga Aa, osl Km Vb (ids Fm Gb), nds Fm Gb Ab, osl Km Vc (ids Fm Gc), nds Fm Gc Ac, osl Kf v93 (ids Ff G94), nds Ff G94 x92.1, osl Kt Vt At, bx b1 37 [.int .i64 a1.Space, .int .u64 a1.Addr, .int .i64 a1.Width, .bool a1.Write, .int .u64 (bitw .and .u64 a1.Value s12)], bx b82 63 [.int .i64 a1.Space, .int .u64 a1.Addr, .int .i64 a1.Width, .bool a1.Write, .int .u64 (bitw .and .u64 a1.Value s12), .int .i64 ((gd mapping.zero Ab s15.2).owner), .bool x84, .bool x92.2]]) (fun Q109 hJ109 hR109 hX109 => ?_) (fun a w hJ => ?_)
          ·
           replace H := H109
           refine itt H (fun hc110 H => ?_) (fun hc110 H => ?_)
           ·
            refine region_k (fun K111 hK111 => ?_)
            refine stq hf Z Z Z (ex_fieldAddrB fa_37_3 Z hf Z) fun a hf => stq hf Z Z Z (ex_load sc_4 hf Z (bx_cell (hs.get (i := 10) Z) _ Z)) fun a hf => stq hf Z Z Z (ex_not hf Z) fun a hf => stq hf Z Z Z (ex_move hf Z) fun a hf => ?_
            replace hf := hf.castB (t := 86) Z hc110
            replace hf := hf.castB (t := 87) Z (nbool_f hc110)
            replace hf := hf.castB (t := 88) Z (nbool_f hc110)
            refine stepN hf Z Z Z fun a hf => stepN hf Z Z Z fun a hf => stq hf Z Z Z (ex_pickF hf Z Z) fun a hf => stq hf Z Z Z (ex_assign hf Z) fun a hf => ?_
            refine hK111 _ _ ?_
            have e109 := some_eq H; subst e109
            exact hJ109 _ _ ⟨hf.sub ⟨Z, Z, Z, Z, Z, trivial⟩, hs⟩
           ·
            refine region_k (fun K112 hK112 => ?_)
            refine stq hf Z Z Z (ex_fieldAddrB fa_37_3 Z hf Z) fun a hf => stq hf Z Z Z (ex_load sc_4 hf Z (bx_cell (hs.get (i := 10) Z) _ Z)) fun a hf => stq hf Z Z Z (ex_not hf Z) fun a hf => stq hf Z Z Z (ex_move hf Z) fun a hf => ?_
            replace hf := hf.castB (t := 86) Z (bool_f hc110)
            replace hf := hf.castB (t := 87) Z (nbool_t hc110)
            replace hf := hf.castB (t := 88) Z (nbool_t hc110)
            refine stq hf Z Z Z (ex_fieldAddrB fa_63_2 Z hf Z) fun a hf => stq hf Z Z Z (ex_load sc_4 hf Z (bx_cell (hs.get (i := 11) Z) _ Z)) fun a hf => stq hf Z Z Z (ex_pickT hf Z Z) fun a hf => stq hf Z Z Z (ex_assign hf Z) fun a hf => ?_
            refine hK112 _ _ ?_
            have e109 := some_eq H; subst e109
            exact hJ109 _ _ ⟨hf.sub ⟨Z, Z, Z, Z, Z, trivial⟩, hs⟩
          ·
           obtain ⟨hf, hs⟩ := hJ
           replace H := HO109
           clear HO109
           refine itt H (fun hc113 H => ?_) (fun hc113 H => ?_)
           ·
            replace hf := hf.castB (t := 84) Z hc113
            refine cond_T hf Z ?_
            refine bnd H (fun s114 hs114 H => ?_)
            refine region_k (fun K115 hK115 => ?_)
            refine stq hf Z Z Z (ex_move hf Z) fun a hf => stq hf Z Z Z (ex_fieldAddrB fa_37_1 Z hf Z) fun a hf => stq hf Z Z Z (ex_load sc_22 hf Z (bx_cell (hs.get (i := 10) Z) _ Z)) fun a hf => stq hf Z Z Z (ex_fieldAddrB fa_37_2 Z hf Z) fun a hf => stq hf Z Z Z (ex_load sc_3 hf Z (bx_cell (hs.get (i := 10) Z) _ Z)) fun a hf => ?_
            refine stepF hf Z Z Z (ex_call cf_35 hf Z) (iospace_mapping_load.calls k ((gd mapping.zero Ab s15.2).r.Base) ((gd mapping.zero Ab s15.2).r.Len) ((gd mapping.zero Ab s15.2).owner) ((gd mapping.zero Ab s15.2).data) a1.Addr a1.Width (Fm.blk (gd ((0, 0) : Nat × Nat) Gb s15.2)) ((gd ((0, 0) : Nat × Nat) Gb s15.2).2) (hs.enter sN) (Sr.own hs sN (i := 4) Z (fun _ h => nd_bx_ok (F := Fm) h ((0, 0) : Nat × Nat) mapping.zero hb80.1 hb80.2) (nd_bx_fs (F := Fm) (nds_len (hs.get (i := 4) Z)) ((0, 0) : Nat × Nat) mapping.zero hb80.1 hb80.2) (Sr.own hs sN (i := 4) Z (fun _ h => nd_mo_ok (F := Fm) h ((0, 0) : Nat × Nat) mapping.zero hb80.1 hb80.2 0 Z) (nd_mo_fs (F := Fm) (nds_len (hs.get (i := 4) Z)) ((0, 0) : Nat × Nat) mapping.zero hb80.1 hb80.2 0 Z) (Sr.nil _ _))) hs114) (fun v w hR a hf => ?_)
            obtain ⟨rfl, hs'⟩ := hR
            replace hs := hs.step sN hs'
            clear hs'
            refine stq hf Z Z Z (ex_fieldAddrB fa_63_0 Z hf Z) fun a hf => stq hf Z Z Z (ex_fieldAddrB fa_37_4 Z hf Z) fun a hf => ?_
            refine stepS hf Z Z (er_storeB hs (.k (.k (.k (.k (.k (.k (.k (.k (.k (.k (.k (.c .nil)))))))))))) hf Z Z Z sz_22 Z) (fun w hs => ?_)
            refine hK115 _ _ ?_
            refine hN102 _ _ ?_
            replace hs := hs.p11.p11.p11.p11.p11.p11.p11.p11.p11.p11.p11
            have e101 := some_eq H; subst e101
            exact hJ101 _ _ ⟨hf.sub ⟨Z, Z, Z, trivial⟩, hs⟩
           ·
            replace hf := hf.castB (t := 84) Z (bool_f hc113)
            refine cond_F hf Z ?_
            refine seq_reg (fun K116 hK116 => ?_)
            refine stq hf Z Z Z (ex_fieldAddrB fa_37_3 Z hf Z) fun a hf => stq hf Z Z Z (ex_load sc_4 hf Z (bx_cell (hs.get (i := 10) Z) _ Z)) fun a hf => stq hf Z Z Z (ex_not hf Z) fun a hf => stq hf Z Z Z (ex_assign hf Z) fun a hf => ?_
            refine hK116 _ _ ?_
            refine itt H (fun hc117 H => ?_) (fun hc117 H => ?_)
            ·
             replace hf := hf.castB (t := 100) Z (nbool_f hc117)
             refine cond_F hf Z ?_
             refine bnd H (fun x118 H118 HO118 => ?_)
             clear H
             refine seq_cut (fun a w => Fr a 144 [(0, .pointer (some ⟨b0, 0, none⟩)), (3, .pointer (some ⟨b1, 0, none⟩)), (6, .pointer (some ⟨Fm.blk (gd ((0, 0) : Nat × Nat) Gb s15.2), 0, none⟩)), (7, .pointer (some ⟨b82, 0, none⟩)), (109, .bool x118)] ∧ St M w0 w [bxs b0 71 [([Va], 1), ([Vb], 1), ([Vc], 1), (List.map Value.bool Ae, 256), ([v93], 1), ([Vt], 1)], osl Km Va (ids Fm Ga), nds Fm Ga Aa, osl Km Vb (ids Fm Gb), nds Fm Gb Ab, osl Km Vc (ids Fm Gc), nds Fm Gc Ac, osl Kf v93 (ids Ff G94), nds Ff G94 x92.1, osl Kt Vt At, bx b1 37 [.int .i64 a1.Space, .int .u64 a1.Addr, .int .i64 a1.Width, .bool a1.Write, .int .u64 (bitw .and .u64 a1.Value s12)], bx b82 63 [.int .i64 a1.Space, .int .u64 a1.Addr, .int .i64 a1.Width, .bool a1.Write, .int .u64 (bitw .and .u64 a1.Value s12), .int .i64 ((gd mapping.zero Ab s15.2).owner), .bool x84, .bool x92.2]]) (fun Q118 hJ118 hR118 hX118 => ?_) (fun a w hJ => ?_)
             ·
              replace H := H118
              refine itt H (fun hc119 H => ?_) (fun hc119 H => ?_)
              ·
               refine region_k (fun K120 hK120 => ?_)
               refine stq hf Z Z Z (ex_fieldAddrB fa_63_2 Z hf Z) fun a hf => stq hf Z Z Z (ex_load sc_4 hf Z (bx_cell (hs.get (i := 11) Z) _ Z)) fun a hf => stq hf Z Z Z (ex_move hf Z) fun a hf => ?_
               replace hf := hf.castB (t := 102) Z hc117
               replace hf := hf.castB (t := 103) Z (nbool_f hc117)
               replace hf := hf.castB (t := 111) Z hc119
               replace hf := hf.castB (t := 112) Z hc119
               refine stq hf Z Z Z (ex_fieldAddrB fa_63_3 Z hf Z) fun a hf => stq hf Z Z Z (ex_load sc_4 hf Z (bx_cell (hs.get (i := 11) Z) _ Z)) fun a hf => stq hf Z Z Z (ex_not hf Z) fun a hf => stq hf Z Z Z (ex_pickT hf Z Z) fun a hf => stq hf Z Z Z (ex_assign hf Z) fun a hf => ?_
               refine hK120 _ _ ?_
               have e118 := some_eq H; subst e118
               exact hJ118 _ _ ⟨hf.sub ⟨Z, Z, Z, Z, Z, trivial⟩, hs⟩
              ·
               refine region_k (fun K121 hK121 => ?_)
               refine stq hf Z Z Z (ex_fieldAddrB fa_63_2 Z hf Z) fun a hf => stq hf Z Z Z (ex_load sc_4 hf Z (bx_cell (hs.get (i := 11) Z) _ Z)) fun a hf => stq hf Z Z Z (ex_move hf Z) fun a hf => ?_
               replace hf := hf.castB (t := 102) Z hc117
               replace hf := hf.castB (t := 103) Z (nbool_f hc117)
               replace hf := hf.castB (t := 111) Z (bool_f hc119)
               replace hf := hf.castB (t := 112) Z (bool_f hc119)
               refine stepN hf Z Z Z fun a hf => stepN hf Z Z Z fun a hf => stepN hf Z Z Z fun a hf => stq hf Z Z Z (ex_pickF hf Z Z) fun a hf => stq hf Z Z Z (ex_assign hf Z) fun a hf => ?_
               refine hK121 _ _ ?_
               have e118 := some_eq H; subst e118
               exact hJ118 _ _ ⟨hf.sub ⟨Z, Z, Z, Z, Z, trivial⟩, hs⟩
             ·
              obtain ⟨hf, hs⟩ := hJ
              replace H := HO118
              clear HO118
              refine itt H (fun hc122 H => ?_) (fun hc122 H => ?_)
              ·
               replace hf := hf.castB (t := 109) Z hc122
               refine cond_T hf Z ?_
               refine bnd H (fun s124 hs124 H => ?_)
               refine region_k (fun K125 hK125 => ?_)
               refine stq hf Z Z Z (ex_move hf Z) fun a hf => stq hf Z Z Z (ex_fieldAddrB fa_37_1 Z hf Z) fun a hf => stq hf Z Z Z (ex_load sc_22 hf Z (bx_cell (hs.get (i := 10) Z) _ Z)) fun a hf => stq hf Z Z Z (ex_fieldAddrB fa_37_2 Z hf Z) fun a hf => stq hf Z Z Z (ex_load sc_3 hf Z (bx_cell (hs.get (i := 10) Z) _ Z)) fun a hf => stq hf Z Z Z (ex_fieldAddrB fa_37_4 Z hf Z) fun a hf => stq hf Z Z Z (ex_load sc_22 hf Z (bx_cell (hs.get (i := 10) Z) _ Z)) fun a hf => ?_
               replace hs := hs.p4
               have hl123 := nds_len (hs.get (i := 0) Z)
               replace hs := hs.focus (F := Fm) ((0, 0) : Nat × Nat) mapping.zero hb80.1 hb80.2
               replace hs : St M w0 _ [bx (Fm.blk (gd ((0, 0) : Nat × Nat) Gb s15.2)) 80 [.int .u64 ((gd mapping.zero Ab s15.2).r.Base), .int .u64 ((gd mapping.zero Ab s15.2).r.Len), .int .i64 ((gd mapping.zero Ab s15.2).owner), .map (some (gd ((0, 0) : Nat × Nat) Gb s15.2).2)], mp (gd ((0, 0) : Nat × Nat) Gb s15.2).2 .u64 .u8 ((gd mapping.zero Ab s15.2).data), nds Fm (Gb.eraseIdx s15.2.toNat) (Ab.eraseIdx s15.2.toNat), bxs b0 71 [([Va], 1), ([Vb], 1), ([Vc], 1), (List.map Value.bool Ae, 256), ([v93], 1), ([Vt], 1)], osl Km Va (ids Fm Ga), nds Fm Ga Aa, osl Km Vb (ids Fm Gb), osl Km Vc (ids Fm Gc), nds Fm Gc Ac, osl Kf v93 (ids Ff G94), nds Ff G94 x92.1, osl Kt Vt At, bx b1 37 [.int .i64 a1.Space, .int .u64 a1.Addr, .int .i64 a1.Width, .bool a1.Write, .int .u64 (bitw .and .u64 a1.Value s12)], bx b82 63 [.int .i64 a1.Space, .int .u64 a1.Addr, .int .i64 a1.Width, .bool a1.Write, .int .u64 (bitw .and .u64 a1.Value s12), .int .i64 ((gd mapping.zero Ab s15.2).owner), .bool x84, .bool x92.2]] := hs
               refine stepF hf Z Z Z (ex_call cf_36 hf Z) (iospace_mapping_store.calls k ((gd mapping.zero Ab s15.2).r.Base) ((gd mapping.zero Ab s15.2).r.Len) ((gd mapping.zero Ab s15.2).owner) ((gd mapping.zero Ab s15.2).data) a1.Addr a1.Width (bitw .and .u64 a1.Value s12) (Fm.blk (gd ((0, 0) : Nat × Nat) Gb s15.2)) ((gd ((0, 0) : Nat × Nat) Gb s15.2).2) (hs.enter (.c (.c sN))) (Sr.nil _ _) hs124) (fun v w hR a hf => ?_)
               obtain ⟨rfl, hs'⟩ := hR
               replace hs := hs.step (.c (.c sN)) hs'
               clear hs'
               replace hs := hs.p2.p2.p2
               replace hs := St.unfocus (F := Fm) (G := Gb) (L := Ab) (i := s15.2) (g := (gd ((0, 0) : Nat × Nat) Gb s15.2)) (u := (⟨(⟨((gd mapping.zero Ab s15.2).r.Base), ((gd mapping.zero Ab s15.2).r.Len)⟩ : Range), ((gd mapping.zero Ab s15.2).owner), s124⟩ : mapping)) hb80.1 hb80.2 hl123 ((0, 0) : Nat × Nat) Z hs
               refine hK125 _ _ ?_
               refine hN102 _ _ ?_
               replace hs := hs.p11.p11.p11.p11.p11.p11.p11.p7.p11.p11.p11.p11
               have e101 := some_eq H; subst e101
               exact hJ101 _ _ ⟨hf.sub ⟨Z, Z, Z, trivial⟩, hs⟩
              ·
               replace hf := hf.castB (t := 109) Z (bool_f hc122)
               refine cond_F hf Z ?_
               refine wp_skip ?_
               refine hN102 _ _ ?_
               have e101 := some_eq H; subst e101
               exact hJ101 _ _ ⟨hf.sub ⟨Z, Z, Z, trivial⟩, hs⟩
            ·
             replace hf := hf.castB (t := 100) Z (nbool_t hc117)
             refine cond_T hf Z ?_
             refine bnd H (fun s126 hs126 H => ?_)
             refine region_k (fun K127 hK127 => ?_)
             refine stq hf Z Z Z (ex_fieldAddrB fa_37_2 Z hf Z) fun a hf => stq hf Z Z Z (ex_load sc_3 hf Z (bx_cell (hs.get (i := 10) Z) _ Z)) fun a hf => ?_
             refine stepF hf Z Z Z (ex_call cf_31 hf Z) (iospace_mask.calls k a1.Width (hs.enter sN) (Sr.nil _ _) hs126) (fun v w hR a hf => ?_)
             obtain ⟨rfl, hs'⟩ := hR
             replace hs := hs.step sN hs'
             clear hs'
             refine stq hf Z Z Z (ex_fieldAddrB fa_63_0 Z hf Z) fun a hf => stq hf Z Z Z (ex_fieldAddrB fa_37_4 Z hf Z) fun a hf => ?_
             refine stepS hf Z Z (er_storeB hs (.k (.k (.k (.k (.k (.k (.k (.k (.k (.k (.k (.c .nil)))))))))))) hf Z Z Z sz_22 Z) (fun w hs => ?_)
             refine hK127 _ _ ?_
             refine hN102 _ _ ?_
             replace hs := hs.p11.p11.p11.p11.p11.p11.p11.p11.p11.p11.p11
             have e101 := some_eq H; subst e101
             exact hJ101 _ _ ⟨hf.sub ⟨Z, Z, Z, trivial⟩, hs⟩
       ·
        obtain ⟨hf, hs⟩ := hJ
        replace H := HO101
        clear HO101
        refine seq_n (fun Q128 hN128 hR128 hX128 => ?_)
        refine ck_some H (fun hc130 H => ?_)
        refine region_dS fol 8 [(0, .pointer (some ⟨b0, 0, none⟩)), (3, .pointer (some ⟨b1, 0, none⟩)), (7, .pointer (some ⟨b82, 0, none⟩))] [(0, .pointer (some ⟨b0, 0, none⟩)), (1, .pointer (some ⟨b0, 0, none⟩)), (2, .pointer (some ⟨b0, 0, none⟩)), (3, .pointer (some ⟨b0, 260, none⟩)), (4, Vt), (5, .agg #[.int .i64 a1.Space, .int .u64 a1.Addr, .int .i64 a1.Width, .bool a1.Write, .int .u64 x101.2, .int .i64 ((gd mapping.zero Ab s15.2).owner), .bool x84, .bool x92.2])] [6, 7] (fun w => (bxs b0 71 [([Va], 1), ([Vb], 1), ([Vc], 1), (List.map Value.bool Ae, 256), ([v93], 1), ([Vt], 1)]).ok w ∧ (bx b82 63 [.int .i64 a1.Space, .int .u64 a1.Addr, .int .i64 a1.Width, .bool a1.Write, .int .u64 x101.2, .int .i64 ((gd mapping.zero Ab s15.2).owner), .bool x84, .bool x92.2]).ok w ∧ True) hf ⟨Z, Z, Z, trivial⟩ (by kernel_rfl) (by kernel_rfl) Z (by decide) ⟨hs.drew.get (i := 0) Z, hs.drew.get (i := 11) Z, trivial⟩ hs ((.cons (qy Z Z Z Z Z fun hR hf => ex_move hf Z) (.cons (qy Z Z Z Z Z fun hR hf => ex_move hf Z) (.cons (qy Z Z Z Z Z fun hR hf => ex_nilCheck hf Z) (.cons (qy Z Z Z Z Z fun hR hf => ex_fieldAddrB fa_71_3 Z hf Z) (.cons (qy Z Z Z Z Z fun hR hf => ex_load sc_54 hf Z (sb_cell1 (i := 5) (hR.1) Z Z)) (.cons (qy Z Z Z Z Z fun hR hf => ex_loadA (cs := [.int .i64 a1.Space, .int .u64 a1.Addr, .int .i64 a1.Width, .bool a1.Write, .int .u64 x101.2, .int .i64 ((gd mapping.zero Ab s15.2).owner), .bool x84, .bool x92.2]) ag_63 hf Z (bx_cells (hR.2.1) Z)) .nil))))))) (fun K132 hK132 => ?_)
        refine RW.one 6 (by kernel_rfl) (by kernel_rfl) rfl (fun d hd => by cases hd; rfl) [(130, .agg #[.int .i64 a1.Space, .int .u64 a1.Addr, .int .i64 a1.Width, .bool a1.Write, .int .u64 x101.2, .int .i64 ((gd mapping.zero Ab s15.2).owner), .bool x84, .bool x92.2])] ⟨rfl, trivial⟩ (fun a w hR hs hf => ⟨wanted_yes hf rfl, ?_⟩)
        refine estep_v (er_buildSlice (K := Kt) (xs := [(⟨(⟨a1.Space, a1.Addr, a1.Width, a1.Write, x101.2⟩ : Access), ((gd mapping.zero Ab s15.2).owner), x84, x92.2⟩ : Traced)]) hs Try.underlying54 ep_63 Z Z hf Z (.cons Z .nil) Z Z) (fun v129 w hs => ?_)
        refine ⟨[], _, [7], (fun _ => True), hs.fn, Z, Z, ⟨hs.get (i := 1) Z, hs.get (i := 12) Z, trivial⟩, trivial, hs, (by kernel_rfl), .nil, ?_⟩
        refine RW.one 7 (by kernel_rfl) (by kernel_rfl) rfl (fun d hd => by cases hd; rfl) [(129, Vt), (131, v129)] ⟨rfl, rfl, trivial⟩ (fun a w hR hs hf => ⟨wanted_yes hf rfl, ?_⟩)
        refine estep_v (er_append (K := Kt) hs (.k (.k (.k (.k (.k (.k (.k (.k (.k (.k (.c sN))))))))))) (osl_rsl _ (hs.get (i := 0) Z)) Z Try.underlying54 ep_63 hc130 Z hf Z Z) (fun v131 w hs => ?_)
        refine ⟨[], _, [], (fun _ => True), hs.fn, Z, Z, ⟨⟨hs.get (i := 2) Z, hs.get (i := 12) Z, trivial⟩, trivial⟩, trivial, hs, (by kernel_rfl), .nil, ?_⟩
        refine RW.zero (by kernel_rfl) (by kernel_rfl) [(3, .pointer (some ⟨b1, 0, none⟩)), (7, .pointer (some ⟨b82, 0, none⟩)), (125, .pointer (some ⟨b0, 0, none⟩)), (132, v131)] ⟨Z, Z, Z, Z, trivial⟩ (fun a w hR hs hf => ?_)
        refine stq hf Z Z Z (ex_nilCheck hf Z) fun a hf => stq hf Z Z Z (ex_fieldAddrB fa_71_3 Z hf Z) fun a hf => ?_
        refine stepS hf Z Z (er_storeS1 (i := 5) hs (.k (.k (.c sN))) hf Z Z (IsSl.one (rsl_isSl (osl_rsl _ (hs.get (i := 0) Z)))) sz_54 Z Z) (fun w hs => ?_)
        refine hK132 _ _ ?_
        refine hN128 _ _ ?_
        refine seq_n (fun Q133 hN133 hR133 hX133 => ?_)
        refine block_k (fun Q134 hN134 hR134 hX134 hY134 => ?_)
        refine seq_reg (fun K135 hK135 => ?_)
        refine stq hf Z Z Z (ex_fieldAddrB fa_63_3 Z hf Z) fun a hf => stq hf Z Z Z (ex_load sc_4 hf Z (bx_cell (hs.get (i := 12) Z) _ Z)) fun a hf => stq hf Z Z Z (ex_assign hf Z) fun a hf => ?_
        refine hK135 _ _ ?_
        refine itt H (fun hc136 H => ?_) (fun hc136 H => ?_)
        ·
         replace hf := hf.castB (t := 135) Z hc136
         refine cond_T hf Z ?_
         refine seq_reg (fun K137 hK137 => ?_)
         refine stq hf Z Z Z (ex_assign hf Z) fun a hf => stq hf Z Z Z (ex_assign hf Z) fun a hf => ?_
         refine hK137 _ _ ?_
         refine wp_ret ?_
         refine hR134 _ _ ?_
         refine hR133 _ _ ?_
         have eR := some_eq H; subst eR
         replace hs := hs.keep (.k (.k (.d (.k (.k (.k (.k (.k (.k (.k (.k (.d (.d .nil)))))))))))))
         replace hs := hs.p7.p7.p7.p7.p7.p7.p7.p9.p9.p9
         exact ret2 Try.results13 hf Z Z ⟨_, Z, ⟨v93, G94, v131, Z, hs⟩⟩
        ·
         replace hf := hf.castB (t := 135) Z (bool_f hc136)
         refine cond_F hf Z ?_
         refine seq_reg (fun K138 hK138 => ?_)
         refine stq hf Z Z Z (ex_fieldAddrB fa_37_3 Z hf Z) fun a hf => stq hf Z Z Z (ex_load sc_4 hf Z (bx_cell (hs.get (i := 11) Z) _ Z)) fun a hf => stq hf Z Z Z (ex_assign hf Z) fun a hf => ?_
         refine hK138 _ _ ?_
         refine itt H (fun hc139 H => ?_) (fun hc139 H => ?_)
         ·
          replace hf := hf.castB (t := 138) Z hc139
          refine cond_T hf Z ?_
          refine seq_reg (fun K140 hK140 => ?_)
          refine stq hf Z Z Z (ex_assign hf Z) fun a hf => stq hf Z Z Z (ex_assign hf Z) fun a hf => ?_
          refine hK140 _ _ ?_
          refine wp_ret ?_
          refine hR134 _ _ ?_
          refine hR133 _ _ ?_
          have eR := some_eq H; subst eR
          replace hs := hs.keep (.k (.k (.d (.k (.k (.k (.k (.k (.k (.k (.k (.d (.d .nil)))))))))))))
          replace hs := hs.p7.p7.p7.p7.p7.p7.p7.p9.p9.p9
          exact ret2 Try.results13 hf Z Z ⟨_, Z, ⟨v93, G94, v131, Z, hs⟩⟩
         ·
          replace hf := hf.castB (t := 138) Z (bool_f hc139)
          refine cond_F hf Z ?_
          refine wp_skip ?_
          refine hN134 _ _ ?_
          refine hN133 _ _ ?_
          refine seq_reg (fun K141 hK141 => ?_)
          refine stq hf Z Z Z (ex_fieldAddrB fa_63_0 Z hf Z) fun a hf => stq hf Z Z Z (ex_fieldAddrB fa_37_4 Z hf Z) fun a hf => stq hf Z Z Z (ex_load sc_22 hf Z (bx_cell (hs.get (i := 12) Z) _ Z)) fun a hf => stq hf Z Z Z (ex_assign hf Z) fun a hf => stq hf Z Z Z (ex_assign hf Z) fun a hf => ?_
          refine hK141 _ _ ?_
          refine wp_ret ?_
          have eR := some_eq H; subst eR
          replace hs := hs.keep (.k (.k (.d (.k (.k (.k (.k (.k (.k (.k (.k (.d (.d .nil)))))))))))))
          replace hs := hs.p7.p7.p7.p7.p7.p7.p7.p9.p9.p9
          exact ret2 Try.results13 hf Z Z ⟨_, Z, ⟨v93, G94, v131, Z, hs⟩⟩
    ·
     refine itt H (fun hq142 H => ?_) (fun hq142 H => ?_)
     ·
      refine region_k (fun K144 hK144 => ?_)
      refine stq hf Z Z Z (ex_move hf Z) fun a hf => stq hf Z Z Z (ex_fieldAddrB fa_37_0 Z hf Z) fun a hf => stq hf Z Z Z (ex_load sc_3 hf Z (bx_cell (hs.get (i := 0) Z) _ Z)) fun a hf => stq hf Z Z Z (ex_fieldAddrB fa_37_1 Z hf Z) fun a hf => stq hf Z Z Z (ex_load sc_22 hf Z (bx_cell (hs.get (i := 0) Z) _ Z)) fun a hf => ?_
      refine stepF hf Z Z Z (ex_call cf_32 hf Z) (iospace_Bus_find.calls k Aa Ab Ac Ae Af At a1.Space a1.Addr b0 Va Ga Vb Gb Vc Gc Vf Gf Vt (hs.enter sN) (Sr.own hs sN (i := 1) Z (fun _ h => h) (fun _ h => h) (Sr.own hs sN (i := 2) Z osl_rsl (fun _ h => h.1) (Sr.own hs sN (i := 3) Z (fun _ h => h) (fun _ h => h) (Sr.own hs sN (i := 4) Z osl_rsl (fun _ h => h.1) (Sr.own hs sN (i := 5) Z (fun _ h => h) (fun _ h => h) (Sr.own hs sN (i := 6) Z osl_rsl (fun _ h => h.1) (Sr.own hs sN (i := 7) Z (fun _ h => h) (fun _ h => h) (Sr.own hs sN (i := 8) Z osl_rsl (fun _ h => h.1) (Sr.own hs sN (i := 9) Z (fun _ h => h) (fun _ h => h) (Sr.own hs sN (i := 10) Z osl_rsl (fun _ h => h.1) (Sr.nil _ _))))))))))) hs15) (fun v w hR a hf => ?_)
      replace hR := Or.resolve_left hR (fun q => by have := q.1; omega)
      replace hR := Or.resolve_left hR (fun q => by have := q.1; omega)
      replace hR := Or.resolve_right hR (fun q => by have := q.1; omega)
      obtain ⟨_, hb143, rfl, hs'⟩ := hR
      replace hs := hs.step sN hs'
      clear hs'
      refine stq hf Z Z Z (ex_assign hf Z) fun a hf => ?_
      refine hK144 _ _ ?_
      refine hN14 _ _ ?_
      refine seq_reg (fun K146 hK146 => ?_)
      refine stq hf Z Z Z (ex_loadA (cs := [.int .i64 a1.Space, .int .u64 a1.Addr, .int .i64 a1.Width, .bool a1.Write, .int .u64 (bitw .and .u64 a1.Value s12)]) ag_37 hf Z (bx_cells (hs.get (i := 0) Z) Z)) fun a hf => stq hf Z Z Z (ex_build (cs := [.int .i64 a1.Space, .int .u64 a1.Addr, .int .i64 a1.Width, .bool a1.Write, .int .u64 (bitw .and .u64 a1.Value s12), .int .i64 (-1), .bool false, .bool false]) bt_63 hf Z (.cons Z (.cons Z .nil)) Z) fun a hf => ?_
      refine stepV hf Z Z Z (er_alloc hs ti_63 (cs := [.int .i64 0, .int .u64 0, .int .i64 0, .bool false, .int .u64 0, .int .i64 0, .bool false, .bool false]) Z) (fun v w hR a hf => ?_)
      obtain ⟨b145, rfl, hs⟩ := hR
      refine stepS hf Z Z (er_storeAB (vs := [.int .i64 a1.Space, .int .u64 a1.Addr, .int .i64 a1.Width, .bool a1.Write, .int .u64 (bitw .and .u64 a1.Value s12), .int .i64 (-1), .bool false, .bool false]) (cs' := [.int .i64 a1.Space, .int .u64 a1.Addr, .int .i64 a1.Width, .bool a1.Write, .int .u64 (bitw .and .u64 a1.Value s12), .int .i64 (-1), .bool false, .bool false]) hs (.c sN) sz_63 hf Z Z (all1 Z (all1 Z (all1 Z (all1 Z (all1 Z (all1 Z (all1 Z (all1 Z (all1_nil))))))))) Z Z) (fun w hs => ?_)
      refine hK146 _ _ ?_
      refine bnd H (fun x147 H147 HO147 => ?_)
      clear H
      refine seq_cut (fun a w => Fr a 144 [(0, .pointer (some ⟨b0, 0, none⟩)), (3, .pointer (some ⟨b1, 0, none⟩)), (6, .pointer (some ⟨Fm.blk (gd ((0, 0) : Nat × Nat) Gc s15.2), 0, none⟩)), (7, .pointer (some ⟨b145, 0, none⟩))] ∧ St M w0 w [bxs b0 71 [([Va], 1), ([Vb], 1), ([Vc], 1), (List.map Value.bool Ae, 256), ([Vf], 1), ([Vt], 1)], osl Km Va (ids Fm Ga), nds Fm Ga Aa, osl Km Vb (ids Fm Gb), nds Fm Gb Ab, osl Km Vc (ids Fm Gc), nds Fm Gc Ac, osl Kf Vf (ids Ff Gf), nds Ff Gf Af, osl Kt Vt At, bx b1 37 [.int .i64 a1.Space, .int .u64 a1.Addr, .int .i64 a1.Width, .bool a1.Write, .int .u64 (bitw .and .u64 a1.Value s12)], bx b145 63 [.int .i64 a1.Space, .int .u64 a1.Addr, .int .i64 a1.Width, .bool a1.Write, .int .u64 (bitw .and .u64 a1.Value s12), .int .i64 ((gd mapping.zero Ac s15.2).owner), .bool x147, .bool false]]) (fun Q147 hJ147 hR147 hX147 => ?_) (fun a w hJ => ?_)
      ·
       replace H := H147
       refine seq_reg (fun K148 hK148 => ?_)
       refine stq hf Z Z Z (ex_move hf Z) fun a hf => stq hf Z Z Z (ex_nep Try.underlying76 hf Z Z) fun a hf => ?_
       refine hK148 _ _ ?_
       refine cond_T hf Z ?_
       refine seq_reg (fun K149 hK149 => ?_)
       refine stq hf Z Z Z (ex_move hf Z) fun a hf => stq hf Z Z Z (ex_nilCheck hf Z) fun a hf => stq hf Z Z Z (ex_fieldAddrB fa_80_1 Z hf Z) fun a hf => stq hf Z Z Z (ex_load sc_3 hf Z (nd_cell (F := Fm) (hs.get (i := 8) Z) ((0, 0) : Nat × Nat) mapping.zero hb143.1 hb143.2 2 Z)) fun a hf => stq hf Z Z Z (ex_fieldAddrB fa_63_1 Z hf Z) fun a hf => ?_
       refine stepS hf Z Z (er_storeB hs (.c sN) hf Z Z Z sz_3 Z) (fun w hs => ?_)
       refine hK149 _ _ ?_
       refine bnd H (fun s150 hs150 H => ?_)
       refine itt H (fun hc151 H => ?_) (fun hc151 H => ?_)
       ·
        refine ck_some H (fun hc152 H => ?_)
        refine region_dS fol 24 [(0, .pointer (some ⟨b0, 0, none⟩)), (3, .pointer (some ⟨b1, 0, none⟩)), (6, .pointer (some ⟨Fm.blk (gd ((0, 0) : Nat × Nat) Gc s15.2), 0, none⟩)), (7, .pointer (some ⟨b145, 0, none⟩))] [(0, .pointer (some ⟨b1, 1, none⟩)), (1, .int .u64 a1.Addr), (2, .pointer (some ⟨b1, 2, none⟩)), (3, .int .i64 a1.Width), (4, .int .i64 (IntKind.i64.wrap (a1.Width - 1))), (5, .int .u64 (IntKind.u64.wrap (IntKind.i64.wrap (a1.Width - 1)))), (6, .int .u64 (IntKind.u64.wrap (a1.Addr + (IntKind.u64.wrap (IntKind.i64.wrap (a1.Width - 1)))))), (7, .pointer (some ⟨Fm.blk (gd ((0, 0) : Nat × Nat) Gc s15.2), 0, none⟩)), (8, .pointer (some ⟨Fm.blk (gd ((0, 0) : Nat × Nat) Gc s15.2), 0, none⟩)), (9, .pointer (some ⟨Fm.blk (gd ((0, 0) : Nat × Nat) Gc s15.2), 0, none⟩)), (10, .agg #[.int .u64 ((gd mapping.zero Ac s15.2).r.Base), .int .u64 ((gd mapping.zero Ac s15.2).r.Len)])] [11] (fun w => (bx b1 37 [.int .i64 a1.Space, .int .u64 a1.Addr, .int .i64 a1.Width, .bool a1.Write, .int .u64 (bitw .and .u64 a1.Value s12)]).ok w ∧ (nds Fm Gc Ac).ok w ∧ (bxs b0 71 [([Va], 1), ([Vb], 1), ([Vc], 1), (List.map Value.bool Ae, 256), ([Vf], 1), ([Vt], 1)]).ok w ∧ True) hf ⟨Z, Z, Z, Z, trivial⟩ (by kernel_rfl) (by kernel_rfl) Z (by decide) ⟨hs.drew.get (i := 1) Z, hs.drew.get (i := 8) Z, hs.drew.get (i := 2) Z, trivial⟩ hs ((.cons (qy Z Z Z Z Z fun hR hf => ex_fieldAddrB fa_37_1 Z hf Z) (.cons (qy Z Z Z Z Z fun hR hf => ex_load sc_22 hf Z (bx_cell (hR.1) _ Z)) (.cons (qy Z Z Z Z Z fun hR hf => ex_fieldAddrB fa_37_2 Z hf Z) (.cons (qy Z Z Z Z Z fun hR hf => ex_load sc_3 hf Z (bx_cell (hR.1) _ Z)) (.cons (qy Z Z Z Z Z fun hR hf => ex_sub hf Z Z) (.cons (qy Z Z Z Z Z fun hR hf => ex_conv Try.underlying3 Try.underlying22 hf Z) (.cons (qy Z Z Z Z Z fun hR hf => ex_add hf Z Z) (.cons (qy Z Z Z Z Z fun hR hf => ex_move hf Z) (.cons (qy Z Z Z Z Z fun hR hf => ex_nilCheck hf Z) (.cons (qy Z Z Z Z Z fun hR hf => ex_fieldAddrB fa_80_0 Z hf Z) (.cons (qy Z Z Z Z Z fun hR hf => ex_loadA (cs := [.int .u64 ((gd mapping.zero Ac s15.2).r.Base), .int .u64 ((gd mapping.zero Ac s15.2).r.Len)]) ag_32 hf Z (bx_cells (nd_node (F := Fm) hR.2.1 ((0, 0) : Nat × Nat) mapping.zero hb143.1 hb143.2 _ List.mem_cons_self) Z)) .nil)))))))))))) (fun K153 hK153 => ?_)
        refine RW.one 11 (by kernel_rfl) (by kernel_rfl) rfl (fun d hd => by cases hd; rfl) [(51, .agg #[.int .u64 ((gd mapping.zero Ac s15.2).r.Base), .int .u64 ((gd mapping.zero Ac s15.2).r.Len)])] ⟨rfl, trivial⟩ (fun a w hR hs hf => ⟨wanted_yes hf rfl, ?_⟩)
        refine estep_f (ex_call cf_33 hf Z) (iospace_last.calls k (⟨((gd mapping.zero Ac s15.2).r.Base), ((gd mapping.zero Ac s15.2).r.Len)⟩ : Range) (hs.enter sN) (Sr.nil _ _) hs150) (fun v w hR => ?_)
        obtain ⟨rfl, hs'⟩ := hR
        replace hs := hs.step sN hs'
        clear hs'
        refine ⟨[(12, .bool true), (13, .bool true), (14, .pointer (some ⟨b0, 0, none⟩)), (15, .pointer (some ⟨Fm.blk (gd ((0, 0) : Nat × Nat) Gc s15.2), 0, none⟩)), (16, .pointer (some ⟨Fm.blk (gd ((0, 0) : Nat × Nat) Gc s15.2), 0, none⟩)), (17, .pointer (some ⟨Fm.blk (gd ((0, 0) : Nat × Nat) Gc s15.2), 2, none⟩)), (18, .int .i64 ((gd mapping.zero Ac s15.2).owner)), (19, .pointer (some ⟨b0, 0, none⟩)), (20, .pointer (some ⟨b0, 3, none⟩)), (21, .pointer (some ⟨b0, 3 + ((gd mapping.zero Ac s15.2).owner).toNat, none⟩)), (22, .bool (gd false Ae ((gd mapping.zero Ac s15.2).owner))), (23, .bool (gd false Ae ((gd mapping.zero Ac s15.2).owner)))], _, [], (fun _ => True), hs.fn, Z, Z, ⟨hs.get (i := 1) Z, hs.get (i := 8) Z, hs.get (i := 2) Z, trivial⟩, trivial, hs, (by kernel_rfl), (.cons (qy Z Z Z Z Z fun hR hf => ex_castB (ex_leq hf Z Z) (dec_t hc151)) (.cons (qy Z Z Z Z Z fun hR hf => ex_move hf Z) (.cons (qy Z Z Z Z Z fun hR hf => ex_move hf Z) (.cons (qy Z Z Z Z Z fun hR hf => ex_move hf Z) (.cons (qy Z Z Z Z Z fun hR hf => ex_nilCheck hf Z) (.cons (qy Z Z Z Z Z fun hR hf => ex_fieldAddrB fa_80_1 Z hf Z) (.cons (qy Z Z Z Z Z fun hR hf => ex_load sc_3 hf Z (nd_cell (F := Fm) hR.1.2.1 ((0, 0) : Nat × Nat) mapping.zero hb143.1 hb143.2 2 Z)) (.cons (qy Z Z Z Z Z fun hR hf => ex_nilCheck hf Z) (.cons (qy Z Z Z Z Z fun hR hf => ex_fieldAddrB fa_71_1 Z hf Z) (.cons (qy Z Z Z Z Z fun hR hf => ex_indexAddrA ia_52 Z hc152.1 hc152.2 hf Z Z) (.cons (qy Z Z Z Z Z fun hR hf => ex_load sc_4 hf Z (sb_cell (f := Value.bool) (xs := Ae) (i := 3) (z := false) (hR.1.2.2.1) Z Z hc152.1 hc152.2)) (.cons (qy Z Z Z Z Z fun hR hf => ex_pickT hf Z Z) .nil)))))))))))), ?_⟩
        refine RW.zero (by kernel_rfl) (by kernel_rfl) [(0, .pointer (some ⟨b0, 0, none⟩)), (3, .pointer (some ⟨b1, 0, none⟩)), (6, .pointer (some ⟨Fm.blk (gd ((0, 0) : Nat × Nat) Gc s15.2), 0, none⟩)), (7, .pointer (some ⟨b145, 0, none⟩)), (64, .bool (gd false Ae ((gd mapping.zero Ac s15.2).owner)))] ⟨Z, Z, Z, Z, Z, trivial⟩ (fun a w hR hs hf => ?_)
        refine stq hf Z Z Z (ex_fieldAddrB fa_63_2 Z hf Z) fun a hf => ?_
        refine stepS hf Z Z (er_storeB hs (.c sN) hf Z Z Z sz_4 Z) (fun w hs => ?_)
        refine hK153 _ _ ?_
        replace hs := hs.p1.p11.p11.p11.p11.p11.p11.p11.p11.p11.p11
        have e147 := some_eq H; subst e147
        exact hJ147 _ _ ⟨hf.sub ⟨Z, Z, Z, Z, trivial⟩, hs⟩
       ·
        refine region_dS fol 24 [(0, .pointer (some ⟨b0, 0, none⟩)), (3, .pointer (some ⟨b1, 0, none⟩)), (6, .pointer (some ⟨Fm.blk (gd ((0, 0) : Nat × Nat) Gc s15.2), 0, none⟩)), (7, .pointer (some ⟨b145, 0, none⟩))] [(0, .pointer (some ⟨b1, 1, none⟩)), (1, .int .u64 a1.Addr), (2, .pointer (some ⟨b1, 2, none⟩)), (3, .int .i64 a1.Width), (4, .int .i64 (IntKind.i64.wrap (a1.Width - 1))), (5, .int .u64 (IntKind.u64.wrap (IntKind.i64.wrap (a1.Width - 1)))), (6, .int .u64 (IntKind.u64.wrap (a1.Addr + (IntKind.u64.wrap (IntKind.i64.wrap (a1.Width - 1)))))), (7, .pointer (some ⟨Fm.blk (gd ((0, 0) : Nat × Nat) Gc s15.2), 0, none⟩)), (8, .pointer (some ⟨Fm.blk (gd ((0, 0) : Nat × Nat) Gc s15.2), 0, none⟩)), (9, .pointer (some ⟨Fm.blk (gd ((0, 0) : Nat × Nat) Gc s15.2), 0, none⟩)), (10, .agg #[.int .u64 ((gd mapping.zero Ac s15.2).r.Base), .int .u64 ((gd mapping.zero Ac s15.2).r.Len)])] [11] (fun w => (bx b1 37 [.int .i64 a1.Space, .int .u64 a1.Addr, .int .i64 a1.Width, .bool a1.Write, .int .u64 (bitw .and .u64 a1.Value s12)]).ok w ∧ (nds Fm Gc Ac).ok w ∧ True) hf ⟨Z, Z, Z, Z, trivial⟩ (by kernel_rfl) (by kernel_rfl) Z (by decide) ⟨hs.drew.get (i := 1) Z, hs.drew.get (i := 8) Z, trivial⟩ hs ((.cons (qy Z Z Z Z Z fun hR hf => ex_fieldAddrB fa_37_1 Z hf Z) (.cons (qy Z Z Z Z Z fun hR hf => ex_load sc_22 hf Z (bx_cell (hR.1) _ Z)) (.cons (qy Z Z Z Z Z fun hR hf => ex_fieldAddrB fa_37_2 Z hf Z) (.cons (qy Z Z Z Z Z fun hR hf => ex_load sc_3 hf Z (bx_cell (hR.1) _ Z)) (.cons (qy Z Z Z Z Z fun hR hf => ex_sub hf Z Z) (.cons (qy Z Z Z Z Z fun hR hf => ex_conv Try.underlying3 Try.underlying22 hf Z) (.cons (qy Z Z Z Z Z fun hR hf => ex_add hf Z Z) (.cons (qy Z Z Z Z Z fun hR hf => ex_move hf Z) (.cons (qy Z Z Z Z Z fun hR hf => ex_nilCheck hf Z) (.cons (qy Z Z Z Z Z fun hR hf => ex_fieldAddrB fa_80_0 Z hf Z) (.cons (qy Z Z Z Z Z fun hR hf => ex_loadA (cs := [.int .u64 ((gd mapping.zero Ac s15.2).r.Base), .int .u64 ((gd mapping.zero Ac s15.2).r.Len)]) ag_32 hf Z (bx_cells (nd_node (F := Fm) hR.2.1 ((0, 0) : Nat × Nat) mapping.zero hb143.1 hb143.2 _ List.mem_cons_self) Z)) .nil)))))))))))) (fun K154 hK154 => ?_)
        refine RW.one 11 (by kernel_rfl) (by kernel_rfl) rfl (fun d hd => by cases hd; rfl) [(51, .agg #[.int .u64 ((gd mapping.zero Ac s15.2).r.Base), .int .u64 ((gd mapping.zero Ac s15.2).r.Len)])] ⟨rfl, trivial⟩ (fun a w hR hs hf => ⟨wanted_yes hf rfl, ?_⟩)
        refine estep_f (ex_call cf_33 hf Z) (iospace_last.calls k (⟨((gd mapping.zero Ac s15.2).r.Base), ((gd mapping.zero Ac s15.2).r.Len)⟩ : Range) (hs.enter sN) (Sr.nil _ _) hs150) (fun v w hR => ?_)
        obtain ⟨rfl, hs'⟩ := hR
        replace hs := hs.step sN hs'
        clear hs'
        refine ⟨[(12, .bool false), (13, .bool false), (14, undef), (15, undef), (16, undef), (17, undef), (18, undef), (19, undef), (20, undef), (21, undef), (22, undef), (23, .bool false)], _, [], (fun _ => True), hs.fn, Z, Z, ⟨hs.get (i := 1) Z, hs.get (i := 8) Z, trivial⟩, trivial, hs, (by kernel_rfl), (.cons (qy Z Z Z Z Z fun hR hf => ex_castB (ex_leq hf Z Z) (dec_f hc151)) (.cons (qy Z Z Z Z Z fun hR hf => ex_move hf Z) (.cons (qn Z Z Z Z Z) (.cons (qn Z Z Z Z Z) (.cons (qn Z Z Z Z Z) (.cons (qn Z Z Z Z Z) (.cons (qn Z Z Z Z Z) (.cons (qn Z Z Z Z Z) (.cons (qn Z Z Z Z Z) (.cons (qn Z Z Z Z Z) (.cons (qn Z Z Z Z Z) (.cons (qy Z Z Z Z Z fun hR hf => ex_pickF hf Z Z) .nil)))))))))))), ?_⟩
        refine RW.zero (by kernel_rfl) (by kernel_rfl) [(0, .pointer (some ⟨b0, 0, none⟩)), (3, .pointer (some ⟨b1, 0, none⟩)), (6, .pointer (some ⟨Fm.blk (gd ((0, 0) : Nat × Nat) Gc s15.2), 0, none⟩)), (7, .pointer (some ⟨b145, 0, none⟩)), (64, .bool false)] ⟨Z, Z, Z, Z, Z, trivial⟩ (fun a w hR hs hf => ?_)
        refine stq hf Z Z Z (ex_fieldAddrB fa_63_2 Z hf Z) fun a hf => ?_
        refine stepS hf Z Z (er_storeB hs (.c sN) hf Z Z Z sz_4 Z) (fun w hs => ?_)
        refine hK154 _ _ ?_
        replace hs := hs.p1.p11.p11.p11.p11.p11.p11.p11.p11.p11.p11
        have e147 := some_eq H; subst e147
        exact hJ147 _ _ ⟨hf.sub ⟨Z, Z, Z, Z, trivial⟩, hs⟩
      ·
       obtain ⟨hf, hs⟩ := hJ
       replace H := HO147
       clear HO147
       refine bnd H (fun x155 H155 HO155 => ?_)
       clear H
       refine seq_cut (fun a w => ∃ (v156 : Value) (G157 : List Nat), Fr a 144 [(0, .pointer (some ⟨b0, 0, none⟩)), (3, .pointer (some ⟨b1, 0, none⟩)), (6, .pointer (some ⟨Fm.blk (gd ((0, 0) : Nat × Nat) Gc s15.2), 0, none⟩)), (7, .pointer (some ⟨b145, 0, none⟩))] ∧ St M w0 w [bxs b0 71 [([Va], 1), ([Vb], 1), ([Vc], 1), (List.map Value.bool Ae, 256), ([v156], 1), ([Vt], 1)], osl Km Va (ids Fm Ga), nds Fm Ga Aa, osl Km Vb (ids Fm Gb), nds Fm Gb Ab, osl Km Vc (ids Fm Gc), nds Fm Gc Ac, osl Kf v156 (ids Ff G157), nds Ff G157 x155.1, osl Kt Vt At, bx b1 37 [.int .i64 a1.Space, .int .u64 a1.Addr, .int .i64 a1.Width, .bool a1.Write, .int .u64 (bitw .and .u64 a1.Value s12)], bx b145 63 [.int .i64 a1.Space, .int .u64 a1.Addr, .int .i64 a1.Width, .bool a1.Write, .int .u64 (bitw .and .u64 a1.Value s12), .int .i64 ((gd mapping.zero Ac s15.2).owner), .bool x147, .bool x155.2]]) (fun Q155 hJ155 hR155 hX155 => ?_) (fun a w hJ => ?_)
       ·
        replace H := H155
        refine itt H (fun hc158 H => ?_) (fun hc158 H => ?_)
        ·
         refine bnd H (fun s159 hs159 H => ?_)
         refine region_k (fun K162 hK162 => ?_)
         refine stq hf Z Z Z (ex_fieldAddrB fa_63_2 Z hf Z) fun a hf => stq hf Z Z Z (ex_load sc_4 hf Z (bx_cell (hs.get (i := 11) Z) _ Z)) fun a hf => stq hf Z Z Z (ex_move hf Z) fun a hf => ?_
         replace hf := hf.castB (t := 67) Z hc158
         replace hf := hf.castB (t := 68) Z hc158
         refine stq hf Z Z Z (ex_move hf Z) fun a hf => stq hf Z Z Z (ex_loadA (cs := [.int .i64 a1.Space, .int .u64 a1.Addr, .int .i64 a1.Width, .bool a1.Write, .int .u64 (bitw .and .u64 a1.Value s12)]) ag_37 hf Z (bx_cells (hs.get (i := 10) Z) Z)) fun a hf => ?_
         refine stepF hf Z Z Z (ex_call cf_34 hf Z) (iospace_Bus_fails.calls k Aa Ab Ac Ae Af At (⟨a1.Space, a1.Addr, a1.Width, a1.Write, (bitw .and .u64 a1.Value s12)⟩ : Access) b0 Va Ga Vb Gb Vc Gc Vf Gf Vt (hs.enter (.c (.c (.c (.c (.c (.c (.c (.c (.c (.c sN))))))))))) (Sr.nil _ _) hs159) (fun v w hR a hf => ?_)
         obtain ⟨v160, b161, rfl, hs'⟩ := hR
         replace hs := hs.step (.c (.c (.c (.c (.c (.c (.c (.c (.c (.c sN)))))))))) hs'
         clear hs'
         refine stq hf Z Z Z (ex_pickT hf Z Z) fun a hf => stq hf Z Z Z (ex_fieldAddrB fa_63_3 Z hf Z) fun a hf => ?_
         refine stepS hf Z Z (er_storeB hs (.k (.k (.k (.k (.k (.k (.k (.k (.k (.k (.k (.c .nil)))))))))))) hf Z Z Z sz_4 Z) (fun w hs => ?_)
         refine hK162 _ _ ?_
         replace hs := hs.p11.p11.p5.p5.p11.p11.p11.p11.p11.p11.p11
         have e155 := some_eq H; subst e155
         exact hJ155 _ _ ⟨v160, b161, hf.sub ⟨Z, Z, Z, Z, trivial⟩, hs⟩
        ·
         refine region_k (fun K163 hK163 => ?_)
         refine stq hf Z Z Z (ex_fieldAddrB fa_63_2 Z hf Z) fun a hf => stq hf Z Z Z (ex_load sc_4 hf Z (bx_cell (hs.get (i := 11) Z) _ Z)) fun a hf => stq hf Z Z Z (ex_move hf Z) fun a hf => ?_
         replace hf := hf.castB (t := 67) Z (bool_f hc158)
         replace hf := hf.castB (t := 68) Z (bool_f hc158)
         refine stepN hf Z Z Z fun a hf => stepN hf Z Z Z fun a hf => stepN hf Z Z Z fun a hf => stq hf Z Z Z (ex_pickF hf Z Z) fun a hf => stq hf Z Z Z (ex_fieldAddrB fa_63_3 Z hf Z) fun a hf => ?_
         refine stepS hf Z Z (er_storeB hs (.k (.k (.k (.k (.k (.k (.k (.k (.k (.k (.k (.c .nil)))))))))))) hf Z Z Z sz_4 Z) (fun w hs => ?_)
         refine hK163 _ _ ?_
         replace hs := hs.p11.p11.p11.p11.p11.p11.p11.p11.p11.p11.p11
         have e155 := some_eq H; subst e155
         exact hJ155 _ _ ⟨Vf, Gf, hf.sub ⟨Z, Z, Z, Z, trivial⟩, hs⟩
       ·
        obtain ⟨v156, G157, hf, hs⟩ := hJ
        replace H := HO155
        clear HO155
        refine bnd H (fun x164 H164 HO164 => ?_)
        clear H
        refine seq_cut (fun a w => Fr a 144 [(0, .pointer (some ⟨b0, 0, none⟩)), (3, .pointer (some ⟨b1, 0, none⟩)), (7, .pointer (some ⟨b145, 0, none⟩))] ∧ St M w0 w [bxs b0 71 [([Va], 1), ([Vb], 1), ([Vc], 1), (List.map Value.bool Ae, 256), ([v156], 1), ([Vt], 1)], osl Km Va (ids Fm Ga), nds Fm Ga Aa, osl Km Vb (ids Fm Gb), nds Fm Gb Ab, osl Km Vc (ids Fm Gc), nds Fm Gc x164.1, osl Kf v156 (ids Ff G157), nds Ff G157 x155.1, osl Kt Vt At, bx b1 37 [.int .i64 a1.Space, .int .u64 a1.Addr, .int .i64 a1.Width, .bool a1.Write, .int .u64 (bitw .and .u64 a1.Value s12)], bx b145 63 [.int .i64 a1.Space, .int .u64 a1.Addr, .int .i64 a1.Width, .bool a1.Write, .int .u64 x164.2, .int .i64 ((gd mapping.zero Ac s15.2).owner), .bool x147, .bool x155.2]]) (fun Q164 hJ164 hR164 hX164 => ?_) (fun a w hJ => ?_)
        ·
         replace H := H164
         refine block_k (fun Q165 hN165 hR165 hX165 hY165 => ?_)
         refine bnd H (fun x166 H166 HO166 => ?_)
         clear H
         refine seq_cut (fun a w => Fr a 144 [(0, .pointer (some ⟨b0, 0, none⟩)), (3, .pointer (some ⟨b1, 0, none⟩)), (6, .pointer (some ⟨Fm.blk (gd ((0, 0) : Nat × Nat) Gc s15.2), 0, none⟩)), (7, .pointer (some ⟨b145, 0, none⟩)), (74, .bool x166)] ∧ St M w0 w [bxs b0 71 [([Va], 1), ([Vb], 1), ([Vc], 1), (List.map Value.bool Ae, 256), ([v156], 1), ([Vt], 1)], osl Km Va (ids Fm Ga), nds Fm Ga Aa, osl Km Vb (ids Fm Gb), nds Fm Gb Ab, osl Km Vc (ids Fm Gc), nds Fm Gc Ac, osl Kf v156 (ids Ff G157), nds Ff G157 x155.1, osl Kt Vt At, bx b1 37 [.int .i64 a1.Space, .int .u64 a1.Addr, .int .i64 a1.Width, .bool a1.Write, .int .u64 (bitw .and .u64 a1.Value s12)], bx b145 63 [.int .i64 a1.Space, .int .u64 a1.Addr, .int .i64 a1.Width, .bool a1.Write, .int .u64 (bitw .and .u64 a1.Value s12), .int .i64 ((gd mapping.zero Ac s15.2).owner), .bool x147, .bool x155.2]]) (fun Q166 hJ166 hR166 hX166 => ?_) (fun a w hJ => ?_)
         ·
          replace H := H166
          refine itt H (fun hc167 H => ?_) (fun hc167 H => ?_)
          ·
           refine region_k (fun K168 hK168 => ?_)
           refine stq hf Z Z Z (ex_fieldAddrB fa_37_3 Z hf Z) fun a hf => stq hf Z Z Z (ex_load sc_4 hf Z (bx_cell (hs.get (i := 10) Z) _ Z)) fun a hf => stq hf Z Z Z (ex_not hf Z) fun a hf => stq hf Z Z Z (ex_move hf Z) fun a hf => ?_
           replace hf := hf.castB (t := 76) Z hc167
           replace hf := hf.castB (t := 77) Z (nbool_f hc167)
           replace hf := hf.castB (t := 78) Z (nbool_f hc167)
           refine stepN hf Z Z Z fun a hf => stepN hf Z Z Z fun a hf => stq hf Z Z Z (ex_pickF hf Z Z) fun a hf => stq hf Z Z Z (ex_assign hf Z) fun a hf => ?_
           refine hK168 _ _ ?_
           have e166 := some_eq H; subst e166
           exact hJ166 _ _ ⟨hf.sub ⟨Z, Z, Z, Z, Z, trivial⟩, hs⟩
          ·
           refine region_k (fun K169 hK169 => ?_)
           refine stq hf Z Z Z (ex_fieldAddrB fa_37_3 Z hf Z) fun a hf => stq hf Z Z Z (ex_load sc_4 hf Z (bx_cell (hs.get (i := 10) Z) _ Z)) fun a hf => stq hf Z Z Z (ex_not hf Z) fun a hf => stq hf Z Z Z (ex_move hf Z) fun a hf => ?_
           replace hf := hf.castB (t := 76) Z (bool_f hc167)
           replace hf := hf.castB (t := 77) Z (nbool_t hc167)
           replace hf := hf.castB (t := 78) Z (nbool_t hc167)
           refine stq hf Z Z Z (ex_fieldAddrB fa_63_3 Z hf Z) fun a hf => stq hf Z Z Z (ex_load sc_4 hf Z (bx_cell (hs.get (i := 11) Z) _ Z)) fun a hf => stq hf Z Z Z (ex_pickT hf Z Z) fun a hf => stq hf Z Z Z (ex_assign hf Z) fun a hf => ?_
           refine hK169 _ _ ?_
           have e166 := some_eq H; subst e166
           exact hJ166 _ _ ⟨hf.sub ⟨Z, Z, Z, Z, Z, trivial⟩, hs⟩
         ·
          obtain ⟨hf, hs⟩ := hJ
          replace H := HO166
          clear HO166
          refine itt H (fun hc170 H => ?_) (fun hc170 H => ?_)
          ·
           replace hf := hf.castB (t := 74) Z hc170
           refine cond_T hf Z ?_
           refine region_k (fun K171 hK171 => ?_)
           refine stq hf Z Z Z (ex_fieldAddrB fa_63_0 Z hf Z) fun a hf => stq hf Z Z Z (ex_fieldAddrB fa_37_4 Z hf Z) fun a hf => ?_
           refine stepS hf Z Z (er_storeB hs (.k (.k (.k (.k (.k (.k (.k (.k (.k (.k (.k (.c .nil)))))))))))) hf Z Z Z sz_22 Z) (fun w hs => ?_)
           refine hK171 _ _ ?_
           refine hN165 _ _ ?_
           replace hs := hs.p11.p11.p11.p11.p11.p11.p11.p11.p11.p11.p11
           have e164 := some_eq H; subst e164
           exact hJ164 _ _ ⟨hf.sub ⟨Z, Z, Z, trivial⟩, hs⟩
          ·
           replace hf := hf.castB (t := 74) Z (bool_f hc170)
           refine cond_F hf Z ?_
           refine bnd H (fun x172 H172 HO172 => ?_)
           clear H
           refine seq_cut (fun a w => Fr a 144 [(0, .pointer (some ⟨b0, 0, none⟩)), (3, .pointer (some ⟨b1, 0, none⟩)), (6, .pointer (some ⟨Fm.blk (gd ((0, 0) : Nat × Nat) Gc s15.2), 0, none⟩)), (7, .pointer (some ⟨b145, 0, none⟩)), (84, .bool x172)] ∧ St M w0 w [bxs b0 71 [([Va], 1), ([Vb], 1), ([Vc], 1), (List.map Value.bool Ae, 256), ([v156], 1), ([Vt], 1)], osl Km Va (ids Fm Ga), nds Fm Ga Aa, osl Km Vb (ids Fm Gb), nds Fm Gb Ab, osl Km Vc (ids Fm Gc), nds Fm Gc Ac, osl Kf v156 (ids Ff G157), nds Ff G157 x155.1, osl Kt Vt At, bx b1 37 [.int .i64 a1.Space, .int .u64 a1.Addr, .int .i64 a1.Width, .bool a1.Write, .int .u64 (bitw .and .u64 a1.Value s12)], bx b145 63 [.int .i64 a1.Space, .int .u64 a1.Addr, .int .i64 a1.Width, .bool a1.Write, .int .u64 (bitw .and .u64 a1.Value s12), .int .i64 ((gd mapping.zero Ac s15.2).owner), .bool x147, .bool x155.2]]) (fun Q172 hJ172 hR172 hX172 => ?_) (fun a w hJ => ?_)
           ·
            replace H := H172
            refine itt H (fun hc173 H => ?_) (fun hc173 H => ?_)
            ·
             refine region_k (fun K174 hK174 => ?_)
             refine stq hf Z Z Z (ex_fieldAddrB fa_37_3 Z hf Z) fun a hf => stq hf Z Z Z (ex_load sc_4 hf Z (bx_cell (hs.get (i := 10) Z) _ Z)) fun a hf => stq hf Z Z Z (ex_not hf Z) fun a hf => stq hf Z Z Z (ex_move hf Z) fun a hf => ?_
             replace hf := hf.castB (t := 86) Z hc173
             replace hf := hf.castB (t := 87) Z (nbool_f hc173)
             replace hf := hf.castB (t := 88) Z (nbool_f hc173)
             refine stepN hf Z Z Z fun a hf => stepN hf Z Z Z fun a hf => stq hf Z Z Z (ex_pickF hf Z Z) fun a hf => stq hf Z Z Z (ex_assign hf Z) fun a hf => ?_
             refine hK174 _ _ ?_
             have e172 := some_eq H; subst e172
             exact hJ172 _ _ ⟨hf.sub ⟨Z, Z, Z, Z, Z, trivial⟩, hs⟩
            ·
             refine region_k (fun K175 hK175 => ?_)
             refine stq hf Z Z Z (ex_fieldAddrB fa_37_3 Z hf Z) fun a hf => stq hf Z Z Z (ex_load sc_4 hf Z (bx_cell (hs.get (i := 10) Z) _ Z)) fun a hf => stq hf Z Z Z (ex_not hf Z) fun a hf => stq hf Z Z Z (ex_move hf Z) fun a hf => ?_
             replace hf := hf.castB (t := 86) Z (bool_f hc173)
             replace hf := hf.castB (t := 87) Z (nbool_t hc173)
             replace hf := hf.castB (t := 88) Z (nbool_t hc173)
             refine stq hf Z Z Z (ex_fieldAddrB fa_63_2 Z hf Z) fun a hf => stq hf Z Z Z (ex_load sc_4 hf Z (bx_cell (hs.get (i := 11) Z) _ Z)) fun a hf => stq hf Z Z Z (ex_pickT hf Z Z) fun a hf => stq hf Z Z Z (ex_assign hf Z) fun a hf => ?_
             refine hK175 _ _ ?_
             have e172 := some_eq H; subst e172
             exact hJ172 _ _ ⟨hf.sub ⟨Z, Z, Z, Z, Z, trivial⟩, hs⟩
           ·
            obtain ⟨hf, hs⟩ := hJ
            replace H := HO172
            clear HO172
            refine itt H (fun hc176 H => ?_) (fun hc176 H => ?_)
            ·
             replace hf := hf.castB (t := 84) Z hc176
             refine cond_T hf Z ?_
             refine bnd H (fun s177 hs177 H => ?_)
             refine region_k (fun K178 hK178 => ?_)
             refine stq hf Z Z Z (ex_move hf Z) fun a hf => stq hf Z Z Z (ex_fieldAddrB fa_37_1 Z hf Z) fun a hf => stq hf Z Z Z (ex_load sc_22 hf Z (bx_cell (hs.get (i := 10) Z) _ Z)) fun a hf => stq hf Z Z Z (ex_fieldAddrB fa_37_2 Z hf Z) fun a hf => stq hf Z Z Z (ex_load sc_3 hf Z (bx_cell (hs.get (i := 10) Z) _ Z)) fun a hf => ?_
             refine stepF hf Z Z Z (ex_call cf_35 hf Z) (iospace_mapping_load.calls k ((gd mapping.zero Ac s15.2).r.Base) ((gd mapping.zero Ac s15.2).r.Len) ((gd mapping.zero Ac s15.2).owner) ((gd mapping.zero Ac s15.2).data) a1.Addr a1.Width (Fm.blk (gd ((0, 0) : Nat × Nat) Gc s15.2)) ((gd ((0, 0) : Nat × Nat) Gc s15.2).2) (hs.enter sN) (Sr.own hs sN (i := 6) Z (fun _ h => nd_bx_ok (F := Fm) h ((0, 0) : Nat × Nat) mapping.zero hb143.1 hb143.2) (nd_bx_fs (F := Fm) (nds_len (hs.get (i := 6) Z)) ((0, 0) : Nat × Nat) mapping.zero hb143.1 hb143.2) (Sr.own hs sN (i := 6) Z (fun _ h => nd_mo_ok (F := Fm) h ((0, 0) : Nat × Nat) mapping.zero hb143.1 hb143.2 0 Z) (nd_mo_fs (F := Fm) (nds_len (hs.get (i := 6) Z)) ((0, 0) : Nat × Nat) mapping.zero hb143.1 hb143.2 0 Z) (Sr.nil _ _))) hs177) (fun v w hR a hf => ?_)
             obtain ⟨rfl, hs'⟩ := hR
             replace hs := hs.step sN hs'
             clear hs'
             refine stq hf Z Z Z (ex_fieldAddrB fa_63_0 Z hf Z) fun a hf => stq hf Z Z Z (ex_fieldAddrB fa_37_4 Z hf Z) fun a hf => ?_
             refine stepS hf Z Z (er_storeB hs (.k (.k (.k (.k (.k (.k (.k (.k (.k (.k (.k (.c .nil)))))))))))) hf Z Z Z sz_22 Z) (fun w hs => ?_)
             refine hK178 _ _ ?_
             refine hN165 _ _ ?_
             replace hs := hs.p11.p11.p11.p11.p11.p11.p11.p11.p11.p11.p11
             have e164 := some_eq H; subst e164
             exact hJ164 _ _ ⟨hf.sub ⟨Z, Z, Z, trivial⟩, hs⟩
            ·
             replace hf := hf.castB (t := 84) Z (bool_f hc176)
             refine cond_F hf Z ?_
             refine seq_reg (fun K179 hK179 => ?_)
             refine stq hf Z Z Z (ex_fieldAddrB fa_37_3 Z hf Z) fun a hf => stq hf Z Z Z (ex_load sc_4 hf Z (bx_cell (hs.get (i := 10) Z) _ Z)) fun a hf => stq hf Z Z Z (ex_not hf Z) fun a hf => stq hf Z Z Z (ex_assign hf Z) fun a hf => ?_
             refine hK179 _ _ ?_
             refine itt H (fun hc180 H => ?_) (fun hc180 H => ?_)
             ·
              replace hf := hf.castB (t := 100) Z (nbool_f hc180)
              refine cond_F hf Z ?_
              refine bnd H (fun x181 H181 HO181 => ?_)
              clear H
              refine seq_cut (fun a w => Fr a 144 [(0, .pointer (some ⟨b0, 0, none⟩)), (3, .pointer (some ⟨b1, 0, none⟩)), (6, .pointer (some ⟨Fm.blk (gd ((0, 0) : Nat × Nat) Gc s15.2), 0, none⟩)), (7, .pointer (some ⟨b145, 0, none⟩)), (109, .bool x181)] ∧ St M w0 w [bxs b0 71 [([Va], 1), ([Vb], 1), ([Vc], 1), (List.map Value.bool Ae, 256), ([v156], 1), ([Vt], 1)], osl Km Va (ids Fm Ga), nds Fm Ga Aa, osl Km Vb (ids Fm Gb), nds Fm Gb Ab, osl Km Vc (ids Fm Gc), nds Fm Gc Ac, osl Kf v156 (ids Ff G157), nds Ff G157 x155.1, osl Kt Vt At, bx b1 37 [.int .i64 a1.Space, .int .u64 a1.Addr, .int .i64 a1.Width, .bool a1.Write, .int .u64 (bitw .and .u64 a1.Value s12)], bx b145 63 [.int .i64 a1.Space, .int .u64 a1.Addr, .int .i64 a1.Width, .bool a1.Write, .int .u64 (bitw .and .u64 a1.Value s12), .int .i64 ((gd mapping.zero Ac s15.2).owner), .bool x147, .bool x155.2]]) (fun Q181 hJ181 hR181 hX181 => ?_) (fun a w hJ => ?_)
              ·
               replace H := H181
               refine itt H (fun hc182 H => ?_) (fun hc182 H => ?_)
               ·
                refine region_k (fun K183 hK183 => ?_)
                refine stq hf Z Z Z (ex_fieldAddrB fa_63_2 Z hf Z) fun a hf => stq hf Z Z Z (ex_load sc_4 hf Z (bx_cell (hs.get (i := 11) Z) _ Z)) fun a hf => stq hf Z Z Z (ex_move hf Z) fun a hf => ?_
                replace hf := hf.castB (t := 102) Z hc180
                replace hf := hf.castB (t := 103) Z (nbool_f hc180)
                replace hf := hf.castB (t := 111) Z hc182
                replace hf := hf.castB (t := 112) Z hc182
                refine stq hf Z Z Z (ex_fieldAddrB fa_63_3 Z hf Z) fun a hf => stq hf Z Z Z (ex_load sc_4 hf Z (bx_cell (hs.get (i := 11) Z) _ Z)) fun a hf => stq hf Z Z Z (ex_not hf Z) fun a hf => stq hf Z Z Z (ex_pickT hf Z Z) fun a hf => stq hf Z Z Z (ex_assign hf Z) fun a hf => ?_
                refine hK183 _ _ ?_
                have e181 := some_eq H; subst e181
                exact hJ181 _ _ ⟨hf.sub ⟨Z, Z, Z, Z, Z, trivial⟩, hs⟩
               ·
                refine region_k (fun K184 hK184 => ?_)
                refine stq hf Z Z Z (ex_fieldAddrB fa_63_2 Z hf Z) fun a hf => stq hf Z Z Z (ex_load sc_4 hf Z (bx_cell (hs.get (i := 11) Z) _ Z)) fun a hf => stq hf Z Z Z (ex_move hf Z) fun a hf => ?_
                replace hf := hf.castB (t := 102) Z hc180
                replace hf := hf.castB (t := 103) Z (nbool_f hc180)
                replace hf := hf.castB (t := 111) Z (bool_f hc182)
                replace hf := hf.castB (t := 112) Z (bool_f hc182)
                refine stepN hf Z Z Z fun a hf => stepN hf Z Z Z fun a hf => stepN hf Z Z Z fun a hf => stq hf Z Z Z (ex_pickF hf Z Z) fun a hf => stq hf Z Z Z (ex_assign hf Z) fun a hf => ?_
                refine hK184 _ _ ?_
                have e181 := some_eq H; subst e181
                exact hJ181 _ _ ⟨hf.sub ⟨Z, Z, Z, Z, Z, trivial⟩, hs⟩
              ·
               obtain ⟨hf, hs⟩ := hJ
               replace H := HO181
               clear HO181
               refine itt H (fun hc185 H => ?_) (fun hc185 H => ?_)
               ·
                replace hf := hf.castB (t := 109) Z hc185
                refine cond_T hf Z ?_
                refine bnd H (fun s187 hs187 H => ?_)
                refine region_k (fun K188 hK188 => ?_)
                refine stq hf Z Z Z (ex_move hf Z) fun a hf => stq hf Z Z Z (ex_fieldAddrB fa_37_1 Z hf Z) fun a hf => stq hf Z Z Z (ex_load sc_22 hf Z (bx_cell (hs.get (i := 10) Z) _ Z)) fun a hf => stq hf Z Z Z (ex_fieldAddrB fa_37_2 Z hf Z) fun a hf => stq hf Z Z Z (ex_load sc_3 hf Z (bx_cell (hs.get (i := 10) Z) _ Z)) fun a hf => stq hf Z Z Z (ex_fieldAddrB fa_37_4 Z hf Z) fun a hf => stq hf Z Z Z (ex_load sc_22 hf Z (bx_cell (hs.get (i := 10) Z) _ Z)) fun a hf => ?_
                replace hs := hs.p6
                have hl186 := nds_len (hs.get (i := 0) Z)
                replace hs := hs.focus (F := Fm) ((0, 0) : Nat × Nat) mapping.zero hb143.1 hb143.2
                replace hs : St M w0 _ [bx (Fm.blk (gd ((0, 0) : Nat × Nat) Gc s15.2)) 80 [.int .u64 ((gd mapping.zero Ac s15.2).r.Base), .int .u64 ((gd mapping.zero Ac s15.2).r.Len), .int .i64 ((gd mapping.zero Ac s15.2).owner), .map (some (gd ((0, 0) : Nat × Nat) Gc s15.2).2)], mp (gd ((0, 0) : Nat × Nat) Gc s15.2).2 .u64 .u8 ((gd mapping.zero Ac s15.2).data), nds Fm (Gc.eraseIdx s15.2.toNat) (Ac.eraseIdx s15.2.toNat), bxs b0 71 [([Va], 1), ([Vb], 1), ([Vc], 1), (List.map Value.bool Ae, 256), ([v156], 1), ([Vt], 1)], osl Km Va (ids Fm Ga), nds Fm Ga Aa, osl Km Vb (ids Fm Gb), nds Fm Gb Ab, osl Km Vc (ids Fm Gc), osl Kf v156 (ids Ff G157), nds Ff G157 x155.1, osl Kt Vt At, bx b1 37 [.int .i64 a1.Space, .int .u64 a1.Addr, .int .i64 a1.Width, .bool a1.Write, .int .u64 (bitw .and .u64 a1.Value s12)], bx b145 63 [.int .i64 a1.Space, .int .u64 a1.Addr, .int .i64 a1.Width, .bool a1.Write, .int .u64 (bitw .and .u64 a1.Value s12), .int .i64 ((gd mapping.zero Ac s15.2).owner), .bool x147, .bool x155.2]] := hs
                refine stepF hf Z Z Z (ex_call cf_36 hf Z) (iospace_mapping_store.calls k ((gd mapping.zero Ac s15.2).r.Base) ((gd mapping.zero Ac s15.2).r.Len) ((gd mapping.zero Ac s15.2).owner) ((gd mapping.zero Ac s15.2).data) a1.Addr a1.Width (bitw .and .u64 a1.Value s12) (Fm.blk (gd ((0, 0) : Nat × Nat) Gc s15.2)) ((gd ((0, 0) : Nat × Nat) Gc s15.2).2) (hs.enter (.c (.c sN))) (Sr.nil _ _) hs187) (fun v w hR a hf => ?_)
                obtain ⟨rfl, hs'⟩ := hR
                replace hs := hs.step (.c (.c sN)) hs'
                clear hs'
                replace hs := hs.p2.p2.p2
                replace hs := St.unfocus (F := Fm) (G := Gc) (L := Ac) (i := s15.2) (g := (gd ((0, 0) : Nat × Nat) Gc s15.2)) (u := (⟨(⟨((gd mapping.zero Ac s15.2).r.Base), ((gd mapping.zero Ac s15.2).r.Len)⟩ : Range), ((gd mapping.zero Ac s15.2).owner), s187⟩ : mapping)) hb143.1 hb143.2 hl186 ((0, 0) : Nat × Nat) Z hs
                refine hK188 _ _ ?_
                refine hN165 _ _ ?_
                replace hs := hs.p11.p11.p11.p11.p11.p5.p11.p11.p11.p11.p11.p11
                have e164 := some_eq H; subst e164
                exact hJ164 _ _ ⟨hf.sub ⟨Z, Z, Z, trivial⟩, hs⟩
               ·
                replace hf := hf.castB (t := 109) Z (bool_f hc185)
                refine cond_F hf Z ?_
                refine wp_skip ?_
                refine hN165 _ _ ?_
                have e164 := some_eq H; subst e164
                exact hJ164 _ _ ⟨hf.sub ⟨Z, Z, Z, trivial⟩, hs⟩
             ·
              replace hf := hf.castB (t := 100) Z (nbool_t hc180)
              refine cond_T hf Z ?_
              refine bnd H (fun s189 hs189 H => ?_)
              refine region_k (fun K190 hK190 => ?_)
              refine stq hf Z Z Z (ex_fieldAddrB fa_37_2 Z hf Z) fun a hf => stq hf Z Z Z (ex_load sc_3 hf Z (bx_cell (hs.get (i := 10) Z) _ Z)) fun a hf => ?_
              refine stepF hf Z Z Z (ex_call cf_31 hf Z) (iospace_mask.calls k a1.Width (hs.enter sN) (Sr.nil _ _) hs189) (fun v w hR a hf => ?_)
              obtain ⟨rfl, hs'⟩ := hR
              replace hs := hs.step sN hs'
              clear hs'
              refine stq hf Z Z Z (ex_fieldAddrB fa_63_0 Z hf Z) fun a hf => stq hf Z Z Z (ex_fieldAddrB fa_37_4 Z hf Z) fun a hf => ?_
              refine stepS hf Z Z (er_storeB hs (.k (.k (.k (.k (.k (.k (.k (.k (.k (.k (.k (.c .nil)))))))))))) hf Z Z Z sz_22 Z) (fun w hs => ?_)
              refine hK190 _ _ ?_
              refine hN165 _ _ ?_
              replace hs := hs.p11.p11.p11.p11.p11.p11.p11.p11.p11.p11.p11
              have e164 := some_eq H; subst e164
              exact hJ164 _ _ ⟨hf.sub ⟨Z, Z, Z, trivial⟩, hs⟩
        ·
         obtain ⟨hf, hs⟩ := hJ
         replace H := HO164
         clear HO164
         refine seq_n (fun Q191 hN191 hR191 hX191 => ?_)
         refine ck_some H (fun hc193 H => ?_)
         refine region_dS fol 8 [(0, .pointer (some ⟨b0, 0, none⟩)), (3, .pointer (some ⟨b1, 0, none⟩)), (7, .pointer (some ⟨b145, 0, none⟩))] [(0, .pointer (some ⟨b0, 0, none⟩)), (1, .pointer (some ⟨b0, 0, none⟩)), (2, .pointer (some ⟨b0, 0, none⟩)), (3, .pointer (some ⟨b0, 260, none⟩)), (4, Vt), (5, .agg #[.int .i64 a1.Space, .int .u64 a1.Addr, .int .i64 a1.Width, .bool a1.Write, .int .u64 x164.2, .int .i64 ((gd mapping.zero Ac s15.2).owner), .bool x147, .bool x155.2])] [6, 7] (fun w => (bxs b0 71 [([Va], 1), ([Vb], 1), ([Vc], 1), (List.map Value.bool Ae, 256), ([v156], 1), ([Vt], 1)]).ok w ∧ (bx b145 63 [.int .i64 a1.Space, .int .u64 a1.Addr, .int .i64 a1.Width, .bool a1.Write, .int .u64 x164.2, .int .i64 ((gd mapping.zero Ac s15.2).owner), .bool x147, .bool x155.2]).ok w ∧ True) hf ⟨Z, Z, Z, trivial⟩ (by kernel_rfl) (by kernel_rfl) Z (by decide) ⟨hs.drew.get (i := 0) Z, hs.drew.get (i := 11) Z, trivial⟩ hs ((.cons (qy Z Z Z Z Z fun hR hf => ex_move hf Z) (.cons (qy Z Z Z Z Z fun hR hf => ex_move hf Z) (.cons (qy Z Z Z Z Z fun hR hf => ex_nilCheck hf Z) (.cons (qy Z Z Z Z Z fun hR hf => ex_fieldAddrB fa_71_3 Z hf Z) (.cons (qy Z Z Z Z Z fun hR hf => ex_load sc_54 hf Z (sb_cell1 (i := 5) (hR.1) Z Z)) (.cons (qy Z Z Z Z Z fun hR hf => ex_loadA (cs := [.int .i64 a1.Space, .int .u64 a1.Addr, .int .i64 a1.Width, .bool a1.Write, .int .u64 x164.2, .int .i64 ((gd mapping.zero Ac s15.2).owner), .bool x147, .bool x155.2]) ag_63 hf Z (bx_cells (hR.2.1) Z)) .nil))))))) (fun K195 hK195 => ?_)
         refine RW.one 6 (by kernel_rfl) (by kernel_rfl) rfl (fun d hd => by cases hd; rfl) [(130, .agg #[.int .i64 a1.Space, .int .u64 a1.Addr, .int .i64 a1.Width, .bool a1.Write, .int .u64 x164.2, .int .i64 ((gd mapping.zero Ac s15.2).owner), .bool x147, .bool x155.2])] ⟨rfl, trivial⟩ (fun a w hR hs hf => ⟨wanted_yes hf rfl, ?_⟩)
         refine estep_v (er_buildSlice (K := Kt) (xs := [(⟨(⟨a1.Space, a1.Addr, a1.Width, a1.Write, x164.2⟩ : Access), ((gd mapping.zero Ac s15.2).owner), x147, x155.2⟩ : Traced)]) hs Try.underlying54 ep_63 Z Z hf Z (.cons Z .nil) Z Z) (fun v192 w hs => ?_)
         refine ⟨[], _, [7], (fun _ => True), hs.fn, Z, Z, ⟨hs.get (i := 1) Z, hs.get (i := 12) Z, trivial⟩, trivial, hs, (by kernel_rfl), .nil, ?_⟩
         refine RW.one 7 (by kernel_rfl) (by kernel_rfl) rfl (fun d hd => by cases hd; rfl) [(129, Vt), (131, v192)] ⟨rfl, rfl, trivial⟩ (fun a w hR hs hf => ⟨wanted_yes hf rfl, ?_⟩)
         refine estep_v (er_append (K := Kt) hs (.k (.k (.k (.k (.k (.k (.k (.k (.k (.k (.c sN))))))))))) (osl_rsl _ (hs.get (i := 0) Z)) Z Try.underlying54 ep_63 hc193 Z hf Z Z) (fun v194 w hs => ?_)
         refine ⟨[], _, [], (fun _ => True), hs.fn, Z, Z, ⟨⟨hs.get (i := 2) Z, hs.get (i := 12) Z, trivial⟩, trivial⟩, trivial, hs, (by kernel_rfl), .nil, ?_⟩
         refine RW.zero (by kernel_rfl) (by kernel_rfl) [(3, .pointer (some ⟨b1, 0, none⟩)), (7, .pointer (some ⟨b145, 0, none⟩)), (125, .pointer (some ⟨b0, 0, none⟩)), (132, v194)] ⟨Z, Z, Z, Z, trivial⟩ (fun a w hR hs hf => ?_)
         refine stq hf Z Z Z (ex_nilCheck hf Z) fun a hf => stq hf Z Z Z (ex_fieldAddrB fa_71_3 Z hf Z) fun a hf => ?_
         refine stepS hf Z Z (er_storeS1 (i := 5) hs (.k (.k (.c sN))) hf Z Z (IsSl.one (rsl_isSl (osl_rsl _ (hs.get (i := 0) Z)))) sz_54 Z Z) (fun w hs => ?_)
         refine hK195 _ _ ?_
         refine hN191 _ _ ?_
         refine seq_n (fun Q196 hN196 hR196 hX196 => ?_)
         refine block_k (fun Q197 hN197 hR197 hX197 hY197 => ?_)
         refine seq_reg (fun K198 hK198 => ?_)
         refine stq hf Z Z Z (ex_fieldAddrB fa_63_3 Z hf Z) fun a hf => stq hf Z Z Z (ex_load sc_4 hf Z (bx_cell (hs.get (i := 12) Z) _ Z)) fun a hf => stq hf Z Z Z (ex_assign hf Z) fun a hf => ?_
         refine hK198 _ _ ?_
         refine itt H (fun hc199 H => ?_) (fun hc199 H => ?_)
         ·
          replace hf := hf.castB (t := 135) Z hc199
          refine cond_T hf Z ?_
          refine seq_reg (fun K200 hK200 => ?_)
          refine stq hf Z Z Z (ex_assign hf Z) fun a hf => stq hf Z Z Z (ex_assign hf Z) fun a hf => ?_
          refine hK200 _ _ ?_
          refine wp_ret ?_
          refine hR197 _ _ ?_
          refine hR196 _ _ ?_
          have eR := some_eq H; subst eR
          replace hs := hs.keep (.k (.k (.d (.k (.k (.k (.k (.k (.k (.k (.k (.d (.d .nil)))))))))))))
          replace hs := hs.p7.p7.p7.p7.p7.p7.p7.p9.p9.p9
          exact ret2 Try.results13 hf Z Z ⟨_, Z, ⟨v156, G157, v194, Z, hs⟩⟩
         ·
          replace hf := hf.castB (t := 135) Z (bool_f hc199)
          refine cond_F hf Z ?_
          refine seq_reg (fun K201 hK201 => ?_)
          refine stq hf Z Z Z (ex_fieldAddrB fa_37_3 Z hf Z) fun a hf => stq hf Z Z Z (ex_load sc_4 hf Z (bx_cell (hs.get (i := 11) Z) _ Z)) fun a hf => stq hf Z Z Z (ex_assign hf Z) fun a hf => ?_
          refine hK201 _ _ ?_
          refine itt H (fun hc202 H => ?_) (fun hc202 H => ?_)
          ·
           replace hf := hf.castB (t := 138) Z hc202
           refine cond_T hf Z ?_
           refine seq_reg (fun K203 hK203 => ?_)
           refine stq hf Z Z Z (ex_assign hf Z) fun a hf => stq hf Z Z Z (ex_assign hf Z) fun a hf => ?_
           refine hK203 _ _ ?_
           refine wp_ret ?_
           refine hR197 _ _ ?_
           refine hR196 _ _ ?_
           have eR := some_eq H; subst eR
           replace hs := hs.keep (.k (.k (.d (.k (.k (.k (.k (.k (.k (.k (.k (.d (.d .nil)))))))))))))
           replace hs := hs.p7.p7.p7.p7.p7.p7.p7.p9.p9.p9
           exact ret2 Try.results13 hf Z Z ⟨_, Z, ⟨v156, G157, v194, Z, hs⟩⟩
          ·
           replace hf := hf.castB (t := 138) Z (bool_f hc202)
           refine cond_F hf Z ?_
           refine wp_skip ?_
           refine hN197 _ _ ?_
           refine hN196 _ _ ?_
           refine seq_reg (fun K204 hK204 => ?_)
           refine stq hf Z Z Z (ex_fieldAddrB fa_63_0 Z hf Z) fun a hf => stq hf Z Z Z (ex_fieldAddrB fa_37_4 Z hf Z) fun a hf => stq hf Z Z Z (ex_load sc_22 hf Z (bx_cell (hs.get (i := 12) Z) _ Z)) fun a hf => stq hf Z Z Z (ex_assign hf Z) fun a hf => stq hf Z Z Z (ex_assign hf Z) fun a hf => ?_
           refine hK204 _ _ ?_
           refine wp_ret ?_
           have eR := some_eq H; subst eR
           replace hs := hs.keep (.k (.k (.d (.k (.k (.k (.k (.k (.k (.k (.k (.d (.d .nil)))))))))))))
           replace hs := hs.p7.p7.p7.p7.p7.p7.p7.p9.p9.p9
           exact ret2 Try.results13 hf Z Z ⟨_, Z, ⟨v156, G157, v194, Z, hs⟩⟩
     ·
      refine region_k (fun K206 hK206 => ?_)
      refine stq hf Z Z Z (ex_move hf Z) fun a hf => stq hf Z Z Z (ex_fieldAddrB fa_37_0 Z hf Z) fun a hf => stq hf Z Z Z (ex_load sc_3 hf Z (bx_cell (hs.get (i := 0) Z) _ Z)) fun a hf => stq hf Z Z Z (ex_fieldAddrB fa_37_1 Z hf Z) fun a hf => stq hf Z Z Z (ex_load sc_22 hf Z (bx_cell (hs.get (i := 0) Z) _ Z)) fun a hf => ?_
      refine stepF hf Z Z Z (ex_call cf_32 hf Z) (iospace_Bus_find.calls k Aa Ab Ac Ae Af At a1.Space a1.Addr b0 Va Ga Vb Gb Vc Gc Vf Gf Vt (hs.enter sN) (Sr.own hs sN (i := 1) Z (fun _ h => h) (fun _ h => h) (Sr.own hs sN (i := 2) Z osl_rsl (fun _ h => h.1) (Sr.own hs sN (i := 3) Z (fun _ h => h) (fun _ h => h) (Sr.own hs sN (i := 4) Z osl_rsl (fun _ h => h.1) (Sr.own hs sN (i := 5) Z (fun _ h => h) (fun _ h => h) (Sr.own hs sN (i := 6) Z osl_rsl (fun _ h => h.1) (Sr.own hs sN (i := 7) Z (fun _ h => h) (fun _ h => h) (Sr.own hs sN (i := 8) Z osl_rsl (fun _ h => h.1) (Sr.own hs sN (i := 9) Z (fun _ h => h) (fun _ h => h) (Sr.own hs sN (i := 10) Z osl_rsl (fun _ h => h.1) (Sr.nil _ _))))))))))) hs15) (fun v w hR a hf => ?_)
      replace hR := Or.resolve_left hR (fun q => by have := q.1; omega)
      replace hR := Or.resolve_left hR (fun q => by have := q.1; omega)
      replace hR := Or.resolve_left hR (fun q => by have := q.1; omega)
      obtain ⟨_, rfl, hs'⟩ := hR
      replace hs := hs.step sN hs'
      clear hs'
      refine stq hf Z Z Z (ex_assign hf Z) fun a hf => ?_
      refine hK206 _ _ ?_
      refine hN14 _ _ ?_
      refine seq_reg (fun K208 hK208 => ?_)
      refine stq hf Z Z Z (ex_loadA (cs := [.int .i64 a1.Space, .int .u64 a1.Addr, .int .i64 a1.Width, .bool a1.Write, .int .u64 (bitw .and .u64 a1.Value s12)]) ag_37 hf Z (bx_cells (hs.get (i := 0) Z) Z)) fun a hf => stq hf Z Z Z (ex_build (cs := [.int .i64 a1.Space, .int .u64 a1.Addr, .int .i64 a1.Width, .bool a1.Write, .int .u64 (bitw .and .u64 a1.Value s12), .int .i64 (-1), .bool false, .bool false]) bt_63 hf Z (.cons Z (.cons Z .nil)) Z) fun a hf => ?_
      refine stepV hf Z Z Z (er_alloc hs ti_63 (cs := [.int .i64 0, .int .u64 0, .int .i64 0, .bool false, .int .u64 0, .int .i64 0, .bool false, .bool false]) Z) (fun v w hR a hf => ?_)
      obtain ⟨b207, rfl, hs⟩ := hR
      refine stepS hf Z Z (er_storeAB (vs := [.int .i64 a1.Space, .int .u64 a1.Addr, .int .i64 a1.Width, .bool a1.Write, .int .u64 (bitw .and .u64 a1.Value s12), .int .i64 (-1), .bool false, .bool false]) (cs' := [.int .i64 a1.Space, .int .u64 a1.Addr, .int .i64 a1.Width, .bool a1.Write, .int .u64 (bitw .and .u64 a1.Value s12), .int .i64 (-1), .bool false, .bool false]) hs (.c sN) sz_63 hf Z Z (all1 Z (all1 Z (all1 Z (all1 Z (all1 Z (all1 Z (all1 Z (all1 Z (all1_nil))))))))) Z Z) (fun w hs => ?_)
      refine hK208 _ _ ?_
      refine seq_n (fun Q209 hN209 hR209 hX209 => ?_)
      refine seq_reg (fun K210 hK210 => ?_)
      refine stq hf Z Z Z (ex_move hf Z) fun a hf => stq hf Z Z Z (ex_nep Try.underlying76 hf Z Z) fun a hf => ?_
      refine hK210 _ _ ?_
      refine cond_F hf Z ?_
      refine wp_skip ?_
      refine hN209 _ _ ?_
      refine seq_reg (fun K211 hK211 => ?_)
      refine stq hf Z Z Z (ex_fieldAddrB fa_63_2 Z hf Z) fun a hf => stq hf Z Z Z (ex_load sc_4 hf Z (bx_cell (hs.get (i := 0) Z) _ Z)) fun a hf => stq hf Z Z Z (ex_move hf Z) fun a hf => stepN hf Z Z Z fun a hf => stepN hf Z Z Z fun a hf => stepN hf Z Z Z fun a hf => stq hf Z Z Z (ex_pickF hf Z Z) fun a hf => stq hf Z Z Z (ex_fieldAddrB fa_63_3 Z hf Z) fun a hf => ?_
      refine stepS hf Z Z (er_storeB hs (.c sN) hf Z Z Z sz_4 Z) (fun w hs => ?_)
      refine hK211 _ _ ?_
      refine bnd H (fun x212 H212 HO212 => ?_)
      clear H
      refine seq_cut (fun a w => Fr a 144 [(0, .pointer (some ⟨b0, 0, none⟩)), (3, .pointer (some ⟨b1, 0, none⟩)), (7, .pointer (some ⟨b207, 0, none⟩))] ∧ St M w0 w [bxs b0 71 [([Va], 1), ([Vb], 1), ([Vc], 1), (List.map Value.bool Ae, 256), ([Vf], 1), ([Vt], 1)], osl Km Va (ids Fm Ga), nds Fm Ga Aa, osl Km Vb (ids Fm Gb), nds Fm Gb Ab, osl Km Vc (ids Fm Gc), nds Fm Gc Ac, osl Kf Vf (ids Ff Gf), nds Ff Gf Af, osl Kt Vt At, bx b1 37 [.int .i64 a1.Space, .int .u64 a1.Addr, .int .i64 a1.Width, .bool a1.Write, .int .u64 (bitw .and .u64 a1.Value s12)], bx b207 63 [.int .i64 a1.Space, .int .u64 a1.Addr, .int .i64 a1.Width, .bool a1.Write, .int .u64 x212, .int .i64 (-1), .bool false, .bool false]]) (fun Q212 hJ212 hR212 hX212 => ?_) (fun a w hJ => ?_)
      ·
       replace H := H212
       refine block_k (fun Q213 hN213 hR213 hX213 hY213 => ?_)
       refine bnd H (fun x214 H214 HO214 => ?_)
       clear H
       refine seq_cut (fun a w => Fr a 144 [(0, .pointer (some ⟨b0, 0, none⟩)), (3, .pointer (some ⟨b1, 0, none⟩)), (6, .pointer none), (7, .pointer (some ⟨b207, 0, none⟩)), (74, .bool false)] ∧ St M w0 w [bxs b0 71 [([Va], 1), ([Vb], 1), ([Vc], 1), (List.map Value.bool Ae, 256), ([Vf], 1), ([Vt], 1)], osl Km Va (ids Fm Ga), nds Fm Ga Aa, osl Km Vb (ids Fm Gb), nds Fm Gb Ab, osl Km Vc (ids Fm Gc), nds Fm Gc Ac, osl Kf Vf (ids Ff Gf), nds Ff Gf Af, osl Kt Vt At, bx b1 37 [.int .i64 a1.Space, .int .u64 a1.Addr, .int .i64 a1.Width, .bool a1.Write, .int .u64 (bitw .and .u64 a1.Value s12)], bx b207 63 [.int .i64 a1.Space, .int .u64 a1.Addr, .int .i64 a1.Width, .bool a1.Write, .int .u64 (bitw .and .u64 a1.Value s12), .int .i64 (-1), .bool false, .bool false]]) (fun Q214 hJ214 hR214 hX214 => ?_) (fun a w hJ => ?_)
       ·
        replace H := H214
        refine itt H (fun hc215 H => ?_) (fun hc215 H => ?_)
        ·
         refine region_k (fun K216 hK216 => ?_)
         refine stq hf Z Z Z (ex_fieldAddrB fa_37_3 Z hf Z) fun a hf => stq hf Z Z Z (ex_load sc_4 hf Z (bx_cell (hs.get (i := 1) Z) _ Z)) fun a hf => stq hf Z Z Z (ex_not hf Z) fun a hf => stq hf Z Z Z (ex_move hf Z) fun a hf => ?_
         replace hf := hf.castB (t := 76) Z hc215
         replace hf := hf.castB (t := 77) Z (nbool_f hc215)
         replace hf := hf.castB (t := 78) Z (nbool_f hc215)
         refine stepN hf Z Z Z fun a hf => stepN hf Z Z Z fun a hf => stq hf Z Z Z (ex_pickF hf Z Z) fun a hf => stq hf Z Z Z (ex_assign hf Z) fun a hf => ?_
         refine hK216 _ _ ?_
         replace hs := hs.p1.p11.p11.p11.p11.p11.p11.p11.p11.p11.p11
         have e214 := some_eq H; subst e214
         exact hJ214 _ _ ⟨hf.sub ⟨Z, Z, Z, Z, Z, trivial⟩, hs⟩
        ·
         refine region_k (fun K217 hK217 => ?_)
         refine stq hf Z Z Z (ex_fieldAddrB fa_37_3 Z hf Z) fun a hf => stq hf Z Z Z (ex_load sc_4 hf Z (bx_cell (hs.get (i := 1) Z) _ Z)) fun a hf => stq hf Z Z Z (ex_not hf Z) fun a hf => stq hf Z Z Z (ex_move hf Z) fun a hf => ?_
         replace hf := hf.castB (t := 76) Z (bool_f hc215)
         replace hf := hf.castB (t := 77) Z (nbool_t hc215)
         replace hf := hf.castB (t := 78) Z (nbool_t hc215)
         refine stq hf Z Z Z (ex_fieldAddrB fa_63_3 Z hf Z) fun a hf => stq hf Z Z Z (ex_load sc_4 hf Z (bx_cell (hs.get (i := 0) Z) _ Z)) fun a hf => stq hf Z Z Z (ex_pickT hf Z Z) fun a hf => stq hf Z Z Z (ex_assign hf Z) fun a hf => ?_
         refine hK217 _ _ ?_
         replace hs := hs.p1.p11.p11.p11.p11.p11.p11.p11.p11.p11.p11
         have e214 := some_eq H; subst e214
         exact hJ214 _ _ ⟨hf.sub ⟨Z, Z, Z, Z, Z, trivial⟩, hs⟩
       ·
        obtain ⟨hf, hs⟩ := hJ
        replace H := HO214
        clear HO214
        refine cond_F hf Z ?_
        refine bnd H (fun x218 H218 HO218 => ?_)
        clear H
        refine seq_cut (fun a w => Fr a 144 [(0, .pointer (some ⟨b0, 0, none⟩)), (3, .pointer (some ⟨b1, 0, none⟩)), (6, .pointer none), (7, .pointer (some ⟨b207, 0, none⟩)), (84, .bool false)] ∧ St M w0 w [bxs b0 71 [([Va], 1), ([Vb], 1), ([Vc], 1), (List.map Value.bool Ae, 256), ([Vf], 1), ([Vt], 1)], osl Km Va (ids Fm Ga), nds Fm Ga Aa, osl Km Vb (ids Fm Gb), nds Fm Gb Ab, osl Km Vc (ids Fm Gc), nds Fm Gc Ac, osl Kf Vf (ids Ff Gf), nds Ff Gf Af, osl Kt Vt At, bx b1 37 [.int .i64 a1.Space, .int .u64 a1.Addr, .int .i64 a1.Width, .bool a1.Write, .int .u64 (bitw .and .u64 a1.Value s12)], bx b207 63 [.int .i64 a1.Space, .int .u64 a1.Addr, .int .i64 a1.Width, .bool a1.Write, .int .u64 (bitw .and .u64 a1.Value s12), .int .i64 (-1), .bool false, .bool false]]) (fun Q218 hJ218 hR218 hX218 => ?_) (fun a w hJ => ?_)
        ·
         replace H := H218
         refine itt H (fun hc219 H => ?_) (fun hc219 H => ?_)
         ·
          refine region_k (fun K220 hK220 => ?_)
          refine stq hf Z Z Z (ex_fieldAddrB fa_37_3 Z hf Z) fun a hf => stq hf Z Z Z (ex_load sc_4 hf Z (bx_cell (hs.get (i := 10) Z) _ Z)) fun a hf => stq hf Z Z Z (ex_not hf Z) fun a hf => stq hf Z Z Z (ex_move hf Z) fun a hf => ?_
          replace hf := hf.castB (t := 86) Z hc219
          replace hf := hf.castB (t := 87) Z (nbool_f hc219)
          replace hf := hf.castB (t := 88) Z (nbool_f hc219)
          refine stepN hf Z Z Z fun a hf => stepN hf Z Z Z fun a hf => stq hf Z Z Z (ex_pickF hf Z Z) fun a hf => stq hf Z Z Z (ex_assign hf Z) fun a hf => ?_
          refine hK220 _ _ ?_
          have e218 := some_eq H; subst e218
          exact hJ218 _ _ ⟨hf.sub ⟨Z, Z, Z, Z, Z, trivial⟩, hs⟩
         ·
          refine region_k (fun K221 hK221 => ?_)
          refine stq hf Z Z Z (ex_fieldAddrB fa_37_3 Z hf Z) fun a hf => stq hf Z Z Z (ex_load sc_4 hf Z (bx_cell (hs.get (i := 10) Z) _ Z)) fun a hf => stq hf Z Z Z (ex_not hf Z) fun a hf => stq hf Z Z Z (ex_move hf Z) fun a hf => ?_
          replace hf := hf.castB (t := 86) Z (bool_f hc219)
          replace hf := hf.castB (t := 87) Z (nbool_t hc219)
          replace hf := hf.castB (t := 88) Z (nbool_t hc219)
          refine stq hf Z Z Z (ex_fieldAddrB fa_63_2 Z hf Z) fun a hf => stq hf Z Z Z (ex_load sc_4 hf Z (bx_cell (hs.get (i := 11) Z) _ Z)) fun a hf => stq hf Z Z Z (ex_pickT hf Z Z) fun a hf => stq hf Z Z Z (ex_assign hf Z) fun a hf => ?_
          refine hK221 _ _ ?_
          have e218 := some_eq H; subst e218
          exact hJ218 _ _ ⟨hf.sub ⟨Z, Z, Z, Z, Z, trivial⟩, hs⟩
        ·
         obtain ⟨hf, hs⟩ := hJ
         replace H := HO218
         clear HO218
         refine cond_F hf Z ?_
         refine seq_reg (fun K222 hK222 => ?_)
         refine stq hf Z Z Z (ex_fieldAddrB fa_37_3 Z hf Z) fun a hf => stq hf Z Z Z (ex_load sc_4 hf Z (bx_cell (hs.get (i := 10) Z) _ Z)) fun a hf => stq hf Z Z Z (ex_not hf Z) fun a hf => stq hf Z Z Z (ex_assign hf Z) fun a hf => ?_
         refine hK222 _ _ ?_
         refine itt H (fun hc223 H => ?_) (fun hc223 H => ?_)
         ·
          replace hf := hf.castB (t := 100) Z (nbool_f hc223)
          refine cond_F hf Z ?_
          refine seq_reg (fun K224 hK224 => ?_)
          refine stq hf Z Z Z (ex_fieldAddrB fa_63_2 Z hf Z) fun a hf => stq hf Z Z Z (ex_load sc_4 hf Z (bx_cell (hs.get (i := 11) Z) _ Z)) fun a hf => stq hf Z Z Z (ex_move hf Z) fun a hf => stepN hf Z Z Z fun a hf => stepN hf Z Z Z fun a hf => stepN hf Z Z Z fun a hf => stq hf Z Z Z (ex_pickF hf Z Z) fun a hf => stq hf Z Z Z (ex_assign hf Z) fun a hf => ?_
          refine hK224 _ _ ?_
          refine cond_F hf Z ?_
          refine wp_skip ?_
          refine hN213 _ _ ?_
          have e212 := some_eq H; subst e212
          exact hJ212 _ _ ⟨hf.sub ⟨Z, Z, Z, trivial⟩, hs⟩
         ·
          replace hf := hf.castB (t := 100) Z (nbool_t hc223)
          refine cond_T hf Z ?_
          refine bnd H (fun s225 hs225 H => ?_)
          refine region_k (fun K226 hK226 => ?_)
          refine stq hf Z Z Z (ex_fieldAddrB fa_37_2 Z hf Z) fun a hf => stq hf Z Z Z (ex_load sc_3 hf Z (bx_cell (hs.get (i := 10) Z) _ Z)) fun a hf => ?_
          refine stepF hf Z Z Z (ex_call cf_31 hf Z) (iospace_mask.calls k a1.Width (hs.enter sN) (Sr.nil _ _) hs225) (fun v w hR a hf => ?_)
          obtain ⟨rfl, hs'⟩ := hR
          replace hs := hs.step sN hs'
          clear hs'
          refine stq hf Z Z Z (ex_fieldAddrB fa_63_0 Z hf Z) fun a hf => stq hf Z Z Z (ex_fieldAddrB fa_37_4 Z hf Z) fun a hf => ?_
          refine stepS hf Z Z (er_storeB hs (.k (.k (.k (.k (.k (.k (.k (.k (.k (.k (.k (.c .nil)))))))))))) hf Z Z Z sz_22 Z) (fun w hs => ?_)
          refine hK226 _ _ ?_
          refine hN213 _ _ ?_
          replace hs := hs.p11.p11.p11.p11.p11.p11.p11.p11.p11.p11.p11
          have e212 := some_eq H; subst e212
          exact hJ212 _ _ ⟨hf.sub ⟨Z, Z, Z, trivial⟩, hs⟩
      ·
       obtain ⟨hf, hs⟩ := hJ
       replace H := HO212
       clear HO212
       refine seq_n (fun Q227 hN227 hR227 hX227 => ?_)
       refine ck_some H (fun hc229 H => ?_)
       refine region_dS fol 8 [(0, .pointer (some ⟨b0, 0, none⟩)), (3, .pointer (some ⟨b1, 0, none⟩)), (7, .pointer (some ⟨b207, 0, none⟩))] [(0, .pointer (some ⟨b0, 0, none⟩)), (1, .pointer (some ⟨b0, 0, none⟩)), (2, .pointer (some ⟨b0, 0, none⟩)), (3, .pointer (some ⟨b0, 260, none⟩)), (4, Vt), (5, .agg #[.int .i64 a1.Space, .int .u64 a1.Addr, .int .i64 a1.Width, .bool a1.Write, .int .u64 x212, .int .i64 (-1), .bool false, .bool false])] [6, 7] (fun w => (bxs b0 71 [([Va], 1), ([Vb], 1), ([Vc], 1), (List.map Value.bool Ae, 256), ([Vf], 1), ([Vt], 1)]).ok w ∧ (bx b207 63 [.int .i64 a1.Space, .int .u64 a1.Addr, .int .i64 a1.Width, .bool a1.Write, .int .u64 x212, .int .i64 (-1), .bool false, .bool false]).ok w ∧ True) hf ⟨Z, Z, Z, trivial⟩ (by kernel_rfl) (by kernel_rfl) Z (by decide) ⟨hs.drew.get (i := 0) Z, hs.drew.get (i := 11) Z, trivial⟩ hs ((.cons (qy Z Z Z Z Z fun hR hf => ex_move hf Z) (.cons (qy Z Z Z Z Z fun hR hf => ex_move hf Z) (.cons (qy Z Z Z Z Z fun hR hf => ex_nilCheck hf Z) (.cons (qy Z Z Z Z Z fun hR hf => ex_fieldAddrB fa_71_3 Z hf Z) (.cons (qy Z Z Z Z Z fun hR hf => ex_load sc_54 hf Z (sb_cell1 (i := 5) (hR.1) Z Z)) (.cons (qy Z Z Z Z Z fun hR hf => ex_loadA (cs := [.int .i64 a1.Space, .int .u64 a1.Addr, .int .i64 a1.Width, .bool a1.Write, .int .u64 x212, .int .i64 (-1), .bool false, .bool false]) ag_63 hf Z (bx_cells (hR.2.1) Z)) .nil))))))) (fun K231 hK231 => ?_)
       refine RW.one 6 (by kernel_rfl) (by kernel_rfl) rfl (fun d hd => by cases hd; rfl) [(130, .agg #[.int .i64 a1.Space, .int .u64 a1.Addr, .int .i64 a1.Width, .bool a1.Write, .int .u64 x212, .int .i64 (-1), .bool false, .bool false])] ⟨rfl, trivial⟩ (fun a w hR hs hf => ⟨wanted_yes hf rfl, ?_⟩)
       refine estep_v (er_buildSlice (K := Kt) (xs := [(⟨(⟨a1.Space, a1.Addr, a1.Width, a1.Write, x212⟩ : Access), (-1), false, false⟩ : Traced)]) hs Try.underlying54 ep_63 Z Z hf Z (.cons Z .nil) Z Z) (fun v228 w hs => ?_)
       refine ⟨[], _, [7], (fun _ => True), hs.fn, Z, Z, ⟨hs.get (i := 1) Z, hs.get (i := 12) Z, trivial⟩, trivial, hs, (by kernel_rfl), .nil, ?_⟩
       refine RW.one 7 (by kernel_rfl) (by kernel_rfl) rfl (fun d hd => by cases hd; rfl) [(129, Vt), (131, v228)] ⟨rfl, rfl, trivial⟩ (fun a w hR hs hf => ⟨wanted_yes hf rfl, ?_⟩)
       refine estep_v (er_append (K := Kt) hs (.k (.k (.k (.k (.k (.k (.k (.k (.k (.k (.c sN))))))))))) (osl_rsl _ (hs.get (i := 0) Z)) Z Try.underlying54 ep_63 hc229 Z hf Z Z) (fun v230 w hs => ?_)
       refine ⟨[], _, [], (fun _ => True), hs.fn, Z, Z, ⟨⟨hs.get (i := 2) Z, hs.get (i := 12) Z, trivial⟩, trivial⟩, trivial, hs, (by kernel_rfl), .nil, ?_⟩
       refine RW.zero (by kernel_rfl) (by kernel_rfl) [(3, .pointer (some ⟨b1, 0, none⟩)), (7, .pointer (some ⟨b207, 0, none⟩)), (125, .pointer (some ⟨b0, 0, none⟩)), (132, v230)] ⟨Z, Z, Z, Z, trivial⟩ (fun a w hR hs hf => ?_)
       refine stq hf Z Z Z (ex_nilCheck hf Z) fun a hf => stq hf Z Z Z (ex_fieldAddrB fa_71_3 Z hf Z) fun a hf => ?_
       refine stepS hf Z Z (er_storeS1 (i := 5) hs (.k (.k (.c sN))) hf Z Z (IsSl.one (rsl_isSl (osl_rsl _ (hs.get (i := 0) Z)))) sz_54 Z Z) (fun w hs => ?_)
       refine hK231 _ _ ?_
       refine hN227 _ _ ?_
       refine seq_n (fun Q232 hN232 hR232 hX232 => ?_)
       refine block_k (fun Q233 hN233 hR233 hX233 hY233 => ?_)
       refine seq_reg (fun K234 hK234 => ?_)
       refine stq hf Z Z Z (ex_fieldAddrB fa_63_3 Z hf Z) fun a hf => stq hf Z Z Z (ex_load sc_4 hf Z (bx_cell (hs.get (i := 12) Z) _ Z)) fun a hf => stq hf Z Z Z (ex_assign hf Z) fun a hf => ?_
       refine hK234 _ _ ?_
       refine cond_F hf Z ?_
       refine seq_reg (fun K235 hK235 => ?_)
       refine stq hf Z Z Z (ex_fieldAddrB fa_37_3 Z hf Z) fun a hf => stq hf Z Z Z (ex_load sc_4 hf Z (bx_cell (hs.get (i := 11) Z) _ Z)) fun a hf => stq hf Z Z Z (ex_assign hf Z) fun a hf => ?_
       refine hK235 _ _ ?_
       refine itt H (fun hc236 H => ?_) (fun hc236 H => ?_)
       ·
        replace hf := hf.castB (t := 138) Z hc236
        refine cond_T hf Z ?_
        refine seq_reg (fun K237 hK237 => ?_)
        refine stq hf Z Z Z (ex_assign hf Z) fun a hf => stq hf Z Z Z (ex_assign hf Z) fun a hf => ?_
        refine hK237 _ _ ?_
        refine wp_ret ?_
        refine hR233 _ _ ?_
        refine hR232 _ _ ?_
        have eR := some_eq H; subst eR
        replace hs := hs.keep (.k (.k (.d (.k (.k (.k (.k (.k (.k (.k (.k (.d (.d .nil)))))))))))))
        replace hs := hs.p7.p7.p7.p7.p7.p7.p7.p9.p9.p9
        exact ret2 Try.results13 hf Z Z ⟨_, Z, ⟨Vf, Gf, v230, Z, hs⟩⟩
       ·
        replace hf := hf.castB (t := 138) Z (bool_f hc236)
        refine cond_F hf Z ?_
        refine wp_skip ?_
        refine hN233 _ _ ?_
        refine hN232 _ _ ?_
        refine seq_reg (fun K238 hK238 => ?_)
        refine stq hf Z Z Z (ex_fieldAddrB fa_63_0 Z hf Z) fun a hf => stq hf Z Z Z (ex_fieldAddrB fa_37_4 Z hf Z) fun a hf => stq hf Z Z Z (ex_load sc_22 hf Z (bx_cell (hs.get (i := 12) Z) _ Z)) fun a hf => stq hf Z Z Z (ex_assign hf Z) fun a hf => stq hf Z Z Z (ex_assign hf Z) fun a hf => ?_
        refine hK238 _ _ ?_
        refine wp_ret ?_
        have eR := some_eq H; subst eR
        replace hs := hs.keep (.k (.k (.d (.k (.k (.k (.k (.k (.k (.k (.k (.d (.d .nil)))))))))))))
        replace hs := hs.p7.p7.p7.p7.p7.p7.p7.p9.p9.p9
        exact ret2 Try.results13 hf Z Z ⟨_, Z, ⟨Vf, Gf, v230, Z, hs⟩⟩
 ·
  replace hf := hf.castB (t := 8) Z (nbool_t hc7)
  refine cond_T hf Z ?_
  refine seq_reg (fun K239 hK239 => ?_)
  refine stq hf Z Z Z (ex_assign hf Z) fun a hf => stq hf Z Z Z (ex_assign hf Z) fun a hf => ?_
  refine hK239 _ _ ?_
  refine wp_ret ?_
  refine hR4 _ _ ?_
  refine hR3 _ _ ?_
  have eR := some_eq H; subst eR
  replace hs := hs.keep (.d sN)
  replace hs := hs.p6.p6.p6.p6.p6.p6.p9.p9.p9.p9
  exact ret2 Try.results13 hf Z Z ⟨_, Z, ⟨Vf, Gf, Vt, Z, hs⟩⟩

end Go.Proofs.Ytigadacjaglfeaa.X
