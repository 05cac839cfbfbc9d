/- Each function of the machine comes to what its pure function says. -/
import Derived.Test.YtigadacjaglfeaaFc1
import Derived.Test.YtigadacjaglfeaaIns
import Derived.Test.YtigadacjaglfeaaFb
namespace Go.Proofs.Ytigadacjaglfeaa.X
open Go Go.RowKit Go.Sx
set_option linter.unusedVariables false

set_option maxRecDepth 100000 in
theorem iospace_Bus_fails.calls {M : Nat → Prop} {w0 : World} (k : Nat) (Aa : (List mapping)) (Ab : (List mapping)) (Ac : (List mapping)) (Ae : (List Bool)) (Af : (List fault)) (At : (List Traced)) (a1 : Access) (b0 : Nat) (Va : Value) (Ga : (List (Nat × Nat))) (Vb : Value) (Gb : (List (Nat × Nat))) (Vc : Value) (Gc : (List (Nat × Nat))) (Vf : Value) (Gf : (List Nat)) (Vt : Value) {r : (List fault) × Bool} (hs : St M w0 w0 [bxs b0 71 [([Va], 1), ([Vb], 1), ([Vc], 1), (List.map Value.bool Ae, 256), ([Vf], 1), ([Vt], 1)], osl Km Va (ids Fm Ga), nds Fm Ga Aa, osl Km Vb (ids Fm Gb), nds Fm Gb Ab, osl Km Vc (ids Fm Gc), nds Fm Gc Ac, osl Kf Vf (ids Ff Gf), nds Ff Gf Af, osl Kt Vt At]) (hr : Sr M w0 [])
  (h : iospace_Bus_fails.f k Aa Ab Ac Ae Af At a1 = some r) : Calls Try.prog 34 #[.pointer (some ⟨b0, 0, none⟩), .agg #[.int .i64 a1.Space, .int .u64 a1.Addr, .int .i64 a1.Width, .bool a1.Write, .int .u64 a1.Value]] w0 fun e w => ∃ v, e = .returned v ∧ (∃ (g0 : Value) (g1 : List Nat), .bool r.2 = v ∧ St M w0 w [bxs b0 71 [([Va], 1), ([Vb], 1), ([Vc], 1), (List.map Value.bool Ae, 256), ([g0], 1), ([Vt], 1)], osl Kf g0 (ids Ff g1), nds Ff g1 r.1, osl Km Va (ids Fm Ga), nds Fm Ga Aa, osl Km Vb (ids Fm Gb), nds Fm Gb Ab, osl Km Vc (ids Fm Gc), nds Fm Gc Ac, osl Kt Vt At]) := by
 have H := (iospace_Bus_fails.f.eq_1 ..).symm.trans h
 clear h
 refine enter Try.func34 Z Try.ntmps34 Z (fun a hf => ?_)
 refine seq_reg (fun K2 hK2 => ?_)
 refine stepV hf Z Z Z (er_box (cs := [.int .i64 a1.Space, .int .u64 a1.Addr, .int .i64 a1.Width, .bool a1.Write, .int .u64 a1.Value]) hs hf Z Z) (fun v w hR a hf => ?_)
 obtain ⟨b1, rfl, hs⟩ := hR
 refine stq hf Z Z Z (ex_assign hf Z) fun a hf => ?_
 refine hK2 _ _ ?_
 refine seq_reg (fun K4 hK4 => ?_)
 refine stq hf Z Z Z (ex_fieldAddrB fa_37_1 Z hf Z) fun a hf => stq hf Z Z Z (ex_load sc_22 hf Z (bx_cell (hs.get (i := 0) Z) _ Z)) fun a hf => stq hf Z Z Z (ex_fieldAddrB fa_37_2 Z hf Z) fun a hf => stq hf Z Z Z (ex_load sc_3 hf Z (bx_cell (hs.get (i := 0) Z) _ Z)) fun a hf => stq hf Z Z Z (ex_conv Try.underlying3 Try.underlying22 hf Z) fun a hf => stq hf Z Z Z (ex_build (cs := [.int .u64 a1.Addr, .int .u64 (IntKind.u64.wrap a1.Width)]) bt_32 hf Z (.cons Z (.cons Z .nil)) Z) fun a hf => ?_
 refine stepV hf Z Z Z (er_alloc hs ti_32 (cs := [.int .u64 0, .int .u64 0]) Z) (fun v w hR a hf => ?_)
 obtain ⟨b3, rfl, hs⟩ := hR
 refine stepS hf Z Z (er_storeAB (vs := [.int .u64 a1.Addr, .int .u64 (IntKind.u64.wrap a1.Width)]) (cs' := [.int .u64 a1.Addr, .int .u64 (IntKind.u64.wrap a1.Width)]) hs (.c sN) sz_32 hf Z Z (all1 Z (all1 Z (all1_nil))) Z Z) (fun w hs => ?_)
 refine hK4 _ _ ?_
 refine bnd H (fun s5 hs5 H => ?_)
 refine seq_reg (fun K6 hK6 => ?_)
 refine stq hf Z Z Z (ex_move hf Z) fun a hf => stq hf Z Z Z (ex_nilCheck hf Z) fun a hf => stq hf Z Z Z (ex_fieldAddrB fa_71_2 Z hf Z) fun a hf => stq hf Z Z Z (ex_load sc_69 hf Z (sb_cell1 (i := 4) (hs.get (i := 2) Z) Z Z)) fun a hf => stq hf Z Z Z (ex_makeFunc hf Z) fun a hf => ?_
 refine stepF hf Z Z Z (ex_call cf_52 hf Z) (slices_IndexFunc_iospace_fault_iospace_fault__fails_1.calls k Af a1 (⟨a1.Addr, (IntKind.u64.wrap a1.Width)⟩ : Range) Vf Gf b1 b3 (hs.enter sN) (Sr.own hs sN (i := 9) Z osl_rsl (fun _ h => h.1) (Sr.own hs sN (i := 10) Z (fun _ h => h) (fun _ h => h) (Sr.own hs sN (i := 1) Z (fun _ h => h) (fun _ h => h) (Sr.own hs sN (i := 0) Z (fun _ h => h) (fun _ h => h) (Sr.nil _ _))))) hs5) (fun v w hR a hf => ?_)
 obtain ⟨rfl, hs'⟩ := hR
 replace hs := hs.step sN hs'
 clear hs'
 refine stq hf Z Z Z (ex_assign hf Z) fun a hf => ?_
 refine hK6 _ _ ?_
 refine seq_n (fun Q7 hN7 hR7 hX7 => ?_)
 refine seq_reg (fun K8 hK8 => ?_)
 refine stq hf Z Z Z (ex_move hf Z) fun a hf => stq hf Z Z Z (ex_lss hf Z Z) fun a hf => ?_
 refine hK8 _ _ ?_
 refine itt H (fun hc9 H => ?_) (fun hc9 H => ?_)
 ·
  replace hf := hf.castB (t := 20) Z (dec_t hc9)
  refine cond_T hf Z ?_
  refine seq_reg (fun K10 hK10 => ?_)
  refine stq hf Z Z Z (ex_assign hf Z) fun a hf => ?_
  refine hK10 _ _ ?_
  refine wp_ret ?_
  refine hR7 _ _ ?_
  have eR := some_eq H; subst eR
  replace hs := hs.keep (.d (.d sN))
  replace hs := hs.p9.p7.p7.p7.p7.p7.p7.p9.p9.p9
  exact ret1 Try.results34 hf Z ⟨_, Z, ⟨Vf, Gf, Z, hs⟩⟩
 ·
  replace hf := hf.castB (t := 20) Z (dec_f hc9)
  refine cond_F hf Z ?_
  refine wp_skip ?_
  refine hN7 _ _ ?_
  refine bnd H (fun x11 H11 HO11 => ?_)
  clear H
  refine seq_cut (fun a w => ∃ (v12 : Value) (G13 : List Nat), Fr a 56 [] ∧ St M w0 w [bxs b0 71 [([Va], 1), ([Vb], 1), ([Vc], 1), (List.map Value.bool Ae, 256), ([v12], 1), ([Vt], 1)], osl Km Va (ids Fm Ga), nds Fm Ga Aa, osl Km Vb (ids Fm Gb), nds Fm Gb Ab, osl Km Vc (ids Fm Gc), nds Fm Gc Ac, osl Kf v12 (ids Ff G13), nds Ff G13 x11, osl Kt Vt At]) (fun Q11 hJ11 hR11 hX11 => ?_) (fun a w hJ => ?_)
  ·
   replace H := H11
   refine ck_some H (fun hc14 H => ?_)
   refine seq_reg (fun K15 hK15 => ?_)
   refine stq hf Z Z Z (ex_move hf Z) fun a hf => stq hf Z Z Z (ex_nilCheck hf Z) fun a hf => stq hf Z Z Z (ex_fieldAddrB fa_71_2 Z hf Z) fun a hf => stq hf Z Z Z (ex_load sc_69 hf Z (sb_cell1 (i := 4) (hs.get (i := 2) Z) Z Z)) fun a hf => stq hf Z Z Z (ex_move hf Z) fun a hf => stq hf Z Z Z (ex_indexAddr sa_69 (ids_isSl (osl_rsl _ (hs.get (i := 9) Z)) (hs.get (i := 10) Z)) hc14.1 hc14.2 hf Z Z) fun a hf => stq hf Z Z Z (ex_load sc_88 hf Z (ids_cell (F := Ff) (osl_rsl _ (hs.get (i := 9) Z)) (hs.get (i := 10) Z) (0 : Nat) hc14.1 hc14.2)) fun a hf => stq hf Z Z Z (ex_nilCheck hf Z) fun a hf => stq hf Z Z Z (ex_fieldAddrB fa_90_2 Z hf Z) fun a hf => stq hf Z Z Z (ex_load sc_3 hf Z (nd_cell (F := Ff) (hs.get (i := 10) Z) (0 : Nat) fault.zero hc14.1 hc14.2 3 Z)) fun a hf => stq hf Z Z Z (ex_sub hf Z Z) fun a hf => stq hf Z Z Z (ex_nilCheck hf Z) fun a hf => stq hf Z Z Z (ex_fieldAddrB fa_90_2 Z hf Z) fun a hf => ?_
   refine stepS hf Z Z (er_storeN (F := Ff) (g0 := (0 : Nat)) (z0 := fault.zero) (x' := (⟨((gd fault.zero Af s5).space), (⟨((gd fault.zero Af s5).r.Base), ((gd fault.zero Af s5).r.Len)⟩ : Range), (IntKind.i64.wrap (((gd fault.zero Af s5).n) - 1))⟩ : fault)) (j := 3) hs (.k (.k (.k (.k (.k (.k (.k (.k (.k (.k (.c sN))))))))))) hc14.1 hc14.2 hf Z Z Z sz_3 Z Z Z) (fun w hs => ?_)
   refine hK15 _ _ ?_
   refine ck_some H (fun hc16 H => ?_)
   refine seq_reg (fun K17 hK17 => ?_)
   refine stq hf Z Z Z (ex_move hf Z) fun a hf => stq hf Z Z Z (ex_nilCheck hf Z) fun a hf => stq hf Z Z Z (ex_fieldAddrB fa_71_2 Z hf Z) fun a hf => stq hf Z Z Z (ex_load sc_69 hf Z (sb_cell1 (i := 4) (hs.get (i := 3) Z) Z Z)) fun a hf => stq hf Z Z Z (ex_move hf Z) fun a hf => stq hf Z Z Z (ex_indexAddr sa_69 (ids_isSl (osl_rsl _ (hs.get (i := 10) Z)) (hs.get (i := 0) Z)) hc16.1 hc16.2 hf Z Z) fun a hf => stq hf Z Z Z (ex_load sc_88 hf Z (ids_cell (F := Ff) (osl_rsl _ (hs.get (i := 10) Z)) (hs.get (i := 0) Z) (0 : Nat) hc16.1 hc16.2)) fun a hf => stq hf Z Z Z (ex_nilCheck hf Z) fun a hf => stq hf Z Z Z (ex_fieldAddrB fa_90_2 Z hf Z) fun a hf => stq hf Z Z Z (ex_load sc_3 hf Z (nd_cell (F := Ff) (hs.get (i := 0) Z) (0 : Nat) fault.zero hc16.1 hc16.2 3 Z)) fun a hf => stq hf Z Z Z (ex_eql hf Z Z) fun a hf => ?_
   refine hK17 _ _ ?_
   refine itt H (fun hc18 H => ?_) (fun hc18 H => ?_)
   ·
    replace hf := hf.castB (t := 44) Z (dec_t hc18)
    refine cond_T hf Z ?_
    refine ck_some H (fun hc19 H => ?_)
    refine region_k (fun K21 hK21 => ?_)
    refine stq hf Z Z Z (ex_move hf Z) fun a hf => stq hf Z Z Z (ex_move hf Z) fun a hf => stq hf Z Z Z (ex_nilCheck hf Z) fun a hf => stq hf Z Z Z (ex_fieldAddrB fa_71_2 Z hf Z) fun a hf => stq hf Z Z Z (ex_load sc_69 hf Z (sb_cell1 (i := 4) (hs.get (i := 3) Z) Z Z)) fun a hf => stq hf Z Z Z (ex_move hf Z) fun a hf => stq hf Z Z Z (ex_move hf Z) fun a hf => stq hf Z Z Z (ex_add hf Z Z) fun a hf => ?_
    refine stepF hf Z Z Z (ex_call cf_54 hf Z) (delete_69.calls (ids Ff Gf) s5 (IntKind.i64.wrap (s5 + 1)) Vf (hs.enter (.k (.k (.k (.k (.k (.k (.k (.k (.k (.k (.c sN)))))))))))) (delete_nd (F := Ff) (L := (Af.set s5.toNat (⟨((gd fault.zero Af s5).space), (⟨((gd fault.zero Af s5).r.Base), ((gd fault.zero Af s5).r.Len)⟩ : Range), (IntKind.i64.wrap (((gd fault.zero Af s5).n) - 1))⟩ : fault))) (hs.get (i := 0) Z) hc19)) (fun v w hR a hf => ?_)
    obtain ⟨v20, rfl, hs'⟩ := hR
    replace hs := hs.step (.k (.k (.k (.k (.k (.k (.k (.k (.k (.k (.c sN))))))))))) hs'
    clear hs'
    replace hs := hs.p1
    replace hs := St.ndel (F := Ff) (G := Gf) (L := (Af.set s5.toNat (⟨((gd fault.zero Af s5).space), (⟨((gd fault.zero Af s5).r.Base), ((gd fault.zero Af s5).r.Len)⟩ : Range), (IntKind.i64.wrap (((gd fault.zero Af s5).n) - 1))⟩ : fault))) hc19 hs
    refine stq hf Z Z Z (ex_nilCheck hf Z) fun a hf => stq hf Z Z Z (ex_fieldAddrB fa_71_2 Z hf Z) fun a hf => ?_
    refine stepS hf Z Z (er_storeS1 (i := 4) hs (.k (.k (.k (.k (.c sN))))) hf Z Z (IsSl.one (ids_isSl (osl_rsl _ (hs.get (i := 1) Z)) (hs.get (i := 0) Z))) sz_69 Z Z) (fun w hs => ?_)
    refine hK21 _ _ ?_
    replace hs := hs.keep (.k (.k (.k (.d (.d sN)))))
    replace hs := hs.p9.p2.p3.p9.p9.p9.p9.p9.p9.p9
    have e11 := some_eq H; subst e11
    exact hJ11 _ _ ⟨v20, (Gf.take s5.toNat ++ Gf.drop (IntKind.i64.wrap (s5 + 1)).toNat), hf.sub trivial, hs⟩
   ·
    replace hf := hf.castB (t := 44) Z (dec_f hc18)
    refine cond_F hf Z ?_
    refine wp_skip ?_
    replace hs := hs.keep (.k (.d (.d sN)))
    replace hs := hs.p9.p1.p9.p9.p9.p9.p9.p9.p9.p9
    have e11 := some_eq H; subst e11
    exact hJ11 _ _ ⟨Vf, Gf, hf.sub trivial, hs⟩
  ·
   obtain ⟨v12, G13, hf, hs⟩ := hJ
   replace H := HO11
   clear HO11
   refine seq_reg (fun K22 hK22 => ?_)
   refine stq hf Z Z Z (ex_assign hf Z) fun a hf => ?_
   refine hK22 _ _ ?_
   refine wp_ret ?_
   have eR := some_eq H; subst eR
   replace hs := hs.p9.p7.p7.p7.p7.p7.p7.p9.p9.p9
   exact ret1 Try.results34 hf Z ⟨_, Z, ⟨v12, G13, Z, hs⟩⟩

set_option maxRecDepth 100000 in
theorem iospace_validRange.calls {M : Nat → Prop} {w0 : World} (k : Nat) (a0 : Range) {r : Bool} (hs : St M w0 w0 []) (hr : Sr M w0 [])
  (h : iospace_validRange.f k a0 = some r) : Calls Try.prog 24 #[.agg #[.int .u64 a0.Base, .int .u64 a0.Len]] w0 fun e w => ∃ v, e = .returned v ∧ (.bool r = v ∧ St M w0 w []) := by
 have H := (iospace_validRange.f.eq_1 ..).symm.trans h
 clear h
 refine enter Try.func24 Z Try.ntmps24 Z (fun a hf => ?_)
 refine seq_reg (fun K2 hK2 => ?_)
 refine stepV hf Z Z Z (er_box (cs := [.int .u64 a0.Base, .int .u64 a0.Len]) hs hf Z Z) (fun v w hR a hf => ?_)
 obtain ⟨b1, rfl, hs⟩ := hR
 refine stq hf Z Z Z (ex_assign hf Z) fun a hf => ?_
 refine hK2 _ _ ?_
 refine itt H (fun hc3 H => ?_) (fun hc3 H => ?_)
 ·
  refine itt H (fun hc4 H => ?_) (fun hc4 H => ?_)
  ·
   refine seq_reg (fun K5 hK5 => ?_)
   refine stq hf Z Z Z (ex_fieldAddrB fa_32_1 Z hf Z) fun a hf => stq hf Z Z Z (ex_load sc_22 hf Z (bx_cell (hs.get (i := 0) Z) _ Z)) fun a hf => stq hf Z Z Z (ex_geq hf Z Z) fun a hf => stq hf Z Z Z (ex_move hf Z) fun a hf => ?_
   replace hf := hf.castB (t := 5) Z (dec_t hc3)
   replace hf := hf.castB (t := 6) Z (dec_t hc3)
   refine stq hf Z Z Z (ex_fieldAddrB fa_32_1 Z hf Z) fun a hf => stq hf Z Z Z (ex_load sc_22 hf Z (bx_cell (hs.get (i := 0) Z) _ Z)) fun a hf => stq hf Z Z Z (ex_leq hf Z Z) fun a hf => stq hf Z Z Z (ex_pickT hf Z Z) fun a hf => stq hf Z Z Z (ex_move hf Z) fun a hf => ?_
   replace hf := hf.castB (t := 9) Z (dec_t hc4)
   replace hf := hf.castB (t := 10) Z (dec_t hc4)
   replace hf := hf.castB (t := 11) Z (dec_t hc4)
   refine stq hf Z Z Z (ex_fieldAddrB fa_32_1 Z hf Z) fun a hf => stq hf Z Z Z (ex_load sc_22 hf Z (bx_cell (hs.get (i := 0) Z) _ Z)) fun a hf => stq hf Z Z Z (ex_sub hf Z Z) fun a hf => stq hf Z Z Z (ex_fieldAddrB fa_32_0 Z hf Z) fun a hf => stq hf Z Z Z (ex_load sc_22 hf Z (bx_cell (hs.get (i := 0) Z) _ Z)) fun a hf => stq hf Z Z Z (ex_sub hf Z Z) fun a hf => stq hf Z Z Z (ex_leq hf Z Z) fun a hf => stq hf Z Z Z (ex_pickT hf Z Z) fun a hf => stq hf Z Z Z (ex_assign hf Z) fun a hf => ?_
   refine hK5 _ _ ?_
   refine wp_ret ?_
   have eR := some_eq H; subst eR
   replace hs := hs.keep (.d .nil)
   exact ret1 Try.results24 hf Z ⟨_, Z, ⟨Z, hs⟩⟩
  ·
   refine seq_reg (fun K6 hK6 => ?_)
   refine stq hf Z Z Z (ex_fieldAddrB fa_32_1 Z hf Z) fun a hf => stq hf Z Z Z (ex_load sc_22 hf Z (bx_cell (hs.get (i := 0) Z) _ Z)) fun a hf => stq hf Z Z Z (ex_geq hf Z Z) fun a hf => stq hf Z Z Z (ex_move hf Z) fun a hf => ?_
   replace hf := hf.castB (t := 5) Z (dec_t hc3)
   replace hf := hf.castB (t := 6) Z (dec_t hc3)
   refine stq hf Z Z Z (ex_fieldAddrB fa_32_1 Z hf Z) fun a hf => stq hf Z Z Z (ex_load sc_22 hf Z (bx_cell (hs.get (i := 0) Z) _ Z)) fun a hf => stq hf Z Z Z (ex_leq hf Z Z) fun a hf => stq hf Z Z Z (ex_pickT hf Z Z) fun a hf => stq hf Z Z Z (ex_move hf Z) fun a hf => ?_
   replace hf := hf.castB (t := 9) Z (dec_f hc4)
   replace hf := hf.castB (t := 10) Z (dec_f hc4)
   replace hf := hf.castB (t := 11) Z (dec_f hc4)
   refine stepN hf Z Z Z fun a hf => stepN hf Z Z Z fun a hf => stepN hf Z Z Z fun a hf => stepN hf Z Z Z fun a hf => stepN hf Z Z Z fun a hf => stepN hf Z Z Z fun a hf => stepN hf Z Z Z fun a hf => stq hf Z Z Z (ex_pickF hf Z Z) fun a hf => stq hf Z Z Z (ex_assign hf Z) fun a hf => ?_
   refine hK6 _ _ ?_
   refine wp_ret ?_
   have eR := some_eq H; subst eR
   replace hs := hs.keep (.d .nil)
   exact ret1 Try.results24 hf Z ⟨_, Z, ⟨Z, hs⟩⟩
 ·
  refine seq_reg (fun K7 hK7 => ?_)
  refine stq hf Z Z Z (ex_fieldAddrB fa_32_1 Z hf Z) fun a hf => stq hf Z Z Z (ex_load sc_22 hf Z (bx_cell (hs.get (i := 0) Z) _ Z)) fun a hf => stq hf Z Z Z (ex_geq hf Z Z) fun a hf => stq hf Z Z Z (ex_move hf Z) fun a hf => ?_
  replace hf := hf.castB (t := 5) Z (dec_f hc3)
  replace hf := hf.castB (t := 6) Z (dec_f hc3)
  refine stepN hf Z Z Z fun a hf => stepN hf Z Z Z fun a hf => stepN hf Z Z Z fun a hf => stq hf Z Z Z (ex_pickF hf Z Z) fun a hf => stq hf Z Z Z (ex_move hf Z) fun a hf => stepN hf Z Z Z fun a hf => stepN hf Z Z Z fun a hf => stepN hf Z Z Z fun a hf => stepN hf Z Z Z fun a hf => stepN hf Z Z Z fun a hf => stepN hf Z Z Z fun a hf => stepN hf Z Z Z fun a hf => stq hf Z Z Z (ex_pickF hf Z Z) fun a hf => stq hf Z Z Z (ex_assign hf Z) fun a hf => ?_
  refine hK7 _ _ ?_
  refine wp_ret ?_
  have eR := some_eq H; subst eR
  replace hs := hs.keep (.d .nil)
  exact ret1 Try.results24 hf Z ⟨_, Z, ⟨Z, hs⟩⟩

set_option maxRecDepth 100000 in
theorem iospace_Bus_PlanFault.calls {M : Nat → Prop} {w0 : World} (k : Nat) (Aa : (List mapping)) (Ab : (List mapping)) (Ac : (List mapping)) (Ae : (List Bool)) (Af : (List fault)) (At : (List Traced)) (a1 : Int) (a2 : Range) (a3 : Int) (b0 : Nat) (Va : Value) (Ga : (List (Nat × Nat))) (Vb : Value) (Gb : (List (Nat × Nat))) (Vc : Value) (Gc : (List (Nat × Nat))) (Vf : Value) (Gf : (List Nat)) (Vt : Value) {r : (List fault) × Int} (hs : St M w0 w0 [bxs b0 71 [([Va], 1), ([Vb], 1), ([Vc], 1), (List.map Value.bool Ae, 256), ([Vf], 1), ([Vt], 1)], osl Km Va (ids Fm Ga), nds Fm Ga Aa, osl Km Vb (ids Fm Gb), nds Fm Gb Ab, osl Km Vc (ids Fm Gc), nds Fm Gc Ac, osl Kf Vf (ids Ff Gf), nds Ff Gf Af, osl Kt Vt At]) (hr : Sr M w0 [])
  (h : iospace_Bus_PlanFault.f k Aa Ab Ac Ae Af At a1 a2 a3 = some r) : Calls Try.prog 16 #[.pointer (some ⟨b0, 0, none⟩), .int .i64 a1, .agg #[.int .u64 a2.Base, .int .u64 a2.Len], .int .i64 a3] w0 fun e w => ∃ v, e = .returned v ∧ (∃ (g0 : Value) (g1 : List Nat), .int .i64 r.2 = v ∧ St M w0 w [bxs b0 71 [([Va], 1), ([Vb], 1), ([Vc], 1), (List.map Value.bool Ae, 256), ([g0], 1), ([Vt], 1)], osl Kf g0 (ids Ff g1), nds Ff g1 r.1, osl Km Va (ids Fm Ga), nds Fm Ga Aa, osl Km Vb (ids Fm Gb), nds Fm Gb Ab, osl Km Vc (ids Fm Gc), nds Fm Gc Ac, osl Kt Vt At]) := by
 have H := (iospace_Bus_PlanFault.f.eq_1 ..).symm.trans h
 clear h
 refine enter Try.func16 Z Try.ntmps16 Z (fun a hf => ?_)
 refine seq_reg (fun K2 hK2 => ?_)
 refine stepV hf Z Z Z (er_box (cs := [.int .u64 a2.Base, .int .u64 a2.Len]) hs hf Z Z) (fun v w hR a hf => ?_)
 obtain ⟨b1, rfl, hs⟩ := hR
 refine stq hf Z Z Z (ex_assign hf Z) fun a hf => ?_
 refine hK2 _ _ ?_
 refine seq_n (fun Q3 hN3 hR3 hX3 => ?_)
 refine block_k (fun Q4 hN4 hR4 hX4 hY4 => ?_)
 refine bnd H (fun x5 H5 HO5 => ?_)
 clear H
 refine seq_cut (fun a w => Fr a 47 [(0, .pointer (some ⟨b0, 0, none⟩)), (1, .int .i64 a1), (3, .int .i64 a3), (6, .pointer (some ⟨b1, 0, none⟩)), (9, .bool x5)] ∧ St M w0 w [bxs b0 71 [([Va], 1), ([Vb], 1), ([Vc], 1), (List.map Value.bool Ae, 256), ([Vf], 1), ([Vt], 1)], osl Km Va (ids Fm Ga), nds Fm Ga Aa, osl Km Vb (ids Fm Gb), nds Fm Gb Ab, osl Km Vc (ids Fm Gc), nds Fm Gc Ac, osl Kf Vf (ids Ff Gf), nds Ff Gf Af, osl Kt Vt At, bx b1 32 [.int .u64 a2.Base, .int .u64 a2.Len]]) (fun Q5 hJ5 hR5 hX5 => ?_) (fun a w hJ => ?_)
 ·
  replace H := H5
  refine bnd H (fun s6 hs6 H => ?_)
  refine itt H (fun hc7 H => ?_) (fun hc7 H => ?_)
  ·
   refine bnd H (fun s8 hs8 H => ?_)
   refine itt H (fun hc9 H => ?_) (fun hc9 H => ?_)
   ·
    refine itt H (fun hc10 H => ?_) (fun hc10 H => ?_)
    ·
     refine region_k (fun K11 hK11 => ?_)
     refine stq hf Z Z Z (ex_move hf Z) fun a hf => ?_
     refine stepF hf Z Z Z (ex_call cf_23 hf Z) (iospace_validSpace.calls k a1 (hs.enter sN) (Sr.nil _ _) hs6) (fun v w hR a hf => ?_)
     obtain ⟨rfl, hs'⟩ := hR
     replace hs := hs.step sN hs'
     clear hs'
     refine stq hf Z Z Z (ex_not hf Z) fun a hf => stq hf Z Z Z (ex_move hf Z) fun a hf => ?_
     replace hf := hf.castB (t := 11) Z hc7
     replace hf := hf.castB (t := 12) Z (nbool_f hc7)
     replace hf := hf.castB (t := 13) Z (nbool_f hc7)
     refine stq hf Z Z Z (ex_loadA (cs := [.int .u64 a2.Base, .int .u64 a2.Len]) ag_32 hf Z (bx_cells (hs.get (i := 0) Z) Z)) fun a hf => ?_
     refine stepF hf Z Z Z (ex_call cf_24 hf Z) (iospace_validRange.calls k a2 (hs.enter sN) (Sr.nil _ _) hs8) (fun v w hR a hf => ?_)
     obtain ⟨rfl, hs'⟩ := hR
     replace hs := hs.step sN hs'
     clear hs'
     refine stq hf Z Z Z (ex_not hf Z) fun a hf => stq hf Z Z Z (ex_pickF hf Z Z) fun a hf => stq hf Z Z Z (ex_move hf Z) fun a hf => ?_
     replace hf := hf.castB (t := 15) Z hc9
     replace hf := hf.castB (t := 16) Z (nbool_f hc9)
     replace hf := hf.castB (t := 17) Z (nbool_f hc9)
     replace hf := hf.castB (t := 18) Z (nbool_f hc9)
     refine stq hf Z Z Z (ex_move hf Z) fun a hf => stq hf Z Z Z (ex_lss hf Z Z) fun a hf => stq hf Z Z Z (ex_pickF hf Z Z) fun a hf => stq hf Z Z Z (ex_move hf Z) fun a hf => ?_
     replace hf := hf.castB (t := 20) Z (dec_t hc10)
     replace hf := hf.castB (t := 21) Z (dec_t hc10)
     replace hf := hf.castB (t := 22) Z (dec_t hc10)
     refine stepN hf Z Z Z fun a hf => stepN hf Z Z Z fun a hf => stq hf Z Z Z (ex_pickT hf Z Z) fun a hf => stq hf Z Z Z (ex_assign hf Z) fun a hf => ?_
     refine hK11 _ _ ?_
     replace hs := hs.p10.p10.p10.p10.p10.p10.p10.p10.p10.p10
     have e5 := some_eq H; subst e5
     exact hJ5 _ _ ⟨hf.sub ⟨Z, Z, Z, Z, Z, trivial⟩, hs⟩
    ·
     refine region_k (fun K12 hK12 => ?_)
     refine stq hf Z Z Z (ex_move hf Z) fun a hf => ?_
     refine stepF hf Z Z Z (ex_call cf_23 hf Z) (iospace_validSpace.calls k a1 (hs.enter sN) (Sr.nil _ _) hs6) (fun v w hR a hf => ?_)
     obtain ⟨rfl, hs'⟩ := hR
     replace hs := hs.step sN hs'
     clear hs'
     refine stq hf Z Z Z (ex_not hf Z) fun a hf => stq hf Z Z Z (ex_move hf Z) fun a hf => ?_
     replace hf := hf.castB (t := 11) Z hc7
     replace hf := hf.castB (t := 12) Z (nbool_f hc7)
     replace hf := hf.castB (t := 13) Z (nbool_f hc7)
     refine stq hf Z Z Z (ex_loadA (cs := [.int .u64 a2.Base, .int .u64 a2.Len]) ag_32 hf Z (bx_cells (hs.get (i := 0) Z) Z)) fun a hf => ?_
     refine stepF hf Z Z Z (ex_call cf_24 hf Z) (iospace_validRange.calls k a2 (hs.enter sN) (Sr.nil _ _) hs8) (fun v w hR a hf => ?_)
     obtain ⟨rfl, hs'⟩ := hR
     replace hs := hs.step sN hs'
     clear hs'
     refine stq hf Z Z Z (ex_not hf Z) fun a hf => stq hf Z Z Z (ex_pickF hf Z Z) fun a hf => stq hf Z Z Z (ex_move hf Z) fun a hf => ?_
     replace hf := hf.castB (t := 15) Z hc9
     replace hf := hf.castB (t := 16) Z (nbool_f hc9)
     replace hf := hf.castB (t := 17) Z (nbool_f hc9)
     replace hf := hf.castB (t := 18) Z (nbool_f hc9)
     refine stq hf Z Z Z (ex_move hf Z) fun a hf => stq hf Z Z Z (ex_lss hf Z Z) fun a hf => stq hf Z Z Z (ex_pickF hf Z Z) fun a hf => stq hf Z Z Z (ex_move hf Z) fun a hf => ?_
     replace hf := hf.castB (t := 20) Z (dec_f hc10)
     replace hf := hf.castB (t := 21) Z (dec_f hc10)
     replace hf := hf.castB (t := 22) Z (dec_f hc10)
     refine stq hf Z Z Z (ex_move hf Z) fun a hf => stq hf Z Z Z (ex_gtr hf Z Z) fun a hf => stq hf Z Z Z (ex_pickF hf Z Z) fun a hf => stq hf Z Z Z (ex_assign hf Z) fun a hf => ?_
     refine hK12 _ _ ?_
     replace hs := hs.p10.p10.p10.p10.p10.p10.p10.p10.p10.p10
     have e5 := some_eq H; subst e5
     exact hJ5 _ _ ⟨hf.sub ⟨Z, Z, Z, Z, Z, trivial⟩, hs⟩
   ·
    refine region_k (fun K13 hK13 => ?_)
    refine stq hf Z Z Z (ex_move hf Z) fun a hf => ?_
    refine stepF hf Z Z Z (ex_call cf_23 hf Z) (iospace_validSpace.calls k a1 (hs.enter sN) (Sr.nil _ _) hs6) (fun v w hR a hf => ?_)
    obtain ⟨rfl, hs'⟩ := hR
    replace hs := hs.step sN hs'
    clear hs'
    refine stq hf Z Z Z (ex_not hf Z) fun a hf => stq hf Z Z Z (ex_move hf Z) fun a hf => ?_
    replace hf := hf.castB (t := 11) Z hc7
    replace hf := hf.castB (t := 12) Z (nbool_f hc7)
    replace hf := hf.castB (t := 13) Z (nbool_f hc7)
    refine stq hf Z Z Z (ex_loadA (cs := [.int .u64 a2.Base, .int .u64 a2.Len]) ag_32 hf Z (bx_cells (hs.get (i := 0) Z) Z)) fun a hf => ?_
    refine stepF hf Z Z Z (ex_call cf_24 hf Z) (iospace_validRange.calls k a2 (hs.enter sN) (Sr.nil _ _) hs8) (fun v w hR a hf => ?_)
    obtain ⟨rfl, hs'⟩ := hR
    replace hs := hs.step sN hs'
    clear hs'
    refine stq hf Z Z Z (ex_not hf Z) fun a hf => stq hf Z Z Z (ex_pickF hf Z Z) fun a hf => stq hf Z Z Z (ex_move hf Z) fun a hf => ?_
    replace hf := hf.castB (t := 15) Z (bool_f hc9)
    replace hf := hf.castB (t := 16) Z (nbool_t hc9)
    replace hf := hf.castB (t := 17) Z (nbool_t hc9)
    replace hf := hf.castB (t := 18) Z (nbool_t hc9)
    refine stepN hf Z Z Z fun a hf => stepN hf Z Z Z fun a hf => stq hf Z Z Z (ex_pickT hf Z Z) fun a hf => stq hf Z Z Z (ex_move hf Z) fun a hf => stepN hf Z Z Z fun a hf => stepN hf Z Z Z fun a hf => stq hf Z Z Z (ex_pickT hf Z Z) fun a hf => stq hf Z Z Z (ex_assign hf Z) fun a hf => ?_
    refine hK13 _ _ ?_
    replace hs := hs.p10.p10.p10.p10.p10.p10.p10.p10.p10.p10
    have e5 := some_eq H; subst e5
    exact hJ5 _ _ ⟨hf.sub ⟨Z, Z, Z, Z, Z, trivial⟩, hs⟩
  ·
   refine region_k (fun K14 hK14 => ?_)
   refine stq hf Z Z Z (ex_move hf Z) fun a hf => ?_
   refine stepF hf Z Z Z (ex_call cf_23 hf Z) (iospace_validSpace.calls k a1 (hs.enter sN) (Sr.nil _ _) hs6) (fun v w hR a hf => ?_)
   obtain ⟨rfl, hs'⟩ := hR
   replace hs := hs.step sN hs'
   clear hs'
   refine stq hf Z Z Z (ex_not hf Z) fun a hf => stq hf Z Z Z (ex_move hf Z) fun a hf => ?_
   replace hf := hf.castB (t := 11) Z (bool_f hc7)
   replace hf := hf.castB (t := 12) Z (nbool_t hc7)
   replace hf := hf.castB (t := 13) Z (nbool_t hc7)
   refine stepN hf Z Z Z fun a hf => stepN hf Z Z Z fun a hf => stepN hf Z Z Z fun a hf => stq hf Z Z Z (ex_pickT hf Z Z) fun a hf => stq hf Z Z Z (ex_move hf Z) fun a hf => stepN hf Z Z Z fun a hf => stepN hf Z Z Z fun a hf => stq hf Z Z Z (ex_pickT hf Z Z) fun a hf => stq hf Z Z Z (ex_move hf Z) fun a hf => stepN hf Z Z Z fun a hf => stepN hf Z Z Z fun a hf => stq hf Z Z Z (ex_pickT hf Z Z) fun a hf => stq hf Z Z Z (ex_assign hf Z) fun a hf => ?_
   refine hK14 _ _ ?_
   replace hs := hs.p10.p10.p10.p10.p10.p10.p10.p10.p10.p10
   have e5 := some_eq H; subst e5
   exact hJ5 _ _ ⟨hf.sub ⟨Z, Z, Z, Z, Z, trivial⟩, hs⟩
 ·
  obtain ⟨hf, hs⟩ := hJ
  replace H := HO5
  clear HO5
  refine itt H (fun hc15 H => ?_) (fun hc15 H => ?_)
  ·
   replace hf := hf.castB (t := 9) Z hc15
   refine cond_T hf Z ?_
   refine seq_reg (fun K16 hK16 => ?_)
   refine stq hf Z Z Z (ex_assign hf Z) fun a hf => ?_
   refine hK16 _ _ ?_
   refine wp_ret ?_
   refine hR4 _ _ ?_
   refine hR3 _ _ ?_
   have eR := some_eq H; subst eR
   replace hs := hs.keep (.k (.k (.k (.k (.k (.k (.k (.k (.k (.k (.d .nil)))))))))))
   replace hs := hs.p9.p7.p7.p7.p7.p7.p7.p9.p9.p9
   exact ret1 Try.results16 hf Z ⟨_, Z, ⟨Vf, Gf, Z, hs⟩⟩
  ·
   replace hf := hf.castB (t := 9) Z (bool_f hc15)
   refine cond_F hf Z ?_
   refine seq_reg (fun K17 hK17 => ?_)
   refine stq hf Z Z Z (ex_move hf Z) fun a hf => stq hf Z Z Z (ex_nilCheck hf Z) fun a hf => stq hf Z Z Z (ex_fieldAddrB fa_71_2 Z hf Z) fun a hf => stq hf Z Z Z (ex_load sc_69 hf Z (sb_cell1 (i := 4) (hs.get (i := 0) Z) Z Z)) fun a hf => stq hf Z Z Z (ex_lenS Try.underlying69 (ids_isSl (osl_rsl _ (hs.get (i := 7) Z)) (hs.get (i := 8) Z)) hf Z) fun a hf => stq hf Z Z Z (ex_geq hf Z Z) fun a hf => stq hf Z Z Z (ex_assign hf Z) fun a hf => ?_
   refine hK17 _ _ ?_
   refine itt H (fun hc18 H => ?_) (fun hc18 H => ?_)
   ·
    replace hf := hf.castB (t := 26) Z (dec_t hc18)
    refine cond_T hf Z ?_
    refine seq_reg (fun K19 hK19 => ?_)
    refine stq hf Z Z Z (ex_assign hf Z) fun a hf => ?_
    refine hK19 _ _ ?_
    refine wp_ret ?_
    refine hR4 _ _ ?_
    refine hR3 _ _ ?_
    have eR := some_eq H; subst eR
    replace hs := hs.keep (.k (.k (.k (.k (.k (.k (.k (.k (.k (.k (.d .nil)))))))))))
    replace hs := hs.p9.p7.p7.p7.p7.p7.p7.p9.p9.p9
    exact ret1 Try.results16 hf Z ⟨_, Z, ⟨Vf, Gf, Z, hs⟩⟩
   ·
    replace hf := hf.castB (t := 26) Z (dec_f hc18)
    refine cond_F hf Z ?_
    refine wp_skip ?_
    refine hN4 _ _ ?_
    refine hN3 _ _ ?_
    refine seq_n (fun Q20 hN20 hR20 hX20 => ?_)
    refine ck_some H (fun hc23 H => ?_)
    refine region_dS fol 12 [(0, .pointer (some ⟨b0, 0, none⟩)), (1, .int .i64 a1), (3, .int .i64 a3), (6, .pointer (some ⟨b1, 0, none⟩))] [(0, .pointer (some ⟨b0, 0, none⟩)), (1, .pointer (some ⟨b0, 0, none⟩)), (2, .pointer (some ⟨b0, 0, none⟩)), (3, .pointer (some ⟨b0, 259, none⟩)), (4, Vf), (5, .int .i64 a1), (6, .agg #[.int .u64 a2.Base, .int .u64 a2.Len]), (7, .int .i64 a3), (8, .agg #[.int .i64 a1, .int .u64 a2.Base, .int .u64 a2.Len, .int .i64 a3])] [9, 10, 11] (fun w => (bxs b0 71 [([Va], 1), ([Vb], 1), ([Vc], 1), (List.map Value.bool Ae, 256), ([Vf], 1), ([Vt], 1)]).ok w ∧ (bx b1 32 [.int .u64 a2.Base, .int .u64 a2.Len]).ok w ∧ True) hf ⟨Z, Z, Z, Z, trivial⟩ (by kernel_rfl) (by kernel_rfl) Z (by decide) ⟨hs.drew.get (i := 0) Z, hs.drew.get (i := 10) Z, trivial⟩ hs ((.cons (qy Z Z Z Z Z fun hR hf => ex_move hf Z) (.cons (qy Z Z Z Z Z fun hR hf => ex_move hf Z) (.cons (qy Z Z Z Z Z fun hR hf => ex_nilCheck hf Z) (.cons (qy Z Z Z Z Z fun hR hf => ex_fieldAddrB fa_71_2 Z hf Z) (.cons (qy Z Z Z Z Z fun hR hf => ex_load sc_69 hf Z (sb_cell1 (i := 4) (hR.1) Z Z)) (.cons (qy Z Z Z Z Z fun hR hf => ex_move hf Z) (.cons (qy Z Z Z Z Z fun hR hf => ex_loadA (cs := [.int .u64 a2.Base, .int .u64 a2.Len]) ag_32 hf Z (bx_cells (hR.2.1) Z)) (.cons (qy Z Z Z Z Z fun hR hf => ex_move hf Z) (.cons (qy Z Z Z Z Z fun hR hf => ex_build (cs := [.int .i64 a1, .int .u64 a2.Base, .int .u64 a2.Len, .int .i64 a3]) bt_90 hf Z (.cons Z (.cons Z (.cons Z .nil))) Z) .nil)))))))))) (fun K25 hK25 => ?_)
    refine RW.one 9 (by kernel_rfl) (by kernel_rfl) rfl (fun d hd => by cases hd; rfl) [(41, .agg #[.int .i64 a1, .int .u64 a2.Base, .int .u64 a2.Len, .int .i64 a3])] ⟨rfl, trivial⟩ (fun a w hR hs hf => ⟨wanted_yes hf rfl, ?_⟩)
    refine estep_v (er_box (cs := [.int .i64 a1, .int .u64 a2.Base, .int .u64 a2.Len, .int .i64 a3]) hs hf Z Z) (fun v w hR => ?_)
    obtain ⟨b21, rfl, hs⟩ := hR
    refine ⟨[], _, [10, 11], (fun _ => True), hs.fn, Z, Z, ⟨hs.get (i := 1) Z, hs.get (i := 11) Z, trivial⟩, trivial, hs, (by kernel_rfl), .nil, ?_⟩
    refine RW.one 10 (by kernel_rfl) (by kernel_rfl) rfl (fun d hd => by cases hd; rfl) [(42, .pointer (some ⟨b21, 0, none⟩))] ⟨rfl, trivial⟩ (fun a w hR hs hf => ⟨wanted_yes hf rfl, ?_⟩)
    refine estep_v (er_buildSlice (K := Kf) (xs := [(some b21)]) hs Try.underlying69 ep_88 Z Z hf Z (.cons Z .nil) Z Z) (fun v22 w hs => ?_)
    refine ⟨[], _, [11], (fun _ => True), hs.fn, Z, Z, ⟨⟨hs.get (i := 2) Z, hs.get (i := 12) Z, trivial⟩, trivial⟩, trivial, hs, (by kernel_rfl), .nil, ?_⟩
    refine RW.one 11 (by kernel_rfl) (by kernel_rfl) rfl (fun d hd => by cases hd; rfl) [(37, Vf), (43, v22)] ⟨rfl, rfl, trivial⟩ (fun a w hR hs hf => ⟨wanted_yes hf rfl, ?_⟩)
    refine estep_v (er_append (K := Kf) hs (.k (.k (.k (.k (.k (.k (.k (.k (.k (.c sN)))))))))) (osl_rsl _ (hs.get (i := 0) Z)) Z Try.underlying69 ep_88 (ids_room (F := Ff) (L := Af) (hs.get (i := 10) Z) hc23) Z hf Z Z) (fun v24 w hs => ?_)
    rw [ids_snoc (F := Ff) (G := Gf) (g := b21) (b := b21) rfl] at hs
    replace hs := hs.p10.p3
    replace hs := St.nsnoc (F := Ff) (G := Gf) (L := Af) (g := b21) (u := (⟨a1, (⟨a2.Base, a2.Len⟩ : Range), a3⟩ : fault)) hs
    refine ⟨[], _, [], (fun _ => True), hs.fn, Z, Z, ⟨⟨⟨hs.get (i := 3) Z, hs.get (i := 11) Z, trivial⟩, trivial⟩, trivial⟩, trivial, hs, (by kernel_rfl), .nil, ?_⟩
    refine RW.zero (by kernel_rfl) (by kernel_rfl) [(33, .pointer (some ⟨b0, 0, none⟩)), (44, v24)] ⟨Z, Z, trivial⟩ (fun a w hR hs hf => ?_)
    refine stq hf Z Z Z (ex_nilCheck hf Z) fun a hf => stq hf Z Z Z (ex_fieldAddrB fa_71_2 Z hf Z) fun a hf => ?_
    refine stepS hf Z Z (er_storeS1 (i := 4) hs (.k (.k (.k (.c sN)))) hf Z Z (IsSl.one (ids_isSl (osl_rsl _ (hs.get (i := 1) Z)) (hs.get (i := 0) Z))) sz_69 Z Z) (fun w hs => ?_)
    refine hK25 _ _ ?_
    refine hN20 _ _ ?_
    refine seq_reg (fun K26 hK26 => ?_)
    refine stq hf Z Z Z (ex_assign hf Z) fun a hf => ?_
    refine hK26 _ _ ?_
    refine wp_ret ?_
    have eR := some_eq H; subst eR
    replace hs := hs.keep (.k (.k (.k (.d (.k (.k (.k (.k (.k (.k (.k (.d .nil))))))))))))
    replace hs := hs.p9.p9.p9.p9.p9.p9.p9.p8.p9.p9
    exact ret1 Try.results16 hf Z ⟨_, Z, ⟨v24, (Gf ++ [b21]), Z, hs⟩⟩

set_option maxRecDepth 100000 in
theorem iospace_Bus_Map_1.calls {M : Nat → Prop} {w0 : World} (k : Nat) (a0_r_Base : Int) (a0_r_Len : Int) (a0_owner : Int) (a0_data : (List (Int × Int))) (a1 : Range) (b0 : Nat) (m0_data : Nat) (b1 : Nat) {r : Bool} (hs : St M w0 w0 []) (hr : Sr M w0 [bx b0 80 [.int .u64 a0_r_Base, .int .u64 a0_r_Len, .int .i64 a0_owner, .map (some m0_data)], mp m0_data .u64 .u8 a0_data, bx b1 32 [.int .u64 a1.Base, .int .u64 a1.Len]])
  (h : iospace_Bus_Map_1.f k a0_r_Base a0_r_Len a0_owner a0_data a1 = some r) : Calls Try.prog 27 #[.pointer (some ⟨b0, 0, none⟩), .pointer (some ⟨b1, 0, none⟩)] w0 fun e w => ∃ v, e = .returned v ∧ (.bool r = v ∧ St M w0 w []) := by
 have H := (iospace_Bus_Map_1.f.eq_1 ..).symm.trans h
 clear h
 refine enter Try.func27 Z Try.ntmps27 Z (fun a hf => ?_)
 refine seq_reg (fun K1 hK1 => ?_)
 refine stq hf Z Z Z (ex_assign hf Z) fun a hf => ?_
 refine hK1 _ _ ?_
 refine seq_n (fun Q2 hN2 hR2 hX2 => ?_)
 refine bnd H (fun s3 hs3 H => ?_)
 refine region_dS fol 6 [(0, .pointer (some ⟨b0, 0, none⟩)), (1, .pointer (some ⟨b1, 0, none⟩)), (3, .bool false)] [(0, .pointer (some ⟨b0, 0, none⟩)), (1, .pointer (some ⟨b0, 0, none⟩)), (2, .pointer (some ⟨b0, 0, none⟩)), (3, .agg #[.int .u64 a0_r_Base, .int .u64 a0_r_Len]), (4, .agg #[.int .u64 a1.Base, .int .u64 a1.Len])] [5] (fun w => (bx b0 80 [.int .u64 a0_r_Base, .int .u64 a0_r_Len, .int .i64 a0_owner, .map (some m0_data)]).ok w ∧ (bx b1 32 [.int .u64 a1.Base, .int .u64 a1.Len]).ok w ∧ True) hf ⟨Z, Z, Z, trivial⟩ (by kernel_rfl) (by kernel_rfl) Z (by decide) ⟨hr.now hs.drew (i := 0) Z, hr.now hs.drew (i := 2) Z, trivial⟩ hs ((.cons (qy Z Z Z Z Z fun hR hf => ex_move hf Z) (.cons (qy Z Z Z Z Z fun hR hf => ex_nilCheck hf Z) (.cons (qy Z Z Z Z Z fun hR hf => ex_fieldAddrB fa_80_0 Z hf Z) (.cons (qy Z Z Z Z Z fun hR hf => ex_loadA (cs := [.int .u64 a0_r_Base, .int .u64 a0_r_Len]) ag_32 hf Z (bx_cells (hR.1) Z)) (.cons (qy Z Z Z Z Z fun hR hf => ex_loadA (cs := [.int .u64 a1.Base, .int .u64 a1.Len]) ag_32 hf Z (bx_cells (hR.2.1) Z)) .nil)))))) (fun K4 hK4 => ?_)
 refine RW.one 5 (by kernel_rfl) (by kernel_rfl) rfl (fun d hd => by cases hd; rfl) [(7, .agg #[.int .u64 a0_r_Base, .int .u64 a0_r_Len]), (8, .agg #[.int .u64 a1.Base, .int .u64 a1.Len])] ⟨rfl, rfl, trivial⟩ (fun a w hR hs hf => ⟨wanted_yes hf rfl, ?_⟩)
 refine estep_f (ex_call cf_28 hf Z) (iospace_overlap.calls k (⟨a0_r_Base, a0_r_Len⟩ : Range) a1 (hs.enter .nil) (Sr.nil _ _) hs3) (fun v w hR => ?_)
 obtain ⟨rfl, hs'⟩ := hR
 replace hs := hs.step .nil hs'
 clear hs'
 refine ⟨[], _, [], (fun _ => True), hs.fn, Z, Z, ⟨hr.now hs (i := 0) Z, hr.now hs (i := 2) Z, trivial⟩, trivial, hs, (by kernel_rfl), .nil, ?_⟩
 refine RW.zero (by kernel_rfl) (by kernel_rfl) [(3, .bool false), (9, .bool s3)] ⟨Z, Z, trivial⟩ (fun a w hR hs hf => ?_)
 refine stq hf Z Z Z (ex_assign hf Z) fun a hf => ?_
 refine hK4 _ _ ?_
 refine hN2 _ _ ?_
 refine wp_ret ?_
 have eR := some_eq H; subst eR
 exact ret1 Try.results27 hf Z ⟨_, Z, ⟨Z, hs⟩⟩

set_option maxRecDepth 100000 in
theorem slices_IndexFunc_iospace_mapping_iospace_mapping__Map_1.calls {M : Nat → Prop} {w0 : World} (k : Nat) (a0 : (List mapping)) (a1_0 : Range) (v0 : Value) (G0 : (List (Nat × Nat))) (b1_0 : Nat) {r : Int} (hs : St M w0 w0 []) (hr : Sr M w0 [rsl Km v0 (ids Fm G0), nds Fm G0 a0, bx b1_0 32 [.int .u64 a1_0.Base, .int .u64 a1_0.Len]])
  (h : slices_IndexFunc_iospace_mapping_iospace_mapping__Map_1.f k a0 a1_0 = some r) : Calls Try.prog 49 #[v0, .func (.func 27) #[] #[.pointer (some ⟨b1_0, 0, none⟩)]] w0 fun e w => ∃ v, e = .returned v ∧ (.int .i64 r = v ∧ St M w0 w []) := by
 have H := (slices_IndexFunc_iospace_mapping_iospace_mapping__Map_1.f.eq_1 ..).symm.trans h
 clear h
 refine enter Try.func49 Z Try.ntmps49 Z (fun a hf => ?_)
 refine seq_reg (fun K1 hK1 => ?_)
 refine stq hf Z Z Z (ex_assign hf Z) fun a hf => ?_
 refine hK1 _ _ ?_
 refine bnd H (fun x2 H2 HO2 => ?_)
 clear H
 refine seq_cut (fun a w => ∃ (x2s : Unit), x2 = .go x2s ∧ Fr a 19 [] ∧ St M w0 w []) (fun Q2 hJ2 hR2 hX2 => ?_) (fun a w hJ => ?_)
 ·
  replace H := H2
  refine seq_reg (fun K3 hK3 => ?_)
  refine stq hf Z Z Z (ex_move hf Z) fun a hf => stq hf Z Z Z (ex_lenS Try.underlying67 (ids_isSl (hr.now hs (i := 0) Z) (hr.now hs (i := 1) Z)) hf Z) fun a hf => stq hf Z Z Z (ex_move hf Z) fun a hf => ?_
  refine hK3 _ _ ?_
  refine block_k (fun Q4 hN4 hR4 hX4 hY4 => ?_)
  refine loop_k (fun n a w => ∃ (y5 : Int), Fr a 19 [(0, v0), (1, .func (.func 27) #[] #[.pointer (some ⟨b1_0, 0, none⟩)]), (7, .int .i64 (a0.length : Int)), (8, .int .i64 y5)] ∧ St M w0 w [] ∧ slices_IndexFunc_iospace_mapping_iospace_mapping__Map_1.l1 n a0 a1_0 y5 = some x2) k ?_ (fun n7 a w hI Q7 hL7 hR7 hX7 => ?_)
  ·
   exact ⟨0, hf.sub ⟨Z, Z, Z, Z, trivial⟩, hs, H⟩
  ·
   obtain ⟨y5, hf, hs, H⟩ := hI
   cases n7 with
   | zero => exact absurd H (by rw [slices_IndexFunc_iospace_mapping_iospace_mapping__Map_1.l1.eq_1]; intro h; cases h)
   | succ k7 =>
    replace H := (slices_IndexFunc_iospace_mapping_iospace_mapping__Map_1.l1.eq_2 ..).symm.trans H
    refine seq_reg (fun K8 hK8 => ?_)
    refine stq hf Z Z Z (ex_lss hf Z Z) fun a hf => ?_
    refine hK8 _ _ ?_
    refine seq_n (fun Q9 hN9 hR9 hX9 => ?_)
    refine itt H (fun hc10 H => ?_) (fun hc10 H => ?_)
    ·
     replace hf := hf.castB (t := 9) Z (dec_t hc10)
     refine cond_T hf Z ?_
     refine wp_skip ?_
     refine hN9 _ _ ?_
     refine seq_n (fun Q11 hN11 hR11 hX11 => ?_)
     refine block_k (fun Q12 hN12 hR12 hX12 hY12 => ?_)
     refine seq_reg (fun K13 hK13 => ?_)
     refine stq hf Z Z Z (ex_move hf Z) fun a hf => stq hf Z Z Z (ex_assign hf Z) fun a hf => ?_
     refine hK13 _ _ ?_
     refine ck_some H (fun hc14 H => ?_)
     refine bnd H (fun s15 hs15 H => ?_)
     refine seq_reg (fun K16 hK16 => ?_)
     refine stq hf Z Z Z (ex_move hf Z) fun a hf => stq hf Z Z Z (ex_move hf Z) fun a hf => stq hf Z Z Z (ex_move hf Z) fun a hf => stq hf Z Z Z (ex_indexAddr sa_67 (ids_isSl (hr.now hs (i := 0) Z) (hr.now hs (i := 1) Z)) hc14.1 hc14.2 hf Z Z) fun a hf => stq hf Z Z Z (ex_load sc_76 hf Z (ids_cell (F := Fm) (hr.now hs (i := 0) Z) (hr.now hs (i := 1) Z) ((0, 0) : Nat × Nat) hc14.1 hc14.2)) fun a hf => ?_
     refine stepF hf Z Z Z (ex_callV cf_27 hf Z Z) (iospace_Bus_Map_1.calls k7 ((gd mapping.zero a0 y5).r.Base) ((gd mapping.zero a0 y5).r.Len) ((gd mapping.zero a0 y5).owner) ((gd mapping.zero a0 y5).data) a1_0 (Fm.blk (gd ((0, 0) : Nat × Nat) G0 y5)) ((gd ((0, 0) : Nat × Nat) G0 y5).2) b1_0 (hs.enter .nil) (Sr.old hr hs .nil (i := 1) Z (fun _ h => nd_bx_ok (F := Fm) h ((0, 0) : Nat × Nat) mapping.zero hc14.1 hc14.2) (nd_bx_fs (F := Fm) (nds_len (hr.now hs (i := 1) Z)) ((0, 0) : Nat × Nat) mapping.zero hc14.1 hc14.2) (Sr.old hr hs .nil (i := 1) Z (fun _ h => nd_mo_ok (F := Fm) h ((0, 0) : Nat × Nat) mapping.zero hc14.1 hc14.2 0 Z) (nd_mo_fs (F := Fm) (nds_len (hr.now hs (i := 1) Z)) ((0, 0) : Nat × Nat) mapping.zero hc14.1 hc14.2 0 Z) (Sr.old hr hs .nil (i := 2) Z (fun _ h => h) (fun _ h => h) (Sr.nil _ _)))) hs15) (fun v w hR a hf => ?_)
     obtain ⟨rfl, hs'⟩ := hR
     replace hs := hs.step .nil hs'
     clear hs'
     refine hK16 _ _ ?_
     refine itt H (fun hc17 H => ?_) (fun hc17 H => ?_)
     ·
      replace hf := hf.castB (t := 16) Z hc17
      refine cond_T hf Z ?_
      refine seq_reg (fun K18 hK18 => ?_)
      refine stq hf Z Z Z (ex_move hf Z) fun a hf => stq hf Z Z Z (ex_assign hf Z) fun a hf => ?_
      refine hK18 _ _ ?_
      refine wp_ret ?_
      refine hR12 _ _ ?_
      refine hR11 _ _ ?_
      refine hR7 _ _ ?_
      refine hR4 _ _ ?_
      have e2 := some_eq H; subst e2; replace H := el_rt HO2
      refine hR2 _ _ ?_
      have eR := some_eq H; subst eR
      exact ret1 Try.results49 hf Z ⟨_, Z, ⟨Z, hs⟩⟩
     ·
      replace hf := hf.castB (t := 16) Z (bool_f hc17)
      refine cond_F hf Z ?_
      refine wp_skip ?_
      refine hN12 _ _ ?_
      refine hN11 _ _ ?_
      refine region_k (fun K19 hK19 => ?_)
      refine stq hf Z Z Z (ex_add hf Z Z) fun a hf => stq hf Z Z Z (ex_move hf Z) fun a hf => ?_
      refine hK19 _ _ ?_
      exact hL7 k7 _ _ (Nat.lt_succ_self _) ⟨(IntKind.i64.wrap (y5 + 1)), hf.sub ⟨Z, Z, Z, Z, trivial⟩, hs, H⟩
    ·
     replace hf := hf.castB (t := 9) Z (dec_f hc10)
     refine cond_F hf Z ?_
     refine wp_exit ?_
     refine hX9 0 _ _ ?_
     refine hX7 0 _ _ ?_
     refine hX4 _ _ ?_
     have e2 := some_eq H; subst e2
     exact hJ2 _ _ ⟨_, Z, hf.sub trivial, hs⟩
 ·
  obtain ⟨x2s, rfl, hf, hs⟩ := hJ
  replace H := el_go HO2
  clear HO2
  refine seq_reg (fun K20 hK20 => ?_)
  refine stq hf Z Z Z (ex_assign hf Z) fun a hf => ?_
  refine hK20 _ _ ?_
  refine wp_ret ?_
  have eR := some_eq H; subst eR
  exact ret1 Try.results49 hf Z ⟨_, Z, ⟨Z, hs⟩⟩

set_option maxRecDepth 100000 in
theorem slices_ContainsFunc_iospace_mapping_iospace_mapping__Map_1.calls {M : Nat → Prop} {w0 : World} (k : Nat) (a0 : (List mapping)) (a1_0 : Range) (v0 : Value) (G0 : (List (Nat × Nat))) (b1_0 : Nat) {r : Bool} (hs : St M w0 w0 []) (hr : Sr M w0 [rsl Km v0 (ids Fm G0), nds Fm G0 a0, bx b1_0 32 [.int .u64 a1_0.Base, .int .u64 a1_0.Len]])
  (h : slices_ContainsFunc_iospace_mapping_iospace_mapping__Map_1.f k a0 a1_0 = some r) : Calls Try.prog 26 #[v0, .func (.func 27) #[] #[.pointer (some ⟨b1_0, 0, none⟩)]] w0 fun e w => ∃ v, e = .returned v ∧ (.bool r = v ∧ St M w0 w []) := by
 have H := (slices_ContainsFunc_iospace_mapping_iospace_mapping__Map_1.f.eq_1 ..).symm.trans h
 clear h
 refine enter Try.func26 Z Try.ntmps26 Z (fun a hf => ?_)
 refine seq_reg (fun K1 hK1 => ?_)
 refine stq hf Z Z Z (ex_assign hf Z) fun a hf => ?_
 refine hK1 _ _ ?_
 refine bnd H (fun s2 hs2 H => ?_)
 refine seq_reg (fun K3 hK3 => ?_)
 refine stq hf Z Z Z (ex_move hf Z) fun a hf => stq hf Z Z Z (ex_move hf Z) fun a hf => ?_
 refine stepF hf Z Z Z (ex_call cf_49 hf Z) (slices_IndexFunc_iospace_mapping_iospace_mapping__Map_1.calls k a0 a1_0 v0 G0 b1_0 (hs.enter .nil) (Sr.old hr hs .nil (i := 0) Z (fun _ h => h) (fun _ h => h) (Sr.old hr hs .nil (i := 1) Z (fun _ h => h) (fun _ h => h) (Sr.old hr hs .nil (i := 2) Z (fun _ h => h) (fun _ h => h) (Sr.nil _ _)))) hs2) (fun v w hR a hf => ?_)
 obtain ⟨rfl, hs'⟩ := hR
 replace hs := hs.step .nil hs'
 clear hs'
 refine stq hf Z Z Z (ex_geq hf Z Z) fun a hf => stq hf Z Z Z (ex_assign hf Z) fun a hf => ?_
 refine hK3 _ _ ?_
 refine wp_ret ?_
 have eR := some_eq H; subst eR
 exact ret1 Try.results26 hf Z ⟨_, Z, ⟨Z, hs⟩⟩

end Go.Proofs.Ytigadacjaglfeaa.X
