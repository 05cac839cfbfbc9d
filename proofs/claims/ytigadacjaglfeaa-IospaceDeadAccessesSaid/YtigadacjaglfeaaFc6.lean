/- Each function of the machine comes to what its pure function says. -/
import Derived.Test.YtigadacjaglfeaaFc5
import Derived.Test.YtigadacjaglfeaaFb
namespace Go.Proofs.Ytigadacjaglfeaa.X
open Go Go.RowKit Go.Sx
set_option linter.unusedVariables false

set_option maxRecDepth 100000 in
theorem ref09_Bus_Map.calls {M : Nat → Prop} {w0 : World} (k : Nat) (Ad : (List ref09_mapping)) (Ae : (List Bool)) (Af : (List ref09_fault)) (At : (List Traced)) (a1 : Int) (a2 : Range) (a3 : Int) (b0 : Nat) (Vd : Value) (Gd : (List SlV)) (Vf : Value) (Vt : Value) {r : (List ref09_mapping) × Int} (hs : St M w0 w0 [bxs b0 56 [([Vd], 1), (List.map Value.bool Ae, 256), ([Vf], 1), ([Vt], 1)], osl KR Vd (List.zip Gd Ad), ndv FR Gd Ad, osl KF Vf Af, osl Kt Vt At]) (hr : Sr M w0 [])
  (h : ref09_Bus_Map.f k Ad Ae Af At a1 a2 a3 = some r) : Calls Try.prog 37 #[.pointer (some ⟨b0, 0, none⟩), .int .i64 a1, .agg #[.int .u64 a2.Base, .int .u64 a2.Len], .int .i64 a3] w0 fun e w => ∃ v, e = .returned v ∧ (∃ (g0 : Value) (g1 : List SlV), .int .i64 r.2 = v ∧ St M w0 w [bxs b0 56 [([g0], 1), (List.map Value.bool Ae, 256), ([Vf], 1), ([Vt], 1)], osl KR g0 (List.zip g1 r.1), ndv FR g1 r.1, osl KF Vf Af, osl Kt Vt At]) := by
 have H := (ref09_Bus_Map.f.eq_1 ..).symm.trans h
 clear h
 refine enter Try.func37 Z Try.ntmps37 Z (fun a hf => ?_)
 refine seq_reg (fun K2 hK2 => ?_)
 refine stepV hf Z Z Z (er_box (cs := [.int .u64 a2.Base, .int .u64 a2.Len]) hs hf Z Z) (fun v w hR a hf => ?_)
 obtain ⟨b1, rfl, hs⟩ := hR
 refine stq hf Z Z Z (ex_assign hf Z) fun a hf => ?_
 refine hK2 _ _ ?_
 refine seq_n (fun Q3 hN3 hR3 hX3 => ?_)
 refine bnd H (fun x4 H4 HO4 => ?_)
 clear H
 refine seq_cut (fun a w => Fr a 79 [(0, .pointer (some ⟨b0, 0, none⟩)), (1, .int .i64 a1), (3, .int .i64 a3), (6, .pointer (some ⟨b1, 0, none⟩)), (25, .bool x4)] ∧ St M w0 w [bxs b0 56 [([Vd], 1), (List.map Value.bool Ae, 256), ([Vf], 1), ([Vt], 1)], osl KR Vd (List.zip Gd Ad), ndv FR Gd Ad, osl KF Vf Af, osl Kt Vt At, bx b1 32 [.int .u64 a2.Base, .int .u64 a2.Len]]) (fun Q4 hJ4 hR4 hX4 => ?_) (fun a w hJ => ?_)
 ·
  replace H := H4
  refine bnd H (fun s5 hs5 H => ?_)
  refine itt H (fun hc6 H => ?_) (fun hc6 H => ?_)
  ·
   refine bnd H (fun s7 hs7 H => ?_)
   refine itt H (fun hc8 H => ?_) (fun hc8 H => ?_)
   ·
    refine itt H (fun hc9 H => ?_) (fun hc9 H => ?_)
    ·
     refine region_k (fun K10 hK10 => ?_)
     refine stq hf Z Z Z (ex_move hf Z) fun a hf => ?_
     refine stepF hf Z Z Z (ex_call cf_55 hf Z) (ref09_ordinary.calls k a1 (hs.enter sN) (Sr.nil _ _) hs5) (fun v w hR a hf => ?_)
     obtain ⟨rfl, hs'⟩ := hR
     replace hs := hs.step sN hs'
     clear hs'
     refine stq hf Z Z Z (ex_not hf Z) fun a hf => stq hf Z Z Z (ex_move hf Z) fun a hf => ?_
     replace hf := hf.castB (t := 11) Z hc6
     replace hf := hf.castB (t := 12) Z (nbool_f hc6)
     replace hf := hf.castB (t := 13) Z (nbool_f hc6)
     refine stq hf Z Z Z (ex_loadA (cs := [.int .u64 a2.Base, .int .u64 a2.Len]) ag_32 hf Z (bx_cells (hs.get (i := 0) Z) Z)) fun a hf => ?_
     refine stepF hf Z Z Z (ex_call cf_56 hf Z) (ref09_ValidRange.calls k a2 (hs.enter sN) (Sr.nil _ _) hs7) (fun v w hR a hf => ?_)
     obtain ⟨rfl, hs'⟩ := hR
     replace hs := hs.step sN hs'
     clear hs'
     refine stq hf Z Z Z (ex_not hf Z) fun a hf => stq hf Z Z Z (ex_pickF hf Z Z) fun a hf => stq hf Z Z Z (ex_move hf Z) fun a hf => ?_
     replace hf := hf.castB (t := 15) Z hc8
     replace hf := hf.castB (t := 16) Z (nbool_f hc8)
     replace hf := hf.castB (t := 17) Z (nbool_f hc8)
     replace hf := hf.castB (t := 18) Z (nbool_f hc8)
     refine stq hf Z Z Z (ex_move hf Z) fun a hf => stq hf Z Z Z (ex_lss hf Z Z) fun a hf => stq hf Z Z Z (ex_pickF hf Z Z) fun a hf => stq hf Z Z Z (ex_move hf Z) fun a hf => ?_
     replace hf := hf.castB (t := 20) Z (dec_t hc9)
     replace hf := hf.castB (t := 21) Z (dec_t hc9)
     replace hf := hf.castB (t := 22) Z (dec_t hc9)
     refine stepN hf Z Z Z fun a hf => stepN hf Z Z Z fun a hf => stq hf Z Z Z (ex_pickT hf Z Z) fun a hf => ?_
     refine hK10 _ _ ?_
     replace hs := hs.p5.p5.p5.p5.p5
     have e4 := some_eq H; subst e4
     exact hJ4 _ _ ⟨hf.sub ⟨Z, Z, Z, Z, Z, trivial⟩, hs⟩
    ·
     refine region_k (fun K11 hK11 => ?_)
     refine stq hf Z Z Z (ex_move hf Z) fun a hf => ?_
     refine stepF hf Z Z Z (ex_call cf_55 hf Z) (ref09_ordinary.calls k a1 (hs.enter sN) (Sr.nil _ _) hs5) (fun v w hR a hf => ?_)
     obtain ⟨rfl, hs'⟩ := hR
     replace hs := hs.step sN hs'
     clear hs'
     refine stq hf Z Z Z (ex_not hf Z) fun a hf => stq hf Z Z Z (ex_move hf Z) fun a hf => ?_
     replace hf := hf.castB (t := 11) Z hc6
     replace hf := hf.castB (t := 12) Z (nbool_f hc6)
     replace hf := hf.castB (t := 13) Z (nbool_f hc6)
     refine stq hf Z Z Z (ex_loadA (cs := [.int .u64 a2.Base, .int .u64 a2.Len]) ag_32 hf Z (bx_cells (hs.get (i := 0) Z) Z)) fun a hf => ?_
     refine stepF hf Z Z Z (ex_call cf_56 hf Z) (ref09_ValidRange.calls k a2 (hs.enter sN) (Sr.nil _ _) hs7) (fun v w hR a hf => ?_)
     obtain ⟨rfl, hs'⟩ := hR
     replace hs := hs.step sN hs'
     clear hs'
     refine stq hf Z Z Z (ex_not hf Z) fun a hf => stq hf Z Z Z (ex_pickF hf Z Z) fun a hf => stq hf Z Z Z (ex_move hf Z) fun a hf => ?_
     replace hf := hf.castB (t := 15) Z hc8
     replace hf := hf.castB (t := 16) Z (nbool_f hc8)
     replace hf := hf.castB (t := 17) Z (nbool_f hc8)
     replace hf := hf.castB (t := 18) Z (nbool_f hc8)
     refine stq hf Z Z Z (ex_move hf Z) fun a hf => stq hf Z Z Z (ex_lss hf Z Z) fun a hf => stq hf Z Z Z (ex_pickF hf Z Z) fun a hf => stq hf Z Z Z (ex_move hf Z) fun a hf => ?_
     replace hf := hf.castB (t := 20) Z (dec_f hc9)
     replace hf := hf.castB (t := 21) Z (dec_f hc9)
     replace hf := hf.castB (t := 22) Z (dec_f hc9)
     refine stq hf Z Z Z (ex_move hf Z) fun a hf => stq hf Z Z Z (ex_geq hf Z Z) fun a hf => stq hf Z Z Z (ex_pickF hf Z Z) fun a hf => ?_
     refine hK11 _ _ ?_
     replace hs := hs.p5.p5.p5.p5.p5
     have e4 := some_eq H; subst e4
     exact hJ4 _ _ ⟨hf.sub ⟨Z, Z, Z, Z, Z, trivial⟩, hs⟩
   ·
    refine region_k (fun K12 hK12 => ?_)
    refine stq hf Z Z Z (ex_move hf Z) fun a hf => ?_
    refine stepF hf Z Z Z (ex_call cf_55 hf Z) (ref09_ordinary.calls k a1 (hs.enter sN) (Sr.nil _ _) hs5) (fun v w hR a hf => ?_)
    obtain ⟨rfl, hs'⟩ := hR
    replace hs := hs.step sN hs'
    clear hs'
    refine stq hf Z Z Z (ex_not hf Z) fun a hf => stq hf Z Z Z (ex_move hf Z) fun a hf => ?_
    replace hf := hf.castB (t := 11) Z hc6
    replace hf := hf.castB (t := 12) Z (nbool_f hc6)
    replace hf := hf.castB (t := 13) Z (nbool_f hc6)
    refine stq hf Z Z Z (ex_loadA (cs := [.int .u64 a2.Base, .int .u64 a2.Len]) ag_32 hf Z (bx_cells (hs.get (i := 0) Z) Z)) fun a hf => ?_
    refine stepF hf Z Z Z (ex_call cf_56 hf Z) (ref09_ValidRange.calls k a2 (hs.enter sN) (Sr.nil _ _) hs7) (fun v w hR a hf => ?_)
    obtain ⟨rfl, hs'⟩ := hR
    replace hs := hs.step sN hs'
    clear hs'
    refine stq hf Z Z Z (ex_not hf Z) fun a hf => stq hf Z Z Z (ex_pickF hf Z Z) fun a hf => stq hf Z Z Z (ex_move hf Z) fun a hf => ?_
    replace hf := hf.castB (t := 15) Z (bool_f hc8)
    replace hf := hf.castB (t := 16) Z (nbool_t hc8)
    replace hf := hf.castB (t := 17) Z (nbool_t hc8)
    replace hf := hf.castB (t := 18) Z (nbool_t hc8)
    refine stepN hf Z Z Z fun a hf => stepN hf Z Z Z fun a hf => stq hf Z Z Z (ex_pickT hf Z Z) fun a hf => stq hf Z Z Z (ex_move hf Z) fun a hf => stepN hf Z Z Z fun a hf => stepN hf Z Z Z fun a hf => stq hf Z Z Z (ex_pickT hf Z Z) fun a hf => ?_
    refine hK12 _ _ ?_
    replace hs := hs.p5.p5.p5.p5.p5
    have e4 := some_eq H; subst e4
    exact hJ4 _ _ ⟨hf.sub ⟨Z, Z, Z, Z, Z, trivial⟩, hs⟩
  ·
   refine region_k (fun K13 hK13 => ?_)
   refine stq hf Z Z Z (ex_move hf Z) fun a hf => ?_
   refine stepF hf Z Z Z (ex_call cf_55 hf Z) (ref09_ordinary.calls k a1 (hs.enter sN) (Sr.nil _ _) hs5) (fun v w hR a hf => ?_)
   obtain ⟨rfl, hs'⟩ := hR
   replace hs := hs.step sN hs'
   clear hs'
   refine stq hf Z Z Z (ex_not hf Z) fun a hf => stq hf Z Z Z (ex_move hf Z) fun a hf => ?_
   replace hf := hf.castB (t := 11) Z (bool_f hc6)
   replace hf := hf.castB (t := 12) Z (nbool_t hc6)
   replace hf := hf.castB (t := 13) Z (nbool_t hc6)
   refine stepN hf Z Z Z fun a hf => stepN hf Z Z Z fun a hf => stepN hf Z Z Z fun a hf => stq hf Z Z Z (ex_pickT hf Z Z) fun a hf => stq hf Z Z Z (ex_move hf Z) fun a hf => stepN hf Z Z Z fun a hf => stepN hf Z Z Z fun a hf => stq hf Z Z Z (ex_pickT hf Z Z) fun a hf => stq hf Z Z Z (ex_move hf Z) fun a hf => stepN hf Z Z Z fun a hf => stepN hf Z Z Z fun a hf => stq hf Z Z Z (ex_pickT hf Z Z) fun a hf => ?_
   refine hK13 _ _ ?_
   replace hs := hs.p5.p5.p5.p5.p5
   have e4 := some_eq H; subst e4
   exact hJ4 _ _ ⟨hf.sub ⟨Z, Z, Z, Z, Z, trivial⟩, hs⟩
 ·
  obtain ⟨hf, hs⟩ := hJ
  replace H := HO4
  clear HO4
  refine itt H (fun hc14 H => ?_) (fun hc14 H => ?_)
  ·
   replace hf := hf.castB (t := 25) Z hc14
   refine cond_T hf Z ?_
   refine seq_reg (fun K15 hK15 => ?_)
   refine stq hf Z Z Z (ex_assign hf Z) fun a hf => ?_
   refine hK15 _ _ ?_
   refine wp_ret ?_
   refine hR3 _ _ ?_
   have eR := some_eq H; subst eR
   replace hs := hs.keep (.k (.k (.k (.k (.k (.d .nil))))))
   exact ret1 Try.results37 hf Z ⟨_, Z, ⟨Vd, Gd, Z, hs⟩⟩
  ·
   replace hf := hf.castB (t := 25) Z (bool_f hc14)
   refine cond_F hf Z ?_
   refine wp_skip ?_
   refine hN3 _ _ ?_
   refine bnd H (fun x16 H16 HO16 => ?_)
   clear H
   refine seq_cut (fun a w => ∃ (x16s : Unit), x16 = .go x16s ∧ Fr a 79 [(0, .pointer (some ⟨b0, 0, none⟩)), (1, .int .i64 a1), (3, .int .i64 a3), (6, .pointer (some ⟨b1, 0, none⟩))] ∧ St M w0 w [bxs b0 56 [([Vd], 1), (List.map Value.bool Ae, 256), ([Vf], 1), ([Vt], 1)], osl KR Vd (List.zip Gd Ad), ndv FR Gd Ad, osl KF Vf Af, osl Kt Vt At, bx b1 32 [.int .u64 a2.Base, .int .u64 a2.Len]]) (fun Q16 hJ16 hR16 hX16 => ?_) (fun a w hJ => ?_)
   ·
    replace H := H16
    refine seq_reg (fun K17 hK17 => ?_)
    refine stq hf Z Z Z (ex_assign hf Z) fun a hf => ?_
    refine hK17 _ _ ?_
    refine block_k (fun Q18 hN18 hR18 hX18 hY18 => ?_)
    refine loop_k (fun n a w => ∃ (y19 : Int), Fr a 79 [(0, .pointer (some ⟨b0, 0, none⟩)), (1, .int .i64 a1), (3, .int .i64 a3), (6, .pointer (some ⟨b1, 0, none⟩)), (9, .int .i64 y19)] ∧ St M w0 w [bxs b0 56 [([Vd], 1), (List.map Value.bool Ae, 256), ([Vf], 1), ([Vt], 1)], osl KR Vd (List.zip Gd Ad), ndv FR Gd Ad, osl KF Vf Af, osl Kt Vt At, bx b1 32 [.int .u64 a2.Base, .int .u64 a2.Len]] ∧ ref09_Bus_Map.l1 n Ad a1 a2 y19 = some x16) k ?_ (fun n21 a w hI Q21 hL21 hR21 hX21 => ?_)
    ·
     exact ⟨0, hf.sub ⟨Z, Z, Z, Z, Z, trivial⟩, hs, H⟩
    ·
     obtain ⟨y19, hf, hs, H⟩ := hI
     cases n21 with
     | zero => exact absurd H (by rw [ref09_Bus_Map.l1.eq_1]; intro h; cases h)
     | succ k21 =>
      replace H := (ref09_Bus_Map.l1.eq_2 ..).symm.trans H
      refine seq_n (fun Q22 hN22 hR22 hX22 => ?_)
      refine seq_reg (fun K23 hK23 => ?_)
      refine stq hf Z Z Z (ex_move hf Z) fun a hf => stq hf Z Z Z (ex_move hf Z) fun a hf => stq hf Z Z Z (ex_nilCheck hf Z) fun a hf => stq hf Z Z Z (ex_fieldAddrB fa_56_0 Z hf Z) fun a hf => stq hf Z Z Z (ex_load sc_51 hf Z (sb_cell1 (i := 0) (hs.get (i := 0) Z) Z Z)) fun a hf => stq hf Z Z Z (ex_lenS Try.underlying51 (nv_isSl (osl_rsl _ (hs.get (i := 1) Z)) (hs.get (i := 2) Z)) hf Z) fun a hf => stq hf Z Z Z (ex_lss hf Z Z) fun a hf => ?_
      refine hK23 _ _ ?_
      refine itt H (fun hc24 H => ?_) (fun hc24 H => ?_)
      ·
       replace hf := hf.castB (t := 32) Z (dec_t hc24)
       refine cond_T hf Z ?_
       refine wp_skip ?_
       refine hN22 _ _ ?_
       refine seq_n (fun Q25 hN25 hR25 hX25 => ?_)
       refine block_k (fun Q26 hN26 hR26 hX26 hY26 => ?_)
       refine bnd H (fun x27 H27 HO27 => ?_)
       clear H
       refine seq_cut (fun a w => Fr a 79 [(0, .pointer (some ⟨b0, 0, none⟩)), (1, .int .i64 a1), (3, .int .i64 a3), (6, .pointer (some ⟨b1, 0, none⟩)), (9, .int .i64 y19), (56, .bool x27)] ∧ St M w0 w [bxs b0 56 [([Vd], 1), (List.map Value.bool Ae, 256), ([Vf], 1), ([Vt], 1)], osl KR Vd (List.zip Gd Ad), ndv FR Gd Ad, osl KF Vf Af, osl Kt Vt At, bx b1 32 [.int .u64 a2.Base, .int .u64 a2.Len]]) (fun Q27 hJ27 hR27 hX27 => ?_) (fun a w hJ => ?_)
       ·
        replace H := H27
        refine ck_some H (fun hc28 H => ?_)
        refine itt H (fun hc29 H => ?_) (fun hc29 H => ?_)
        ·
         refine bnd H (fun s30 hs30 H => ?_)
         refine region_dS fol 22 [(0, .pointer (some ⟨b0, 0, none⟩)), (1, .int .i64 a1), (3, .int .i64 a3), (6, .pointer (some ⟨b1, 0, none⟩)), (9, .int .i64 y19)] [(0, .pointer (some ⟨b0, 0, none⟩)), (1, .pointer (some ⟨b0, 0, none⟩)), (2, .pointer (some ⟨b0, 0, none⟩)), (3, Vd), (4, .int .i64 y19), (5, .pointer (some (sla Vd (y19.toNat * 5)))), (6, .pointer (some (sla Vd (y19.toNat * 5 + 0)))), (7, .int .i64 ((gd ref09_mapping.zero Ad y19).space)), (8, .int .i64 a1), (9, .bool true), (10, .bool true), (11, .pointer (some ⟨b0, 0, none⟩)), (12, .pointer (some ⟨b0, 0, none⟩)), (13, .pointer (some ⟨b0, 0, none⟩)), (14, Vd), (15, .int .i64 y19), (16, .pointer (some (sla Vd (y19.toNat * 5)))), (17, .pointer (some (sla Vd (y19.toNat * 5 + 1)))), (18, .agg #[.int .u64 ((gd ref09_mapping.zero Ad y19).m.Base), .int .u64 ((gd ref09_mapping.zero Ad y19).m.Len)]), (19, .agg #[.int .u64 a2.Base, .int .u64 a2.Len])] [20] (fun w => (bxs b0 56 [([Vd], 1), (List.map Value.bool Ae, 256), ([Vf], 1), ([Vt], 1)]).ok w ∧ (osl KR Vd (List.zip Gd Ad)).ok w ∧ (ndv FR Gd Ad).ok w ∧ (bx b1 32 [.int .u64 a2.Base, .int .u64 a2.Len]).ok w ∧ True) hf ⟨Z, Z, Z, Z, Z, trivial⟩ (by kernel_rfl) (by kernel_rfl) Z (by decide) ⟨hs.drew.get (i := 0) Z, hs.drew.get (i := 1) Z, hs.drew.get (i := 2) Z, hs.drew.get (i := 5) Z, trivial⟩ hs ((.cons (qy Z Z Z Z Z fun hR hf => ex_move hf Z) (.cons (qy Z Z Z Z Z fun hR hf => ex_nilCheck hf Z) (.cons (qy Z Z Z Z Z fun hR hf => ex_fieldAddrB fa_56_0 Z hf Z) (.cons (qy Z Z Z Z Z fun hR hf => ex_load sc_51 hf Z (sb_cell1 (i := 0) (hR.1) Z Z)) (.cons (qy Z Z Z Z Z fun hR hf => ex_move hf Z) (.cons (qy Z Z Z Z Z fun hR hf => ex_indexAddr sa_51 (nv_isSl (osl_rsl _ hR.2.1) hR.2.2.1) hc28.1 hc28.2 hf Z Z) (.cons (qy Z Z Z Z Z fun hR hf => ex_fieldAddrS fa_100_0 Z hf Z) (.cons (qy Z Z Z Z Z fun hR hf => ex_load sc_3 hf Z (nv_cell (K := KR) (F := FR) (f := 0) (osl_rsl _ hR.2.1) hR.2.2.1 SlV.zero ref09_mapping.zero hc28.1 hc28.2 Z)) (.cons (qy Z Z Z Z Z fun hR hf => ex_move hf Z) (.cons (qy Z Z Z Z Z fun hR hf => ex_castB (ex_eql hf Z Z) (dec_t hc29)) (.cons (qy Z Z Z Z Z fun hR hf => ex_move hf Z) (.cons (qy Z Z Z Z Z fun hR hf => ex_move hf Z) (.cons (qy Z Z Z Z Z fun hR hf => ex_nilCheck hf Z) (.cons (qy Z Z Z Z Z fun hR hf => ex_fieldAddrB fa_56_0 Z hf Z) (.cons (qy Z Z Z Z Z fun hR hf => ex_load sc_51 hf Z (sb_cell1 (i := 0) (hR.1) Z Z)) (.cons (qy Z Z Z Z Z fun hR hf => ex_move hf Z) (.cons (qy Z Z Z Z Z fun hR hf => ex_indexAddr sa_51 (nv_isSl (osl_rsl _ hR.2.1) hR.2.2.1) hc28.1 hc28.2 hf Z Z) (.cons (qy Z Z Z Z Z fun hR hf => ex_fieldAddrS fa_100_1 Z hf Z) (.cons (qy Z Z Z Z Z fun hR hf => ex_loadA (cs := [.int .u64 ((gd ref09_mapping.zero Ad y19).m.Base), .int .u64 ((gd ref09_mapping.zero Ad y19).m.Len)]) ag_32 hf Z (nv_cells (K := KR) (F := FR) (f := 1) (osl_rsl _ hR.2.1) hR.2.2.1 SlV.zero ref09_mapping.zero hc28.1 hc28.2 Z)) (.cons (qy Z Z Z Z Z fun hR hf => ex_loadA (cs := [.int .u64 a2.Base, .int .u64 a2.Len]) ag_32 hf Z (bx_cells (hR.2.2.2.1) Z)) .nil))))))))))))))))))))) (fun K31 hK31 => ?_)
         refine RW.one 20 (by kernel_rfl) (by kernel_rfl) rfl (fun d hd => by cases hd; rfl) [(45, .bool true), (53, .agg #[.int .u64 ((gd ref09_mapping.zero Ad y19).m.Base), .int .u64 ((gd ref09_mapping.zero Ad y19).m.Len)]), (54, .agg #[.int .u64 a2.Base, .int .u64 a2.Len])] ⟨rfl, rfl, rfl, trivial⟩ (fun a w hR hs hf => ⟨wanted_yes hf rfl, ?_⟩)
         refine estep_f (ex_call cf_57 hf Z) (ref09_overlap.calls k21 (⟨((gd ref09_mapping.zero Ad y19).m.Base), ((gd ref09_mapping.zero Ad y19).m.Len)⟩ : Range) a2 (hs.enter sN) (Sr.nil _ _) hs30) (fun v w hR => ?_)
         obtain ⟨rfl, hs'⟩ := hR
         replace hs := hs.step sN hs'
         clear hs'
         refine ⟨[(21, .bool s30)], _, [], (fun _ => True), hs.fn, Z, Z, ⟨hs.get (i := 0) Z, hs.get (i := 1) Z, hs.get (i := 2) Z, hs.get (i := 5) Z, trivial⟩, trivial, hs, (by kernel_rfl), (.cons (qy Z Z Z Z Z fun hR hf => ex_pickT hf Z Z) .nil), ?_⟩
         refine RW.zero (by kernel_rfl) (by kernel_rfl) [(0, .pointer (some ⟨b0, 0, none⟩)), (1, .int .i64 a1), (3, .int .i64 a3), (6, .pointer (some ⟨b1, 0, none⟩)), (9, .int .i64 y19), (56, .bool s30)] ⟨Z, Z, Z, Z, Z, Z, trivial⟩ (fun a w hR hs hf => ?_)
         refine hK31 _ _ ?_
         have e27 := some_eq H; subst e27
         exact hJ27 _ _ ⟨hf.sub ⟨Z, Z, Z, Z, Z, Z, trivial⟩, hs⟩
        ·
         refine region_dS fol 22 [(0, .pointer (some ⟨b0, 0, none⟩)), (1, .int .i64 a1), (3, .int .i64 a3), (6, .pointer (some ⟨b1, 0, none⟩)), (9, .int .i64 y19)] [(0, .pointer (some ⟨b0, 0, none⟩)), (1, .pointer (some ⟨b0, 0, none⟩)), (2, .pointer (some ⟨b0, 0, none⟩)), (3, Vd), (4, .int .i64 y19), (5, .pointer (some (sla Vd (y19.toNat * 5)))), (6, .pointer (some (sla Vd (y19.toNat * 5 + 0)))), (7, .int .i64 ((gd ref09_mapping.zero Ad y19).space)), (8, .int .i64 a1), (9, .bool false), (10, .bool false), (11, undef), (12, undef), (13, undef), (14, undef), (15, undef), (16, undef), (17, undef), (18, undef), (19, undef), (20, undef), (21, .bool false)] [] (fun w => (bxs b0 56 [([Vd], 1), (List.map Value.bool Ae, 256), ([Vf], 1), ([Vt], 1)]).ok w ∧ (osl KR Vd (List.zip Gd Ad)).ok w ∧ (ndv FR Gd Ad).ok w ∧ True) hf ⟨Z, Z, Z, Z, Z, trivial⟩ (by kernel_rfl) (by kernel_rfl) Z (by decide) ⟨hs.drew.get (i := 0) Z, hs.drew.get (i := 1) Z, hs.drew.get (i := 2) Z, trivial⟩ hs ((.cons (qy Z Z Z Z Z fun hR hf => ex_move hf Z) (.cons (qy Z Z Z Z Z fun hR hf => ex_nilCheck hf Z) (.cons (qy Z Z Z Z Z fun hR hf => ex_fieldAddrB fa_56_0 Z hf Z) (.cons (qy Z Z Z Z Z fun hR hf => ex_load sc_51 hf Z (sb_cell1 (i := 0) (hR.1) Z Z)) (.cons (qy Z Z Z Z Z fun hR hf => ex_move hf Z) (.cons (qy Z Z Z Z Z fun hR hf => ex_indexAddr sa_51 (nv_isSl (osl_rsl _ hR.2.1) hR.2.2.1) hc28.1 hc28.2 hf Z Z) (.cons (qy Z Z Z Z Z fun hR hf => ex_fieldAddrS fa_100_0 Z hf Z) (.cons (qy Z Z Z Z Z fun hR hf => ex_load sc_3 hf Z (nv_cell (K := KR) (F := FR) (f := 0) (osl_rsl _ hR.2.1) hR.2.2.1 SlV.zero ref09_mapping.zero hc28.1 hc28.2 Z)) (.cons (qy Z Z Z Z Z fun hR hf => ex_move hf Z) (.cons (qy Z Z Z Z Z fun hR hf => ex_castB (ex_eql hf Z Z) (dec_f hc29)) (.cons (qy Z Z Z Z Z fun hR hf => ex_move hf Z) (.cons (qn Z Z Z Z Z) (.cons (qn Z Z Z Z Z) (.cons (qn Z Z Z Z Z) (.cons (qn Z Z Z Z Z) (.cons (qn Z Z Z Z Z) (.cons (qn Z Z Z Z Z) (.cons (qn Z Z Z Z Z) (.cons (qn Z Z Z Z Z) (.cons (qn Z Z Z Z Z) (.cons (qn Z Z Z Z Z) (.cons (qy Z Z Z Z Z fun hR hf => ex_pickF hf Z Z) .nil))))))))))))))))))))))) (fun K32 hK32 => ?_)
         refine RW.zero (by kernel_rfl) (by kernel_rfl) [(0, .pointer (some ⟨b0, 0, none⟩)), (1, .int .i64 a1), (3, .int .i64 a3), (6, .pointer (some ⟨b1, 0, none⟩)), (9, .int .i64 y19), (56, .bool false)] ⟨Z, Z, Z, Z, Z, Z, trivial⟩ (fun a w hR hs hf => ?_)
         refine hK32 _ _ ?_
         have e27 := some_eq H; subst e27
         exact hJ27 _ _ ⟨hf.sub ⟨Z, Z, Z, Z, Z, Z, trivial⟩, hs⟩
       ·
        obtain ⟨hf, hs⟩ := hJ
        replace H := HO27
        clear HO27
        refine itt H (fun hc33 H => ?_) (fun hc33 H => ?_)
        ·
         replace hf := hf.castB (t := 56) Z hc33
         refine cond_T hf Z ?_
         refine seq_reg (fun K34 hK34 => ?_)
         refine stq hf Z Z Z (ex_assign hf Z) fun a hf => ?_
         refine hK34 _ _ ?_
         refine wp_ret ?_
         refine hR26 _ _ ?_
         refine hR25 _ _ ?_
         refine hR21 _ _ ?_
         refine hR18 _ _ ?_
         have e16 := some_eq H; subst e16; replace H := el_rt HO16
         refine hR16 _ _ ?_
         have eR := some_eq H; subst eR
         replace hs := hs.keep (.k (.k (.k (.k (.k (.d .nil))))))
         exact ret1 Try.results37 hf Z ⟨_, Z, ⟨Vd, Gd, Z, hs⟩⟩
        ·
         replace hf := hf.castB (t := 56) Z (bool_f hc33)
         refine cond_F hf Z ?_
         refine wp_skip ?_
         refine hN26 _ _ ?_
         refine hN25 _ _ ?_
         refine region_k (fun K35 hK35 => ?_)
         refine stq hf Z Z Z (ex_move hf Z) fun a hf => stq hf Z Z Z (ex_add hf Z Z) fun a hf => stq hf Z Z Z (ex_assign hf Z) fun a hf => ?_
         refine hK35 _ _ ?_
         exact hL21 k21 _ _ (Nat.lt_succ_self _) ⟨(IntKind.i64.wrap (y19 + 1)), hf.sub ⟨Z, Z, Z, Z, Z, trivial⟩, hs, H⟩
      ·
       replace hf := hf.castB (t := 32) Z (dec_f hc24)
       refine cond_F hf Z ?_
       refine wp_exit ?_
       refine hX22 0 _ _ ?_
       refine hX21 0 _ _ ?_
       refine hX18 _ _ ?_
       have e16 := some_eq H; subst e16
       exact hJ16 _ _ ⟨_, Z, hf.sub ⟨Z, Z, Z, Z, trivial⟩, hs⟩
   ·
    obtain ⟨x16s, rfl, hf, hs⟩ := hJ
    replace H := el_go HO16
    clear HO16
    refine seq_n (fun Q36 hN36 hR36 hX36 => ?_)
    refine seq_reg (fun K37 hK37 => ?_)
    refine stq hf Z Z Z (ex_move hf Z) fun a hf => stq hf Z Z Z (ex_nilCheck hf Z) fun a hf => stq hf Z Z Z (ex_fieldAddrB fa_56_0 Z hf Z) fun a hf => stq hf Z Z Z (ex_load sc_51 hf Z (sb_cell1 (i := 0) (hs.get (i := 0) Z) Z Z)) fun a hf => stq hf Z Z Z (ex_lenS Try.underlying51 (nv_isSl (osl_rsl _ (hs.get (i := 1) Z)) (hs.get (i := 2) Z)) hf Z) fun a hf => stq hf Z Z Z (ex_geq hf Z Z) fun a hf => ?_
    refine hK37 _ _ ?_
    refine itt H (fun hc38 H => ?_) (fun hc38 H => ?_)
    ·
     replace hf := hf.castB (t := 62) Z (dec_t hc38)
     refine cond_T hf Z ?_
     refine seq_reg (fun K39 hK39 => ?_)
     refine stq hf Z Z Z (ex_assign hf Z) fun a hf => ?_
     refine hK39 _ _ ?_
     refine wp_ret ?_
     refine hR36 _ _ ?_
     have eR := some_eq H; subst eR
     replace hs := hs.keep (.k (.k (.k (.k (.k (.d .nil))))))
     exact ret1 Try.results37 hf Z ⟨_, Z, ⟨Vd, Gd, Z, hs⟩⟩
    ·
     replace hf := hf.castB (t := 62) Z (dec_f hc38)
     refine cond_F hf Z ?_
     refine wp_skip ?_
     refine hN36 _ _ ?_
     refine seq_n (fun Q40 hN40 hR40 hX40 => ?_)
     refine ck_some H (fun hc41 H => ?_)
     refine ck_some H (fun hc44 H => ?_)
     refine region_dS fol 14 [(0, .pointer (some ⟨b0, 0, none⟩)), (1, .int .i64 a1), (3, .int .i64 a3), (6, .pointer (some ⟨b1, 0, none⟩))] [(0, .pointer (some ⟨b0, 0, none⟩)), (1, .pointer (some ⟨b0, 0, none⟩)), (2, .pointer (some ⟨b0, 0, none⟩)), (3, .pointer (some ⟨b0, 0, none⟩)), (4, Vd), (5, .int .i64 a1), (6, .agg #[.int .u64 a2.Base, .int .u64 a2.Len]), (7, .int .i64 a3), (8, .pointer (some ⟨b1, 1, none⟩)), (9, .int .u64 a2.Len)] [10, 12, 13] (fun w => (bxs b0 56 [([Vd], 1), (List.map Value.bool Ae, 256), ([Vf], 1), ([Vt], 1)]).ok w ∧ (bx b1 32 [.int .u64 a2.Base, .int .u64 a2.Len]).ok w ∧ True) hf ⟨Z, Z, Z, Z, trivial⟩ (by kernel_rfl) (by kernel_rfl) Z (by decide) ⟨hs.drew.get (i := 0) Z, hs.drew.get (i := 5) Z, trivial⟩ hs ((.cons (qy Z Z Z Z Z fun hR hf => ex_move hf Z) (.cons (qy Z Z Z Z Z fun hR hf => ex_move hf Z) (.cons (qy Z Z Z Z Z fun hR hf => ex_nilCheck hf Z) (.cons (qy Z Z Z Z Z fun hR hf => ex_fieldAddrB fa_56_0 Z hf Z) (.cons (qy Z Z Z Z Z fun hR hf => ex_load sc_51 hf Z (sb_cell1 (i := 0) (hR.1) Z Z)) (.cons (qy Z Z Z Z Z fun hR hf => ex_move hf Z) (.cons (qy Z Z Z Z Z fun hR hf => ex_loadA (cs := [.int .u64 a2.Base, .int .u64 a2.Len]) ag_32 hf Z (bx_cells (hR.2.1) Z)) (.cons (qy Z Z Z Z Z fun hR hf => ex_move hf Z) (.cons (qy Z Z Z Z Z fun hR hf => ex_fieldAddrB fa_32_1 Z hf Z) (.cons (qy Z Z Z Z Z fun hR hf => ex_load sc_22 hf Z (bx_cell (hR.2.1) _ Z)) .nil))))))))))) (fun K46 hK46 => ?_)
     refine RW.one 10 (by kernel_rfl) (by kernel_rfl) rfl (fun d hd => by cases hd; rfl) [(72, .int .u64 a2.Len)] ⟨rfl, trivial⟩ (fun a w hR hs hf => ⟨wanted_yes hf rfl, ?_⟩)
     refine estep_v (er_makeSlice (K := K_uint8) hs Try.underlying23 ep_5 hc41.1 hc41.2 Z hf Z Z) (fun v42 w hs => ?_)
     obtain ⟨g_v42, rfl⟩ := osl_sv (hs.get (i := 0) rfl)
     refine ⟨[(11, .agg #[.int .i64 a1, .int .u64 a2.Base, .int .u64 a2.Len, .int .i64 a3, g_v42.v])], _, [12, 13], (fun w => (osl K_uint8 g_v42.v (List.replicate a2.Len.toNat 0)).ok w ∧ True), hs.fn, Z, Z, ⟨hs.get (i := 1) Z, hs.get (i := 6) Z, trivial⟩, ⟨hs.get (i := 0) Z, trivial⟩, hs, (by kernel_rfl), (.cons (qy Z Z Z Z Z fun hR hf => ex_build (cs := [.int .i64 a1, .int .u64 a2.Base, .int .u64 a2.Len, .int .i64 a3, g_v42.v]) bt_100 hf Z (.cons Z (.cons Z (.cons Z (.cons (CL.one (IsSl.one (rsl_isSl (osl_rsl _ hR.2.1)))) .nil)))) Z) .nil), ?_⟩
     refine RW.one 12 (by kernel_rfl) (by kernel_rfl) rfl (fun d hd => by cases hd; rfl) [(74, .agg #[.int .i64 a1, .int .u64 a2.Base, .int .u64 a2.Len, .int .i64 a3, g_v42.v])] ⟨rfl, trivial⟩ (fun a w hR hs hf => ⟨wanted_yes hf rfl, ?_⟩)
     refine estep_v (er_buildSlice (K := KR) (xs := [(g_v42, (⟨a1, (⟨a2.Base, a2.Len⟩ : Range), a3, (List.replicate a2.Len.toNat 0)⟩ : ref09_mapping))]) hs Try.underlying51 ep_100 Z Z hf Z (.cons Z .nil) Z Z) (fun v43 w hs => ?_)
     refine ⟨[], _, [13], (fun _ => True), hs.fn, Z, Z, ⟨⟨hs.get (i := 2) Z, hs.get (i := 7) Z, trivial⟩, ⟨hs.get (i := 1) Z, trivial⟩⟩, trivial, hs, (by kernel_rfl), .nil, ?_⟩
     refine RW.one 13 (by kernel_rfl) (by kernel_rfl) rfl (fun d hd => by cases hd; rfl) [(67, Vd), (75, v43)] ⟨rfl, rfl, trivial⟩ (fun a w hR hs hf => ⟨wanted_yes hf rfl, ?_⟩)
     refine estep_v (er_append (K := KR) hs (.k (.k (.k (.c sN)))) (osl_rsl _ (hs.get (i := 0) Z)) Z Try.underlying51 ep_100 (zip_room (F := FR) (L := Ad) (hs.get (i := 4) Z) hc44) Z hf Z Z) (fun v45 w hs => ?_)
     refine ⟨[], _, [], (fun _ => True), hs.fn, Z, Z, ⟨⟨⟨hs.get (i := 3) Z, hs.get (i := 7) Z, trivial⟩, ⟨hs.get (i := 2) Z, trivial⟩⟩, trivial⟩, trivial, hs, (by kernel_rfl), .nil, ?_⟩
     refine RW.zero (by kernel_rfl) (by kernel_rfl) [(63, .pointer (some ⟨b0, 0, none⟩)), (76, v45)] ⟨Z, Z, trivial⟩ (fun a w hR hs hf => ?_)
     refine stq hf Z Z Z (ex_nilCheck hf Z) fun a hf => stq hf Z Z Z (ex_fieldAddrB fa_56_0 Z hf Z) fun a hf => ?_
     replace hs := hs.me
     rw [zip_snoc (G := Gd) (L := Ad) (g := g_v42) (u := (⟨a1, (⟨a2.Base, a2.Len⟩ : Range), a3, (List.replicate a2.Len.toNat 0)⟩ : ref09_mapping)) (ndv_len (hs.get (i := 4) rfl))] at hs
     replace hs := hs.p4.p3
     replace hs := St.vsnoc (F := FR) (G := Gd) (L := Ad) (g := g_v42) (u := (⟨a1, (⟨a2.Base, a2.Len⟩ : Range), a3, (List.replicate a2.Len.toNat 0)⟩ : ref09_mapping)) hs
     refine stepS hf Z Z (er_storeS1 (i := 0) hs (.k (.k (.k (.c sN)))) hf Z Z (IsSl.one (nv_isSl (osl_rsl _ (hs.get (i := 1) Z)) (hs.get (i := 0) Z))) sz_51 Z Z) (fun w hs => ?_)
     refine hK46 _ _ ?_
     refine hN40 _ _ ?_
     refine seq_reg (fun K47 hK47 => ?_)
     refine stq hf Z Z Z (ex_assign hf Z) fun a hf => ?_
     refine hK47 _ _ ?_
     refine wp_ret ?_
     have eR := some_eq H; subst eR
     replace hs := hs.keep (.k (.k (.k (.d (.k (.k (.d .nil)))))))
     replace hs := hs.p4.p4.p3.p4.p4
     exact ret1 Try.results37 hf Z ⟨_, Z, ⟨v45, (Gd ++ [g_v42]), Z, hs⟩⟩

set_option maxRecDepth 100000 in
theorem ref09_Bus_Unmap.calls {M : Nat → Prop} {w0 : World} (k : Nat) (Ad : (List ref09_mapping)) (Ae : (List Bool)) (Af : (List ref09_fault)) (At : (List Traced)) (a1 : Int) (a2 : Range) (b0 : Nat) (Vd : Value) (Gd : (List SlV)) (Vf : Value) (Vt : Value) {r : (List ref09_mapping) × Int} (hs : St M w0 w0 [bxs b0 56 [([Vd], 1), (List.map Value.bool Ae, 256), ([Vf], 1), ([Vt], 1)], osl KR Vd (List.zip Gd Ad), ndv FR Gd Ad, osl KF Vf Af, osl Kt Vt At]) (hr : Sr M w0 [])
  (h : ref09_Bus_Unmap.f k Ad Ae Af At a1 a2 = some r) : Calls Try.prog 39 #[.pointer (some ⟨b0, 0, none⟩), .int .i64 a1, .agg #[.int .u64 a2.Base, .int .u64 a2.Len]] w0 fun e w => ∃ v, e = .returned v ∧ (∃ (g0 : Value) (g1 : List SlV), .int .i64 r.2 = v ∧ St M w0 w [bxs b0 56 [([g0], 1), (List.map Value.bool Ae, 256), ([Vf], 1), ([Vt], 1)], osl KR g0 (List.zip g1 r.1), ndv FR g1 r.1, osl KF Vf Af, osl Kt Vt At]) := by
 have H := (ref09_Bus_Unmap.f.eq_1 ..).symm.trans h
 clear h
 refine enter Try.func39 Z Try.ntmps39 Z (fun a hf => ?_)
 refine seq_reg (fun K2 hK2 => ?_)
 refine stepV hf Z Z Z (er_box (cs := [.int .u64 a2.Base, .int .u64 a2.Len]) hs hf Z Z) (fun v w hR a hf => ?_)
 obtain ⟨b1, rfl, hs⟩ := hR
 refine stq hf Z Z Z (ex_assign hf Z) fun a hf => ?_
 refine hK2 _ _ ?_
 refine bnd H (fun x3 H3 HO3 => ?_)
 clear H
 refine seq_cut (fun a w => ∃ (x3s : Unit), x3 = .go x3s ∧ Fr a 57 [] ∧ St M w0 w [bxs b0 56 [([Vd], 1), (List.map Value.bool Ae, 256), ([Vf], 1), ([Vt], 1)], osl KR Vd (List.zip Gd Ad), ndv FR Gd Ad, osl KF Vf Af, osl Kt Vt At]) (fun Q3 hJ3 hR3 hX3 => ?_) (fun a w hJ => ?_)
 ·
  replace H := H3
  refine seq_reg (fun K4 hK4 => ?_)
  refine stq hf Z Z Z (ex_assign hf Z) fun a hf => ?_
  refine hK4 _ _ ?_
  refine block_k (fun Q5 hN5 hR5 hX5 hY5 => ?_)
  refine loop_k (fun n a w => ∃ (y6 : Int), Fr a 57 [(0, .pointer (some ⟨b0, 0, none⟩)), (1, .int .i64 a1), (5, .pointer (some ⟨b1, 0, none⟩)), (7, .int .i64 y6)] ∧ St M w0 w [bxs b0 56 [([Vd], 1), (List.map Value.bool Ae, 256), ([Vf], 1), ([Vt], 1)], osl KR Vd (List.zip Gd Ad), ndv FR Gd Ad, osl KF Vf Af, osl Kt Vt At, bx b1 32 [.int .u64 a2.Base, .int .u64 a2.Len]] ∧ ref09_Bus_Unmap.l1 n Ad a1 a2 y6 = some x3) k ?_ (fun n8 a w hI Q8 hL8 hR8 hX8 => ?_)
  ·
   replace hs := hs.p5.p5.p5.p5.p5
   exact ⟨0, hf.sub ⟨Z, Z, Z, Z, trivial⟩, hs, H⟩
  ·
   obtain ⟨y6, hf, hs, H⟩ := hI
   cases n8 with
   | zero => exact absurd H (by rw [ref09_Bus_Unmap.l1.eq_1]; intro h; cases h)
   | succ k8 =>
    replace H := (ref09_Bus_Unmap.l1.eq_2 ..).symm.trans H
    refine seq_n (fun Q9 hN9 hR9 hX9 => ?_)
    refine seq_reg (fun K10 hK10 => ?_)
    refine stq hf Z Z Z (ex_move hf Z) fun a hf => stq hf Z Z Z (ex_move hf Z) fun a hf => stq hf Z Z Z (ex_nilCheck hf Z) fun a hf => stq hf Z Z Z (ex_fieldAddrB fa_56_0 Z hf Z) fun a hf => stq hf Z Z Z (ex_load sc_51 hf Z (sb_cell1 (i := 0) (hs.get (i := 0) Z) Z Z)) fun a hf => stq hf Z Z Z (ex_lenS Try.underlying51 (nv_isSl (osl_rsl _ (hs.get (i := 1) Z)) (hs.get (i := 2) Z)) hf Z) fun a hf => stq hf Z Z Z (ex_lss hf Z Z) fun a hf => ?_
    refine hK10 _ _ ?_
    refine itt H (fun hc11 H => ?_) (fun hc11 H => ?_)
    ·
     replace hf := hf.castB (t := 14) Z (dec_t hc11)
     refine cond_T hf Z ?_
     refine wp_skip ?_
     refine hN9 _ _ ?_
     refine seq_n (fun Q12 hN12 hR12 hX12 => ?_)
     refine block_k (fun Q13 hN13 hR13 hX13 hY13 => ?_)
     refine bnd H (fun x14 H14 HO14 => ?_)
     clear H
     refine seq_cut (fun a w => Fr a 57 [(0, .pointer (some ⟨b0, 0, none⟩)), (1, .int .i64 a1), (5, .pointer (some ⟨b1, 0, none⟩)), (7, .int .i64 y6), (38, .bool x14)] ∧ St M w0 w [bxs b0 56 [([Vd], 1), (List.map Value.bool Ae, 256), ([Vf], 1), ([Vt], 1)], osl KR Vd (List.zip Gd Ad), ndv FR Gd Ad, osl KF Vf Af, osl Kt Vt At, bx b1 32 [.int .u64 a2.Base, .int .u64 a2.Len]]) (fun Q14 hJ14 hR14 hX14 => ?_) (fun a w hJ => ?_)
     ·
      replace H := H14
      refine ck_some H (fun hc15 H => ?_)
      refine itt H (fun hc16 H => ?_) (fun hc16 H => ?_)
      ·
       refine region_dS fol 22 [(0, .pointer (some ⟨b0, 0, none⟩)), (1, .int .i64 a1), (5, .pointer (some ⟨b1, 0, none⟩)), (7, .int .i64 y6)] [(0, .pointer (some ⟨b0, 0, none⟩)), (1, .pointer (some ⟨b0, 0, none⟩)), (2, .pointer (some ⟨b0, 0, none⟩)), (3, Vd), (4, .int .i64 y6), (5, .pointer (some (sla Vd (y6.toNat * 5)))), (6, .pointer (some (sla Vd (y6.toNat * 5 + 0)))), (7, .int .i64 ((gd ref09_mapping.zero Ad y6).space)), (8, .int .i64 a1), (9, .bool true), (10, .bool true), (11, .pointer (some ⟨b0, 0, none⟩)), (12, .pointer (some ⟨b0, 0, none⟩)), (13, .pointer (some ⟨b0, 0, none⟩)), (14, Vd), (15, .int .i64 y6), (16, .pointer (some (sla Vd (y6.toNat * 5)))), (17, .pointer (some (sla Vd (y6.toNat * 5 + 1)))), (18, .agg #[.int .u64 ((gd ref09_mapping.zero Ad y6).m.Base), .int .u64 ((gd ref09_mapping.zero Ad y6).m.Len)]), (19, .agg #[.int .u64 a2.Base, .int .u64 a2.Len]), (20, .bool ((((gd ref09_mapping.zero Ad y6).m.Base) == a2.Base) && ((((gd ref09_mapping.zero Ad y6).m.Len) == a2.Len) && true))), (21, .bool ((((gd ref09_mapping.zero Ad y6).m.Base) == a2.Base) && ((((gd ref09_mapping.zero Ad y6).m.Len) == a2.Len) && true)))] [] (fun w => (bxs b0 56 [([Vd], 1), (List.map Value.bool Ae, 256), ([Vf], 1), ([Vt], 1)]).ok w ∧ (osl KR Vd (List.zip Gd Ad)).ok w ∧ (ndv FR Gd Ad).ok w ∧ (bx b1 32 [.int .u64 a2.Base, .int .u64 a2.Len]).ok w ∧ True) hf ⟨Z, Z, Z, Z, trivial⟩ (by kernel_rfl) (by kernel_rfl) Z (by decide) ⟨hs.drew.get (i := 0) Z, hs.drew.get (i := 1) Z, hs.drew.get (i := 2) Z, hs.drew.get (i := 5) Z, trivial⟩ hs ((.cons (qy Z Z Z Z Z fun hR hf => ex_move hf Z) (.cons (qy Z Z Z Z Z fun hR hf => ex_nilCheck hf Z) (.cons (qy Z Z Z Z Z fun hR hf => ex_fieldAddrB fa_56_0 Z hf Z) (.cons (qy Z Z Z Z Z fun hR hf => ex_load sc_51 hf Z (sb_cell1 (i := 0) (hR.1) Z Z)) (.cons (qy Z Z Z Z Z fun hR hf => ex_move hf Z) (.cons (qy Z Z Z Z Z fun hR hf => ex_indexAddr sa_51 (nv_isSl (osl_rsl _ hR.2.1) hR.2.2.1) hc15.1 hc15.2 hf Z Z) (.cons (qy Z Z Z Z Z fun hR hf => ex_fieldAddrS fa_100_0 Z hf Z) (.cons (qy Z Z Z Z Z fun hR hf => ex_load sc_3 hf Z (nv_cell (K := KR) (F := FR) (f := 0) (osl_rsl _ hR.2.1) hR.2.2.1 SlV.zero ref09_mapping.zero hc15.1 hc15.2 Z)) (.cons (qy Z Z Z Z Z fun hR hf => ex_move hf Z) (.cons (qy Z Z Z Z Z fun hR hf => ex_castB (ex_eql hf Z Z) (dec_t hc16)) (.cons (qy Z Z Z Z Z fun hR hf => ex_move hf Z) (.cons (qy Z Z Z Z Z fun hR hf => ex_move hf Z) (.cons (qy Z Z Z Z Z fun hR hf => ex_nilCheck hf Z) (.cons (qy Z Z Z Z Z fun hR hf => ex_fieldAddrB fa_56_0 Z hf Z) (.cons (qy Z Z Z Z Z fun hR hf => ex_load sc_51 hf Z (sb_cell1 (i := 0) (hR.1) Z Z)) (.cons (qy Z Z Z Z Z fun hR hf => ex_move hf Z) (.cons (qy Z Z Z Z Z fun hR hf => ex_indexAddr sa_51 (nv_isSl (osl_rsl _ hR.2.1) hR.2.2.1) hc15.1 hc15.2 hf Z Z) (.cons (qy Z Z Z Z Z fun hR hf => ex_fieldAddrS fa_100_1 Z hf Z) (.cons (qy Z Z Z Z Z fun hR hf => ex_loadA (cs := [.int .u64 ((gd ref09_mapping.zero Ad y6).m.Base), .int .u64 ((gd ref09_mapping.zero Ad y6).m.Len)]) ag_32 hf Z (nv_cells (K := KR) (F := FR) (f := 1) (osl_rsl _ hR.2.1) hR.2.2.1 SlV.zero ref09_mapping.zero hc15.1 hc15.2 Z)) (.cons (qy Z Z Z Z Z fun hR hf => ex_loadA (cs := [.int .u64 a2.Base, .int .u64 a2.Len]) ag_32 hf Z (bx_cells (hR.2.2.2.1) Z)) (.cons (qy Z Z Z Z Z fun hR hf => ex_eqS (FE.mk Try.underlying32 (by kernel_rfl) (by kernel_rfl) (.i (by decide) Try.underlying22 Z Z (.i (by decide) Try.underlying22 Z Z .nil))) hf Z Z) (.cons (qy Z Z Z Z Z fun hR hf => ex_pickT hf Z Z) .nil))))))))))))))))))))))) (fun K17 hK17 => ?_)
       refine RW.zero (by kernel_rfl) (by kernel_rfl) [(0, .pointer (some ⟨b0, 0, none⟩)), (1, .int .i64 a1), (5, .pointer (some ⟨b1, 0, none⟩)), (7, .int .i64 y6), (38, .bool ((((gd ref09_mapping.zero Ad y6).m.Base) == a2.Base) && ((((gd ref09_mapping.zero Ad y6).m.Len) == a2.Len) && true)))] ⟨Z, Z, Z, Z, Z, trivial⟩ (fun a w hR hs hf => ?_)
       refine hK17 _ _ ?_
       have e14 := some_eq H; subst e14
       exact hJ14 _ _ ⟨hf.sub ⟨Z, Z, Z, Z, Z, trivial⟩, hs⟩
      ·
       refine region_dS fol 22 [(0, .pointer (some ⟨b0, 0, none⟩)), (1, .int .i64 a1), (5, .pointer (some ⟨b1, 0, none⟩)), (7, .int .i64 y6)] [(0, .pointer (some ⟨b0, 0, none⟩)), (1, .pointer (some ⟨b0, 0, none⟩)), (2, .pointer (some ⟨b0, 0, none⟩)), (3, Vd), (4, .int .i64 y6), (5, .pointer (some (sla Vd (y6.toNat * 5)))), (6, .pointer (some (sla Vd (y6.toNat * 5 + 0)))), (7, .int .i64 ((gd ref09_mapping.zero Ad y6).space)), (8, .int .i64 a1), (9, .bool false), (10, .bool false), (11, undef), (12, undef), (13, undef), (14, undef), (15, undef), (16, undef), (17, undef), (18, undef), (19, undef), (20, undef), (21, .bool false)] [] (fun w => (bxs b0 56 [([Vd], 1), (List.map Value.bool Ae, 256), ([Vf], 1), ([Vt], 1)]).ok w ∧ (osl KR Vd (List.zip Gd Ad)).ok w ∧ (ndv FR Gd Ad).ok w ∧ True) hf ⟨Z, Z, Z, Z, trivial⟩ (by kernel_rfl) (by kernel_rfl) Z (by decide) ⟨hs.drew.get (i := 0) Z, hs.drew.get (i := 1) Z, hs.drew.get (i := 2) Z, trivial⟩ hs ((.cons (qy Z Z Z Z Z fun hR hf => ex_move hf Z) (.cons (qy Z Z Z Z Z fun hR hf => ex_nilCheck hf Z) (.cons (qy Z Z Z Z Z fun hR hf => ex_fieldAddrB fa_56_0 Z hf Z) (.cons (qy Z Z Z Z Z fun hR hf => ex_load sc_51 hf Z (sb_cell1 (i := 0) (hR.1) Z Z)) (.cons (qy Z Z Z Z Z fun hR hf => ex_move hf Z) (.cons (qy Z Z Z Z Z fun hR hf => ex_indexAddr sa_51 (nv_isSl (osl_rsl _ hR.2.1) hR.2.2.1) hc15.1 hc15.2 hf Z Z) (.cons (qy Z Z Z Z Z fun hR hf => ex_fieldAddrS fa_100_0 Z hf Z) (.cons (qy Z Z Z Z Z fun hR hf => ex_load sc_3 hf Z (nv_cell (K := KR) (F := FR) (f := 0) (osl_rsl _ hR.2.1) hR.2.2.1 SlV.zero ref09_mapping.zero hc15.1 hc15.2 Z)) (.cons (qy Z Z Z Z Z fun hR hf => ex_move hf Z) (.cons (qy Z Z Z Z Z fun hR hf => ex_castB (ex_eql hf Z Z) (dec_f hc16)) (.cons (qy Z Z Z Z Z fun hR hf => ex_move hf Z) (.cons (qn Z Z Z Z Z) (.cons (qn Z Z Z Z Z) (.cons (qn Z Z Z Z Z) (.cons (qn Z Z Z Z Z) (.cons (qn Z Z Z Z Z) (.cons (qn Z Z Z Z Z) (.cons (qn Z Z Z Z Z) (.cons (qn Z Z Z Z Z) (.cons (qn Z Z Z Z Z) (.cons (qn Z Z Z Z Z) (.cons (qy Z Z Z Z Z fun hR hf => ex_pickF hf Z Z) .nil))))))))))))))))))))))) (fun K18 hK18 => ?_)
       refine RW.zero (by kernel_rfl) (by kernel_rfl) [(0, .pointer (some ⟨b0, 0, none⟩)), (1, .int .i64 a1), (5, .pointer (some ⟨b1, 0, none⟩)), (7, .int .i64 y6), (38, .bool false)] ⟨Z, Z, Z, Z, Z, trivial⟩ (fun a w hR hs hf => ?_)
       refine hK18 _ _ ?_
       have e14 := some_eq H; subst e14
       exact hJ14 _ _ ⟨hf.sub ⟨Z, Z, Z, Z, Z, trivial⟩, hs⟩
     ·
      obtain ⟨hf, hs⟩ := hJ
      replace H := HO14
      clear HO14
      refine itt H (fun hc19 H => ?_) (fun hc19 H => ?_)
      ·
       replace hf := hf.castB (t := 38) Z hc19
       refine cond_T hf Z ?_
       refine seq_n (fun Q20 hN20 hR20 hX20 => ?_)
       refine ck_some H (fun hc21 H => ?_)
       refine ck_some H (fun hc22 H => ?_)
       refine ck_some H (fun hc24 H => ?_)
       refine ck_some H (fun hc25 H => ?_)
       refine region_dS fol 16 [(0, .pointer (some ⟨b0, 0, none⟩)), (7, .int .i64 y6)] [(0, .pointer (some ⟨b0, 0, none⟩)), (1, .pointer (some ⟨b0, 0, none⟩)), (2, .pointer (some ⟨b0, 0, none⟩)), (3, .pointer (some ⟨b0, 0, none⟩)), (4, Vd), (5, .int .i64 y6), (6, (slv Vd 0 y6.toNat 5)), (8, .pointer (some ⟨b0, 0, none⟩)), (9, .pointer (some ⟨b0, 0, none⟩)), (10, .pointer (some ⟨b0, 0, none⟩)), (11, Vd), (12, .int .i64 y6), (13, .int .i64 (IntKind.i64.wrap (y6 + 1))), (14, (slv Vd ((IntKind.i64.wrap (y6 + 1)).toNat) ((Ad.length : Int).toNat) 5))] [7, 15] (fun w => (bxs b0 56 [([Vd], 1), (List.map Value.bool Ae, 256), ([Vf], 1), ([Vt], 1)]).ok w ∧ (osl KR Vd (List.zip Gd Ad)).ok w ∧ (ndv FR Gd Ad).ok w ∧ True) hf ⟨Z, Z, trivial⟩ (by kernel_rfl) (by kernel_rfl) Z (by decide) ⟨hs.drew.get (i := 0) Z, hs.drew.get (i := 1) Z, hs.drew.get (i := 2) Z, trivial⟩ hs ((.cons (qy Z Z Z Z Z fun hR hf => ex_move hf Z) (.cons (qy Z Z Z Z Z fun hR hf => ex_move hf Z) (.cons (qy Z Z Z Z Z fun hR hf => ex_nilCheck hf Z) (.cons (qy Z Z Z Z Z fun hR hf => ex_fieldAddrB fa_56_0 Z hf Z) (.cons (qy Z Z Z Z Z fun hR hf => ex_load sc_51 hf Z (sb_cell1 (i := 0) (hR.1) Z Z)) (.cons (qy Z Z Z Z Z fun hR hf => ex_move hf Z) (.cons (qy Z Z Z Z Z fun hR hf => ex_slice_h sa_51 (nv_isSl (osl_rsl _ hR.2.1) hR.2.2.1) hc21 hf Z Z) (.cons (qy Z Z Z Z Z fun hR hf => ex_move hf Z) (.cons (qy Z Z Z Z Z fun hR hf => ex_nilCheck hf Z) (.cons (qy Z Z Z Z Z fun hR hf => ex_fieldAddrB fa_56_0 Z hf Z) (.cons (qy Z Z Z Z Z fun hR hf => ex_load sc_51 hf Z (sb_cell1 (i := 0) (hR.1) Z Z)) (.cons (qy Z Z Z Z Z fun hR hf => ex_move hf Z) (.cons (qy Z Z Z Z Z fun hR hf => ex_add hf Z Z) (.cons (qy Z Z Z Z Z fun hR hf => ex_slice_l sa_51 (nv_isSl (osl_rsl _ hR.2.1) hR.2.2.1) hc24 hf Z Z) .nil))))))))))))))) (fun K27 hK27 => ?_)
       refine RW.one 7 (by kernel_rfl) (by kernel_rfl) rfl (fun d hd => by cases hd; rfl) [(45, (slv Vd 0 y6.toNat 5))] ⟨rfl, trivial⟩ (fun a w hR hs hf => ⟨wanted_yes hf rfl, ?_⟩)
       replace hs := hs.nilS KR
       refine estep_v (er_append (K := KR) (xs := ([] : List (SlV × ref09_mapping))) (ys := (((List.zip Gd Ad).drop 0).take (y6.toNat - 0))) hs (.c sN) (rsl_slv _ (osl_rsl _ (hs.get (i := 2) Z)) (view_1 (lo := 0) hc21) (by have := zip_len (ndv_len (F := FR) (G := Gd) (L := Ad) (hs.get (i := 3) Z)); have := (view_2 (lo := 0) hc21); omega)) Z Try.underlying51 ep_100 (zip_view1 (F := FR) (G := Gd) (L := Ad) (hs.get (i := 3) Z) hc22) Z hf Z Z) (fun v23 w hs => ?_)
       refine ⟨[], _, [15], (fun _ => True), hs.fn, Z, Z, ⟨hs.get (i := 1) Z, hs.get (i := 2) Z, hs.get (i := 3) Z, trivial⟩, trivial, hs, (by kernel_rfl), .nil, ?_⟩
       refine RW.one 15 (by kernel_rfl) (by kernel_rfl) rfl (fun d hd => by cases hd; rfl) [(46, v23), (53, (slv Vd ((IntKind.i64.wrap (y6 + 1)).toNat) ((Ad.length : Int).toNat) 5))] ⟨rfl, rfl, trivial⟩ (fun a w hR hs hf => ⟨wanted_yes hf rfl, ?_⟩)
       refine estep_v (er_append (K := KR) (xs := (([] : List (SlV × ref09_mapping)) ++ (((List.zip Gd Ad).drop 0).take (y6.toNat - 0)))) (ys := (((List.zip Gd Ad).drop ((IntKind.i64.wrap (y6 + 1)).toNat)).take (((Ad.length : Int).toNat) - ((IntKind.i64.wrap (y6 + 1)).toNat)))) hs (.c sN) (rsl_slv _ (osl_rsl _ (hs.get (i := 2) Z)) (view_1 hc24) (by have := zip_len (ndv_len (F := FR) (G := Gd) (L := Ad) (hs.get (i := 3) Z)); have := (view_2 hc24); omega)) Z Try.underlying51 ep_100 (zip_view2 (F := FR) (G := Gd) (L := Ad) (hs.get (i := 3) Z) Z hc25.1) Z hf Z Z) (fun v26 w hs => ?_)
       refine ⟨[], _, [], (fun _ => True), hs.fn, Z, Z, ⟨⟨hs.get (i := 1) Z, hs.get (i := 2) Z, hs.get (i := 3) Z, trivial⟩, trivial⟩, trivial, hs, (by kernel_rfl), .nil, ?_⟩
       refine RW.zero (by kernel_rfl) (by kernel_rfl) [(39, .pointer (some ⟨b0, 0, none⟩)), (54, v26)] ⟨Z, Z, trivial⟩ (fun a w hR hs hf => ?_)
       refine stq hf Z Z Z (ex_nilCheck hf Z) fun a hf => stq hf Z Z Z (ex_fieldAddrB fa_56_0 Z hf Z) fun a hf => ?_
       replace hs := hs.me
       replace hs := hs.p3.p3.p2
       rw [zip_cut (F := FR) (G := Gd) (L := Ad) (hi := y6.toNat) (lo := ((IntKind.i64.wrap (y6 + 1)).toNat)) (n := (Ad.length : Int).toNat) (hs.get (i := 2) rfl) rfl] at hs
       replace hs := hs.keep (.k (.d sN))
       replace hs := hs.p1
       replace hs := St.vdelN (F := FR) (i := y6.toNat) (j := ((IntKind.i64.wrap (y6 + 1)).toNat)) ⟨hc25.2, by have := (view_1 hc24); omega⟩ hs
       refine stepS hf Z Z (er_storeS1 (i := 0) hs (.k (.k (.c sN))) hf Z Z (IsSl.one (nv_isSl (osl_rsl _ (hs.get (i := 1) Z)) (hs.get (i := 0) Z))) sz_51 Z Z) (fun w hs => ?_)
       refine hK27 _ _ ?_
       refine hN20 _ _ ?_
       refine seq_reg (fun K28 hK28 => ?_)
       refine stq hf Z Z Z (ex_assign hf Z) fun a hf => ?_
       refine hK28 _ _ ?_
       refine wp_ret ?_
       refine hR13 _ _ ?_
       refine hR12 _ _ ?_
       refine hR8 _ _ ?_
       refine hR5 _ _ ?_
       have e3 := some_eq H; subst e3; replace H := el_rt HO3
       refine hR3 _ _ ?_
       have eR := some_eq H; subst eR
       replace hs := hs.keep (.k (.k (.k (.k (.k (.d .nil))))))
       replace hs := hs.p4.p4.p3.p4.p4
       exact ret1 Try.results39 hf Z ⟨_, Z, ⟨v26, (Gd.take y6.toNat ++ Gd.drop ((IntKind.i64.wrap (y6 + 1)).toNat)), Z, hs⟩⟩
      ·
       replace hf := hf.castB (t := 38) Z (bool_f hc19)
       refine cond_F hf Z ?_
       refine wp_skip ?_
       refine hN13 _ _ ?_
       refine hN12 _ _ ?_
       refine region_k (fun K29 hK29 => ?_)
       refine stq hf Z Z Z (ex_move hf Z) fun a hf => stq hf Z Z Z (ex_add hf Z Z) fun a hf => stq hf Z Z Z (ex_assign hf Z) fun a hf => ?_
       refine hK29 _ _ ?_
       exact hL8 k8 _ _ (Nat.lt_succ_self _) ⟨(IntKind.i64.wrap (y6 + 1)), hf.sub ⟨Z, Z, Z, Z, trivial⟩, hs, H⟩
    ·
     replace hf := hf.castB (t := 14) Z (dec_f hc11)
     refine cond_F hf Z ?_
     refine wp_exit ?_
     refine hX9 0 _ _ ?_
     refine hX8 0 _ _ ?_
     refine hX5 _ _ ?_
     replace hs := hs.keep (.k (.k (.k (.k (.k (.d .nil))))))
     have e3 := some_eq H; subst e3
     exact hJ3 _ _ ⟨_, Z, hf.sub trivial, hs⟩
 ·
  obtain ⟨x3s, rfl, hf, hs⟩ := hJ
  replace H := el_go HO3
  clear HO3
  refine seq_reg (fun K30 hK30 => ?_)
  refine stq hf Z Z Z (ex_assign hf Z) fun a hf => ?_
  refine hK30 _ _ ?_
  refine wp_ret ?_
  have eR := some_eq H; subst eR
  exact ret1 Try.results39 hf Z ⟨_, Z, ⟨Vd, Gd, Z, hs⟩⟩

set_option maxRecDepth 100000 in
theorem ref09_Bus_failing.calls {M : Nat → Prop} {w0 : World} (k : Nat) (Ad : (List ref09_mapping)) (Ae : (List Bool)) (Af : (List ref09_fault)) (At : (List Traced)) (a1 : Access) (b0 : Nat) (Vd : Value) (Gd : (List SlV)) (Vf : Value) (Vt : Value) {r : (List ref09_fault) × Bool} (hs : St M w0 w0 [bxs b0 56 [([Vd], 1), (List.map Value.bool Ae, 256), ([Vf], 1), ([Vt], 1)], osl KR Vd (List.zip Gd Ad), ndv FR Gd Ad, osl KF Vf Af, osl Kt Vt At]) (hr : Sr M w0 [])
  (h : ref09_Bus_failing.f k Ad Ae Af At a1 = some r) : Calls Try.prog 62 #[.pointer (some ⟨b0, 0, none⟩), .agg #[.int .i64 a1.Space, .int .u64 a1.Addr, .int .i64 a1.Width, .bool a1.Write, .int .u64 a1.Value]] w0 fun e w => ∃ v, e = .returned v ∧ (∃ (g0 : Value), .bool r.2 = v ∧ St M w0 w [bxs b0 56 [([Vd], 1), (List.map Value.bool Ae, 256), ([g0], 1), ([Vt], 1)], osl KR Vd (List.zip Gd Ad), ndv FR Gd Ad, osl KF g0 r.1, osl Kt Vt At]) := by
 have H := (ref09_Bus_failing.f.eq_1 ..).symm.trans h
 clear h
 refine enter Try.func62 Z Try.ntmps62 Z (fun a hf => ?_)
 refine seq_reg (fun K2 hK2 => ?_)
 refine stepV hf Z Z Z (er_box (cs := [.int .i64 a1.Space, .int .u64 a1.Addr, .int .i64 a1.Width, .bool a1.Write, .int .u64 a1.Value]) hs hf Z Z) (fun v w hR a hf => ?_)
 obtain ⟨b1, rfl, hs⟩ := hR
 refine stq hf Z Z Z (ex_assign hf Z) fun a hf => ?_
 refine hK2 _ _ ?_
 refine bnd H (fun x3 H3 HO3 => ?_)
 clear H
 refine seq_cut (fun a w => ∃ (x3s : Unit), x3 = .go x3s ∧ Fr a 56 [] ∧ St M w0 w [bxs b0 56 [([Vd], 1), (List.map Value.bool Ae, 256), ([Vf], 1), ([Vt], 1)], osl KR Vd (List.zip Gd Ad), ndv FR Gd Ad, osl KF Vf Af, osl Kt Vt At]) (fun Q3 hJ3 hR3 hX3 => ?_) (fun a w hJ => ?_)
 ·
  replace H := H3
  refine seq_reg (fun K4 hK4 => ?_)
  refine stq hf Z Z Z (ex_assign hf Z) fun a hf => ?_
  refine hK4 _ _ ?_
  refine block_k (fun Q5 hN5 hR5 hX5 hY5 => ?_)
  refine loop_k (fun n a w => ∃ (y6 : Int), Fr a 56 [(0, .pointer (some ⟨b0, 0, none⟩)), (3, .pointer (some ⟨b1, 0, none⟩)), (5, .int .i64 y6)] ∧ St M w0 w [bxs b0 56 [([Vd], 1), (List.map Value.bool Ae, 256), ([Vf], 1), ([Vt], 1)], osl KR Vd (List.zip Gd Ad), ndv FR Gd Ad, osl KF Vf Af, osl Kt Vt At, bx b1 37 [.int .i64 a1.Space, .int .u64 a1.Addr, .int .i64 a1.Width, .bool a1.Write, .int .u64 a1.Value]] ∧ ref09_Bus_failing.l1 n Af a1 y6 = some x3) k ?_ (fun n8 a w hI Q8 hL8 hR8 hX8 => ?_)
  ·
   replace hs := hs.p5.p5.p5.p5.p5
   exact ⟨0, hf.sub ⟨Z, Z, Z, trivial⟩, hs, H⟩
  ·
   obtain ⟨y6, hf, hs, H⟩ := hI
   cases n8 with
   | zero => exact absurd H (by rw [ref09_Bus_failing.l1.eq_1]; intro h; cases h)
   | succ k8 =>
    replace H := (ref09_Bus_failing.l1.eq_2 ..).symm.trans H
    refine seq_n (fun Q9 hN9 hR9 hX9 => ?_)
    refine seq_reg (fun K10 hK10 => ?_)
    refine stq hf Z Z Z (ex_move hf Z) fun a hf => stq hf Z Z Z (ex_move hf Z) fun a hf => stq hf Z Z Z (ex_nilCheck hf Z) fun a hf => stq hf Z Z Z (ex_fieldAddrB fa_56_2 Z hf Z) fun a hf => stq hf Z Z Z (ex_load sc_53 hf Z (sb_cell1 (i := 2) (hs.get (i := 0) Z) Z Z)) fun a hf => stq hf Z Z Z (ex_lenS Try.underlying53 (rsl_isSl (osl_rsl _ (hs.get (i := 3) Z))) hf Z) fun a hf => stq hf Z Z Z (ex_lss hf Z Z) fun a hf => ?_
    refine hK10 _ _ ?_
    refine itt H (fun hc11 H => ?_) (fun hc11 H => ?_)
    ·
     replace hf := hf.castB (t := 13) Z (dec_t hc11)
     refine cond_T hf Z ?_
     refine wp_skip ?_
     refine hN9 _ _ ?_
     refine bnd H (fun x12 H12 HO12 => ?_)
     clear H
     refine seq_cut (fun a w => ∃ (x12s : Unit), x12 = .go x12s ∧ Fr a 56 [(0, .pointer (some ⟨b0, 0, none⟩)), (3, .pointer (some ⟨b1, 0, none⟩)), (5, .int .i64 y6)] ∧ St M w0 w [bxs b0 56 [([Vd], 1), (List.map Value.bool Ae, 256), ([Vf], 1), ([Vt], 1)], osl KR Vd (List.zip Gd Ad), ndv FR Gd Ad, osl KF Vf Af, osl Kt Vt At, bx b1 37 [.int .i64 a1.Space, .int .u64 a1.Addr, .int .i64 a1.Width, .bool a1.Write, .int .u64 a1.Value]]) (fun Q12 hJ12 hR12 hX12 => ?_) (fun a w hJ => ?_)
     ·
      replace H := H12
      refine block_k (fun Q13 hN13 hR13 hX13 hY13 => ?_)
      refine ck_some H (fun hc14 H => ?_)
      refine seq_reg (fun K15 hK15 => ?_)
      refine stq hf Z Z Z (ex_move hf Z) fun a hf => stq hf Z Z Z (ex_nilCheck hf Z) fun a hf => stq hf Z Z Z (ex_fieldAddrB fa_56_2 Z hf Z) fun a hf => stq hf Z Z Z (ex_load sc_53 hf Z (sb_cell1 (i := 2) (hs.get (i := 0) Z) Z Z)) fun a hf => stq hf Z Z Z (ex_move hf Z) fun a hf => stq hf Z Z Z (ex_indexAddr sa_53 (rsl_isSl (osl_rsl _ (hs.get (i := 3) Z))) hc14.1 hc14.2 hf Z Z) fun a hf => stq hf Z Z Z (ex_assign hf Z) fun a hf => ?_
      refine hK15 _ _ ?_
      refine seq_n (fun Q16 hN16 hR16 hX16 => ?_)
      refine itt H (fun hc17 H => ?_) (fun hc17 H => ?_)
      ·
       refine itt H (fun hc18 H => ?_) (fun hc18 H => ?_)
       ·
        refine bnd H (fun s19 hs19 H => ?_)
        refine region_dS fol 27 [(0, .pointer (some ⟨b0, 0, none⟩)), (3, .pointer (some ⟨b1, 0, none⟩)), (5, .int .i64 y6), (6, .pointer (some (sla Vf (y6.toNat * 4))))] [(0, .pointer (some (sla Vf (y6.toNat * 4)))), (1, .pointer (some (sla Vf (y6.toNat * 4)))), (2, .pointer (some (sla Vf (y6.toNat * 4 + 3)))), (3, .int .i64 ((gd ref09_fault.zero Af y6).left)), (4, .bool true), (5, .bool true), (6, .pointer (some (sla Vf (y6.toNat * 4)))), (7, .pointer (some (sla Vf (y6.toNat * 4)))), (8, .pointer (some (sla Vf (y6.toNat * 4 + 0)))), (9, .int .i64 ((gd ref09_fault.zero Af y6).space)), (10, .pointer (some ⟨b1, 0, none⟩)), (11, .int .i64 a1.Space), (12, .bool true), (13, .bool true), (14, .bool true), (15, .pointer (some (sla Vf (y6.toNat * 4)))), (16, .pointer (some (sla Vf (y6.toNat * 4)))), (17, .pointer (some (sla Vf (y6.toNat * 4 + 1)))), (18, .agg #[.int .u64 ((gd ref09_fault.zero Af y6).m.Base), .int .u64 ((gd ref09_fault.zero Af y6).m.Len)]), (19, .pointer (some ⟨b1, 1, none⟩)), (20, .int .u64 a1.Addr), (21, .pointer (some ⟨b1, 2, none⟩)), (22, .int .i64 a1.Width), (23, .int .u64 (IntKind.u64.wrap a1.Width)), (24, .agg #[.int .u64 a1.Addr, .int .u64 (IntKind.u64.wrap a1.Width)])] [25] (fun w => (osl KF Vf Af).ok w ∧ (bx b1 37 [.int .i64 a1.Space, .int .u64 a1.Addr, .int .i64 a1.Width, .bool a1.Write, .int .u64 a1.Value]).ok w ∧ True) hf ⟨Z, Z, Z, Z, trivial⟩ (by kernel_rfl) (by kernel_rfl) Z (by decide) ⟨hs.drew.get (i := 3) Z, hs.drew.get (i := 5) Z, trivial⟩ hs ((.cons (qy Z Z Z Z Z fun hR hf => ex_move hf Z) (.cons (qy Z Z Z Z Z fun hR hf => ex_nilCheck hf Z) (.cons (qy Z Z Z Z Z fun hR hf => ex_fieldAddrS fa_103_2 Z hf Z) (.cons (qy Z Z Z Z Z fun hR hf => ex_load sc_3 hf Z (el_cell (K := KF) (f := 3) (rsl_rd (osl_rsl _ hR.1)) hc14.1 hc14.2 Z)) (.cons (qy Z Z Z Z Z fun hR hf => ex_castB (ex_gtr hf Z Z) (dec_t hc17)) (.cons (qy Z Z Z Z Z fun hR hf => ex_move hf Z) (.cons (qy Z Z Z Z Z fun hR hf => ex_move hf Z) (.cons (qy Z Z Z Z Z fun hR hf => ex_nilCheck hf Z) (.cons (qy Z Z Z Z Z fun hR hf => ex_fieldAddrS fa_103_0 Z hf Z) (.cons (qy Z Z Z Z Z fun hR hf => ex_load sc_3 hf Z (el_cell (K := KF) (f := 0) (rsl_rd (osl_rsl _ hR.1)) hc14.1 hc14.2 Z)) (.cons (qy Z Z Z Z Z fun hR hf => ex_fieldAddrB fa_37_0 Z hf Z) (.cons (qy Z Z Z Z Z fun hR hf => ex_load sc_3 hf Z (bx_cell (hR.2.1) _ Z)) (.cons (qy Z Z Z Z Z fun hR hf => ex_castB (ex_eql hf Z Z) (dec_t hc18)) (.cons (qy Z Z Z Z Z fun hR hf => ex_pickT hf Z Z) (.cons (qy Z Z Z Z Z fun hR hf => ex_move hf Z) (.cons (qy Z Z Z Z Z fun hR hf => ex_move hf Z) (.cons (qy Z Z Z Z Z fun hR hf => ex_nilCheck hf Z) (.cons (qy Z Z Z Z Z fun hR hf => ex_fieldAddrS fa_103_1 Z hf Z) (.cons (qy Z Z Z Z Z fun hR hf => ex_loadA (cs := [.int .u64 ((gd ref09_fault.zero Af y6).m.Base), .int .u64 ((gd ref09_fault.zero Af y6).m.Len)]) ag_32 hf Z (el_cellsF (K := KF) (f := 1) (rsl_rd (osl_rsl _ hR.1)) hc14.1 hc14.2 Z)) (.cons (qy Z Z Z Z Z fun hR hf => ex_fieldAddrB fa_37_1 Z hf Z) (.cons (qy Z Z Z Z Z fun hR hf => ex_load sc_22 hf Z (bx_cell (hR.2.1) _ Z)) (.cons (qy Z Z Z Z Z fun hR hf => ex_fieldAddrB fa_37_2 Z hf Z) (.cons (qy Z Z Z Z Z fun hR hf => ex_load sc_3 hf Z (bx_cell (hR.2.1) _ Z)) (.cons (qy Z Z Z Z Z fun hR hf => ex_conv Try.underlying3 Try.underlying22 hf Z) (.cons (qy Z Z Z Z Z fun hR hf => ex_build (cs := [.int .u64 a1.Addr, .int .u64 (IntKind.u64.wrap a1.Width)]) bt_32 hf Z (.cons Z (.cons Z .nil)) Z) .nil)))))))))))))))))))))))))) (fun K20 hK20 => ?_)
        refine RW.one 25 (by kernel_rfl) (by kernel_rfl) rfl (fun d hd => by cases hd; rfl) [(36, .bool true), (40, .agg #[.int .u64 ((gd ref09_fault.zero Af y6).m.Base), .int .u64 ((gd ref09_fault.zero Af y6).m.Len)]), (46, .agg #[.int .u64 a1.Addr, .int .u64 (IntKind.u64.wrap a1.Width)])] ⟨rfl, rfl, rfl, trivial⟩ (fun a w hR hs hf => ⟨wanted_yes hf rfl, ?_⟩)
        refine estep_f (ex_call cf_57 hf Z) (ref09_overlap.calls k8 (⟨((gd ref09_fault.zero Af y6).m.Base), ((gd ref09_fault.zero Af y6).m.Len)⟩ : Range) (⟨a1.Addr, (IntKind.u64.wrap a1.Width)⟩ : Range) (hs.enter sN) (Sr.nil _ _) hs19) (fun v w hR => ?_)
        obtain ⟨rfl, hs'⟩ := hR
        replace hs := hs.step sN hs'
        clear hs'
        refine ⟨[(26, .bool s19)], _, [], (fun _ => True), hs.fn, Z, Z, ⟨hs.get (i := 3) Z, hs.get (i := 5) Z, trivial⟩, trivial, hs, (by kernel_rfl), (.cons (qy Z Z Z Z Z fun hR hf => ex_pickT hf Z Z) .nil), ?_⟩
        refine RW.zero (by kernel_rfl) (by kernel_rfl) [(0, .pointer (some ⟨b0, 0, none⟩)), (3, .pointer (some ⟨b1, 0, none⟩)), (5, .int .i64 y6), (6, .pointer (some (sla Vf (y6.toNat * 4)))), (48, .bool s19)] ⟨Z, Z, Z, Z, Z, trivial⟩ (fun a w hR hs hf => ?_)
        refine hK20 _ _ ?_
        refine hN16 _ _ ?_
        refine itt H (fun hc21 H => ?_) (fun hc21 H => ?_)
        ·
         replace hf := hf.castB (t := 48) Z hc21
         refine cond_T hf Z ?_
         refine seq_reg (fun K22 hK22 => ?_)
         refine stq hf Z Z Z (ex_move hf Z) fun a hf => stq hf Z Z Z (ex_nilCheck hf Z) fun a hf => stq hf Z Z Z (ex_fieldAddrS fa_103_2 Z hf Z) fun a hf => stq hf Z Z Z (ex_load sc_3 hf Z (el_cell (K := KF) (f := 3) (rsl_rd (osl_rsl _ (hs.get (i := 3) Z))) hc14.1 hc14.2 Z)) fun a hf => stq hf Z Z Z (ex_sub hf Z Z) fun a hf => stq hf Z Z Z (ex_nilCheck hf Z) fun a hf => stq hf Z Z Z (ex_fieldAddrS fa_103_2 Z hf Z) fun a hf => ?_
         refine stepS hf Z Z (er_storeE (K := KF) (f := 3) (x' := (⟨((gd ref09_fault.zero Af y6).space), (⟨((gd ref09_fault.zero Af y6).m.Base), ((gd ref09_fault.zero Af y6).m.Len)⟩ : Range), (IntKind.i64.wrap (((gd ref09_fault.zero Af y6).left) - 1))⟩ : ref09_fault)) hs (.k (.k (.k (.c sN)))) hc14.1 hc14.2 hf Z Z Z sz_3 Z Z) (fun w hs => ?_)
         refine hK22 _ _ ?_
         refine seq_reg (fun K23 hK23 => ?_)
         refine stq hf Z Z Z (ex_assign hf Z) fun a hf => ?_
         refine hK23 _ _ ?_
         refine wp_ret ?_
         refine hR13 _ _ ?_
         have e12 := some_eq H; subst e12; replace H := el_rt HO12
         refine hR12 _ _ ?_
         refine hR8 _ _ ?_
         refine hR5 _ _ ?_
         have e3 := some_eq H; subst e3; replace H := el_rt HO3
         refine hR3 _ _ ?_
         have eR := some_eq H; subst eR
         replace hs := hs.keep (.k (.k (.k (.k (.k (.d .nil))))))
         replace hs := hs.p4.p1.p4.p4.p4
         exact ret1 Try.results62 hf Z ⟨_, Z, ⟨Vf, Z, hs⟩⟩
        ·
         replace hf := hf.castB (t := 48) Z (bool_f hc21)
         refine cond_F hf Z ?_
         refine wp_skip ?_
         refine hN13 _ _ ?_
         have e12 := some_eq H; subst e12
         exact hJ12 _ _ ⟨_, Z, hf.sub ⟨Z, Z, Z, trivial⟩, hs⟩
       ·
        refine region_dS fol 27 [(0, .pointer (some ⟨b0, 0, none⟩)), (3, .pointer (some ⟨b1, 0, none⟩)), (5, .int .i64 y6), (6, .pointer (some (sla Vf (y6.toNat * 4))))] [(0, .pointer (some (sla Vf (y6.toNat * 4)))), (1, .pointer (some (sla Vf (y6.toNat * 4)))), (2, .pointer (some (sla Vf (y6.toNat * 4 + 3)))), (3, .int .i64 ((gd ref09_fault.zero Af y6).left)), (4, .bool true), (5, .bool true), (6, .pointer (some (sla Vf (y6.toNat * 4)))), (7, .pointer (some (sla Vf (y6.toNat * 4)))), (8, .pointer (some (sla Vf (y6.toNat * 4 + 0)))), (9, .int .i64 ((gd ref09_fault.zero Af y6).space)), (10, .pointer (some ⟨b1, 0, none⟩)), (11, .int .i64 a1.Space), (12, .bool false), (13, .bool false), (14, .bool false), (15, undef), (16, undef), (17, undef), (18, undef), (19, undef), (20, undef), (21, undef), (22, undef), (23, undef), (24, undef), (25, undef), (26, .bool false)] [] (fun w => (osl KF Vf Af).ok w ∧ (bx b1 37 [.int .i64 a1.Space, .int .u64 a1.Addr, .int .i64 a1.Width, .bool a1.Write, .int .u64 a1.Value]).ok w ∧ True) hf ⟨Z, Z, Z, Z, trivial⟩ (by kernel_rfl) (by kernel_rfl) Z (by decide) ⟨hs.drew.get (i := 3) Z, hs.drew.get (i := 5) Z, trivial⟩ hs ((.cons (qy Z Z Z Z Z fun hR hf => ex_move hf Z) (.cons (qy Z Z Z Z Z fun hR hf => ex_nilCheck hf Z) (.cons (qy Z Z Z Z Z fun hR hf => ex_fieldAddrS fa_103_2 Z hf Z) (.cons (qy Z Z Z Z Z fun hR hf => ex_load sc_3 hf Z (el_cell (K := KF) (f := 3) (rsl_rd (osl_rsl _ hR.1)) hc14.1 hc14.2 Z)) (.cons (qy Z Z Z Z Z fun hR hf => ex_castB (ex_gtr hf Z Z) (dec_t hc17)) (.cons (qy Z Z Z Z Z fun hR hf => ex_move hf Z) (.cons (qy Z Z Z Z Z fun hR hf => ex_move hf Z) (.cons (qy Z Z Z Z Z fun hR hf => ex_nilCheck hf Z) (.cons (qy Z Z Z Z Z fun hR hf => ex_fieldAddrS fa_103_0 Z hf Z) (.cons (qy Z Z Z Z Z fun hR hf => ex_load sc_3 hf Z (el_cell (K := KF) (f := 0) (rsl_rd (osl_rsl _ hR.1)) hc14.1 hc14.2 Z)) (.cons (qy Z Z Z Z Z fun hR hf => ex_fieldAddrB fa_37_0 Z hf Z) (.cons (qy Z Z Z Z Z fun hR hf => ex_load sc_3 hf Z (bx_cell (hR.2.1) _ Z)) (.cons (qy Z Z Z Z Z fun hR hf => ex_castB (ex_eql hf Z Z) (dec_f hc18)) (.cons (qy Z Z Z Z Z fun hR hf => ex_pickT hf Z Z) (.cons (qy Z Z Z Z Z fun hR hf => ex_move hf Z) (.cons (qn Z Z Z Z Z) (.cons (qn Z Z Z Z Z) (.cons (qn Z Z Z Z Z) (.cons (qn Z Z Z Z Z) (.cons (qn Z Z Z Z Z) (.cons (qn Z Z Z Z Z) (.cons (qn Z Z Z Z Z) (.cons (qn Z Z Z Z Z) (.cons (qn Z Z Z Z Z) (.cons (qn Z Z Z Z Z) (.cons (qn Z Z Z Z Z) (.cons (qy Z Z Z Z Z fun hR hf => ex_pickF hf Z Z) .nil)))))))))))))))))))))))))))) (fun K24 hK24 => ?_)
        refine RW.zero (by kernel_rfl) (by kernel_rfl) [(0, .pointer (some ⟨b0, 0, none⟩)), (3, .pointer (some ⟨b1, 0, none⟩)), (5, .int .i64 y6), (6, .pointer (some (sla Vf (y6.toNat * 4)))), (48, .bool false)] ⟨Z, Z, Z, Z, Z, trivial⟩ (fun a w hR hs hf => ?_)
        refine hK24 _ _ ?_
        refine hN16 _ _ ?_
        refine cond_F hf Z ?_
        refine wp_skip ?_
        refine hN13 _ _ ?_
        have e12 := some_eq H; subst e12
        exact hJ12 _ _ ⟨_, Z, hf.sub ⟨Z, Z, Z, trivial⟩, hs⟩
      ·
       refine region_dS fol 27 [(0, .pointer (some ⟨b0, 0, none⟩)), (3, .pointer (some ⟨b1, 0, none⟩)), (5, .int .i64 y6), (6, .pointer (some (sla Vf (y6.toNat * 4))))] [(0, .pointer (some (sla Vf (y6.toNat * 4)))), (1, .pointer (some (sla Vf (y6.toNat * 4)))), (2, .pointer (some (sla Vf (y6.toNat * 4 + 3)))), (3, .int .i64 ((gd ref09_fault.zero Af y6).left)), (4, .bool false), (5, .bool false), (6, undef), (7, undef), (8, undef), (9, undef), (10, undef), (11, undef), (12, undef), (13, .bool false), (14, .bool false), (15, undef), (16, undef), (17, undef), (18, undef), (19, undef), (20, undef), (21, undef), (22, undef), (23, undef), (24, undef), (25, undef), (26, .bool false)] [] (fun w => (osl KF Vf Af).ok w ∧ True) hf ⟨Z, Z, Z, Z, trivial⟩ (by kernel_rfl) (by kernel_rfl) Z (by decide) ⟨hs.drew.get (i := 3) Z, trivial⟩ hs ((.cons (qy Z Z Z Z Z fun hR hf => ex_move hf Z) (.cons (qy Z Z Z Z Z fun hR hf => ex_nilCheck hf Z) (.cons (qy Z Z Z Z Z fun hR hf => ex_fieldAddrS fa_103_2 Z hf Z) (.cons (qy Z Z Z Z Z fun hR hf => ex_load sc_3 hf Z (el_cell (K := KF) (f := 3) (rsl_rd (osl_rsl _ hR.1)) hc14.1 hc14.2 Z)) (.cons (qy Z Z Z Z Z fun hR hf => ex_castB (ex_gtr hf Z Z) (dec_f hc17)) (.cons (qy Z Z Z Z Z fun hR hf => ex_move hf Z) (.cons (qn Z Z Z Z Z) (.cons (qn Z Z Z Z Z) (.cons (qn Z Z Z Z Z) (.cons (qn Z Z Z Z Z) (.cons (qn Z Z Z Z Z) (.cons (qn Z Z Z Z Z) (.cons (qn Z Z Z Z Z) (.cons (qy Z Z Z Z Z fun hR hf => ex_pickF hf Z Z) (.cons (qy Z Z Z Z Z fun hR hf => ex_move hf Z) (.cons (qn Z Z Z Z Z) (.cons (qn Z Z Z Z Z) (.cons (qn Z Z Z Z Z) (.cons (qn Z Z Z Z Z) (.cons (qn Z Z Z Z Z) (.cons (qn Z Z Z Z Z) (.cons (qn Z Z Z Z Z) (.cons (qn Z Z Z Z Z) (.cons (qn Z Z Z Z Z) (.cons (qn Z Z Z Z Z) (.cons (qn Z Z Z Z Z) (.cons (qy Z Z Z Z Z fun hR hf => ex_pickF hf Z Z) .nil)))))))))))))))))))))))))))) (fun K25 hK25 => ?_)
       refine RW.zero (by kernel_rfl) (by kernel_rfl) [(0, .pointer (some ⟨b0, 0, none⟩)), (3, .pointer (some ⟨b1, 0, none⟩)), (5, .int .i64 y6), (6, .pointer (some (sla Vf (y6.toNat * 4)))), (48, .bool false)] ⟨Z, Z, Z, Z, Z, trivial⟩ (fun a w hR hs hf => ?_)
       refine hK25 _ _ ?_
       refine hN16 _ _ ?_
       refine cond_F hf Z ?_
       refine wp_skip ?_
       refine hN13 _ _ ?_
       have e12 := some_eq H; subst e12
       exact hJ12 _ _ ⟨_, Z, hf.sub ⟨Z, Z, Z, trivial⟩, hs⟩
     ·
      obtain ⟨x12s, rfl, hf, hs⟩ := hJ
      replace H := el_go HO12
      clear HO12
      refine region_k (fun K26 hK26 => ?_)
      refine stq hf Z Z Z (ex_move hf Z) fun a hf => stq hf Z Z Z (ex_add hf Z Z) fun a hf => stq hf Z Z Z (ex_assign hf Z) fun a hf => ?_
      refine hK26 _ _ ?_
      exact hL8 k8 _ _ (Nat.lt_succ_self _) ⟨(IntKind.i64.wrap (y6 + 1)), hf.sub ⟨Z, Z, Z, trivial⟩, hs, H⟩
    ·
     replace hf := hf.castB (t := 13) Z (dec_f hc11)
     refine cond_F hf Z ?_
     refine wp_exit ?_
     refine hX9 0 _ _ ?_
     refine hX8 0 _ _ ?_
     refine hX5 _ _ ?_
     replace hs := hs.keep (.k (.k (.k (.k (.k (.d .nil))))))
     have e3 := some_eq H; subst e3
     exact hJ3 _ _ ⟨_, Z, hf.sub trivial, hs⟩
 ·
  obtain ⟨x3s, rfl, hf, hs⟩ := hJ
  replace H := el_go HO3
  clear HO3
  refine seq_reg (fun K27 hK27 => ?_)
  refine stq hf Z Z Z (ex_assign hf Z) fun a hf => ?_
  refine hK27 _ _ ?_
  refine wp_ret ?_
  have eR := some_eq H; subst eR
  exact ret1 Try.results62 hf Z ⟨_, Z, ⟨Vf, Z, hs⟩⟩

set_option maxRecDepth 100000 in
theorem ref09_WellFormed.calls {M : Nat → Prop} {w0 : World} (k : Nat) (a0 : Access) {r : Bool} (hs : St M w0 w0 []) (hr : Sr M w0 [])
  (h : ref09_WellFormed.f k a0 = some r) : Calls Try.prog 61 #[.agg #[.int .i64 a0.Space, .int .u64 a0.Addr, .int .i64 a0.Width, .bool a0.Write, .int .u64 a0.Value]] w0 fun e w => ∃ v, e = .returned v ∧ (.bool r = v ∧ St M w0 w []) := by
 have H := (ref09_WellFormed.f.eq_1 ..).symm.trans h
 clear h
 refine enter Try.func61 Z Try.ntmps61 Z (fun a hf => ?_)
 refine seq_reg (fun K2 hK2 => ?_)
 refine stepV hf Z Z Z (er_box (cs := [.int .i64 a0.Space, .int .u64 a0.Addr, .int .i64 a0.Width, .bool a0.Write, .int .u64 a0.Value]) hs hf Z Z) (fun v w hR a hf => ?_)
 obtain ⟨b1, rfl, hs⟩ := hR
 refine stq hf Z Z Z (ex_assign hf Z) fun a hf => ?_
 refine hK2 _ _ ?_
 refine bnd H (fun s3 hs3 H => ?_)
 refine itt H (fun hc4 H => ?_) (fun hc4 H => ?_)
 ·
  refine itt H (fun hc5 H => ?_) (fun hc5 H => ?_)
  ·
   refine ck_some H (fun hc6 H => ?_)
   refine seq_reg (fun K7 hK7 => ?_)
   refine stq hf Z Z Z (ex_fieldAddrB fa_37_0 Z hf Z) fun a hf => stq hf Z Z Z (ex_load sc_3 hf Z (bx_cell (hs.get (i := 0) Z) _ Z)) fun a hf => ?_
   refine stepF hf Z Z Z (ex_call cf_55 hf Z) (ref09_ordinary.calls k a0.Space (hs.enter sN) (Sr.nil _ _) hs3) (fun v w hR a hf => ?_)
   obtain ⟨rfl, hs'⟩ := hR
   replace hs := hs.step sN hs'
   clear hs'
   refine stq hf Z Z Z (ex_move hf Z) fun a hf => ?_
   replace hf := hf.castB (t := 5) Z hc4
   replace hf := hf.castB (t := 6) Z hc4
   refine stq hf Z Z Z (ex_fieldAddrB fa_37_2 Z hf Z) fun a hf => stq hf Z Z Z (ex_load sc_3 hf Z (bx_cell (hs.get (i := 0) Z) _ Z)) fun a hf => stq hf Z Z Z (ex_eql hf Z Z) fun a hf => stq hf Z Z Z (ex_move hf Z) fun a hf => ?_
   replace hf := hf.castB (t := 9) Z (dec_t hc5)
   replace hf := hf.castB (t := 10) Z (dec_t hc5)
   refine stepN hf Z Z Z fun a hf => stepN hf Z Z Z fun a hf => stepN hf Z Z Z fun a hf => stq hf Z Z Z (ex_pickT hf Z Z) fun a hf => stq hf Z Z Z (ex_move hf Z) fun a hf => stepN hf Z Z Z fun a hf => stepN hf Z Z Z fun a hf => stepN hf Z Z Z fun a hf => stq hf Z Z Z (ex_pickT hf Z Z) fun a hf => stq hf Z Z Z (ex_move hf Z) fun a hf => stepN hf Z Z Z fun a hf => stepN hf Z Z Z fun a hf => stepN hf Z Z Z fun a hf => stq hf Z Z Z (ex_pickT hf Z Z) fun a hf => stq hf Z Z Z (ex_pickT hf Z Z) fun a hf => stq hf Z Z Z (ex_move hf Z) fun a hf => stq hf Z Z Z (ex_fieldAddrB fa_37_1 Z hf Z) fun a hf => stq hf Z Z Z (ex_load sc_22 hf Z (bx_cell (hs.get (i := 0) Z) _ Z)) fun a hf => stq hf Z Z Z (ex_fieldAddrB fa_37_2 Z hf Z) fun a hf => stq hf Z Z Z (ex_load sc_3 hf Z (bx_cell (hs.get (i := 0) Z) _ Z)) fun a hf => stq hf Z Z Z (ex_conv Try.underlying3 Try.underlying22 hf Z) fun a hf => stq hf Z Z Z (ex_rem hf Z Z hc6) fun a hf => stq hf Z Z Z (ex_eql hf Z Z) fun a hf => stq hf Z Z Z (ex_pickT hf Z Z) fun a hf => stq hf Z Z Z (ex_assign hf Z) fun a hf => ?_
   refine hK7 _ _ ?_
   refine wp_ret ?_
   have eR := some_eq H; subst eR
   replace hs := hs.keep (.d .nil)
   exact ret1 Try.results61 hf Z ⟨_, Z, ⟨Z, hs⟩⟩
  ·
   refine itt H (fun hc8 H => ?_) (fun hc8 H => ?_)
   ·
    refine ck_some H (fun hc9 H => ?_)
    refine seq_reg (fun K10 hK10 => ?_)
    refine stq hf Z Z Z (ex_fieldAddrB fa_37_0 Z hf Z) fun a hf => stq hf Z Z Z (ex_load sc_3 hf Z (bx_cell (hs.get (i := 0) Z) _ Z)) fun a hf => ?_
    refine stepF hf Z Z Z (ex_call cf_55 hf Z) (ref09_ordinary.calls k a0.Space (hs.enter sN) (Sr.nil _ _) hs3) (fun v w hR a hf => ?_)
    obtain ⟨rfl, hs'⟩ := hR
    replace hs := hs.step sN hs'
    clear hs'
    refine stq hf Z Z Z (ex_move hf Z) fun a hf => ?_
    replace hf := hf.castB (t := 5) Z hc4
    replace hf := hf.castB (t := 6) Z hc4
    refine stq hf Z Z Z (ex_fieldAddrB fa_37_2 Z hf Z) fun a hf => stq hf Z Z Z (ex_load sc_3 hf Z (bx_cell (hs.get (i := 0) Z) _ Z)) fun a hf => stq hf Z Z Z (ex_eql hf Z Z) fun a hf => stq hf Z Z Z (ex_move hf Z) fun a hf => ?_
    replace hf := hf.castB (t := 9) Z (dec_f hc5)
    replace hf := hf.castB (t := 10) Z (dec_f hc5)
    refine stq hf Z Z Z (ex_fieldAddrB fa_37_2 Z hf Z) fun a hf => stq hf Z Z Z (ex_load sc_3 hf Z (bx_cell (hs.get (i := 0) Z) _ Z)) fun a hf => stq hf Z Z Z (ex_eql hf Z Z) fun a hf => stq hf Z Z Z (ex_pickF hf Z Z) fun a hf => stq hf Z Z Z (ex_move hf Z) fun a hf => ?_
    replace hf := hf.castB (t := 13) Z (dec_t hc8)
    replace hf := hf.castB (t := 14) Z (dec_t hc8)
    replace hf := hf.castB (t := 15) Z (dec_t hc8)
    refine stepN hf Z Z Z fun a hf => stepN hf Z Z Z fun a hf => stepN hf Z Z Z fun a hf => stq hf Z Z Z (ex_pickT hf Z Z) fun a hf => stq hf Z Z Z (ex_move hf Z) fun a hf => stepN hf Z Z Z fun a hf => stepN hf Z Z Z fun a hf => stepN hf Z Z Z fun a hf => stq hf Z Z Z (ex_pickT hf Z Z) fun a hf => stq hf Z Z Z (ex_pickT hf Z Z) fun a hf => stq hf Z Z Z (ex_move hf Z) fun a hf => stq hf Z Z Z (ex_fieldAddrB fa_37_1 Z hf Z) fun a hf => stq hf Z Z Z (ex_load sc_22 hf Z (bx_cell (hs.get (i := 0) Z) _ Z)) fun a hf => stq hf Z Z Z (ex_fieldAddrB fa_37_2 Z hf Z) fun a hf => stq hf Z Z Z (ex_load sc_3 hf Z (bx_cell (hs.get (i := 0) Z) _ Z)) fun a hf => stq hf Z Z Z (ex_conv Try.underlying3 Try.underlying22 hf Z) fun a hf => stq hf Z Z Z (ex_rem hf Z Z hc9) fun a hf => stq hf Z Z Z (ex_eql hf Z Z) fun a hf => stq hf Z Z Z (ex_pickT hf Z Z) fun a hf => stq hf Z Z Z (ex_assign hf Z) fun a hf => ?_
    refine hK10 _ _ ?_
    refine wp_ret ?_
    have eR := some_eq H; subst eR
    replace hs := hs.keep (.d .nil)
    exact ret1 Try.results61 hf Z ⟨_, Z, ⟨Z, hs⟩⟩
   ·
    refine itt H (fun hc11 H => ?_) (fun hc11 H => ?_)
    ·
     refine ck_some H (fun hc12 H => ?_)
     refine seq_reg (fun K13 hK13 => ?_)
     refine stq hf Z Z Z (ex_fieldAddrB fa_37_0 Z hf Z) fun a hf => stq hf Z Z Z (ex_load sc_3 hf Z (bx_cell (hs.get (i := 0) Z) _ Z)) fun a hf => ?_
     refine stepF hf Z Z Z (ex_call cf_55 hf Z) (ref09_ordinary.calls k a0.Space (hs.enter sN) (Sr.nil _ _) hs3) (fun v w hR a hf => ?_)
     obtain ⟨rfl, hs'⟩ := hR
     replace hs := hs.step sN hs'
     clear hs'
     refine stq hf Z Z Z (ex_move hf Z) fun a hf => ?_
     replace hf := hf.castB (t := 5) Z hc4
     replace hf := hf.castB (t := 6) Z hc4
     refine stq hf Z Z Z (ex_fieldAddrB fa_37_2 Z hf Z) fun a hf => stq hf Z Z Z (ex_load sc_3 hf Z (bx_cell (hs.get (i := 0) Z) _ Z)) fun a hf => stq hf Z Z Z (ex_eql hf Z Z) fun a hf => stq hf Z Z Z (ex_move hf Z) fun a hf => ?_
     replace hf := hf.castB (t := 9) Z (dec_f hc5)
     replace hf := hf.castB (t := 10) Z (dec_f hc5)
     refine stq hf Z Z Z (ex_fieldAddrB fa_37_2 Z hf Z) fun a hf => stq hf Z Z Z (ex_load sc_3 hf Z (bx_cell (hs.get (i := 0) Z) _ Z)) fun a hf => stq hf Z Z Z (ex_eql hf Z Z) fun a hf => stq hf Z Z Z (ex_pickF hf Z Z) fun a hf => stq hf Z Z Z (ex_move hf Z) fun a hf => ?_
     replace hf := hf.castB (t := 13) Z (dec_f hc8)
     replace hf := hf.castB (t := 14) Z (dec_f hc8)
     replace hf := hf.castB (t := 15) Z (dec_f hc8)
     refine stq hf Z Z Z (ex_fieldAddrB fa_37_2 Z hf Z) fun a hf => stq hf Z Z Z (ex_load sc_3 hf Z (bx_cell (hs.get (i := 0) Z) _ Z)) fun a hf => stq hf Z Z Z (ex_eql hf Z Z) fun a hf => stq hf Z Z Z (ex_pickF hf Z Z) fun a hf => stq hf Z Z Z (ex_move hf Z) fun a hf => ?_
     replace hf := hf.castB (t := 18) Z (dec_t hc11)
     replace hf := hf.castB (t := 19) Z (dec_t hc11)
     replace hf := hf.castB (t := 20) Z (dec_t hc11)
     refine stepN hf Z Z Z fun a hf => stepN hf Z Z Z fun a hf => stepN hf Z Z Z fun a hf => stq hf Z Z Z (ex_pickT hf Z Z) fun a hf => stq hf Z Z Z (ex_pickT hf Z Z) fun a hf => stq hf Z Z Z (ex_move hf Z) fun a hf => stq hf Z Z Z (ex_fieldAddrB fa_37_1 Z hf Z) fun a hf => stq hf Z Z Z (ex_load sc_22 hf Z (bx_cell (hs.get (i := 0) Z) _ Z)) fun a hf => stq hf Z Z Z (ex_fieldAddrB fa_37_2 Z hf Z) fun a hf => stq hf Z Z Z (ex_load sc_3 hf Z (bx_cell (hs.get (i := 0) Z) _ Z)) fun a hf => stq hf Z Z Z (ex_conv Try.underlying3 Try.underlying22 hf Z) fun a hf => stq hf Z Z Z (ex_rem hf Z Z hc12) fun a hf => stq hf Z Z Z (ex_eql hf Z Z) fun a hf => stq hf Z Z Z (ex_pickT hf Z Z) fun a hf => stq hf Z Z Z (ex_assign hf Z) fun a hf => ?_
     refine hK13 _ _ ?_
     refine wp_ret ?_
     have eR := some_eq H; subst eR
     replace hs := hs.keep (.d .nil)
     exact ret1 Try.results61 hf Z ⟨_, Z, ⟨Z, hs⟩⟩
    ·
     refine itt H (fun hc14 H => ?_) (fun hc14 H => ?_)
     ·
      refine ck_some H (fun hc15 H => ?_)
      refine seq_reg (fun K16 hK16 => ?_)
      refine stq hf Z Z Z (ex_fieldAddrB fa_37_0 Z hf Z) fun a hf => stq hf Z Z Z (ex_load sc_3 hf Z (bx_cell (hs.get (i := 0) Z) _ Z)) fun a hf => ?_
      refine stepF hf Z Z Z (ex_call cf_55 hf Z) (ref09_ordinary.calls k a0.Space (hs.enter sN) (Sr.nil _ _) hs3) (fun v w hR a hf => ?_)
      obtain ⟨rfl, hs'⟩ := hR
      replace hs := hs.step sN hs'
      clear hs'
      refine stq hf Z Z Z (ex_move hf Z) fun a hf => ?_
      replace hf := hf.castB (t := 5) Z hc4
      replace hf := hf.castB (t := 6) Z hc4
      refine stq hf Z Z Z (ex_fieldAddrB fa_37_2 Z hf Z) fun a hf => stq hf Z Z Z (ex_load sc_3 hf Z (bx_cell (hs.get (i := 0) Z) _ Z)) fun a hf => stq hf Z Z Z (ex_eql hf Z Z) fun a hf => stq hf Z Z Z (ex_move hf Z) fun a hf => ?_
      replace hf := hf.castB (t := 9) Z (dec_f hc5)
      replace hf := hf.castB (t := 10) Z (dec_f hc5)
      refine stq hf Z Z Z (ex_fieldAddrB fa_37_2 Z hf Z) fun a hf => stq hf Z Z Z (ex_load sc_3 hf Z (bx_cell (hs.get (i := 0) Z) _ Z)) fun a hf => stq hf Z Z Z (ex_eql hf Z Z) fun a hf => stq hf Z Z Z (ex_pickF hf Z Z) fun a hf => stq hf Z Z Z (ex_move hf Z) fun a hf => ?_
      replace hf := hf.castB (t := 13) Z (dec_f hc8)
      replace hf := hf.castB (t := 14) Z (dec_f hc8)
      replace hf := hf.castB (t := 15) Z (dec_f hc8)
      refine stq hf Z Z Z (ex_fieldAddrB fa_37_2 Z hf Z) fun a hf => stq hf Z Z Z (ex_load sc_3 hf Z (bx_cell (hs.get (i := 0) Z) _ Z)) fun a hf => stq hf Z Z Z (ex_eql hf Z Z) fun a hf => stq hf Z Z Z (ex_pickF hf Z Z) fun a hf => stq hf Z Z Z (ex_move hf Z) fun a hf => ?_
      replace hf := hf.castB (t := 18) Z (dec_f hc11)
      replace hf := hf.castB (t := 19) Z (dec_f hc11)
      replace hf := hf.castB (t := 20) Z (dec_f hc11)
      refine stq hf Z Z Z (ex_fieldAddrB fa_37_2 Z hf Z) fun a hf => stq hf Z Z Z (ex_load sc_3 hf Z (bx_cell (hs.get (i := 0) Z) _ Z)) fun a hf => stq hf Z Z Z (ex_eql hf Z Z) fun a hf => stq hf Z Z Z (ex_pickF hf Z Z) fun a hf => stq hf Z Z Z (ex_pickT hf Z Z) fun a hf => stq hf Z Z Z (ex_move hf Z) fun a hf => ?_
      replace hf := hf.castB (t := 23) Z (dec_t hc14)
      replace hf := hf.castB (t := 24) Z (dec_t hc14)
      replace hf := hf.castB (t := 25) Z (dec_t hc14)
      replace hf := hf.castB (t := 26) Z (dec_t hc14)
      refine stq hf Z Z Z (ex_fieldAddrB fa_37_1 Z hf Z) fun a hf => stq hf Z Z Z (ex_load sc_22 hf Z (bx_cell (hs.get (i := 0) Z) _ Z)) fun a hf => stq hf Z Z Z (ex_fieldAddrB fa_37_2 Z hf Z) fun a hf => stq hf Z Z Z (ex_load sc_3 hf Z (bx_cell (hs.get (i := 0) Z) _ Z)) fun a hf => stq hf Z Z Z (ex_conv Try.underlying3 Try.underlying22 hf Z) fun a hf => stq hf Z Z Z (ex_rem hf Z Z hc15) fun a hf => stq hf Z Z Z (ex_eql hf Z Z) fun a hf => stq hf Z Z Z (ex_pickT hf Z Z) fun a hf => stq hf Z Z Z (ex_assign hf Z) fun a hf => ?_
      refine hK16 _ _ ?_
      refine wp_ret ?_
      have eR := some_eq H; subst eR
      replace hs := hs.keep (.d .nil)
      exact ret1 Try.results61 hf Z ⟨_, Z, ⟨Z, hs⟩⟩
     ·
      refine seq_reg (fun K17 hK17 => ?_)
      refine stq hf Z Z Z (ex_fieldAddrB fa_37_0 Z hf Z) fun a hf => stq hf Z Z Z (ex_load sc_3 hf Z (bx_cell (hs.get (i := 0) Z) _ Z)) fun a hf => ?_
      refine stepF hf Z Z Z (ex_call cf_55 hf Z) (ref09_ordinary.calls k a0.Space (hs.enter sN) (Sr.nil _ _) hs3) (fun v w hR a hf => ?_)
      obtain ⟨rfl, hs'⟩ := hR
      replace hs := hs.step sN hs'
      clear hs'
      refine stq hf Z Z Z (ex_move hf Z) fun a hf => ?_
      replace hf := hf.castB (t := 5) Z hc4
      replace hf := hf.castB (t := 6) Z hc4
      refine stq hf Z Z Z (ex_fieldAddrB fa_37_2 Z hf Z) fun a hf => stq hf Z Z Z (ex_load sc_3 hf Z (bx_cell (hs.get (i := 0) Z) _ Z)) fun a hf => stq hf Z Z Z (ex_eql hf Z Z) fun a hf => stq hf Z Z Z (ex_move hf Z) fun a hf => ?_
      replace hf := hf.castB (t := 9) Z (dec_f hc5)
      replace hf := hf.castB (t := 10) Z (dec_f hc5)
      refine stq hf Z Z Z (ex_fieldAddrB fa_37_2 Z hf Z) fun a hf => stq hf Z Z Z (ex_load sc_3 hf Z (bx_cell (hs.get (i := 0) Z) _ Z)) fun a hf => stq hf Z Z Z (ex_eql hf Z Z) fun a hf => stq hf Z Z Z (ex_pickF hf Z Z) fun a hf => stq hf Z Z Z (ex_move hf Z) fun a hf => ?_
      replace hf := hf.castB (t := 13) Z (dec_f hc8)
      replace hf := hf.castB (t := 14) Z (dec_f hc8)
      replace hf := hf.castB (t := 15) Z (dec_f hc8)
      refine stq hf Z Z Z (ex_fieldAddrB fa_37_2 Z hf Z) fun a hf => stq hf Z Z Z (ex_load sc_3 hf Z (bx_cell (hs.get (i := 0) Z) _ Z)) fun a hf => stq hf Z Z Z (ex_eql hf Z Z) fun a hf => stq hf Z Z Z (ex_pickF hf Z Z) fun a hf => stq hf Z Z Z (ex_move hf Z) fun a hf => ?_
      replace hf := hf.castB (t := 18) Z (dec_f hc11)
      replace hf := hf.castB (t := 19) Z (dec_f hc11)
      replace hf := hf.castB (t := 20) Z (dec_f hc11)
      refine stq hf Z Z Z (ex_fieldAddrB fa_37_2 Z hf Z) fun a hf => stq hf Z Z Z (ex_load sc_3 hf Z (bx_cell (hs.get (i := 0) Z) _ Z)) fun a hf => stq hf Z Z Z (ex_eql hf Z Z) fun a hf => stq hf Z Z Z (ex_pickF hf Z Z) fun a hf => stq hf Z Z Z (ex_pickT hf Z Z) fun a hf => stq hf Z Z Z (ex_move hf Z) fun a hf => ?_
      replace hf := hf.castB (t := 23) Z (dec_f hc14)
      replace hf := hf.castB (t := 24) Z (dec_f hc14)
      replace hf := hf.castB (t := 25) Z (dec_f hc14)
      replace hf := hf.castB (t := 26) Z (dec_f hc14)
      refine stepN hf Z Z Z fun a hf => stepN hf Z Z Z fun a hf => stepN hf Z Z Z fun a hf => stepN hf Z Z Z fun a hf => stepN hf Z Z Z fun a hf => stepN hf Z Z Z fun a hf => stepN hf Z Z Z fun a hf => stq hf Z Z Z (ex_pickF hf Z Z) fun a hf => stq hf Z Z Z (ex_assign hf Z) fun a hf => ?_
      refine hK17 _ _ ?_
      refine wp_ret ?_
      have eR := some_eq H; subst eR
      replace hs := hs.keep (.d .nil)
      exact ret1 Try.results61 hf Z ⟨_, Z, ⟨Z, hs⟩⟩
 ·
  refine seq_reg (fun K18 hK18 => ?_)
  refine stq hf Z Z Z (ex_fieldAddrB fa_37_0 Z hf Z) fun a hf => stq hf Z Z Z (ex_load sc_3 hf Z (bx_cell (hs.get (i := 0) Z) _ Z)) fun a hf => ?_
  refine stepF hf Z Z Z (ex_call cf_55 hf Z) (ref09_ordinary.calls k a0.Space (hs.enter sN) (Sr.nil _ _) hs3) (fun v w hR a hf => ?_)
  obtain ⟨rfl, hs'⟩ := hR
  replace hs := hs.step sN hs'
  clear hs'
  refine stq hf Z Z Z (ex_move hf Z) fun a hf => ?_
  replace hf := hf.castB (t := 5) Z (bool_f hc4)
  replace hf := hf.castB (t := 6) Z (bool_f hc4)
  refine stepN hf Z Z Z fun a hf => stepN hf Z Z Z fun a hf => stepN hf Z Z Z fun a hf => stepN hf Z Z Z fun a hf => stepN hf Z Z Z fun a hf => stepN hf Z Z Z fun a hf => stepN hf Z Z Z fun a hf => stepN hf Z Z Z fun a hf => stepN hf Z Z Z fun a hf => stepN hf Z Z Z fun a hf => stepN hf Z Z Z fun a hf => stepN hf Z Z Z fun a hf => stepN hf Z Z Z fun a hf => stepN hf Z Z Z fun a hf => stepN hf Z Z Z fun a hf => stepN hf Z Z Z fun a hf => stepN hf Z Z Z fun a hf => stepN hf Z Z Z fun a hf => stq hf Z Z Z (ex_pickF hf Z Z) fun a hf => stq hf Z Z Z (ex_move hf Z) fun a hf => stepN hf Z Z Z fun a hf => stepN hf Z Z Z fun a hf => stepN hf Z Z Z fun a hf => stepN hf Z Z Z fun a hf => stepN hf Z Z Z fun a hf => stepN hf Z Z Z fun a hf => stepN hf Z Z Z fun a hf => stq hf Z Z Z (ex_pickF hf Z Z) fun a hf => stq hf Z Z Z (ex_assign hf Z) fun a hf => ?_
  refine hK18 _ _ ?_
  refine wp_ret ?_
  have eR := some_eq H; subst eR
  replace hs := hs.keep (.d .nil)
  exact ret1 Try.results61 hf Z ⟨_, Z, ⟨Z, hs⟩⟩

end Go.Proofs.Ytigadacjaglfeaa.X
