/- Each function of the machine comes to what its pure function says. -/
import Derived.Test.YtigadacjaglfeaaFc1
import Derived.Test.YtigadacjaglfeaaFc2
import Derived.Test.YtigadacjaglfeaaIns
import Derived.Test.YtigadacjaglfeaaFb
namespace Go.Proofs.Ytigadacjaglfeaa.X
open Go Go.RowKit Go.Sx
set_option linter.unusedVariables false

set_option maxHeartbeats 4000000 in
set_option maxRecDepth 100000 in
theorem iospace_Bus_Map.calls {M : Nat → Prop} {w0 : World} (k : Nat) (Aa : (List mapping)) (Ab : (List mapping)) (Ac : (List mapping)) (Ae : (List Bool)) (Af : (List fault)) (At : (List Traced)) (a1 : Int) (a2 : Range) (a3 : Int) (b0 : Nat) (Va : Value) (Ga : (List (Nat × Nat))) (Vb : Value) (Gb : (List (Nat × Nat))) (Vc : Value) (Gc : (List (Nat × Nat))) (Vf : Value) (Gf : (List Nat)) (Vt : Value) {r : (List mapping) × (List mapping) × (List mapping) × Int} (hs : St M w0 w0 [bxs b0 71 [([Va], 1), ([Vb], 1), ([Vc], 1), (List.map Value.bool Ae, 256), ([Vf], 1), ([Vt], 1)], osl Km Va (ids Fm Ga), nds Fm Ga Aa, osl Km Vb (ids Fm Gb), nds Fm Gb Ab, osl Km Vc (ids Fm Gc), nds Fm Gc Ac, osl Kf Vf (ids Ff Gf), nds Ff Gf Af, osl Kt Vt At]) (hr : Sr M w0 [])
  (h : iospace_Bus_Map.f k Aa Ab Ac Ae Af At a1 a2 a3 = some r) : Calls Try.prog 11 #[.pointer (some ⟨b0, 0, none⟩), .int .i64 a1, .agg #[.int .u64 a2.Base, .int .u64 a2.Len], .int .i64 a3] w0 fun e w => ∃ v, e = .returned v ∧ (∃ (g0 : Value) (g1 : List (Nat × Nat)) (g2 : Value) (g3 : List (Nat × Nat)) (g4 : Value) (g5 : List (Nat × Nat)), .int .i64 r.2.2.2 = v ∧ St M w0 w [bxs b0 71 [([g0], 1), ([g2], 1), ([g4], 1), (List.map Value.bool Ae, 256), ([Vf], 1), ([Vt], 1)], osl Km g0 (ids Fm g1), nds Fm g1 r.1, osl Km g2 (ids Fm g3), nds Fm g3 r.2.1, osl Km g4 (ids Fm g5), nds Fm g5 r.2.2.1, osl Kf Vf (ids Ff Gf), nds Ff Gf Af, osl Kt Vt At]) := by
 have H := (iospace_Bus_Map.f.eq_1 ..).symm.trans h
 clear h
 refine enter Try.func11 Z Try.ntmps11 Z (fun a hf => ?_)
 refine seq_reg (fun K2 hK2 => ?_)
 refine stepV hf Z Z Z (er_box (cs := [.int .u64 a2.Base, .int .u64 a2.Len]) hs hf Z Z) (fun v w hR a hf => ?_)
 obtain ⟨b1, rfl, hs⟩ := hR
 refine stq hf Z Z Z (ex_assign hf Z) fun a hf => ?_
 refine hK2 _ _ ?_
 refine seq_n (fun Q3 hN3 hR3 hX3 => ?_)
 refine bnd H (fun x4 H4 HO4 => ?_)
 clear H
 refine seq_cut (fun a w => Fr a 85 [(0, .pointer (some ⟨b0, 0, none⟩)), (1, .int .i64 a1), (3, .int .i64 a3), (6, .pointer (some ⟨b1, 0, none⟩)), (26, .bool x4)] ∧ St M w0 w [bxs b0 71 [([Va], 1), ([Vb], 1), ([Vc], 1), (List.map Value.bool Ae, 256), ([Vf], 1), ([Vt], 1)], osl Km Va (ids Fm Ga), nds Fm Ga Aa, osl Km Vb (ids Fm Gb), nds Fm Gb Ab, osl Km Vc (ids Fm Gc), nds Fm Gc Ac, osl Kf Vf (ids Ff Gf), nds Ff Gf Af, osl Kt Vt At, bx b1 32 [.int .u64 a2.Base, .int .u64 a2.Len]]) (fun Q4 hJ4 hR4 hX4 => ?_) (fun a w hJ => ?_)
 ·
  replace H := H4
  refine bnd H (fun s5 hs5 H => ?_)
  refine itt H (fun hc6 H => ?_) (fun hc6 H => ?_)
  ·
   refine bnd H (fun s7 hs7 H => ?_)
   refine itt H (fun hc8 H => ?_) (fun hc8 H => ?_)
   ·
    refine bnd H (fun s9 hs9 H => ?_)
    refine region_k (fun K10 hK10 => ?_)
    refine stq hf Z Z Z (ex_move hf Z) fun a hf => ?_
    refine stepF hf Z Z Z (ex_call cf_23 hf Z) (iospace_validSpace.calls k a1 (hs.enter sN) (Sr.nil _ _) hs5) (fun v w hR a hf => ?_)
    obtain ⟨rfl, hs'⟩ := hR
    replace hs := hs.step sN hs'
    clear hs'
    refine stq hf Z Z Z (ex_not hf Z) fun a hf => stq hf Z Z Z (ex_move hf Z) fun a hf => ?_
    replace hf := hf.castB (t := 15) Z hc6
    replace hf := hf.castB (t := 16) Z (nbool_f hc6)
    replace hf := hf.castB (t := 17) Z (nbool_f hc6)
    refine stq hf Z Z Z (ex_loadA (cs := [.int .u64 a2.Base, .int .u64 a2.Len]) ag_32 hf Z (bx_cells (hs.get (i := 0) Z) Z)) fun a hf => ?_
    refine stepF hf Z Z Z (ex_call cf_24 hf Z) (iospace_validRange.calls k a2 (hs.enter sN) (Sr.nil _ _) hs7) (fun v w hR a hf => ?_)
    obtain ⟨rfl, hs'⟩ := hR
    replace hs := hs.step sN hs'
    clear hs'
    refine stq hf Z Z Z (ex_not hf Z) fun a hf => stq hf Z Z Z (ex_pickF hf Z Z) fun a hf => stq hf Z Z Z (ex_move hf Z) fun a hf => ?_
    replace hf := hf.castB (t := 19) Z hc8
    replace hf := hf.castB (t := 20) Z (nbool_f hc8)
    replace hf := hf.castB (t := 21) Z (nbool_f hc8)
    replace hf := hf.castB (t := 22) Z (nbool_f hc8)
    refine stq hf Z Z Z (ex_move hf Z) fun a hf => ?_
    refine stepF hf Z Z Z (ex_call cf_25 hf Z) (iospace_validOwner.calls k a3 (hs.enter sN) (Sr.nil _ _) hs9) (fun v w hR a hf => ?_)
    obtain ⟨rfl, hs'⟩ := hR
    replace hs := hs.step sN hs'
    clear hs'
    refine stq hf Z Z Z (ex_not hf Z) fun a hf => stq hf Z Z Z (ex_pickF hf Z Z) fun a hf => ?_
    refine hK10 _ _ ?_
    replace hs := hs.p10.p10.p10.p10.p10.p10.p10.p10.p10.p10
    have e4 := some_eq H; subst e4
    exact hJ4 _ _ ⟨hf.sub ⟨Z, Z, Z, Z, Z, trivial⟩, hs⟩
   ·
    refine region_k (fun K11 hK11 => ?_)
    refine stq hf Z Z Z (ex_move hf Z) fun a hf => ?_
    refine stepF hf Z Z Z (ex_call cf_23 hf Z) (iospace_validSpace.calls k a1 (hs.enter sN) (Sr.nil _ _) hs5) (fun v w hR a hf => ?_)
    obtain ⟨rfl, hs'⟩ := hR
    replace hs := hs.step sN hs'
    clear hs'
    refine stq hf Z Z Z (ex_not hf Z) fun a hf => stq hf Z Z Z (ex_move hf Z) fun a hf => ?_
    replace hf := hf.castB (t := 15) Z hc6
    replace hf := hf.castB (t := 16) Z (nbool_f hc6)
    replace hf := hf.castB (t := 17) Z (nbool_f hc6)
    refine stq hf Z Z Z (ex_loadA (cs := [.int .u64 a2.Base, .int .u64 a2.Len]) ag_32 hf Z (bx_cells (hs.get (i := 0) Z) Z)) fun a hf => ?_
    refine stepF hf Z Z Z (ex_call cf_24 hf Z) (iospace_validRange.calls k a2 (hs.enter sN) (Sr.nil _ _) hs7) (fun v w hR a hf => ?_)
    obtain ⟨rfl, hs'⟩ := hR
    replace hs := hs.step sN hs'
    clear hs'
    refine stq hf Z Z Z (ex_not hf Z) fun a hf => stq hf Z Z Z (ex_pickF hf Z Z) fun a hf => stq hf Z Z Z (ex_move hf Z) fun a hf => ?_
    replace hf := hf.castB (t := 19) Z (bool_f hc8)
    replace hf := hf.castB (t := 20) Z (nbool_t hc8)
    replace hf := hf.castB (t := 21) Z (nbool_t hc8)
    replace hf := hf.castB (t := 22) Z (nbool_t hc8)
    refine stepN hf Z Z Z fun a hf => stepN hf Z Z Z fun a hf => stepN hf Z Z Z fun a hf => stq hf Z Z Z (ex_pickT hf Z Z) fun a hf => ?_
    refine hK11 _ _ ?_
    replace hs := hs.p10.p10.p10.p10.p10.p10.p10.p10.p10.p10
    have e4 := some_eq H; subst e4
    exact hJ4 _ _ ⟨hf.sub ⟨Z, Z, Z, Z, Z, trivial⟩, hs⟩
  ·
   refine region_k (fun K12 hK12 => ?_)
   refine stq hf Z Z Z (ex_move hf Z) fun a hf => ?_
   refine stepF hf Z Z Z (ex_call cf_23 hf Z) (iospace_validSpace.calls k a1 (hs.enter sN) (Sr.nil _ _) hs5) (fun v w hR a hf => ?_)
   obtain ⟨rfl, hs'⟩ := hR
   replace hs := hs.step sN hs'
   clear hs'
   refine stq hf Z Z Z (ex_not hf Z) fun a hf => stq hf Z Z Z (ex_move hf Z) fun a hf => ?_
   replace hf := hf.castB (t := 15) Z (bool_f hc6)
   replace hf := hf.castB (t := 16) Z (nbool_t hc6)
   replace hf := hf.castB (t := 17) Z (nbool_t hc6)
   refine stepN hf Z Z Z fun a hf => stepN hf Z Z Z fun a hf => stepN hf Z Z Z fun a hf => stq hf Z Z Z (ex_pickT hf Z Z) fun a hf => stq hf Z Z Z (ex_move hf Z) fun a hf => stepN hf Z Z Z fun a hf => stepN hf Z Z Z fun a hf => stepN hf Z Z Z fun a hf => stq hf Z Z Z (ex_pickT hf Z Z) fun a hf => ?_
   refine hK12 _ _ ?_
   replace hs := hs.p10.p10.p10.p10.p10.p10.p10.p10.p10.p10
   have e4 := some_eq H; subst e4
   exact hJ4 _ _ ⟨hf.sub ⟨Z, Z, Z, Z, Z, trivial⟩, hs⟩
 ·
  obtain ⟨hf, hs⟩ := hJ
  replace H := HO4
  clear HO4
  refine itt H (fun hc13 H => ?_) (fun hc13 H => ?_)
  ·
   replace hf := hf.castB (t := 26) Z hc13
   refine cond_T hf Z ?_
   refine seq_reg (fun K14 hK14 => ?_)
   refine stq hf Z Z Z (ex_assign hf Z) fun a hf => ?_
   refine hK14 _ _ ?_
   refine wp_ret ?_
   refine hR3 _ _ ?_
   have eR := some_eq H; subst eR
   replace hs := hs.keep (.k (.k (.k (.k (.k (.k (.k (.k (.k (.k (.d .nil)))))))))))
   exact ret1 Try.results11 hf Z ⟨_, Z, ⟨Va, Ga, Vb, Gb, Vc, Gc, Z, hs⟩⟩
  ·
   replace hf := hf.castB (t := 26) Z (bool_f hc13)
   refine cond_F hf Z ?_
   refine wp_skip ?_
   refine hN3 _ _ ?_
   refine seq_reg (fun K15 hK15 => ?_)
   refine stq hf Z Z Z (ex_assign hf Z) fun a hf => ?_
   refine hK15 _ _ ?_
   refine bnd H (fun x16 H16 HO16 => ?_)
   clear H
   refine seq_cut (fun a w => Fr a 85 [(0, .pointer (some ⟨b0, 0, none⟩)), (1, .int .i64 a1), (3, .int .i64 a3), (6, .pointer (some ⟨b1, 0, none⟩)), (9, .int .i64 x16)] ∧ St M w0 w [bxs b0 71 [([Va], 1), ([Vb], 1), ([Vc], 1), (List.map Value.bool Ae, 256), ([Vf], 1), ([Vt], 1)], osl Km Va (ids Fm Ga), nds Fm Ga Aa, osl Km Vb (ids Fm Gb), nds Fm Gb Ab, osl Km Vc (ids Fm Gc), nds Fm Gc Ac, osl Kf Vf (ids Ff Gf), nds Ff Gf Af, osl Kt Vt At, bx b1 32 [.int .u64 a2.Base, .int .u64 a2.Len]]) (fun Q16 hJ16 hR16 hX16 => ?_) (fun a w hJ => ?_)
   ·
    replace H := H16
    refine seq_reg (fun K17 hK17 => ?_)
    refine stq hf Z Z Z (ex_move hf Z) fun a hf => stq hf Z Z Z (ex_nilCheck hf Z) fun a hf => stq hf Z Z Z (ex_fieldAddrB fa_71_0 Z hf Z) fun a hf => stq hf Z Z Z (ex_loadA (cs := [Va, Vb, Vc]) ag_68 hf Z (sb_cells (hs.get (i := 0) Z) Z)) fun a hf => stq hf Z Z Z (ex_move hf Z) fun a hf => ?_
    refine hK17 _ _ ?_
    refine block_k (fun Q18 hN18 hR18 hX18 hY18 => ?_)
    refine loop_k (fun n a w => ∃ (y19 : Int) (y20 : Int), Fr a 85 [(0, .pointer (some ⟨b0, 0, none⟩)), (1, .int .i64 a1), (3, .int .i64 a3), (6, .pointer (some ⟨b1, 0, none⟩)), (9, .int .i64 y19), (30, .agg #[Va, Vb, Vc]), (31, .int .i64 y20)] ∧ St M w0 w [bxs b0 71 [([Va], 1), ([Vb], 1), ([Vc], 1), (List.map Value.bool Ae, 256), ([Vf], 1), ([Vt], 1)], osl Km Va (ids Fm Ga), nds Fm Ga Aa, osl Km Vb (ids Fm Gb), nds Fm Gb Ab, osl Km Vc (ids Fm Gc), nds Fm Gc Ac, osl Kf Vf (ids Ff Gf), nds Ff Gf Af, osl Kt Vt At, bx b1 32 [.int .u64 a2.Base, .int .u64 a2.Len]] ∧ iospace_Bus_Map.l1 n Aa Ab Ac y19 y20 = some x16) k ?_ (fun n22 a w hI Q22 hL22 hR22 hX22 => ?_)
    ·
     exact ⟨0, 0, hf.sub ⟨Z, Z, Z, Z, Z, Z, Z, trivial⟩, hs, H⟩
    ·
     obtain ⟨y19, y20, hf, hs, H⟩ := hI
     cases n22 with
     | zero => exact absurd H (by rw [iospace_Bus_Map.l1.eq_1]; intro h; cases h)
     | succ k22 =>
      replace H := (iospace_Bus_Map.l1.eq_2 ..).symm.trans H
      refine seq_reg (fun K23 hK23 => ?_)
      refine stq hf Z Z Z (ex_lss hf Z Z) fun a hf => ?_
      refine hK23 _ _ ?_
      refine seq_n (fun Q24 hN24 hR24 hX24 => ?_)
      refine itt H (fun hc25 H => ?_) (fun hc25 H => ?_)
      ·
       replace hf := hf.castB (t := 32) Z (dec_t hc25)
       refine cond_T hf Z ?_
       refine wp_skip ?_
       refine hN24 _ _ ?_
       refine bnd H (fun x26 H26 HO26 => ?_)
       clear H
       refine seq_cut (fun a w => Fr a 85 [(0, .pointer (some ⟨b0, 0, none⟩)), (1, .int .i64 a1), (3, .int .i64 a3), (6, .pointer (some ⟨b1, 0, none⟩)), (9, .int .i64 x26), (30, .agg #[Va, Vb, Vc]), (31, .int .i64 y20)] ∧ St M w0 w [bxs b0 71 [([Va], 1), ([Vb], 1), ([Vc], 1), (List.map Value.bool Ae, 256), ([Vf], 1), ([Vt], 1)], osl Km Va (ids Fm Ga), nds Fm Ga Aa, osl Km Vb (ids Fm Gb), nds Fm Gb Ab, osl Km Vc (ids Fm Gc), nds Fm Gc Ac, osl Kf Vf (ids Ff Gf), nds Ff Gf Af, osl Kt Vt At, bx b1 32 [.int .u64 a2.Base, .int .u64 a2.Len]]) (fun Q26 hJ26 hR26 hX26 => ?_) (fun a w hJ => ?_)
       ·
        replace H := H26
        refine block_k (fun Q27 hN27 hR27 hX27 hY27 => ?_)
        refine itt H (fun hc28 H => ?_) (fun hc28 H => ?_)
        ·
         refine seq_reg (fun K29 hK29 => ?_)
         refine stq hf Z Z Z (ex_indexC (cs := [Va, Vb, Vc]) 0 ia_68 sc_67 hc28 (by decide) hf Z Z Z) fun a hf => stq hf Z Z Z (ex_assign hf Z) fun a hf => ?_
         refine hK29 _ _ ?_
         refine region_k (fun K30 hK30 => ?_)
         refine stq hf Z Z Z (ex_move hf Z) fun a hf => stq hf Z Z Z (ex_move hf Z) fun a hf => stq hf Z Z Z (ex_lenS Try.underlying67 (ids_isSl (osl_rsl _ (hs.get (i := 1) Z)) (hs.get (i := 2) Z)) hf Z) fun a hf => stq hf Z Z Z (ex_add hf Z Z) fun a hf => stq hf Z Z Z (ex_assign hf Z) fun a hf => ?_
         refine hK30 _ _ ?_
         refine hN27 _ _ ?_
         have e26 := some_eq H; subst e26
         exact hJ26 _ _ ⟨hf.sub ⟨Z, Z, Z, Z, Z, Z, Z, trivial⟩, hs⟩
        ·
         refine itt H (fun hc31 H => ?_) (fun hc31 H => ?_)
         ·
          refine seq_reg (fun K32 hK32 => ?_)
          refine stq hf Z Z Z (ex_indexC (cs := [Va, Vb, Vc]) 1 ia_68 sc_67 hc31 (by decide) hf Z Z Z) fun a hf => stq hf Z Z Z (ex_assign hf Z) fun a hf => ?_
          refine hK32 _ _ ?_
          refine region_k (fun K33 hK33 => ?_)
          refine stq hf Z Z Z (ex_move hf Z) fun a hf => stq hf Z Z Z (ex_move hf Z) fun a hf => stq hf Z Z Z (ex_lenS Try.underlying67 (ids_isSl (osl_rsl _ (hs.get (i := 3) Z)) (hs.get (i := 4) Z)) hf Z) fun a hf => stq hf Z Z Z (ex_add hf Z Z) fun a hf => stq hf Z Z Z (ex_assign hf Z) fun a hf => ?_
          refine hK33 _ _ ?_
          refine hN27 _ _ ?_
          have e26 := some_eq H; subst e26
          exact hJ26 _ _ ⟨hf.sub ⟨Z, Z, Z, Z, Z, Z, Z, trivial⟩, hs⟩
         ·
          refine itt H (fun hc34 H => ?_) (fun hc34 H => ?_)
          ·
           refine seq_reg (fun K35 hK35 => ?_)
           refine stq hf Z Z Z (ex_indexC (cs := [Va, Vb, Vc]) 2 ia_68 sc_67 hc34 (by decide) hf Z Z Z) fun a hf => stq hf Z Z Z (ex_assign hf Z) fun a hf => ?_
           refine hK35 _ _ ?_
           refine region_k (fun K36 hK36 => ?_)
           refine stq hf Z Z Z (ex_move hf Z) fun a hf => stq hf Z Z Z (ex_move hf Z) fun a hf => stq hf Z Z Z (ex_lenS Try.underlying67 (ids_isSl (osl_rsl _ (hs.get (i := 5) Z)) (hs.get (i := 6) Z)) hf Z) fun a hf => stq hf Z Z Z (ex_add hf Z Z) fun a hf => stq hf Z Z Z (ex_assign hf Z) fun a hf => ?_
           refine hK36 _ _ ?_
           refine hN27 _ _ ?_
           have e26 := some_eq H; subst e26
           exact hJ26 _ _ ⟨hf.sub ⟨Z, Z, Z, Z, Z, Z, Z, trivial⟩, hs⟩
          ·
           cases H
       ·
        obtain ⟨hf, hs⟩ := hJ
        replace H := HO26
        clear HO26
        refine region_k (fun K37 hK37 => ?_)
        refine stq hf Z Z Z (ex_add hf Z Z) fun a hf => stq hf Z Z Z (ex_move hf Z) fun a hf => ?_
        refine hK37 _ _ ?_
        exact hL22 k22 _ _ (Nat.lt_succ_self _) ⟨x26, (IntKind.i64.wrap (y20 + 1)), hf.sub ⟨Z, Z, Z, Z, Z, Z, Z, trivial⟩, hs, H⟩
      ·
       replace hf := hf.castB (t := 32) Z (dec_f hc25)
       refine cond_F hf Z ?_
       refine wp_exit ?_
       refine hX24 0 _ _ ?_
       refine hX22 0 _ _ ?_
       refine hX18 _ _ ?_
       have e16 := some_eq H; subst e16
       exact hJ16 _ _ ⟨hf.sub ⟨Z, Z, Z, Z, Z, trivial⟩, hs⟩
   ·
    obtain ⟨hf, hs⟩ := hJ
    replace H := HO16
    clear HO16
    refine seq_n (fun Q38 hN38 hR38 hX38 => ?_)
    refine itt H (fun hc39 H => ?_) (fun hc39 H => ?_)
    ·
     refine region_k (fun K40 hK40 => ?_)
     refine stq hf Z Z Z (ex_move hf Z) fun a hf => stq hf Z Z Z (ex_move hf Z) fun a hf => stq hf Z Z Z (ex_nilCheck hf Z) fun a hf => stq hf Z Z Z (ex_fieldAddrB fa_71_0 Z hf Z) fun a hf => stq hf Z Z Z (ex_indexAddrAC 0 ia_68 Z hc39 (by decide) Z hf Z Z) fun a hf => stq hf Z Z Z (ex_load sc_67 hf Z (sb_cell1 (i := 0) (hs.get (i := 0) Z) Z Z)) fun a hf => stq hf Z Z Z (ex_assign hf Z) fun a hf => ?_
     refine hK40 _ _ ?_
     refine hN38 _ _ ?_
     refine seq_n (fun Q41 hN41 hR41 hX41 => ?_)
     refine block_k (fun Q42 hN42 hR42 hX42 hY42 => ?_)
     refine bnd H (fun s43 hs43 H => ?_)
     refine seq_reg (fun K44 hK44 => ?_)
     refine stq hf Z Z Z (ex_move hf Z) fun a hf => stq hf Z Z Z (ex_makeFunc hf Z) fun a hf => ?_
     refine stepF hf Z Z Z (ex_call cf_26 hf Z) (slices_ContainsFunc_iospace_mapping_iospace_mapping__Map_1.calls k Aa a2 Va Ga b1 (hs.enter sN) (Sr.own hs sN (i := 1) Z osl_rsl (fun _ h => h.1) (Sr.own hs sN (i := 2) Z (fun _ h => h) (fun _ h => h) (Sr.own hs sN (i := 10) Z (fun _ h => h) (fun _ h => h) (Sr.nil _ _)))) hs43) (fun v w hR a hf => ?_)
     obtain ⟨rfl, hs'⟩ := hR
     replace hs := hs.step sN hs'
     clear hs'
     refine stq hf Z Z Z (ex_assign hf Z) fun a hf => ?_
     refine hK44 _ _ ?_
     refine itt H (fun hc45 H => ?_) (fun hc45 H => ?_)
     ·
      replace hf := hf.castB (t := 45) Z hc45
      refine cond_T hf Z ?_
      refine seq_reg (fun K46 hK46 => ?_)
      refine stq hf Z Z Z (ex_assign hf Z) fun a hf => ?_
      refine hK46 _ _ ?_
      refine wp_ret ?_
      refine hR42 _ _ ?_
      refine hR41 _ _ ?_
      have eR := some_eq H; subst eR
      replace hs := hs.keep (.k (.k (.k (.k (.k (.k (.k (.k (.k (.k (.d .nil)))))))))))
      exact ret1 Try.results11 hf Z ⟨_, Z, ⟨Va, Ga, Vb, Gb, Vc, Gc, Z, hs⟩⟩
     ·
      replace hf := hf.castB (t := 45) Z (bool_f hc45)
      refine cond_F hf Z ?_
      refine seq_reg (fun K47 hK47 => ?_)
      refine stq hf Z Z Z (ex_move hf Z) fun a hf => stq hf Z Z Z (ex_geq hf Z Z) fun a hf => stq hf Z Z Z (ex_assign hf Z) fun a hf => ?_
      refine hK47 _ _ ?_
      refine itt H (fun hc48 H => ?_) (fun hc48 H => ?_)
      ·
       replace hf := hf.castB (t := 49) Z (dec_t hc48)
       refine cond_T hf Z ?_
       refine seq_reg (fun K49 hK49 => ?_)
       refine stq hf Z Z Z (ex_assign hf Z) fun a hf => ?_
       refine hK49 _ _ ?_
       refine wp_ret ?_
       refine hR42 _ _ ?_
       refine hR41 _ _ ?_
       have eR := some_eq H; subst eR
       replace hs := hs.keep (.k (.k (.k (.k (.k (.k (.k (.k (.k (.k (.d .nil)))))))))))
       exact ret1 Try.results11 hf Z ⟨_, Z, ⟨Va, Ga, Vb, Gb, Vc, Gc, Z, hs⟩⟩
      ·
       replace hf := hf.castB (t := 49) Z (dec_f hc48)
       refine cond_F hf Z ?_
       refine wp_skip ?_
       refine hN42 _ _ ?_
       refine hN41 _ _ ?_
       refine seq_reg (fun K50 hK50 => ?_)
       refine stq hf Z Z Z (ex_assign hf Z) fun a hf => ?_
       refine hK50 _ _ ?_
       refine bnd H (fun x51 H51 HO51 => ?_)
       clear H
       refine seq_cut (fun a w => Fr a 85 [(0, .pointer (some ⟨b0, 0, none⟩)), (1, .int .i64 a1), (3, .int .i64 a3), (6, .pointer (some ⟨b1, 0, none⟩)), (12, Va), (13, .int .i64 x51)] ∧ St M w0 w [bxs b0 71 [([Va], 1), ([Vb], 1), ([Vc], 1), (List.map Value.bool Ae, 256), ([Vf], 1), ([Vt], 1)], osl Km Va (ids Fm Ga), nds Fm Ga Aa, osl Km Vb (ids Fm Gb), nds Fm Gb Ab, osl Km Vc (ids Fm Gc), nds Fm Gc Ac, osl Kf Vf (ids Ff Gf), nds Ff Gf Af, osl Kt Vt At, bx b1 32 [.int .u64 a2.Base, .int .u64 a2.Len]]) (fun Q51 hJ51 hR51 hX51 => ?_) (fun a w hJ => ?_)
       ·
        replace H := H51
        refine block_k (fun Q52 hN52 hR52 hX52 hY52 => ?_)
        refine loop_k (fun n a w => ∃ (y53 : Int), Fr a 85 [(0, .pointer (some ⟨b0, 0, none⟩)), (1, .int .i64 a1), (3, .int .i64 a3), (6, .pointer (some ⟨b1, 0, none⟩)), (12, Va), (13, .int .i64 y53)] ∧ St M w0 w [bxs b0 71 [([Va], 1), ([Vb], 1), ([Vc], 1), (List.map Value.bool Ae, 256), ([Vf], 1), ([Vt], 1)], osl Km Va (ids Fm Ga), nds Fm Ga Aa, osl Km Vb (ids Fm Gb), nds Fm Gb Ab, osl Km Vc (ids Fm Gc), nds Fm Gc Ac, osl Kf Vf (ids Ff Gf), nds Ff Gf Af, osl Kt Vt At, bx b1 32 [.int .u64 a2.Base, .int .u64 a2.Len]] ∧ iospace_Bus_Map.l2 n Aa a2 y53 = some x51) k ?_ (fun n55 a w hI Q55 hL55 hR55 hX55 => ?_)
        ·
         exact ⟨0, hf.sub ⟨Z, Z, Z, Z, Z, Z, trivial⟩, hs, H⟩
        ·
         obtain ⟨y53, hf, hs, H⟩ := hI
         cases n55 with
         | zero => exact absurd H (by rw [iospace_Bus_Map.l2.eq_1]; intro h; cases h)
         | succ k55 =>
          replace H := (iospace_Bus_Map.l2.eq_2 ..).symm.trans H
          refine seq_n (fun Q56 hN56 hR56 hX56 => ?_)
          refine bnd H (fun x57 H57 HO57 => ?_)
          clear H
          refine seq_cut (fun a w => Fr a 85 [(0, .pointer (some ⟨b0, 0, none⟩)), (1, .int .i64 a1), (3, .int .i64 a3), (6, .pointer (some ⟨b1, 0, none⟩)), (12, Va), (13, .int .i64 y53), (68, .bool x57)] ∧ St M w0 w [bxs b0 71 [([Va], 1), ([Vb], 1), ([Vc], 1), (List.map Value.bool Ae, 256), ([Vf], 1), ([Vt], 1)], osl Km Va (ids Fm Ga), nds Fm Ga Aa, osl Km Vb (ids Fm Gb), nds Fm Gb Ab, osl Km Vc (ids Fm Gc), nds Fm Gc Ac, osl Kf Vf (ids Ff Gf), nds Ff Gf Af, osl Kt Vt At, bx b1 32 [.int .u64 a2.Base, .int .u64 a2.Len]]) (fun Q57 hJ57 hR57 hX57 => ?_) (fun a w hJ => ?_)
          ·
           replace H := H57
           refine itt H (fun hc58 H => ?_) (fun hc58 H => ?_)
           ·
            refine ck_some H (fun hc59 H => ?_)
            refine region_dS fol 17 [(0, .pointer (some ⟨b0, 0, none⟩)), (1, .int .i64 a1), (3, .int .i64 a3), (6, .pointer (some ⟨b1, 0, none⟩)), (12, Va), (13, .int .i64 y53)] [(0, .int .i64 y53), (1, Va), (2, .int .i64 (Aa.length : Int)), (3, .bool true), (4, .bool true), (5, Va), (6, .int .i64 y53), (7, .pointer (some (sla Va (y53.toNat * 1)))), (8, .pointer (some ⟨Fm.blk (gd ((0, 0) : Nat × Nat) Ga y53), 0, none⟩)), (9, .pointer (some ⟨Fm.blk (gd ((0, 0) : Nat × Nat) Ga y53), 0, none⟩)), (10, .pointer (some ⟨Fm.blk (gd ((0, 0) : Nat × Nat) Ga y53), 0, none⟩)), (11, .pointer (some ⟨Fm.blk (gd ((0, 0) : Nat × Nat) Ga y53), 0, none⟩)), (12, .int .u64 ((gd mapping.zero Aa y53).r.Base)), (13, .pointer (some ⟨b1, 0, none⟩)), (14, .int .u64 a2.Base), (15, .bool (decide (((gd mapping.zero Aa y53).r.Base) < a2.Base))), (16, .bool (decide (((gd mapping.zero Aa y53).r.Base) < a2.Base)))] [] (fun w => (osl Km Va (ids Fm Ga)).ok w ∧ (nds Fm Ga Aa).ok w ∧ (bx b1 32 [.int .u64 a2.Base, .int .u64 a2.Len]).ok w ∧ True) hf ⟨Z, Z, Z, Z, Z, Z, trivial⟩ (by kernel_rfl) (by kernel_rfl) Z (by decide) ⟨hs.drew.get (i := 1) Z, hs.drew.get (i := 2) Z, hs.drew.get (i := 10) Z, trivial⟩ hs ((.cons (qy Z Z Z Z Z fun hR hf => ex_move hf Z) (.cons (qy Z Z Z Z Z fun hR hf => ex_move hf Z) (.cons (qy Z Z Z Z Z fun hR hf => ex_lenS Try.underlying67 (ids_isSl (osl_rsl _ hR.1) hR.2.1) hf Z) (.cons (qy Z Z Z Z Z fun hR hf => ex_castB (ex_lss hf Z Z) (dec_t hc58)) (.cons (qy Z Z Z Z Z fun hR hf => ex_move hf Z) (.cons (qy Z Z Z Z Z fun hR hf => ex_move hf Z) (.cons (qy Z Z Z Z Z fun hR hf => ex_move hf Z) (.cons (qy Z Z Z Z Z fun hR hf => ex_indexAddr sa_67 (ids_isSl (osl_rsl _ hR.1) hR.2.1) hc59.1 hc59.2 hf Z Z) (.cons (qy Z Z Z Z Z fun hR hf => ex_load sc_76 hf Z (ids_cell (F := Fm) (osl_rsl _ hR.1) hR.2.1 ((0, 0) : Nat × Nat) hc59.1 hc59.2)) (.cons (qy Z Z Z Z Z fun hR hf => ex_nilCheck hf Z) (.cons (qy Z Z Z Z Z fun hR hf => ex_fieldAddrB fa_80_0 Z hf Z) (.cons (qy Z Z Z Z Z fun hR hf => ex_fieldAddrB fa_32_0 Z hf Z) (.cons (qy Z Z Z Z Z fun hR hf => ex_load sc_22 hf Z (nd_cell (F := Fm) hR.2.1 ((0, 0) : Nat × Nat) mapping.zero hc59.1 hc59.2 0 Z)) (.cons (qy Z Z Z Z Z fun hR hf => ex_fieldAddrB fa_32_0 Z hf Z) (.cons (qy Z Z Z Z Z fun hR hf => ex_load sc_22 hf Z (bx_cell (hR.2.2.1) _ Z)) (.cons (qy Z Z Z Z Z fun hR hf => ex_lss hf Z Z) (.cons (qy Z Z Z Z Z fun hR hf => ex_pickT hf Z Z) .nil)))))))))))))))))) (fun K60 hK60 => ?_)
            refine RW.zero (by kernel_rfl) (by kernel_rfl) [(0, .pointer (some ⟨b0, 0, none⟩)), (1, .int .i64 a1), (3, .int .i64 a3), (6, .pointer (some ⟨b1, 0, none⟩)), (12, Va), (13, .int .i64 y53), (68, .bool (decide (((gd mapping.zero Aa y53).r.Base) < a2.Base)))] ⟨Z, Z, Z, Z, Z, Z, Z, trivial⟩ (fun a w hR hs hf => ?_)
            refine hK60 _ _ ?_
            have e57 := some_eq H; subst e57
            exact hJ57 _ _ ⟨hf.sub ⟨Z, Z, Z, Z, Z, Z, Z, trivial⟩, hs⟩
           ·
            refine region_dS fol 17 [(0, .pointer (some ⟨b0, 0, none⟩)), (1, .int .i64 a1), (3, .int .i64 a3), (6, .pointer (some ⟨b1, 0, none⟩)), (12, Va), (13, .int .i64 y53)] [(0, .int .i64 y53), (1, Va), (2, .int .i64 (Aa.length : Int)), (3, .bool false), (4, .bool false), (5, undef), (6, undef), (7, undef), (8, undef), (9, undef), (10, undef), (11, undef), (12, undef), (13, undef), (14, undef), (15, undef), (16, .bool false)] [] (fun w => (osl Km Va (ids Fm Ga)).ok w ∧ (nds Fm Ga Aa).ok w ∧ True) hf ⟨Z, Z, Z, Z, Z, Z, trivial⟩ (by kernel_rfl) (by kernel_rfl) Z (by decide) ⟨hs.drew.get (i := 1) Z, hs.drew.get (i := 2) Z, trivial⟩ hs ((.cons (qy Z Z Z Z Z fun hR hf => ex_move hf Z) (.cons (qy Z Z Z Z Z fun hR hf => ex_move hf Z) (.cons (qy Z Z Z Z Z fun hR hf => ex_lenS Try.underlying67 (ids_isSl (osl_rsl _ hR.1) hR.2.1) hf Z) (.cons (qy Z Z Z Z Z fun hR hf => ex_castB (ex_lss hf Z Z) (dec_f hc58)) (.cons (qy Z Z Z Z Z fun hR hf => ex_move hf Z) (.cons (qn Z Z Z Z Z) (.cons (qn Z Z Z Z Z) (.cons (qn Z Z Z Z Z) (.cons (qn Z Z Z Z Z) (.cons (qn Z Z Z Z Z) (.cons (qn Z Z Z Z Z) (.cons (qn Z Z Z Z Z) (.cons (qn Z Z Z Z Z) (.cons (qn Z Z Z Z Z) (.cons (qn Z Z Z Z Z) (.cons (qn Z Z Z Z Z) (.cons (qy Z Z Z Z Z fun hR hf => ex_pickF hf Z Z) .nil)))))))))))))))))) (fun K61 hK61 => ?_)
            refine RW.zero (by kernel_rfl) (by kernel_rfl) [(0, .pointer (some ⟨b0, 0, none⟩)), (1, .int .i64 a1), (3, .int .i64 a3), (6, .pointer (some ⟨b1, 0, none⟩)), (12, Va), (13, .int .i64 y53), (68, .bool false)] ⟨Z, Z, Z, Z, Z, Z, Z, trivial⟩ (fun a w hR hs hf => ?_)
            refine hK61 _ _ ?_
            have e57 := some_eq H; subst e57
            exact hJ57 _ _ ⟨hf.sub ⟨Z, Z, Z, Z, Z, Z, Z, trivial⟩, hs⟩
          ·
           obtain ⟨hf, hs⟩ := hJ
           replace H := HO57
           clear HO57
           refine itt H (fun hc62 H => ?_) (fun hc62 H => ?_)
           ·
            replace hf := hf.castB (t := 68) Z hc62
            refine cond_T hf Z ?_
            refine wp_skip ?_
            refine hN56 _ _ ?_
            refine block_k (fun Q63 hN63 hR63 hX63 hY63 => ?_)
            refine region_k (fun K64 hK64 => ?_)
            refine stq hf Z Z Z (ex_move hf Z) fun a hf => stq hf Z Z Z (ex_add hf Z Z) fun a hf => stq hf Z Z Z (ex_assign hf Z) fun a hf => ?_
            refine hK64 _ _ ?_
            refine hN63 _ _ ?_
            exact hL55 k55 _ _ (Nat.lt_succ_self _) ⟨(IntKind.i64.wrap (y53 + 1)), hf.sub ⟨Z, Z, Z, Z, Z, Z, trivial⟩, hs, H⟩
           ·
            replace hf := hf.castB (t := 68) Z (bool_f hc62)
            refine cond_F hf Z ?_
            refine wp_exit ?_
            refine hX56 3 _ _ ?_
            refine hX55 3 _ _ ?_
            refine hX52 _ _ ?_
            have e51 := some_eq H; subst e51
            exact hJ51 _ _ ⟨hf.sub ⟨Z, Z, Z, Z, Z, Z, trivial⟩, hs⟩
       ·
        obtain ⟨hf, hs⟩ := hJ
        replace H := HO51
        clear HO51
        refine seq_n (fun Q65 hN65 hR65 hX65 => ?_)
        refine ck_some H (fun hc69 H => ?_)
        refine ck_some H (fun hc70 H => ?_)
        refine region_dS fol 15 [(0, .pointer (some ⟨b0, 0, none⟩)), (1, .int .i64 a1), (3, .int .i64 a3), (6, .pointer (some ⟨b1, 0, none⟩)), (12, Va), (13, .int .i64 x51)] [(0, .pointer (some ⟨b0, 0, none⟩)), (1, .int .i64 a1), (2, Va), (3, .int .i64 x51), (4, .agg #[.int .u64 a2.Base, .int .u64 a2.Len]), (5, .int .i64 a3), (11, .pointer (some ⟨b0, 0, none⟩)), (12, .pointer (some ⟨b0, 0, none⟩))] [6, 8, 9, 10, 14] (fun w => (bx b1 32 [.int .u64 a2.Base, .int .u64 a2.Len]).ok w ∧ True) hf ⟨Z, Z, Z, Z, Z, Z, trivial⟩ (by kernel_rfl) (by kernel_rfl) Z (by decide) ⟨hs.drew.get (i := 10) Z, trivial⟩ hs ((.cons (qy Z Z Z Z Z fun hR hf => ex_move hf Z) (.cons (qy Z Z Z Z Z fun hR hf => ex_move hf Z) (.cons (qy Z Z Z Z Z fun hR hf => ex_move hf Z) (.cons (qy Z Z Z Z Z fun hR hf => ex_move hf Z) (.cons (qy Z Z Z Z Z fun hR hf => ex_loadA (cs := [.int .u64 a2.Base, .int .u64 a2.Len]) ag_32 hf Z (bx_cells (hR.1) Z)) (.cons (qy Z Z Z Z Z fun hR hf => ex_move hf Z) (.cons (qy Z Z Z Z Z fun hR hf => ex_nilCheck hf Z) (.cons (qy Z Z Z Z Z fun hR hf => ex_fieldAddrB fa_71_0 Z hf Z) .nil))))))))) (fun K72 hK72 => ?_)
        refine RW.one 6 (by kernel_rfl) (by kernel_rfl) rfl (fun d hd => by cases hd; rfl) [] trivial (fun a w hR hs hf => ⟨wanted_yes hf rfl, ?_⟩)
        refine estep_v (er_makeMap (kk := .u64) (vk := .u8) hs) (fun v w hR => ?_)
        obtain ⟨b66, rfl, hs⟩ := hR
        refine ⟨[(7, .agg #[.int .u64 a2.Base, .int .u64 a2.Len, .int .i64 a3, .map (some b66)])], _, [8, 9, 10, 14], (fun _ => True), hs.fn, Z, Z, ⟨hs.get (i := 11) Z, trivial⟩, trivial, hs, (by kernel_rfl), (.cons (qy Z Z Z Z Z fun hR hf => ex_build (cs := [.int .u64 a2.Base, .int .u64 a2.Len, .int .i64 a3, .map (some b66)]) bt_80 hf Z (.cons Z (.cons Z (.cons Z .nil))) Z) .nil), ?_⟩
        refine RW.one 8 (by kernel_rfl) (by kernel_rfl) rfl (fun d hd => by cases hd; rfl) [(78, .agg #[.int .u64 a2.Base, .int .u64 a2.Len, .int .i64 a3, .map (some b66)])] ⟨rfl, trivial⟩ (fun a w hR hs hf => ⟨wanted_yes hf rfl, ?_⟩)
        refine estep_v (er_box (cs := [.int .u64 a2.Base, .int .u64 a2.Len, .int .i64 a3, .map (some b66)]) hs hf Z Z) (fun v w hR => ?_)
        obtain ⟨b67, rfl, hs⟩ := hR
        refine ⟨[], _, [9, 10, 14], (fun _ => True), hs.fn, Z, Z, ⟨⟨hs.get (i := 12) Z, trivial⟩, trivial⟩, trivial, hs, (by kernel_rfl), .nil, ?_⟩
        refine RW.one 9 (by kernel_rfl) (by kernel_rfl) rfl (fun d hd => by cases hd; rfl) [(79, .pointer (some ⟨b67, 0, none⟩))] ⟨rfl, trivial⟩ (fun a w hR hs hf => ⟨wanted_yes hf rfl, ?_⟩)
        refine estep_v (er_buildSlice (K := Km) (xs := [(some b67)]) hs Try.underlying67 ep_76 Z Z hf Z (.cons Z .nil) Z Z) (fun v68 w hs => ?_)
        refine ⟨[], _, [10, 14], (fun _ => True), hs.fn, Z, Z, ⟨⟨⟨hs.get (i := 13) Z, trivial⟩, trivial⟩, trivial⟩, trivial, hs, (by kernel_rfl), .nil, ?_⟩
        refine RW.one 10 (by kernel_rfl) (by kernel_rfl) rfl (fun d hd => by cases hd; rfl) [(73, Va), (74, .int .i64 x51), (80, v68)] ⟨rfl, rfl, rfl, trivial⟩ (fun a w hR hs hf => ⟨wanted_yes hf rfl, ?_⟩)
        replace hs := hs.p4
        refine estep_f (ex_call cf_29 hf Z) (insert_67.calls (ids Fm Ga) x51 [some b67] Va v68 (hs.enter (.c (.c sN))) (insert_nd (F := Fm) (L := Aa) (g := (b67, b66)) (hs.get (i := 5) Z) Z hc69 hc70)) (fun v w hR => ?_)
        obtain ⟨v71, rfl, hs'⟩ := hR
        replace hs := hs.step (.c (.c sN)) hs'
        clear hs'
        replace hs := hs.p4.p3.p3
        replace hs := St.nins (F := Fm) (G := Ga) (L := Aa) (g := (b67, b66)) (u := (⟨(⟨a2.Base, a2.Len⟩ : Range), a3, []⟩ : mapping)) hc69.1 hc69.2 hs
        refine ⟨[(13, .pointer (some ⟨b0, 0, none⟩))], _, [14], (fun w => (osl Km v71 (ids Fm (Ga.take x51.toNat ++ (b67, b66) :: Ga.drop x51.toNat))).ok w ∧ (nds Fm (Ga.take x51.toNat ++ (b67, b66) :: Ga.drop x51.toNat) (Aa.take x51.toNat ++ (⟨(⟨a2.Base, a2.Len⟩ : Range), a3, []⟩ : mapping) :: Aa.drop x51.toNat)).ok w ∧ True), hs.fn, Z, Z, ⟨⟨⟨⟨hs.get (i := 10) Z, trivial⟩, trivial⟩, trivial⟩, trivial⟩, ⟨hs.get (i := 1) Z, hs.get (i := 0) Z, trivial⟩, hs, (by kernel_rfl), (.cons (qy Z Z Z Z Z fun hR hf => ex_indexAddrAC 0 ia_68 Z hc39 (by decide) Z hf Z Z) .nil), ?_⟩
        refine RW.one 14 (by kernel_rfl) (by kernel_rfl) rfl (fun d hd => by cases hd) [(81, v71), (84, .pointer (some ⟨b0, 0, none⟩))] ⟨rfl, rfl, trivial⟩ (fun a w hR hs hf => ⟨wanted_yes hf rfl, ?_⟩)
        refine estep_s (er_storeS1 (i := 0) hs (.k (.k (.c sN))) hf Z Z (IsSl.one (ids_isSl (osl_rsl _ hR.2.1) hR.2.2.1)) sz_67 Z Z) (fun w hs => ?_)
        refine ⟨[], _, [], (fun _ => True), hs.fn, Z, Z, ⟨⟨⟨⟨⟨hs.get (i := 10) Z, trivial⟩, trivial⟩, trivial⟩, trivial⟩, ⟨hs.get (i := 2) Z, hs.get (i := 1) Z, trivial⟩⟩, trivial, hs, (by kernel_rfl), .nil, ?_⟩
        refine RW.zero (by kernel_rfl) (by kernel_rfl) [] trivial (fun a w hR hs hf => ?_)
        refine hK72 _ _ ?_
        refine hN65 _ _ ?_
        refine seq_reg (fun K73 hK73 => ?_)
        refine stq hf Z Z Z (ex_assign hf Z) fun a hf => ?_
        refine hK73 _ _ ?_
        refine wp_ret ?_
        have eR := some_eq H; subst eR
        replace hs := hs.keep (.k (.k (.k (.k (.k (.k (.k (.k (.k (.k (.d .nil)))))))))))
        replace hs := hs.p9.p9.p9.p9.p9.p9.p9.p8.p9.p9
        exact ret1 Try.results11 hf Z ⟨_, Z, ⟨v71, (Ga.take x51.toNat ++ (b67, b66) :: Ga.drop x51.toNat), Vb, Gb, Vc, Gc, Z, hs⟩⟩
    ·
     refine itt H (fun hc74 H => ?_) (fun hc74 H => ?_)
     ·
      refine region_k (fun K75 hK75 => ?_)
      refine stq hf Z Z Z (ex_move hf Z) fun a hf => stq hf Z Z Z (ex_move hf Z) fun a hf => stq hf Z Z Z (ex_nilCheck hf Z) fun a hf => stq hf Z Z Z (ex_fieldAddrB fa_71_0 Z hf Z) fun a hf => stq hf Z Z Z (ex_indexAddrAC 1 ia_68 Z hc74 (by decide) Z hf Z Z) fun a hf => stq hf Z Z Z (ex_load sc_67 hf Z (sb_cell1 (i := 1) (hs.get (i := 0) Z) Z Z)) fun a hf => stq hf Z Z Z (ex_assign hf Z) fun a hf => ?_
      refine hK75 _ _ ?_
      refine hN38 _ _ ?_
      refine seq_n (fun Q76 hN76 hR76 hX76 => ?_)
      refine block_k (fun Q77 hN77 hR77 hX77 hY77 => ?_)
      refine bnd H (fun s78 hs78 H => ?_)
      refine seq_reg (fun K79 hK79 => ?_)
      refine stq hf Z Z Z (ex_move hf Z) fun a hf => stq hf Z Z Z (ex_makeFunc hf Z) fun a hf => ?_
      refine stepF hf Z Z Z (ex_call cf_26 hf Z) (slices_ContainsFunc_iospace_mapping_iospace_mapping__Map_1.calls k Ab a2 Vb Gb b1 (hs.enter sN) (Sr.own hs sN (i := 3) Z osl_rsl (fun _ h => h.1) (Sr.own hs sN (i := 4) Z (fun _ h => h) (fun _ h => h) (Sr.own hs sN (i := 10) Z (fun _ h => h) (fun _ h => h) (Sr.nil _ _)))) hs78) (fun v w hR a hf => ?_)
      obtain ⟨rfl, hs'⟩ := hR
      replace hs := hs.step sN hs'
      clear hs'
      refine stq hf Z Z Z (ex_assign hf Z) fun a hf => ?_
      refine hK79 _ _ ?_
      refine itt H (fun hc80 H => ?_) (fun hc80 H => ?_)
      ·
       replace hf := hf.castB (t := 45) Z hc80
       refine cond_T hf Z ?_
       refine seq_reg (fun K81 hK81 => ?_)
       refine stq hf Z Z Z (ex_assign hf Z) fun a hf => ?_
       refine hK81 _ _ ?_
       refine wp_ret ?_
       refine hR77 _ _ ?_
       refine hR76 _ _ ?_
       have eR := some_eq H; subst eR
       replace hs := hs.keep (.k (.k (.k (.k (.k (.k (.k (.k (.k (.k (.d .nil)))))))))))
       exact ret1 Try.results11 hf Z ⟨_, Z, ⟨Va, Ga, Vb, Gb, Vc, Gc, Z, hs⟩⟩
      ·
       replace hf := hf.castB (t := 45) Z (bool_f hc80)
       refine cond_F hf Z ?_
       refine seq_reg (fun K82 hK82 => ?_)
       refine stq hf Z Z Z (ex_move hf Z) fun a hf => stq hf Z Z Z (ex_geq hf Z Z) fun a hf => stq hf Z Z Z (ex_assign hf Z) fun a hf => ?_
       refine hK82 _ _ ?_
       refine itt H (fun hc83 H => ?_) (fun hc83 H => ?_)
       ·
        replace hf := hf.castB (t := 49) Z (dec_t hc83)
        refine cond_T hf Z ?_
        refine seq_reg (fun K84 hK84 => ?_)
        refine stq hf Z Z Z (ex_assign hf Z) fun a hf => ?_
        refine hK84 _ _ ?_
        refine wp_ret ?_
        refine hR77 _ _ ?_
        refine hR76 _ _ ?_
        have eR := some_eq H; subst eR
        replace hs := hs.keep (.k (.k (.k (.k (.k (.k (.k (.k (.k (.k (.d .nil)))))))))))
        exact ret1 Try.results11 hf Z ⟨_, Z, ⟨Va, Ga, Vb, Gb, Vc, Gc, Z, hs⟩⟩
       ·
        replace hf := hf.castB (t := 49) Z (dec_f hc83)
        refine cond_F hf Z ?_
        refine wp_skip ?_
        refine hN77 _ _ ?_
        refine hN76 _ _ ?_
        refine seq_reg (fun K85 hK85 => ?_)
        refine stq hf Z Z Z (ex_assign hf Z) fun a hf => ?_
        refine hK85 _ _ ?_
        refine bnd H (fun x86 H86 HO86 => ?_)
        clear H
        refine seq_cut (fun a w => Fr a 85 [(0, .pointer (some ⟨b0, 0, none⟩)), (1, .int .i64 a1), (3, .int .i64 a3), (6, .pointer (some ⟨b1, 0, none⟩)), (12, Vb), (13, .int .i64 x86)] ∧ St M w0 w [bxs b0 71 [([Va], 1), ([Vb], 1), ([Vc], 1), (List.map Value.bool Ae, 256), ([Vf], 1), ([Vt], 1)], osl Km Va (ids Fm Ga), nds Fm Ga Aa, osl Km Vb (ids Fm Gb), nds Fm Gb Ab, osl Km Vc (ids Fm Gc), nds Fm Gc Ac, osl Kf Vf (ids Ff Gf), nds Ff Gf Af, osl Kt Vt At, bx b1 32 [.int .u64 a2.Base, .int .u64 a2.Len]]) (fun Q86 hJ86 hR86 hX86 => ?_) (fun a w hJ => ?_)
        ·
         replace H := H86
         refine block_k (fun Q87 hN87 hR87 hX87 hY87 => ?_)
         refine loop_k (fun n a w => ∃ (y88 : Int), Fr a 85 [(0, .pointer (some ⟨b0, 0, none⟩)), (1, .int .i64 a1), (3, .int .i64 a3), (6, .pointer (some ⟨b1, 0, none⟩)), (12, Vb), (13, .int .i64 y88)] ∧ St M w0 w [bxs b0 71 [([Va], 1), ([Vb], 1), ([Vc], 1), (List.map Value.bool Ae, 256), ([Vf], 1), ([Vt], 1)], osl Km Va (ids Fm Ga), nds Fm Ga Aa, osl Km Vb (ids Fm Gb), nds Fm Gb Ab, osl Km Vc (ids Fm Gc), nds Fm Gc Ac, osl Kf Vf (ids Ff Gf), nds Ff Gf Af, osl Kt Vt At, bx b1 32 [.int .u64 a2.Base, .int .u64 a2.Len]] ∧ iospace_Bus_Map.l3 n Ab a2 y88 = some x86) k ?_ (fun n90 a w hI Q90 hL90 hR90 hX90 => ?_)
         ·
          exact ⟨0, hf.sub ⟨Z, Z, Z, Z, Z, Z, trivial⟩, hs, H⟩
         ·
          obtain ⟨y88, hf, hs, H⟩ := hI
          cases n90 with
          | zero => exact absurd H (by rw [iospace_Bus_Map.l3.eq_1]; intro h; cases h)
          | succ k90 =>
           replace H := (iospace_Bus_Map.l3.eq_2 ..).symm.trans H
           refine seq_n (fun Q91 hN91 hR91 hX91 => ?_)
           refine bnd H (fun x92 H92 HO92 => ?_)
           clear H
           refine seq_cut (fun a w => Fr a 85 [(0, .pointer (some ⟨b0, 0, none⟩)), (1, .int .i64 a1), (3, .int .i64 a3), (6, .pointer (some ⟨b1, 0, none⟩)), (12, Vb), (13, .int .i64 y88), (68, .bool x92)] ∧ St M w0 w [bxs b0 71 [([Va], 1), ([Vb], 1), ([Vc], 1), (List.map Value.bool Ae, 256), ([Vf], 1), ([Vt], 1)], osl Km Va (ids Fm Ga), nds Fm Ga Aa, osl Km Vb (ids Fm Gb), nds Fm Gb Ab, osl Km Vc (ids Fm Gc), nds Fm Gc Ac, osl Kf Vf (ids Ff Gf), nds Ff Gf Af, osl Kt Vt At, bx b1 32 [.int .u64 a2.Base, .int .u64 a2.Len]]) (fun Q92 hJ92 hR92 hX92 => ?_) (fun a w hJ => ?_)
           ·
            replace H := H92
            refine itt H (fun hc93 H => ?_) (fun hc93 H => ?_)
            ·
             refine ck_some H (fun hc94 H => ?_)
             refine region_dS fol 17 [(0, .pointer (some ⟨b0, 0, none⟩)), (1, .int .i64 a1), (3, .int .i64 a3), (6, .pointer (some ⟨b1, 0, none⟩)), (12, Vb), (13, .int .i64 y88)] [(0, .int .i64 y88), (1, Vb), (2, .int .i64 (Ab.length : Int)), (3, .bool true), (4, .bool true), (5, Vb), (6, .int .i64 y88), (7, .pointer (some (sla Vb (y88.toNat * 1)))), (8, .pointer (some ⟨Fm.blk (gd ((0, 0) : Nat × Nat) Gb y88), 0, none⟩)), (9, .pointer (some ⟨Fm.blk (gd ((0, 0) : Nat × Nat) Gb y88), 0, none⟩)), (10, .pointer (some ⟨Fm.blk (gd ((0, 0) : Nat × Nat) Gb y88), 0, none⟩)), (11, .pointer (some ⟨Fm.blk (gd ((0, 0) : Nat × Nat) Gb y88), 0, none⟩)), (12, .int .u64 ((gd mapping.zero Ab y88).r.Base)), (13, .pointer (some ⟨b1, 0, none⟩)), (14, .int .u64 a2.Base), (15, .bool (decide (((gd mapping.zero Ab y88).r.Base) < a2.Base))), (16, .bool (decide (((gd mapping.zero Ab y88).r.Base) < a2.Base)))] [] (fun w => (osl Km Vb (ids Fm Gb)).ok w ∧ (nds Fm Gb Ab).ok w ∧ (bx b1 32 [.int .u64 a2.Base, .int .u64 a2.Len]).ok w ∧ True) hf ⟨Z, Z, Z, Z, Z, Z, trivial⟩ (by kernel_rfl) (by kernel_rfl) Z (by decide) ⟨hs.drew.get (i := 3) Z, hs.drew.get (i := 4) Z, hs.drew.get (i := 10) Z, trivial⟩ hs ((.cons (qy Z Z Z Z Z fun hR hf => ex_move hf Z) (.cons (qy Z Z Z Z Z fun hR hf => ex_move hf Z) (.cons (qy Z Z Z Z Z fun hR hf => ex_lenS Try.underlying67 (ids_isSl (osl_rsl _ hR.1) hR.2.1) hf Z) (.cons (qy Z Z Z Z Z fun hR hf => ex_castB (ex_lss hf Z Z) (dec_t hc93)) (.cons (qy Z Z Z Z Z fun hR hf => ex_move hf Z) (.cons (qy Z Z Z Z Z fun hR hf => ex_move hf Z) (.cons (qy Z Z Z Z Z fun hR hf => ex_move hf Z) (.cons (qy Z Z Z Z Z fun hR hf => ex_indexAddr sa_67 (ids_isSl (osl_rsl _ hR.1) hR.2.1) hc94.1 hc94.2 hf Z Z) (.cons (qy Z Z Z Z Z fun hR hf => ex_load sc_76 hf Z (ids_cell (F := Fm) (osl_rsl _ hR.1) hR.2.1 ((0, 0) : Nat × Nat) hc94.1 hc94.2)) (.cons (qy Z Z Z Z Z fun hR hf => ex_nilCheck hf Z) (.cons (qy Z Z Z Z Z fun hR hf => ex_fieldAddrB fa_80_0 Z hf Z) (.cons (qy Z Z Z Z Z fun hR hf => ex_fieldAddrB fa_32_0 Z hf Z) (.cons (qy Z Z Z Z Z fun hR hf => ex_load sc_22 hf Z (nd_cell (F := Fm) hR.2.1 ((0, 0) : Nat × Nat) mapping.zero hc94.1 hc94.2 0 Z)) (.cons (qy Z Z Z Z Z fun hR hf => ex_fieldAddrB fa_32_0 Z hf Z) (.cons (qy Z Z Z Z Z fun hR hf => ex_load sc_22 hf Z (bx_cell (hR.2.2.1) _ Z)) (.cons (qy Z Z Z Z Z fun hR hf => ex_lss hf Z Z) (.cons (qy Z Z Z Z Z fun hR hf => ex_pickT hf Z Z) .nil)))))))))))))))))) (fun K95 hK95 => ?_)
             refine RW.zero (by kernel_rfl) (by kernel_rfl) [(0, .pointer (some ⟨b0, 0, none⟩)), (1, .int .i64 a1), (3, .int .i64 a3), (6, .pointer (some ⟨b1, 0, none⟩)), (12, Vb), (13, .int .i64 y88), (68, .bool (decide (((gd mapping.zero Ab y88).r.Base) < a2.Base)))] ⟨Z, Z, Z, Z, Z, Z, Z, trivial⟩ (fun a w hR hs hf => ?_)
             refine hK95 _ _ ?_
             have e92 := some_eq H; subst e92
             exact hJ92 _ _ ⟨hf.sub ⟨Z, Z, Z, Z, Z, Z, Z, trivial⟩, hs⟩
            ·
             refine region_dS fol 17 [(0, .pointer (some ⟨b0, 0, none⟩)), (1, .int .i64 a1), (3, .int .i64 a3), (6, .pointer (some ⟨b1, 0, none⟩)), (12, Vb), (13, .int .i64 y88)] [(0, .int .i64 y88), (1, Vb), (2, .int .i64 (Ab.length : Int)), (3, .bool false), (4, .bool false), (5, undef), (6, undef), (7, undef), (8, undef), (9, undef), (10, undef), (11, undef), (12, undef), (13, undef), (14, undef), (15, undef), (16, .bool false)] [] (fun w => (osl Km Vb (ids Fm Gb)).ok w ∧ (nds Fm Gb Ab).ok w ∧ True) hf ⟨Z, Z, Z, Z, Z, Z, trivial⟩ (by kernel_rfl) (by kernel_rfl) Z (by decide) ⟨hs.drew.get (i := 3) Z, hs.drew.get (i := 4) Z, trivial⟩ hs ((.cons (qy Z Z Z Z Z fun hR hf => ex_move hf Z) (.cons (qy Z Z Z Z Z fun hR hf => ex_move hf Z) (.cons (qy Z Z Z Z Z fun hR hf => ex_lenS Try.underlying67 (ids_isSl (osl_rsl _ hR.1) hR.2.1) hf Z) (.cons (qy Z Z Z Z Z fun hR hf => ex_castB (ex_lss hf Z Z) (dec_f hc93)) (.cons (qy Z Z Z Z Z fun hR hf => ex_move hf Z) (.cons (qn Z Z Z Z Z) (.cons (qn Z Z Z Z Z) (.cons (qn Z Z Z Z Z) (.cons (qn Z Z Z Z Z) (.cons (qn Z Z Z Z Z) (.cons (qn Z Z Z Z Z) (.cons (qn Z Z Z Z Z) (.cons (qn Z Z Z Z Z) (.cons (qn Z Z Z Z Z) (.cons (qn Z Z Z Z Z) (.cons (qn Z Z Z Z Z) (.cons (qy Z Z Z Z Z fun hR hf => ex_pickF hf Z Z) .nil)))))))))))))))))) (fun K96 hK96 => ?_)
             refine RW.zero (by kernel_rfl) (by kernel_rfl) [(0, .pointer (some ⟨b0, 0, none⟩)), (1, .int .i64 a1), (3, .int .i64 a3), (6, .pointer (some ⟨b1, 0, none⟩)), (12, Vb), (13, .int .i64 y88), (68, .bool false)] ⟨Z, Z, Z, Z, Z, Z, Z, trivial⟩ (fun a w hR hs hf => ?_)
             refine hK96 _ _ ?_
             have e92 := some_eq H; subst e92
             exact hJ92 _ _ ⟨hf.sub ⟨Z, Z, Z, Z, Z, Z, Z, trivial⟩, hs⟩
           ·
            obtain ⟨hf, hs⟩ := hJ
            replace H := HO92
            clear HO92
            refine itt H (fun hc97 H => ?_) (fun hc97 H => ?_)
            ·
             replace hf := hf.castB (t := 68) Z hc97
             refine cond_T hf Z ?_
             refine wp_skip ?_
             refine hN91 _ _ ?_
             refine block_k (fun Q98 hN98 hR98 hX98 hY98 => ?_)
             refine region_k (fun K99 hK99 => ?_)
             refine stq hf Z Z Z (ex_move hf Z) fun a hf => stq hf Z Z Z (ex_add hf Z Z) fun a hf => stq hf Z Z Z (ex_assign hf Z) fun a hf => ?_
             refine hK99 _ _ ?_
             refine hN98 _ _ ?_
             exact hL90 k90 _ _ (Nat.lt_succ_self _) ⟨(IntKind.i64.wrap (y88 + 1)), hf.sub ⟨Z, Z, Z, Z, Z, Z, trivial⟩, hs, H⟩
            ·
             replace hf := hf.castB (t := 68) Z (bool_f hc97)
             refine cond_F hf Z ?_
             refine wp_exit ?_
             refine hX91 3 _ _ ?_
             refine hX90 3 _ _ ?_
             refine hX87 _ _ ?_
             have e86 := some_eq H; subst e86
             exact hJ86 _ _ ⟨hf.sub ⟨Z, Z, Z, Z, Z, Z, trivial⟩, hs⟩
        ·
         obtain ⟨hf, hs⟩ := hJ
         replace H := HO86
         clear HO86
         refine seq_n (fun Q100 hN100 hR100 hX100 => ?_)
         refine ck_some H (fun hc104 H => ?_)
         refine ck_some H (fun hc105 H => ?_)
         refine region_dS fol 15 [(0, .pointer (some ⟨b0, 0, none⟩)), (1, .int .i64 a1), (3, .int .i64 a3), (6, .pointer (some ⟨b1, 0, none⟩)), (12, Vb), (13, .int .i64 x86)] [(0, .pointer (some ⟨b0, 0, none⟩)), (1, .int .i64 a1), (2, Vb), (3, .int .i64 x86), (4, .agg #[.int .u64 a2.Base, .int .u64 a2.Len]), (5, .int .i64 a3), (11, .pointer (some ⟨b0, 0, none⟩)), (12, .pointer (some ⟨b0, 0, none⟩))] [6, 8, 9, 10, 14] (fun w => (bx b1 32 [.int .u64 a2.Base, .int .u64 a2.Len]).ok w ∧ True) hf ⟨Z, Z, Z, Z, Z, Z, trivial⟩ (by kernel_rfl) (by kernel_rfl) Z (by decide) ⟨hs.drew.get (i := 10) Z, trivial⟩ hs ((.cons (qy Z Z Z Z Z fun hR hf => ex_move hf Z) (.cons (qy Z Z Z Z Z fun hR hf => ex_move hf Z) (.cons (qy Z Z Z Z Z fun hR hf => ex_move hf Z) (.cons (qy Z Z Z Z Z fun hR hf => ex_move hf Z) (.cons (qy Z Z Z Z Z fun hR hf => ex_loadA (cs := [.int .u64 a2.Base, .int .u64 a2.Len]) ag_32 hf Z (bx_cells (hR.1) Z)) (.cons (qy Z Z Z Z Z fun hR hf => ex_move hf Z) (.cons (qy Z Z Z Z Z fun hR hf => ex_nilCheck hf Z) (.cons (qy Z Z Z Z Z fun hR hf => ex_fieldAddrB fa_71_0 Z hf Z) .nil))))))))) (fun K107 hK107 => ?_)
         refine RW.one 6 (by kernel_rfl) (by kernel_rfl) rfl (fun d hd => by cases hd; rfl) [] trivial (fun a w hR hs hf => ⟨wanted_yes hf rfl, ?_⟩)
         refine estep_v (er_makeMap (kk := .u64) (vk := .u8) hs) (fun v w hR => ?_)
         obtain ⟨b101, rfl, hs⟩ := hR
         refine ⟨[(7, .agg #[.int .u64 a2.Base, .int .u64 a2.Len, .int .i64 a3, .map (some b101)])], _, [8, 9, 10, 14], (fun _ => True), hs.fn, Z, Z, ⟨hs.get (i := 11) Z, trivial⟩, trivial, hs, (by kernel_rfl), (.cons (qy Z Z Z Z Z fun hR hf => ex_build (cs := [.int .u64 a2.Base, .int .u64 a2.Len, .int .i64 a3, .map (some b101)]) bt_80 hf Z (.cons Z (.cons Z (.cons Z .nil))) Z) .nil), ?_⟩
         refine RW.one 8 (by kernel_rfl) (by kernel_rfl) rfl (fun d hd => by cases hd; rfl) [(78, .agg #[.int .u64 a2.Base, .int .u64 a2.Len, .int .i64 a3, .map (some b101)])] ⟨rfl, trivial⟩ (fun a w hR hs hf => ⟨wanted_yes hf rfl, ?_⟩)
         refine estep_v (er_box (cs := [.int .u64 a2.Base, .int .u64 a2.Len, .int .i64 a3, .map (some b101)]) hs hf Z Z) (fun v w hR => ?_)
         obtain ⟨b102, rfl, hs⟩ := hR
         refine ⟨[], _, [9, 10, 14], (fun _ => True), hs.fn, Z, Z, ⟨⟨hs.get (i := 12) Z, trivial⟩, trivial⟩, trivial, hs, (by kernel_rfl), .nil, ?_⟩
         refine RW.one 9 (by kernel_rfl) (by kernel_rfl) rfl (fun d hd => by cases hd; rfl) [(79, .pointer (some ⟨b102, 0, none⟩))] ⟨rfl, trivial⟩ (fun a w hR hs hf => ⟨wanted_yes hf rfl, ?_⟩)
         refine estep_v (er_buildSlice (K := Km) (xs := [(some b102)]) hs Try.underlying67 ep_76 Z Z hf Z (.cons Z .nil) Z Z) (fun v103 w hs => ?_)
         refine ⟨[], _, [10, 14], (fun _ => True), hs.fn, Z, Z, ⟨⟨⟨hs.get (i := 13) Z, trivial⟩, trivial⟩, trivial⟩, trivial, hs, (by kernel_rfl), .nil, ?_⟩
         refine RW.one 10 (by kernel_rfl) (by kernel_rfl) rfl (fun d hd => by cases hd; rfl) [(73, Vb), (74, .int .i64 x86), (80, v103)] ⟨rfl, rfl, rfl, trivial⟩ (fun a w hR hs hf => ⟨wanted_yes hf rfl, ?_⟩)
         replace hs := hs.p6
         refine estep_f (ex_call cf_29 hf Z) (insert_67.calls (ids Fm Gb) x86 [some b102] Vb v103 (hs.enter (.c (.c sN))) (insert_nd (F := Fm) (L := Ab) (g := (b102, b101)) (hs.get (i := 7) Z) Z hc104 hc105)) (fun v w hR => ?_)
         obtain ⟨v106, rfl, hs'⟩ := hR
         replace hs := hs.step (.c (.c sN)) hs'
         clear hs'
         replace hs := hs.p6.p3.p3
         replace hs := St.nins (F := Fm) (G := Gb) (L := Ab) (g := (b102, b101)) (u := (⟨(⟨a2.Base, a2.Len⟩ : Range), a3, []⟩ : mapping)) hc104.1 hc104.2 hs
         refine ⟨[(13, .pointer (some ⟨b0, 1, none⟩))], _, [14], (fun w => (osl Km v106 (ids Fm (Gb.take x86.toNat ++ (b102, b101) :: Gb.drop x86.toNat))).ok w ∧ (nds Fm (Gb.take x86.toNat ++ (b102, b101) :: Gb.drop x86.toNat) (Ab.take x86.toNat ++ (⟨(⟨a2.Base, a2.Len⟩ : Range), a3, []⟩ : mapping) :: Ab.drop x86.toNat)).ok w ∧ True), hs.fn, Z, Z, ⟨⟨⟨⟨hs.get (i := 10) Z, trivial⟩, trivial⟩, trivial⟩, trivial⟩, ⟨hs.get (i := 1) Z, hs.get (i := 0) Z, trivial⟩, hs, (by kernel_rfl), (.cons (qy Z Z Z Z Z fun hR hf => ex_indexAddrAC 1 ia_68 Z hc74 (by decide) Z hf Z Z) .nil), ?_⟩
         refine RW.one 14 (by kernel_rfl) (by kernel_rfl) rfl (fun d hd => by cases hd) [(81, v106), (84, .pointer (some ⟨b0, 1, none⟩))] ⟨rfl, rfl, trivial⟩ (fun a w hR hs hf => ⟨wanted_yes hf rfl, ?_⟩)
         refine estep_s (er_storeS1 (i := 1) hs (.k (.k (.c sN))) hf Z Z (IsSl.one (ids_isSl (osl_rsl _ hR.2.1) hR.2.2.1)) sz_67 Z Z) (fun w hs => ?_)
         refine ⟨[], _, [], (fun _ => True), hs.fn, Z, Z, ⟨⟨⟨⟨⟨hs.get (i := 10) Z, trivial⟩, trivial⟩, trivial⟩, trivial⟩, ⟨hs.get (i := 2) Z, hs.get (i := 1) Z, trivial⟩⟩, trivial, hs, (by kernel_rfl), .nil, ?_⟩
         refine RW.zero (by kernel_rfl) (by kernel_rfl) [] trivial (fun a w hR hs hf => ?_)
         refine hK107 _ _ ?_
         refine hN100 _ _ ?_
         refine seq_reg (fun K108 hK108 => ?_)
         refine stq hf Z Z Z (ex_assign hf Z) fun a hf => ?_
         refine hK108 _ _ ?_
         refine wp_ret ?_
         have eR := some_eq H; subst eR
         replace hs := hs.keep (.k (.k (.k (.k (.k (.k (.k (.k (.k (.k (.d .nil)))))))))))
         replace hs := hs.p9.p9.p9.p9.p9.p6.p7.p9.p9.p9
         exact ret1 Try.results11 hf Z ⟨_, Z, ⟨Va, Ga, v106, (Gb.take x86.toNat ++ (b102, b101) :: Gb.drop x86.toNat), Vc, Gc, Z, hs⟩⟩
     ·
      refine itt H (fun hc109 H => ?_) (fun hc109 H => ?_)
      ·
       refine region_k (fun K110 hK110 => ?_)
       refine stq hf Z Z Z (ex_move hf Z) fun a hf => stq hf Z Z Z (ex_move hf Z) fun a hf => stq hf Z Z Z (ex_nilCheck hf Z) fun a hf => stq hf Z Z Z (ex_fieldAddrB fa_71_0 Z hf Z) fun a hf => stq hf Z Z Z (ex_indexAddrAC 2 ia_68 Z hc109 (by decide) Z hf Z Z) fun a hf => stq hf Z Z Z (ex_load sc_67 hf Z (sb_cell1 (i := 2) (hs.get (i := 0) Z) Z Z)) fun a hf => stq hf Z Z Z (ex_assign hf Z) fun a hf => ?_
       refine hK110 _ _ ?_
       refine hN38 _ _ ?_
       refine seq_n (fun Q111 hN111 hR111 hX111 => ?_)
       refine block_k (fun Q112 hN112 hR112 hX112 hY112 => ?_)
       refine bnd H (fun s113 hs113 H => ?_)
       refine seq_reg (fun K114 hK114 => ?_)
       refine stq hf Z Z Z (ex_move hf Z) fun a hf => stq hf Z Z Z (ex_makeFunc hf Z) fun a hf => ?_
       refine stepF hf Z Z Z (ex_call cf_26 hf Z) (slices_ContainsFunc_iospace_mapping_iospace_mapping__Map_1.calls k Ac a2 Vc Gc b1 (hs.enter sN) (Sr.own hs sN (i := 5) Z osl_rsl (fun _ h => h.1) (Sr.own hs sN (i := 6) Z (fun _ h => h) (fun _ h => h) (Sr.own hs sN (i := 10) Z (fun _ h => h) (fun _ h => h) (Sr.nil _ _)))) hs113) (fun v w hR a hf => ?_)
       obtain ⟨rfl, hs'⟩ := hR
       replace hs := hs.step sN hs'
       clear hs'
       refine stq hf Z Z Z (ex_assign hf Z) fun a hf => ?_
       refine hK114 _ _ ?_
       refine itt H (fun hc115 H => ?_) (fun hc115 H => ?_)
       ·
        replace hf := hf.castB (t := 45) Z hc115
        refine cond_T hf Z ?_
        refine seq_reg (fun K116 hK116 => ?_)
        refine stq hf Z Z Z (ex_assign hf Z) fun a hf => ?_
        refine hK116 _ _ ?_
        refine wp_ret ?_
        refine hR112 _ _ ?_
        refine hR111 _ _ ?_
        have eR := some_eq H; subst eR
        replace hs := hs.keep (.k (.k (.k (.k (.k (.k (.k (.k (.k (.k (.d .nil)))))))))))
        exact ret1 Try.results11 hf Z ⟨_, Z, ⟨Va, Ga, Vb, Gb, Vc, Gc, Z, hs⟩⟩
       ·
        replace hf := hf.castB (t := 45) Z (bool_f hc115)
        refine cond_F hf Z ?_
        refine seq_reg (fun K117 hK117 => ?_)
        refine stq hf Z Z Z (ex_move hf Z) fun a hf => stq hf Z Z Z (ex_geq hf Z Z) fun a hf => stq hf Z Z Z (ex_assign hf Z) fun a hf => ?_
        refine hK117 _ _ ?_
        refine itt H (fun hc118 H => ?_) (fun hc118 H => ?_)
        ·
         replace hf := hf.castB (t := 49) Z (dec_t hc118)
         refine cond_T hf Z ?_
         refine seq_reg (fun K119 hK119 => ?_)
         refine stq hf Z Z Z (ex_assign hf Z) fun a hf => ?_
         refine hK119 _ _ ?_
         refine wp_ret ?_
         refine hR112 _ _ ?_
         refine hR111 _ _ ?_
         have eR := some_eq H; subst eR
         replace hs := hs.keep (.k (.k (.k (.k (.k (.k (.k (.k (.k (.k (.d .nil)))))))))))
         exact ret1 Try.results11 hf Z ⟨_, Z, ⟨Va, Ga, Vb, Gb, Vc, Gc, Z, hs⟩⟩
        ·
         replace hf := hf.castB (t := 49) Z (dec_f hc118)
         refine cond_F hf Z ?_
         refine wp_skip ?_
         refine hN112 _ _ ?_
         refine hN111 _ _ ?_
         refine seq_reg (fun K120 hK120 => ?_)
         refine stq hf Z Z Z (ex_assign hf Z) fun a hf => ?_
         refine hK120 _ _ ?_
         refine bnd H (fun x121 H121 HO121 => ?_)
         clear H
         refine seq_cut (fun a w => Fr a 85 [(0, .pointer (some ⟨b0, 0, none⟩)), (1, .int .i64 a1), (3, .int .i64 a3), (6, .pointer (some ⟨b1, 0, none⟩)), (12, Vc), (13, .int .i64 x121)] ∧ St M w0 w [bxs b0 71 [([Va], 1), ([Vb], 1), ([Vc], 1), (List.map Value.bool Ae, 256), ([Vf], 1), ([Vt], 1)], osl Km Va (ids Fm Ga), nds Fm Ga Aa, osl Km Vb (ids Fm Gb), nds Fm Gb Ab, osl Km Vc (ids Fm Gc), nds Fm Gc Ac, osl Kf Vf (ids Ff Gf), nds Ff Gf Af, osl Kt Vt At, bx b1 32 [.int .u64 a2.Base, .int .u64 a2.Len]]) (fun Q121 hJ121 hR121 hX121 => ?_) (fun a w hJ => ?_)
         ·
          replace H := H121
          refine block_k (fun Q122 hN122 hR122 hX122 hY122 => ?_)
          refine loop_k (fun n a w => ∃ (y123 : Int), Fr a 85 [(0, .pointer (some ⟨b0, 0, none⟩)), (1, .int .i64 a1), (3, .int .i64 a3), (6, .pointer (some ⟨b1, 0, none⟩)), (12, Vc), (13, .int .i64 y123)] ∧ St M w0 w [bxs b0 71 [([Va], 1), ([Vb], 1), ([Vc], 1), (List.map Value.bool Ae, 256), ([Vf], 1), ([Vt], 1)], osl Km Va (ids Fm Ga), nds Fm Ga Aa, osl Km Vb (ids Fm Gb), nds Fm Gb Ab, osl Km Vc (ids Fm Gc), nds Fm Gc Ac, osl Kf Vf (ids Ff Gf), nds Ff Gf Af, osl Kt Vt At, bx b1 32 [.int .u64 a2.Base, .int .u64 a2.Len]] ∧ iospace_Bus_Map.l4 n Ac a2 y123 = some x121) k ?_ (fun n125 a w hI Q125 hL125 hR125 hX125 => ?_)
          ·
           exact ⟨0, hf.sub ⟨Z, Z, Z, Z, Z, Z, trivial⟩, hs, H⟩
          ·
           obtain ⟨y123, hf, hs, H⟩ := hI
           cases n125 with
           | zero => exact absurd H (by rw [iospace_Bus_Map.l4.eq_1]; intro h; cases h)
           | succ k125 =>
            replace H := (iospace_Bus_Map.l4.eq_2 ..).symm.trans H
            refine seq_n (fun Q126 hN126 hR126 hX126 => ?_)
            refine bnd H (fun x127 H127 HO127 => ?_)
            clear H
            refine seq_cut (fun a w => Fr a 85 [(0, .pointer (some ⟨b0, 0, none⟩)), (1, .int .i64 a1), (3, .int .i64 a3), (6, .pointer (some ⟨b1, 0, none⟩)), (12, Vc), (13, .int .i64 y123), (68, .bool x127)] ∧ St M w0 w [bxs b0 71 [([Va], 1), ([Vb], 1), ([Vc], 1), (List.map Value.bool Ae, 256), ([Vf], 1), ([Vt], 1)], osl Km Va (ids Fm Ga), nds Fm Ga Aa, osl Km Vb (ids Fm Gb), nds Fm Gb Ab, osl Km Vc (ids Fm Gc), nds Fm Gc Ac, osl Kf Vf (ids Ff Gf), nds Ff Gf Af, osl Kt Vt At, bx b1 32 [.int .u64 a2.Base, .int .u64 a2.Len]]) (fun Q127 hJ127 hR127 hX127 => ?_) (fun a w hJ => ?_)
            ·
             replace H := H127
             refine itt H (fun hc128 H => ?_) (fun hc128 H => ?_)
             ·
              refine ck_some H (fun hc129 H => ?_)
              refine region_dS fol 17 [(0, .pointer (some ⟨b0, 0, none⟩)), (1, .int .i64 a1), (3, .int .i64 a3), (6, .pointer (some ⟨b1, 0, none⟩)), (12, Vc), (13, .int .i64 y123)] [(0, .int .i64 y123), (1, Vc), (2, .int .i64 (Ac.length : Int)), (3, .bool true), (4, .bool true), (5, Vc), (6, .int .i64 y123), (7, .pointer (some (sla Vc (y123.toNat * 1)))), (8, .pointer (some ⟨Fm.blk (gd ((0, 0) : Nat × Nat) Gc y123), 0, none⟩)), (9, .pointer (some ⟨Fm.blk (gd ((0, 0) : Nat × Nat) Gc y123), 0, none⟩)), (10, .pointer (some ⟨Fm.blk (gd ((0, 0) : Nat × Nat) Gc y123), 0, none⟩)), (11, .pointer (some ⟨Fm.blk (gd ((0, 0) : Nat × Nat) Gc y123), 0, none⟩)), (12, .int .u64 ((gd mapping.zero Ac y123).r.Base)), (13, .pointer (some ⟨b1, 0, none⟩)), (14, .int .u64 a2.Base), (15, .bool (decide (((gd mapping.zero Ac y123).r.Base) < a2.Base))), (16, .bool (decide (((gd mapping.zero Ac y123).r.Base) < a2.Base)))] [] (fun w => (osl Km Vc (ids Fm Gc)).ok w ∧ (nds Fm Gc Ac).ok w ∧ (bx b1 32 [.int .u64 a2.Base, .int .u64 a2.Len]).ok w ∧ True) hf ⟨Z, Z, Z, Z, Z, Z, trivial⟩ (by kernel_rfl) (by kernel_rfl) Z (by decide) ⟨hs.drew.get (i := 5) Z, hs.drew.get (i := 6) Z, hs.drew.get (i := 10) Z, trivial⟩ hs ((.cons (qy Z Z Z Z Z fun hR hf => ex_move hf Z) (.cons (qy Z Z Z Z Z fun hR hf => ex_move hf Z) (.cons (qy Z Z Z Z Z fun hR hf => ex_lenS Try.underlying67 (ids_isSl (osl_rsl _ hR.1) hR.2.1) hf Z) (.cons (qy Z Z Z Z Z fun hR hf => ex_castB (ex_lss hf Z Z) (dec_t hc128)) (.cons (qy Z Z Z Z Z fun hR hf => ex_move hf Z) (.cons (qy Z Z Z Z Z fun hR hf => ex_move hf Z) (.cons (qy Z Z Z Z Z fun hR hf => ex_move hf Z) (.cons (qy Z Z Z Z Z fun hR hf => ex_indexAddr sa_67 (ids_isSl (osl_rsl _ hR.1) hR.2.1) hc129.1 hc129.2 hf Z Z) (.cons (qy Z Z Z Z Z fun hR hf => ex_load sc_76 hf Z (ids_cell (F := Fm) (osl_rsl _ hR.1) hR.2.1 ((0, 0) : Nat × Nat) hc129.1 hc129.2)) (.cons (qy Z Z Z Z Z fun hR hf => ex_nilCheck hf Z) (.cons (qy Z Z Z Z Z fun hR hf => ex_fieldAddrB fa_80_0 Z hf Z) (.cons (qy Z Z Z Z Z fun hR hf => ex_fieldAddrB fa_32_0 Z hf Z) (.cons (qy Z Z Z Z Z fun hR hf => ex_load sc_22 hf Z (nd_cell (F := Fm) hR.2.1 ((0, 0) : Nat × Nat) mapping.zero hc129.1 hc129.2 0 Z)) (.cons (qy Z Z Z Z Z fun hR hf => ex_fieldAddrB fa_32_0 Z hf Z) (.cons (qy Z Z Z Z Z fun hR hf => ex_load sc_22 hf Z (bx_cell (hR.2.2.1) _ Z)) (.cons (qy Z Z Z Z Z fun hR hf => ex_lss hf Z Z) (.cons (qy Z Z Z Z Z fun hR hf => ex_pickT hf Z Z) .nil)))))))))))))))))) (fun K130 hK130 => ?_)
              refine RW.zero (by kernel_rfl) (by kernel_rfl) [(0, .pointer (some ⟨b0, 0, none⟩)), (1, .int .i64 a1), (3, .int .i64 a3), (6, .pointer (some ⟨b1, 0, none⟩)), (12, Vc), (13, .int .i64 y123), (68, .bool (decide (((gd mapping.zero Ac y123).r.Base) < a2.Base)))] ⟨Z, Z, Z, Z, Z, Z, Z, trivial⟩ (fun a w hR hs hf => ?_)
              refine hK130 _ _ ?_
              have e127 := some_eq H; subst e127
              exact hJ127 _ _ ⟨hf.sub ⟨Z, Z, Z, Z, Z, Z, Z, trivial⟩, hs⟩
             ·
              refine region_dS fol 17 [(0, .pointer (some ⟨b0, 0, none⟩)), (1, .int .i64 a1), (3, .int .i64 a3), (6, .pointer (some ⟨b1, 0, none⟩)), (12, Vc), (13, .int .i64 y123)] [(0, .int .i64 y123), (1, Vc), (2, .int .i64 (Ac.length : Int)), (3, .bool false), (4, .bool false), (5, undef), (6, undef), (7, undef), (8, undef), (9, undef), (10, undef), (11, undef), (12, undef), (13, undef), (14, undef), (15, undef), (16, .bool false)] [] (fun w => (osl Km Vc (ids Fm Gc)).ok w ∧ (nds Fm Gc Ac).ok w ∧ True) hf ⟨Z, Z, Z, Z, Z, Z, trivial⟩ (by kernel_rfl) (by kernel_rfl) Z (by decide) ⟨hs.drew.get (i := 5) Z, hs.drew.get (i := 6) Z, trivial⟩ hs ((.cons (qy Z Z Z Z Z fun hR hf => ex_move hf Z) (.cons (qy Z Z Z Z Z fun hR hf => ex_move hf Z) (.cons (qy Z Z Z Z Z fun hR hf => ex_lenS Try.underlying67 (ids_isSl (osl_rsl _ hR.1) hR.2.1) hf Z) (.cons (qy Z Z Z Z Z fun hR hf => ex_castB (ex_lss hf Z Z) (dec_f hc128)) (.cons (qy Z Z Z Z Z fun hR hf => ex_move hf Z) (.cons (qn Z Z Z Z Z) (.cons (qn Z Z Z Z Z) (.cons (qn Z Z Z Z Z) (.cons (qn Z Z Z Z Z) (.cons (qn Z Z Z Z Z) (.cons (qn Z Z Z Z Z) (.cons (qn Z Z Z Z Z) (.cons (qn Z Z Z Z Z) (.cons (qn Z Z Z Z Z) (.cons (qn Z Z Z Z Z) (.cons (qn Z Z Z Z Z) (.cons (qy Z Z Z Z Z fun hR hf => ex_pickF hf Z Z) .nil)))))))))))))))))) (fun K131 hK131 => ?_)
              refine RW.zero (by kernel_rfl) (by kernel_rfl) [(0, .pointer (some ⟨b0, 0, none⟩)), (1, .int .i64 a1), (3, .int .i64 a3), (6, .pointer (some ⟨b1, 0, none⟩)), (12, Vc), (13, .int .i64 y123), (68, .bool false)] ⟨Z, Z, Z, Z, Z, Z, Z, trivial⟩ (fun a w hR hs hf => ?_)
              refine hK131 _ _ ?_
              have e127 := some_eq H; subst e127
              exact hJ127 _ _ ⟨hf.sub ⟨Z, Z, Z, Z, Z, Z, Z, trivial⟩, hs⟩
            ·
             obtain ⟨hf, hs⟩ := hJ
             replace H := HO127
             clear HO127
             refine itt H (fun hc132 H => ?_) (fun hc132 H => ?_)
             ·
              replace hf := hf.castB (t := 68) Z hc132
              refine cond_T hf Z ?_
              refine wp_skip ?_
              refine hN126 _ _ ?_
              refine block_k (fun Q133 hN133 hR133 hX133 hY133 => ?_)
              refine region_k (fun K134 hK134 => ?_)
              refine stq hf Z Z Z (ex_move hf Z) fun a hf => stq hf Z Z Z (ex_add hf Z Z) fun a hf => stq hf Z Z Z (ex_assign hf Z) fun a hf => ?_
              refine hK134 _ _ ?_
              refine hN133 _ _ ?_
              exact hL125 k125 _ _ (Nat.lt_succ_self _) ⟨(IntKind.i64.wrap (y123 + 1)), hf.sub ⟨Z, Z, Z, Z, Z, Z, trivial⟩, hs, H⟩
             ·
              replace hf := hf.castB (t := 68) Z (bool_f hc132)
              refine cond_F hf Z ?_
              refine wp_exit ?_
              refine hX126 3 _ _ ?_
              refine hX125 3 _ _ ?_
              refine hX122 _ _ ?_
              have e121 := some_eq H; subst e121
              exact hJ121 _ _ ⟨hf.sub ⟨Z, Z, Z, Z, Z, Z, trivial⟩, hs⟩
         ·
          obtain ⟨hf, hs⟩ := hJ
          replace H := HO121
          clear HO121
          refine seq_n (fun Q135 hN135 hR135 hX135 => ?_)
          refine ck_some H (fun hc139 H => ?_)
          refine ck_some H (fun hc140 H => ?_)
          refine region_dS fol 15 [(0, .pointer (some ⟨b0, 0, none⟩)), (1, .int .i64 a1), (3, .int .i64 a3), (6, .pointer (some ⟨b1, 0, none⟩)), (12, Vc), (13, .int .i64 x121)] [(0, .pointer (some ⟨b0, 0, none⟩)), (1, .int .i64 a1), (2, Vc), (3, .int .i64 x121), (4, .agg #[.int .u64 a2.Base, .int .u64 a2.Len]), (5, .int .i64 a3), (11, .pointer (some ⟨b0, 0, none⟩)), (12, .pointer (some ⟨b0, 0, none⟩))] [6, 8, 9, 10, 14] (fun w => (bx b1 32 [.int .u64 a2.Base, .int .u64 a2.Len]).ok w ∧ True) hf ⟨Z, Z, Z, Z, Z, Z, trivial⟩ (by kernel_rfl) (by kernel_rfl) Z (by decide) ⟨hs.drew.get (i := 10) Z, trivial⟩ hs ((.cons (qy Z Z Z Z Z fun hR hf => ex_move hf Z) (.cons (qy Z Z Z Z Z fun hR hf => ex_move hf Z) (.cons (qy Z Z Z Z Z fun hR hf => ex_move hf Z) (.cons (qy Z Z Z Z Z fun hR hf => ex_move hf Z) (.cons (qy Z Z Z Z Z fun hR hf => ex_loadA (cs := [.int .u64 a2.Base, .int .u64 a2.Len]) ag_32 hf Z (bx_cells (hR.1) Z)) (.cons (qy Z Z Z Z Z fun hR hf => ex_move hf Z) (.cons (qy Z Z Z Z Z fun hR hf => ex_nilCheck hf Z) (.cons (qy Z Z Z Z Z fun hR hf => ex_fieldAddrB fa_71_0 Z hf Z) .nil))))))))) (fun K142 hK142 => ?_)
          refine RW.one 6 (by kernel_rfl) (by kernel_rfl) rfl (fun d hd => by cases hd; rfl) [] trivial (fun a w hR hs hf => ⟨wanted_yes hf rfl, ?_⟩)
          refine estep_v (er_makeMap (kk := .u64) (vk := .u8) hs) (fun v w hR => ?_)
          obtain ⟨b136, rfl, hs⟩ := hR
          refine ⟨[(7, .agg #[.int .u64 a2.Base, .int .u64 a2.Len, .int .i64 a3, .map (some b136)])], _, [8, 9, 10, 14], (fun _ => True), hs.fn, Z, Z, ⟨hs.get (i := 11) Z, trivial⟩, trivial, hs, (by kernel_rfl), (.cons (qy Z Z Z Z Z fun hR hf => ex_build (cs := [.int .u64 a2.Base, .int .u64 a2.Len, .int .i64 a3, .map (some b136)]) bt_80 hf Z (.cons Z (.cons Z (.cons Z .nil))) Z) .nil), ?_⟩
          refine RW.one 8 (by kernel_rfl) (by kernel_rfl) rfl (fun d hd => by cases hd; rfl) [(78, .agg #[.int .u64 a2.Base, .int .u64 a2.Len, .int .i64 a3, .map (some b136)])] ⟨rfl, trivial⟩ (fun a w hR hs hf => ⟨wanted_yes hf rfl, ?_⟩)
          refine estep_v (er_box (cs := [.int .u64 a2.Base, .int .u64 a2.Len, .int .i64 a3, .map (some b136)]) hs hf Z Z) (fun v w hR => ?_)
          obtain ⟨b137, rfl, hs⟩ := hR
          refine ⟨[], _, [9, 10, 14], (fun _ => True), hs.fn, Z, Z, ⟨⟨hs.get (i := 12) Z, trivial⟩, trivial⟩, trivial, hs, (by kernel_rfl), .nil, ?_⟩
          refine RW.one 9 (by kernel_rfl) (by kernel_rfl) rfl (fun d hd => by cases hd; rfl) [(79, .pointer (some ⟨b137, 0, none⟩))] ⟨rfl, trivial⟩ (fun a w hR hs hf => ⟨wanted_yes hf rfl, ?_⟩)
          refine estep_v (er_buildSlice (K := Km) (xs := [(some b137)]) hs Try.underlying67 ep_76 Z Z hf Z (.cons Z .nil) Z Z) (fun v138 w hs => ?_)
          refine ⟨[], _, [10, 14], (fun _ => True), hs.fn, Z, Z, ⟨⟨⟨hs.get (i := 13) Z, trivial⟩, trivial⟩, trivial⟩, trivial, hs, (by kernel_rfl), .nil, ?_⟩
          refine RW.one 10 (by kernel_rfl) (by kernel_rfl) rfl (fun d hd => by cases hd; rfl) [(73, Vc), (74, .int .i64 x121), (80, v138)] ⟨rfl, rfl, rfl, trivial⟩ (fun a w hR hs hf => ⟨wanted_yes hf rfl, ?_⟩)
          replace hs := hs.p8
          refine estep_f (ex_call cf_29 hf Z) (insert_67.calls (ids Fm Gc) x121 [some b137] Vc v138 (hs.enter (.c (.c sN))) (insert_nd (F := Fm) (L := Ac) (g := (b137, b136)) (hs.get (i := 9) Z) Z hc139 hc140)) (fun v w hR => ?_)
          obtain ⟨v141, rfl, hs'⟩ := hR
          replace hs := hs.step (.c (.c sN)) hs'
          clear hs'
          replace hs := hs.p8.p3.p3
          replace hs := St.nins (F := Fm) (G := Gc) (L := Ac) (g := (b137, b136)) (u := (⟨(⟨a2.Base, a2.Len⟩ : Range), a3, []⟩ : mapping)) hc139.1 hc139.2 hs
          refine ⟨[(13, .pointer (some ⟨b0, 2, none⟩))], _, [14], (fun w => (osl Km v141 (ids Fm (Gc.take x121.toNat ++ (b137, b136) :: Gc.drop x121.toNat))).ok w ∧ (nds Fm (Gc.take x121.toNat ++ (b137, b136) :: Gc.drop x121.toNat) (Ac.take x121.toNat ++ (⟨(⟨a2.Base, a2.Len⟩ : Range), a3, []⟩ : mapping) :: Ac.drop x121.toNat)).ok w ∧ True), hs.fn, Z, Z, ⟨⟨⟨⟨hs.get (i := 10) Z, trivial⟩, trivial⟩, trivial⟩, trivial⟩, ⟨hs.get (i := 1) Z, hs.get (i := 0) Z, trivial⟩, hs, (by kernel_rfl), (.cons (qy Z Z Z Z Z fun hR hf => ex_indexAddrAC 2 ia_68 Z hc109 (by decide) Z hf Z Z) .nil), ?_⟩
          refine RW.one 14 (by kernel_rfl) (by kernel_rfl) rfl (fun d hd => by cases hd) [(81, v141), (84, .pointer (some ⟨b0, 2, none⟩))] ⟨rfl, rfl, trivial⟩ (fun a w hR hs hf => ⟨wanted_yes hf rfl, ?_⟩)
          refine estep_s (er_storeS1 (i := 2) hs (.k (.k (.c sN))) hf Z Z (IsSl.one (ids_isSl (osl_rsl _ hR.2.1) hR.2.2.1)) sz_67 Z Z) (fun w hs => ?_)
          refine ⟨[], _, [], (fun _ => True), hs.fn, Z, Z, ⟨⟨⟨⟨⟨hs.get (i := 10) Z, trivial⟩, trivial⟩, trivial⟩, trivial⟩, ⟨hs.get (i := 2) Z, hs.get (i := 1) Z, trivial⟩⟩, trivial, hs, (by kernel_rfl), .nil, ?_⟩
          refine RW.zero (by kernel_rfl) (by kernel_rfl) [] trivial (fun a w hR hs hf => ?_)
          refine hK142 _ _ ?_
          refine hN135 _ _ ?_
          refine seq_reg (fun K143 hK143 => ?_)
          refine stq hf Z Z Z (ex_assign hf Z) fun a hf => ?_
          refine hK143 _ _ ?_
          refine wp_ret ?_
          have eR := some_eq H; subst eR
          replace hs := hs.keep (.k (.k (.k (.k (.k (.k (.k (.k (.k (.k (.d .nil)))))))))))
          replace hs := hs.p9.p9.p9.p4.p5.p9.p9.p9.p9.p9
          exact ret1 Try.results11 hf Z ⟨_, Z, ⟨Va, Ga, Vb, Gb, v141, (Gc.take x121.toNat ++ (b137, b136) :: Gc.drop x121.toNat), Z, hs⟩⟩
      ·
       cases H

set_option maxRecDepth 100000 in
theorem iospace_mask.calls {M : Nat → Prop} {w0 : World} (k : Nat) (a0 : Int) {r : Int} (hs : St M w0 w0 []) (hr : Sr M w0 [])
  (h : iospace_mask.f k a0 = some r) : Calls Try.prog 31 #[.int .i64 a0] w0 fun e w => ∃ v, e = .returned v ∧ (.int .u64 r = v ∧ St M w0 w []) := by
 have H := (iospace_mask.f.eq_1 ..).symm.trans h
 clear h
 refine enter Try.func31 Z Try.ntmps31 Z (fun a hf => ?_)
 refine seq_reg (fun K1 hK1 => ?_)
 refine stq hf Z Z Z (ex_assign hf Z) fun a hf => ?_
 refine hK1 _ _ ?_
 refine ck_some H (fun hc2 H => ?_)
 refine seq_reg (fun K3 hK3 => ?_)
 refine stq hf Z Z Z (ex_move hf Z) fun a hf => stq hf Z Z Z (ex_mul hf Z Z) fun a hf => stq hf Z Z Z (ex_sub hf Z Z) fun a hf => stq hf Z Z Z (ex_shr hf Z Z hc2) fun a hf => stq hf Z Z Z (ex_assign hf Z) fun a hf => ?_
 refine hK3 _ _ ?_
 refine wp_ret ?_
 have eR := some_eq H; subst eR
 exact ret1 Try.results31 hf Z ⟨_, Z, ⟨Z, hs⟩⟩

end Go.Proofs.Ytigadacjaglfeaa.X
