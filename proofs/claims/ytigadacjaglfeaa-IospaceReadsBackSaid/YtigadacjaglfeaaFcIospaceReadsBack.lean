/- Each function of the machine comes to what its pure function says. -/
import Derived.Test.YtigadacjaglfeaaFc1
import Derived.Test.YtigadacjaglfeaaFc3
import Derived.Test.YtigadacjaglfeaaFc4
import Derived.Test.YtigadacjaglfeaaFc5
import Derived.Test.YtigadacjaglfeaaFcawake
import Derived.Test.YtigadacjaglfeaaFb
namespace Go.Proofs.Ytigadacjaglfeaa.X
open Go Go.RowKit Go.Sx
set_option linter.unusedVariables false

set_option maxRecDepth 100000 in
theorem law09_IospaceReadsBack.calls {M : Nat → Prop} {w0 : World} (k : Nat) (a0 : Int) (a1 : Int) (a2 : Int) (a3 : Int) (a4 : Int) (a5 : (List Int)) (v5 : Value) {r : Bool} (hs : St M w0 w0 []) (hr : Sr M w0 [rsl K_uint8 v5 a5])
    (h : law09_IospaceReadsBack.f k a0 a1 a2 a3 a4 a5 = some r) : Calls Try.prog 3 #[.int .i64 a0, .int .i64 a1, .int .u64 a2, .int .u8 a3, .int .u64 a4, v5] w0 fun e w => ∃ v, e = .returned v ∧ (.bool r = v ∧ St M w0 w []) := by
  have H := (law09_IospaceReadsBack.f.eq_1 ..).symm.trans h
  clear h
  refine enter Try.func3 rfl Try.ntmps3 rfl (fun a hf => ?_)
  refine seq_reg (fun K1 hK1 => ?_)
  refine stq hf rfl rfl rfl (ex_assign hf rfl) (fun a hf => ?_)
  refine hK1 _ _ ?_
  refine bnd H (fun s2 hs2 H => ?_)
  refine seq_reg (fun K13 hK13 => ?_)
  refine stepF hf rfl rfl rfl (ex_call cf_8 hf rfl) (iospace_New.calls k (hs.enter .nil) (Sr.nil _ _) hs2) (fun v w hR a hf => ?_)
  obtain ⟨b3, v4, b5, v6, b7, v8, b9, v10, b11, v12, rfl, hs'⟩ := hR
  replace hs := hs.step .nil hs'
  clear hs'
  refine stq hf rfl rfl rfl (ex_assign hf rfl) (fun a hf => ?_)
  refine hK13 _ _ ?_
  refine seq_n (fun Q14 hN14 hR14 hX14 => ?_)
  refine bnd H (fun s15 hs15 H => ?_)
  refine seq_reg (fun K16 hK16 => ?_)
  refine stepF hf rfl rfl rfl (ex_call cf_9 hf rfl) (law09_awake.calls k (hs.enter (.k (.k (.k (.k (.k (.k (.k (.k (.k (.k .nil))))))))))) (Sr.nil _ _) hs15) (fun v w hR a hf => ?_)
  obtain ⟨rfl, hs'⟩ := hR
  replace hs := hs.step (.k (.k (.k (.k (.k (.k (.k (.k (.k (.k .nil)))))))))) hs'
  clear hs'
  refine stq hf rfl rfl rfl (ex_not hf rfl) (fun a hf => ?_)
  refine hK16 _ _ ?_
  refine itt H (fun hc17 H => ?_) (fun hc17 H => ?_)
  · -- s15 = true
    replace hf := hf.castB (t := 23) rfl hc17
    replace hf := hf.castB (t := 24) rfl (nbool_f hc17)
    refine cond_F hf rfl ?_
    refine wp_skip ?_
    refine hN14 _ _ ?_
    refine ck_some H (fun hc19 H => ?_)
    refine seq_reg (fun K20 hK20 => ?_)
    refine stepV hf rfl rfl rfl (er_buildSlice (K := K_int) (xs := ([1, 2, 4, 8] : List Int)) hs Try.underlying27 ep_3 rfl rfl hf rfl (.cons rfl (.cons rfl (.cons rfl (.cons rfl .nil)))) rfl rfl) (fun v18 w hs a hf => ?_)
    refine stq hf rfl rfl rfl (ex_move hf rfl) (fun a hf => ?_)
    refine stq hf rfl rfl rfl (ex_rem hf rfl rfl (by decide)) (fun a hf => ?_)
    refine stq hf rfl rfl rfl (ex_indexAddr sa_27 (rsl_isSl (osl_rsl _ (hs.get (i := 0) rfl))) hc19.1 hc19.2 hf rfl rfl) (fun a hf => ?_)
    refine stq hf rfl rfl rfl (ex_load sc_3 hf rfl (el_cell (K := K_int) (f := 0) (rsl_rd (osl_rsl _ (hs.get (i := 0) rfl))) hc19.1 hc19.2 rfl)) (fun a hf => ?_)
    refine stq hf rfl rfl rfl (ex_assign hf rfl) (fun a hf => ?_)
    refine hK20 _ _ ?_
    refine bnd H (fun s21 hs21 H => ?_)
    refine bnd H (fun s22 hs22 H => ?_)
    refine seq_reg (fun K23 hK23 => ?_)
    refine stq hf rfl rfl rfl (ex_move hf rfl) (fun a hf => ?_)
    refine stepF hf rfl rfl rfl (ex_call cf_10 hf rfl) (help_Mod.calls k a0 3 (hs.enter (.k (.k (.k (.k (.k (.k (.k (.k (.k (.k (.k .nil)))))))))))) (Sr.nil _ _) hs21) (fun v w hR a hf => ?_)
    obtain ⟨rfl, hs'⟩ := hR
    replace hs := hs.step (.k (.k (.k (.k (.k (.k (.k (.k (.k (.k (.k .nil))))))))))) hs'
    clear hs'
    refine stq hf rfl rfl rfl (ex_move hf rfl) (fun a hf => ?_)
    refine stepF hf rfl rfl rfl (ex_call cf_10 hf rfl) (help_Mod.calls k a1 256 (hs.enter (.k (.k (.k (.k (.k (.k (.k (.k (.k (.k (.k .nil)))))))))))) (Sr.nil _ _) hs22) (fun v w hR a hf => ?_)
    obtain ⟨rfl, hs'⟩ := hR
    replace hs := hs.step (.k (.k (.k (.k (.k (.k (.k (.k (.k (.k (.k .nil))))))))))) hs'
    clear hs'
    refine stq hf rfl rfl rfl (ex_assign hf rfl) (fun a hf => ?_)
    refine stq hf rfl rfl rfl (ex_assign hf rfl) (fun a hf => ?_)
    refine hK23 _ _ ?_
    refine seq_reg (fun K24 hK24 => ?_)
    refine stq hf rfl rfl rfl (ex_move hf rfl) (fun a hf => ?_)
    refine stq hf rfl rfl rfl (ex_bits rfl hf rfl rfl) (fun a hf => ?_)
    refine stq hf rfl rfl rfl (ex_assign hf rfl) (fun a hf => ?_)
    refine hK24 _ _ ?_
    refine bnd H (fun x25 H25 HO25 => ?_)
    clear H
    refine seq_cut (fun a w => Fr a 118 [(0, .int .i64 s21), (1, .int .i64 s22), (2, .int .u64 x25), (4, .int .u64 a4), (5, v5), (13, .pointer (some ⟨b3, 0, none⟩)), (14, .int .i64 (gd 0 ([1, 2, 4, 8] : List Int) (Int.tmod a3 4)))] ∧ St M w0 w [bxs b3 71 [([v4], 1), ([v6], 1), ([v8], 1), (List.map Value.bool s2.2.2.2.1, 256), ([v10], 1), ([v12], 1)], osl K_ptr_mapping v4 (ids F_mapping b5), nds F_mapping b5 s2.1, osl K_ptr_mapping v6 (ids F_mapping b7), nds F_mapping b7 s2.2.1, osl K_ptr_mapping v8 (ids F_mapping b9), nds F_mapping b9 s2.2.2.1, osl K_ptr_fault v10 (ids F_fault b11), nds F_fault b11 s2.2.2.2.2.1, osl K_api_Traced v12 s2.2.2.2.2.2]) (fun Q25 hJ25 hR25 hX25 => ?_) (fun a w hJ => ?_)
    · replace H := H25
      refine seq_reg (fun K26 hK26 => ?_)
      refine stq hf rfl rfl rfl (ex_move hf rfl) (fun a hf => ?_)
      refine stq hf rfl rfl rfl (ex_gtr hf rfl rfl) (fun a hf => ?_)
      refine hK26 _ _ ?_
      refine itt H (fun hc27 H => ?_) (fun hc27 H => ?_)
      · -- 18446744073709551552 < (bitw .andNot .u64 a2 63)
        replace hf := hf.castB (t := 37) rfl (dec_t hc27)
        refine cond_T hf rfl ?_
        refine region_k (fun K28 hK28 => ?_)
        refine stq hf rfl rfl rfl (ex_assign hf rfl) (fun a hf => ?_)
        refine hK28 _ _ ?_
        replace hs := hs.keep (.d (.k (.k (.k (.k (.k (.k (.k (.k (.k (.k .nil)))))))))))
        have e25 := some_eq H; subst e25
        exact hJ25 _ _ ⟨hf.sub ⟨rfl, rfl, rfl, rfl, rfl, rfl, rfl, trivial⟩, hs⟩
      · -- not 18446744073709551552 < (bitw .andNot .u64 a2 63)
        replace hf := hf.castB (t := 37) rfl (dec_f hc27)
        refine cond_F hf rfl ?_
        refine wp_skip ?_
        replace hs := hs.keep (.d (.k (.k (.k (.k (.k (.k (.k (.k (.k (.k .nil)))))))))))
        have e25 := some_eq H; subst e25
        exact hJ25 _ _ ⟨hf.sub ⟨rfl, rfl, rfl, rfl, rfl, rfl, rfl, trivial⟩, hs⟩
    · obtain ⟨hf, hs⟩ := hJ
      replace H := HO25
      clear HO25
      refine seq_reg (fun K29 hK29 => ?_)
      refine stq hf rfl rfl rfl (ex_move hf rfl) (fun a hf => ?_)
      refine stq hf rfl rfl rfl (ex_add hf rfl rfl) (fun a hf => ?_)
      refine stq hf rfl rfl rfl (ex_assign hf rfl) (fun a hf => ?_)
      refine hK29 _ _ ?_
      refine seq_n (fun Q30 hN30 hR30 hX30 => ?_)
      refine bnd H (fun x31 H31 HO31 => ?_)
      clear H
      refine seq_cut (fun a w => ∃ (v32 : Value) (G33 : List (Nat × Nat)) (v34 : Value) (G35 : List (Nat × Nat)) (v36 : Value) (G37 : List (Nat × Nat)), Fr a 118 [(0, .int .i64 s21), (2, .int .u64 x25), (4, .int .u64 a4), (5, v5), (13, .pointer (some ⟨b3, 0, none⟩)), (14, .int .i64 (gd 0 ([1, 2, 4, 8] : List Int) (Int.tmod a3 4))), (15, .int .u64 (IntKind.u64.wrap (x25 + 16))), (52, .bool x31.2.2.2.2)] ∧ St M w0 w [bxs b3 71 [([v32], 1), ([v34], 1), ([v36], 1), (List.map Value.bool x31.2.2.2.1, 256), ([v10], 1), ([v12], 1)], osl K_ptr_mapping v32 (ids F_mapping G33), nds F_mapping G33 x31.1, osl K_ptr_mapping v34 (ids F_mapping G35), nds F_mapping G35 x31.2.1, osl K_ptr_mapping v36 (ids F_mapping G37), nds F_mapping G37 x31.2.2.1, osl K_ptr_fault v10 (ids F_fault b11), nds F_fault b11 s2.2.2.2.2.1, osl K_api_Traced v12 s2.2.2.2.2.2]) (fun Q31 hJ31 hR31 hX31 => ?_) (fun a w hJ => ?_)
      · replace H := H31
        refine bnd H (fun s38 hs38 H => ?_)
        refine itt H (fun hc45 H => ?_) (fun hc45 H => ?_)
        · -- s38.2.2.2 = 0
          refine bnd H (fun s46 hs46 H => ?_)
          refine region_k (fun K47 hK47 => ?_)
          refine stq hf rfl rfl rfl (ex_move hf rfl) (fun a hf => ?_)
          refine stq hf rfl rfl rfl (ex_move hf rfl) (fun a hf => ?_)
          refine stq hf rfl rfl rfl (ex_move hf rfl) (fun a hf => ?_)
          refine stq hf rfl rfl rfl (ex_build (cs := [.int .u64 x25, .int .u64 64]) bt_32 hf rfl (.cons rfl (.cons rfl .nil)) rfl) (fun a hf => ?_)
          refine stq hf rfl rfl rfl (ex_move hf rfl) (fun a hf => ?_)
          refine stepF hf rfl rfl rfl (ex_call cf_11 hf rfl) (iospace_Bus_Map.calls k s2.1 s2.2.1 s2.2.2.1 s2.2.2.2.1 s2.2.2.2.2.1 s2.2.2.2.2.2 s21 (⟨x25, 64⟩ : Range) s22 b3 v4 b5 v6 b7 v8 b9 v10 b11 v12 (hs.enter (.c (.c (.c (.c (.c (.c (.c (.c (.c (.c .nil))))))))))) (Sr.nil _ _) hs38) (fun v w hR a hf => ?_)
          obtain ⟨v39, b40, v41, b42, v43, b44, rfl, hs'⟩ := hR
          replace hs := hs.step (.c (.c (.c (.c (.c (.c (.c (.c (.c (.c .nil)))))))))) hs'
          clear hs'
          refine stq hf rfl rfl rfl (ex_neq hf rfl rfl) (fun a hf => ?_)
          refine stq hf rfl rfl rfl (ex_move hf rfl) (fun a hf => ?_)
          replace hf := hf.castB (t := 46) rfl (ndec_f hc45)
          replace hf := hf.castB (t := 47) rfl (ndec_f hc45)
          refine stq hf rfl rfl rfl (ex_move hf rfl) (fun a hf => ?_)
          refine stq hf rfl rfl rfl (ex_move hf rfl) (fun a hf => ?_)
          refine stepF hf rfl rfl rfl (ex_call cf_12 hf rfl) (iospace_Bus_Enable.calls k s38.1 s38.2.1 s38.2.2.1 s2.2.2.2.1 s2.2.2.2.2.1 s2.2.2.2.2.2 s22 true b3 v39 b40 v41 b42 v43 b44 v10 b11 v12 (hs.enter (.c (.c (.c (.c (.c (.c (.c (.c (.c (.c .nil))))))))))) (Sr.nil _ _) hs46) (fun v w hR a hf => ?_)
          obtain ⟨rfl, hs'⟩ := hR
          replace hs := hs.step (.c (.c (.c (.c (.c (.c (.c (.c (.c (.c .nil)))))))))) hs'
          clear hs'
          refine stq hf rfl rfl rfl (ex_neq hf rfl rfl) (fun a hf => ?_)
          refine stq hf rfl rfl rfl (ex_pickF hf rfl rfl) (fun a hf => ?_)
          refine hK47 _ _ ?_
          have e31 := some_eq H; subst e31
          exact hJ31 _ _ ⟨v39, b40, v41, b42, v43, b44, hf.sub ⟨rfl, rfl, rfl, rfl, rfl, rfl, rfl, rfl, trivial⟩, hs⟩
        · -- not s38.2.2.2 = 0
          refine region_k (fun K48 hK48 => ?_)
          refine stq hf rfl rfl rfl (ex_move hf rfl) (fun a hf => ?_)
          refine stq hf rfl rfl rfl (ex_move hf rfl) (fun a hf => ?_)
          refine stq hf rfl rfl rfl (ex_move hf rfl) (fun a hf => ?_)
          refine stq hf rfl rfl rfl (ex_build (cs := [.int .u64 x25, .int .u64 64]) bt_32 hf rfl (.cons rfl (.cons rfl .nil)) rfl) (fun a hf => ?_)
          refine stq hf rfl rfl rfl (ex_move hf rfl) (fun a hf => ?_)
          refine stepF hf rfl rfl rfl (ex_call cf_11 hf rfl) (iospace_Bus_Map.calls k s2.1 s2.2.1 s2.2.2.1 s2.2.2.2.1 s2.2.2.2.2.1 s2.2.2.2.2.2 s21 (⟨x25, 64⟩ : Range) s22 b3 v4 b5 v6 b7 v8 b9 v10 b11 v12 (hs.enter (.c (.c (.c (.c (.c (.c (.c (.c (.c (.c .nil))))))))))) (Sr.nil _ _) hs38) (fun v w hR a hf => ?_)
          obtain ⟨v39, b40, v41, b42, v43, b44, rfl, hs'⟩ := hR
          replace hs := hs.step (.c (.c (.c (.c (.c (.c (.c (.c (.c (.c .nil)))))))))) hs'
          clear hs'
          refine stq hf rfl rfl rfl (ex_neq hf rfl rfl) (fun a hf => ?_)
          refine stq hf rfl rfl rfl (ex_move hf rfl) (fun a hf => ?_)
          replace hf := hf.castB (t := 46) rfl (ndec_t hc45)
          replace hf := hf.castB (t := 47) rfl (ndec_t hc45)
          refine stepN hf rfl rfl rfl (fun a hf => ?_)
          refine stepN hf rfl rfl rfl (fun a hf => ?_)
          refine stepN hf rfl rfl rfl (fun a hf => ?_)
          refine stepN hf rfl rfl rfl (fun a hf => ?_)
          refine stq hf rfl rfl rfl (ex_pickT hf rfl rfl) (fun a hf => ?_)
          refine hK48 _ _ ?_
          have e31 := some_eq H; subst e31
          exact hJ31 _ _ ⟨v39, b40, v41, b42, v43, b44, hf.sub ⟨rfl, rfl, rfl, rfl, rfl, rfl, rfl, rfl, trivial⟩, hs⟩
      · obtain ⟨v32, G33, v34, G35, v36, G37, hf, hs⟩ := hJ
        replace H := HO31
        clear HO31
        refine itt H (fun hc49 H => ?_) (fun hc49 H => ?_)
        · -- x31.2.2.2.2 = true
          replace hf := hf.castB (t := 52) rfl hc49
          refine cond_T hf rfl ?_
          refine seq_reg (fun K50 hK50 => ?_)
          refine stq hf rfl rfl rfl (ex_assign hf rfl) (fun a hf => ?_)
          refine hK50 _ _ ?_
          refine wp_ret ?_
          refine hR30 _ _ ?_
          have eR := some_eq H; subst eR
          replace hs := hs.keep (.d (.d (.d (.d (.d (.d (.d (.d (.d (.d .nil))))))))))
          exact ret1 Try.results3 hf rfl ⟨_, rfl, ⟨rfl, hs⟩⟩
        · -- not x31.2.2.2.2 = true
          replace hf := hf.castB (t := 52) rfl (bool_f hc49)
          refine cond_F hf rfl ?_
          refine wp_skip ?_
          refine hN30 _ _ ?_
          refine seq_n (fun Q51 hN51 hR51 hX51 => ?_)
          refine bnd H (fun s52 hs52 H => ?_)
          refine seq_reg (fun K56 hK56 => ?_)
          refine stq hf rfl rfl rfl (ex_move hf rfl) (fun a hf => ?_)
          refine stq hf rfl rfl rfl (ex_move hf rfl) (fun a hf => ?_)
          refine stq hf rfl rfl rfl (ex_move hf rfl) (fun a hf => ?_)
          refine stq hf rfl rfl rfl (ex_move hf rfl) (fun a hf => ?_)
          refine stq hf rfl rfl rfl (ex_move hf rfl) (fun a hf => ?_)
          refine stq hf rfl rfl rfl (ex_build (cs := [.int .i64 s21, .int .u64 (IntKind.u64.wrap (x25 + 16)), .int .i64 (gd 0 ([1, 2, 4, 8] : List Int) (Int.tmod a3 4)), .bool true, .int .u64 a4]) bt_37 hf rfl (.cons rfl (.cons rfl (.cons rfl (.cons rfl (.cons rfl .nil))))) rfl) (fun a hf => ?_)
          refine stepF hf rfl rfl rfl (ex_call cf_13 hf rfl) (iospace_Bus_Access.calls k x31.1 x31.2.1 x31.2.2.1 x31.2.2.2.1 s2.2.2.2.2.1 s2.2.2.2.2.2 (⟨s21, (IntKind.u64.wrap (x25 + 16)), (gd 0 ([1, 2, 4, 8] : List Int) (Int.tmod a3 4)), true, a4⟩ : Access) b3 v32 G33 v34 G35 v36 G37 v10 b11 v12 (hs.enter (.c (.c (.c (.c (.c (.c (.c (.c (.c (.c .nil))))))))))) (Sr.nil _ _) hs52) (fun v w hR a hf => ?_)
          obtain ⟨v53, b54, v55, rfl, hs'⟩ := hR
          replace hs := hs.step (.c (.c (.c (.c (.c (.c (.c (.c (.c (.c .nil)))))))))) hs'
          clear hs'
          refine stq hf rfl rfl rfl (ex_move hf rfl) (fun a hf => ?_)
          refine stq hf rfl rfl rfl (ex_extract hf rfl rfl) (fun a hf => ?_)
          refine stq hf rfl rfl rfl (ex_extract hf rfl rfl) (fun a hf => ?_)
          refine stq hf rfl rfl rfl (ex_assign hf rfl) (fun a hf => ?_)
          refine stq hf rfl rfl rfl (ex_assign hf rfl) (fun a hf => ?_)
          refine hK56 _ _ ?_
          refine seq_reg (fun K57 hK57 => ?_)
          refine stq hf rfl rfl rfl (ex_move hf rfl) (fun a hf => ?_)
          refine stq hf rfl rfl rfl (ex_neq hf rfl rfl) (fun a hf => ?_)
          refine hK57 _ _ ?_
          refine itt H (fun hc58 H => ?_) (fun hc58 H => ?_)
          · -- s52.2.2.2.2.2.2 = 0
            replace hf := hf.castB (t := 64) rfl (ndec_f hc58)
            refine cond_F hf rfl ?_
            refine wp_skip ?_
            refine hN51 _ _ ?_
            refine bnd H (fun x59 H59 HO59 => ?_)
            clear H
            refine seq_cut (fun a w => ∃ (v60 : Value) (G61 : List Nat) (v62 : Value), Fr a 118 [(0, .int .i64 s21), (4, .int .u64 a4), (13, .pointer (some ⟨b3, 0, none⟩)), (14, .int .i64 (gd 0 ([1, 2, 4, 8] : List Int) (Int.tmod a3 4))), (15, .int .u64 (IntKind.u64.wrap (x25 + 16)))] ∧ St M w0 w [bxs b3 71 [([v32], 1), ([v34], 1), ([v36], 1), (List.map Value.bool x31.2.2.2.1, 256), ([v60], 1), ([v62], 1)], osl K_ptr_mapping v32 (ids F_mapping G33), nds F_mapping G33 x59.1, osl K_ptr_mapping v34 (ids F_mapping G35), nds F_mapping G35 x59.2.1, osl K_ptr_mapping v36 (ids F_mapping G37), nds F_mapping G37 x59.2.2.1, osl K_ptr_fault v60 (ids F_fault G61), nds F_fault G61 x59.2.2.2.1, osl K_api_Traced v62 x59.2.2.2.2]) (fun Q59 hJ59 hR59 hX59 => ?_) (fun a w hJ => ?_)
            · replace H := H59
              refine seq_reg (fun K63 hK63 => ?_)
              refine stq hf rfl rfl rfl (ex_assign hf rfl) (fun a hf => ?_)
              refine hK63 _ _ ?_
              refine block_k (fun Q64 hN64 hR64 hX64 hY64 => ?_)
              refine loop_k (fun n a w => ∃ (y68 : (List mapping)) (y69 : (List mapping)) (y70 : (List mapping)) (y71 : (List fault)) (y72 : (List Traced)) (y73 : Int) (v65 : Value) (G66 : List Nat) (v67 : Value), Fr a 118 [(0, .int .i64 s21), (2, .int .u64 x25), (4, .int .u64 a4), (5, v5), (13, .pointer (some ⟨b3, 0, none⟩)), (14, .int .i64 (gd 0 ([1, 2, 4, 8] : List Int) (Int.tmod a3 4))), (15, .int .u64 (IntKind.u64.wrap (x25 + 16))), (18, .int .i64 y73)] ∧ St M w0 w [bxs b3 71 [([v32], 1), ([v34], 1), ([v36], 1), (List.map Value.bool x31.2.2.2.1, 256), ([v65], 1), ([v67], 1)], osl K_ptr_mapping v32 (ids F_mapping G33), nds F_mapping G33 y68, osl K_ptr_mapping v34 (ids F_mapping G35), nds F_mapping G35 y69, osl K_ptr_mapping v36 (ids F_mapping G37), nds F_mapping G37 y70, osl K_ptr_fault v65 (ids F_fault G66), nds F_fault G66 y71, osl K_api_Traced v67 y72] ∧ law09_IospaceReadsBack.l1 n a5 x31 s21 x25 y68 y69 y70 y71 y72 y73 = some x59) k ?_ (fun n75 a w hI Q75 hL75 hR75 hX75 => ?_)
              · -- at the start
                replace hs := hs.pick (.k (.k (.k (.c (.k (.k (.k (.k (.k (.k .nil))))))))))
                replace hs := hs.pick (.k (.k (.k (.c (.k (.k (.k (.k (.k (.k .nil))))))))))
                replace hs := hs.pick (.k (.k (.k (.c (.k (.k (.k (.k (.k (.k .nil))))))))))
                replace hs := hs.pick (.k (.k (.k (.k (.k (.k (.k (.k (.k (.c .nil))))))))))
                replace hs := hs.pick (.k (.k (.k (.k (.k (.k (.k (.k (.k (.c .nil))))))))))
                replace hs := hs.pick (.k (.k (.k (.k (.k (.k (.k (.k (.k (.c .nil))))))))))
                replace hs := hs.pick (.k (.k (.k (.k (.k (.k (.k (.k (.k (.c .nil))))))))))
                replace hs := hs.pick (.k (.k (.k (.k (.k (.k (.k (.k (.k (.c .nil))))))))))
                replace hs := hs.pick (.k (.k (.k (.k (.k (.k (.k (.k (.k (.c .nil))))))))))
                replace hs := hs.pick (.k (.k (.k (.k (.k (.k (.k (.k (.k (.c .nil))))))))))
                exact ⟨s52.2.2.1, s52.2.2.2.1, s52.2.2.2.2.1, s52.1, s52.2.1, 0, v53, b54, v55, hf.sub ⟨rfl, rfl, rfl, rfl, rfl, rfl, rfl, rfl, trivial⟩, hs, H⟩
              · obtain ⟨y68, y69, y70, y71, y72, y73, v65, G66, v67, hf, hs, H⟩ := hI
                cases n75 with
                | zero => exact absurd H (by rw [law09_IospaceReadsBack.l1.eq_1]; intro h; cases h)
                | succ k75 =>
                  replace H := (law09_IospaceReadsBack.l1.eq_2 ..).symm.trans H
                  refine seq_n (fun Q76 hN76 hR76 hX76 => ?_)
                  refine bnd H (fun x77 H77 HO77 => ?_)
                  clear H
                  refine seq_cut (fun a w => Fr a 118 [(0, .int .i64 s21), (2, .int .u64 x25), (4, .int .u64 a4), (5, v5), (13, .pointer (some ⟨b3, 0, none⟩)), (14, .int .i64 (gd 0 ([1, 2, 4, 8] : List Int) (Int.tmod a3 4))), (15, .int .u64 (IntKind.u64.wrap (x25 + 16))), (18, .int .i64 y73), (72, .bool x77)] ∧ St M w0 w [bxs b3 71 [([v32], 1), ([v34], 1), ([v36], 1), (List.map Value.bool x31.2.2.2.1, 256), ([v65], 1), ([v67], 1)], osl K_ptr_mapping v32 (ids F_mapping G33), nds F_mapping G33 y68, osl K_ptr_mapping v34 (ids F_mapping G35), nds F_mapping G35 y69, osl K_ptr_mapping v36 (ids F_mapping G37), nds F_mapping G37 y70, osl K_ptr_fault v65 (ids F_fault G66), nds F_fault G66 y71, osl K_api_Traced v67 y72]) (fun Q77 hJ77 hR77 hX77 => ?_) (fun a w hJ => ?_)
                  · replace H := H77
                    refine itt H (fun hc78 H => ?_) (fun hc78 H => ?_)
                    · -- y73 < (a5.length : Int)
                      refine region_k (fun K79 hK79 => ?_)
                      refine stq hf rfl rfl rfl (ex_move hf rfl) (fun a hf => ?_)
                      refine stq hf rfl rfl rfl (ex_move hf rfl) (fun a hf => ?_)
                      refine stq hf rfl rfl rfl (ex_lenS Try.underlying23 (rsl_isSl (hr.now hs (i := 0) rfl)) hf rfl) (fun a hf => ?_)
                      refine stq hf rfl rfl rfl (ex_lss hf rfl rfl) (fun a hf => ?_)
                      refine stq hf rfl rfl rfl (ex_move hf rfl) (fun a hf => ?_)
                      replace hf := hf.castB (t := 68) rfl (dec_t hc78)
                      replace hf := hf.castB (t := 69) rfl (dec_t hc78)
                      refine stq hf rfl rfl rfl (ex_move hf rfl) (fun a hf => ?_)
                      refine stq hf rfl rfl rfl (ex_lss hf rfl rfl) (fun a hf => ?_)
                      refine stq hf rfl rfl rfl (ex_pickT hf rfl rfl) (fun a hf => ?_)
                      refine hK79 _ _ ?_
                      have e77 := some_eq H; subst e77
                      exact hJ77 _ _ ⟨hf.sub ⟨rfl, rfl, rfl, rfl, rfl, rfl, rfl, rfl, rfl, trivial⟩, hs⟩
                    · -- not y73 < (a5.length : Int)
                      refine region_k (fun K80 hK80 => ?_)
                      refine stq hf rfl rfl rfl (ex_move hf rfl) (fun a hf => ?_)
                      refine stq hf rfl rfl rfl (ex_move hf rfl) (fun a hf => ?_)
                      refine stq hf rfl rfl rfl (ex_lenS Try.underlying23 (rsl_isSl (hr.now hs (i := 0) rfl)) hf rfl) (fun a hf => ?_)
                      refine stq hf rfl rfl rfl (ex_lss hf rfl rfl) (fun a hf => ?_)
                      refine stq hf rfl rfl rfl (ex_move hf rfl) (fun a hf => ?_)
                      replace hf := hf.castB (t := 68) rfl (dec_f hc78)
                      replace hf := hf.castB (t := 69) rfl (dec_f hc78)
                      refine stepN hf rfl rfl rfl (fun a hf => ?_)
                      refine stepN hf rfl rfl rfl (fun a hf => ?_)
                      refine stq hf rfl rfl rfl (ex_pickF hf rfl rfl) (fun a hf => ?_)
                      refine hK80 _ _ ?_
                      have e77 := some_eq H; subst e77
                      exact hJ77 _ _ ⟨hf.sub ⟨rfl, rfl, rfl, rfl, rfl, rfl, rfl, rfl, rfl, trivial⟩, hs⟩
                  · obtain ⟨hf, hs⟩ := hJ
                    replace H := HO77
                    clear HO77
                    refine itt H (fun hc81 H => ?_) (fun hc81 H => ?_)
                    · -- x77 = true
                      replace hf := hf.castB (t := 72) rfl hc81
                      refine cond_T hf rfl ?_
                      refine wp_skip ?_
                      refine hN76 _ _ ?_
                      refine bnd H (fun x82 H82 HO82 => ?_)
                      clear H
                      refine seq_cut (fun a w => ∃ (v83 : Value) (G84 : List Nat) (v85 : Value), Fr a 118 [(0, .int .i64 s21), (2, .int .u64 x25), (4, .int .u64 a4), (5, v5), (13, .pointer (some ⟨b3, 0, none⟩)), (14, .int .i64 (gd 0 ([1, 2, 4, 8] : List Int) (Int.tmod a3 4))), (15, .int .u64 (IntKind.u64.wrap (x25 + 16))), (18, .int .i64 y73)] ∧ St M w0 w [bxs b3 71 [([v32], 1), ([v34], 1), ([v36], 1), (List.map Value.bool x31.2.2.2.1, 256), ([v83], 1), ([v85], 1)], osl K_ptr_mapping v32 (ids F_mapping G33), nds F_mapping G33 x82.1, osl K_ptr_mapping v34 (ids F_mapping G35), nds F_mapping G35 x82.2.1, osl K_ptr_mapping v36 (ids F_mapping G37), nds F_mapping G37 x82.2.2.1, osl K_ptr_fault v83 (ids F_fault G84), nds F_fault G84 x82.2.2.2.1, osl K_api_Traced v85 x82.2.2.2.2]) (fun Q82 hJ82 hR82 hX82 => ?_) (fun a w hJ => ?_)
                      · replace H := H82
                        refine block_k (fun Q86 hN86 hR86 hX86 hY86 => ?_)
                        refine ck_some H (fun hc87 H => ?_)
                        refine seq_reg (fun K88 hK88 => ?_)
                        refine stq hf rfl rfl rfl (ex_move hf rfl) (fun a hf => ?_)
                        refine stq hf rfl rfl rfl (ex_move hf rfl) (fun a hf => ?_)
                        refine stq hf rfl rfl rfl (ex_indexAddr sa_23 (rsl_isSl (hr.now hs (i := 0) rfl)) hc87.1 hc87.2 hf rfl rfl) (fun a hf => ?_)
                        refine stq hf rfl rfl rfl (ex_load sc_5 hf rfl (el_cell (K := K_uint8) (f := 0) (rsl_rd (hr.now hs (i := 0) rfl)) hc87.1 hc87.2 rfl)) (fun a hf => ?_)
                        refine stq hf rfl rfl rfl (ex_rem hf rfl rfl (by decide)) (fun a hf => ?_)
                        refine stq hf rfl rfl rfl (ex_conv Try.underlying5 Try.underlying22 hf rfl) (fun a hf => ?_)
                        refine stq hf rfl rfl rfl (ex_assign hf rfl) (fun a hf => ?_)
                        refine hK88 _ _ ?_
                        refine bnd H (fun x89 H89 HO89 => ?_)
                        clear H
                        refine seq_cut (fun a w => Fr a 118 [(0, .int .i64 s21), (2, .int .u64 x25), (4, .int .u64 a4), (5, v5), (13, .pointer (some ⟨b3, 0, none⟩)), (14, .int .i64 (gd 0 ([1, 2, 4, 8] : List Int) (Int.tmod a3 4))), (15, .int .u64 (IntKind.u64.wrap (x25 + 16))), (18, .int .i64 y73), (19, .int .u64 (IntKind.u64.wrap (Int.tmod (gd 0 a5 y73) 64))), (86, .bool x89)] ∧ St M w0 w [bxs b3 71 [([v32], 1), ([v34], 1), ([v36], 1), (List.map Value.bool x31.2.2.2.1, 256), ([v65], 1), ([v67], 1)], osl K_ptr_mapping v32 (ids F_mapping G33), nds F_mapping G33 y68, osl K_ptr_mapping v34 (ids F_mapping G35), nds F_mapping G35 y69, osl K_ptr_mapping v36 (ids F_mapping G37), nds F_mapping G37 y70, osl K_ptr_fault v65 (ids F_fault G66), nds F_fault G66 y71, osl K_api_Traced v67 y72]) (fun Q89 hJ89 hR89 hX89 => ?_) (fun a w hJ => ?_)
                        · replace H := H89
                          refine itt H (fun hc90 H => ?_) (fun hc90 H => ?_)
                          · -- (IntKind.u64.wrap (Int.tmod (gd 0 a5 y73) 64)) < 16
                            refine region_k (fun K91 hK91 => ?_)
                            refine stq hf rfl rfl rfl (ex_move hf rfl) (fun a hf => ?_)
                            refine stq hf rfl rfl rfl (ex_lss hf rfl rfl) (fun a hf => ?_)
                            refine stq hf rfl rfl rfl (ex_move hf rfl) (fun a hf => ?_)
                            replace hf := hf.castB (t := 82) rfl (dec_t hc90)
                            replace hf := hf.castB (t := 83) rfl (dec_t hc90)
                            refine stepN hf rfl rfl rfl (fun a hf => ?_)
                            refine stepN hf rfl rfl rfl (fun a hf => ?_)
                            refine stq hf rfl rfl rfl (ex_pickT hf rfl rfl) (fun a hf => ?_)
                            refine hK91 _ _ ?_
                            have e89 := some_eq H; subst e89
                            exact hJ89 _ _ ⟨hf.sub ⟨rfl, rfl, rfl, rfl, rfl, rfl, rfl, rfl, rfl, rfl, trivial⟩, hs⟩
                          · -- not (IntKind.u64.wrap (Int.tmod (gd 0 a5 y73) 64)) < 16
                            refine region_k (fun K92 hK92 => ?_)
                            refine stq hf rfl rfl rfl (ex_move hf rfl) (fun a hf => ?_)
                            refine stq hf rfl rfl rfl (ex_lss hf rfl rfl) (fun a hf => ?_)
                            refine stq hf rfl rfl rfl (ex_move hf rfl) (fun a hf => ?_)
                            replace hf := hf.castB (t := 82) rfl (dec_f hc90)
                            replace hf := hf.castB (t := 83) rfl (dec_f hc90)
                            refine stq hf rfl rfl rfl (ex_move hf rfl) (fun a hf => ?_)
                            refine stq hf rfl rfl rfl (ex_geq hf rfl rfl) (fun a hf => ?_)
                            refine stq hf rfl rfl rfl (ex_pickF hf rfl rfl) (fun a hf => ?_)
                            refine hK92 _ _ ?_
                            have e89 := some_eq H; subst e89
                            exact hJ89 _ _ ⟨hf.sub ⟨rfl, rfl, rfl, rfl, rfl, rfl, rfl, rfl, rfl, rfl, trivial⟩, hs⟩
                        · obtain ⟨hf, hs⟩ := hJ
                          replace H := HO89
                          clear HO89
                          refine itt H (fun hc93 H => ?_) (fun hc93 H => ?_)
                          · -- x89 = true
                            replace hf := hf.castB (t := 86) rfl hc93
                            refine cond_T hf rfl ?_
                            refine bnd H (fun s94 hs94 H => ?_)
                            refine region_k (fun K98 hK98 => ?_)
                            refine stq hf rfl rfl rfl (ex_move hf rfl) (fun a hf => ?_)
                            refine stq hf rfl rfl rfl (ex_move hf rfl) (fun a hf => ?_)
                            refine stq hf rfl rfl rfl (ex_move hf rfl) (fun a hf => ?_)
                            refine stq hf rfl rfl rfl (ex_move hf rfl) (fun a hf => ?_)
                            refine stq hf rfl rfl rfl (ex_add hf rfl rfl) (fun a hf => ?_)
                            refine stq hf rfl rfl rfl (ex_move hf rfl) (fun a hf => ?_)
                            refine stq hf rfl rfl rfl (ex_move hf rfl) (fun a hf => ?_)
                            refine stq hf rfl rfl rfl (ex_indexAddr sa_23 (rsl_isSl (hr.now hs (i := 0) rfl)) hc87.1 hc87.2 hf rfl rfl) (fun a hf => ?_)
                            refine stq hf rfl rfl rfl (ex_load sc_5 hf rfl (el_cell (K := K_uint8) (f := 0) (rsl_rd (hr.now hs (i := 0) rfl)) hc87.1 hc87.2 rfl)) (fun a hf => ?_)
                            refine stq hf rfl rfl rfl (ex_conv Try.underlying5 Try.underlying22 hf rfl) (fun a hf => ?_)
                            refine stq hf rfl rfl rfl (ex_build (cs := [.int .i64 s21, .int .u64 (IntKind.u64.wrap (x25 + (IntKind.u64.wrap (Int.tmod (gd 0 a5 y73) 64)))), .int .i64 1, .bool true, .int .u64 (IntKind.u64.wrap (gd 0 a5 y73))]) bt_37 hf rfl (.cons rfl (.cons rfl (.cons rfl (.cons rfl (.cons rfl .nil))))) rfl) (fun a hf => ?_)
                            refine stepF hf rfl rfl rfl (ex_call cf_13 hf rfl) (iospace_Bus_Access.calls k75 y68 y69 y70 x31.2.2.2.1 y71 y72 (⟨s21, (IntKind.u64.wrap (x25 + (IntKind.u64.wrap (Int.tmod (gd 0 a5 y73) 64)))), 1, true, (IntKind.u64.wrap (gd 0 a5 y73))⟩ : Access) b3 v32 G33 v34 G35 v36 G37 v65 G66 v67 (hs.enter (.c (.c (.c (.c (.c (.c (.c (.c (.c (.c .nil))))))))))) (Sr.nil _ _) hs94) (fun v w hR a hf => ?_)
                            obtain ⟨v95, b96, v97, rfl, hs'⟩ := hR
                            replace hs := hs.step (.c (.c (.c (.c (.c (.c (.c (.c (.c (.c .nil)))))))))) hs'
                            clear hs'
                            refine hK98 _ _ ?_
                            refine hN86 _ _ ?_
                            replace hs := hs.pick (.k (.k (.k (.c (.k (.k (.k (.k (.k (.k .nil))))))))))
                            replace hs := hs.pick (.k (.k (.k (.c (.k (.k (.k (.k (.k (.k .nil))))))))))
                            replace hs := hs.pick (.k (.k (.k (.c (.k (.k (.k (.k (.k (.k .nil))))))))))
                            replace hs := hs.pick (.k (.k (.k (.k (.k (.k (.k (.k (.k (.c .nil))))))))))
                            replace hs := hs.pick (.k (.k (.k (.k (.k (.k (.k (.k (.k (.c .nil))))))))))
                            replace hs := hs.pick (.k (.k (.k (.k (.k (.k (.k (.k (.k (.c .nil))))))))))
                            replace hs := hs.pick (.k (.k (.k (.k (.k (.k (.k (.k (.k (.c .nil))))))))))
                            replace hs := hs.pick (.k (.k (.k (.k (.k (.k (.k (.k (.k (.c .nil))))))))))
                            replace hs := hs.pick (.k (.k (.k (.k (.k (.k (.k (.k (.k (.c .nil))))))))))
                            replace hs := hs.pick (.k (.k (.k (.k (.k (.k (.k (.k (.k (.c .nil))))))))))
                            have e82 := some_eq H; subst e82
                            exact hJ82 _ _ ⟨v95, b96, v97, hf.sub ⟨rfl, rfl, rfl, rfl, rfl, rfl, rfl, rfl, trivial⟩, hs⟩
                          · -- not x89 = true
                            replace hf := hf.castB (t := 86) rfl (bool_f hc93)
                            refine cond_F hf rfl ?_
                            refine wp_skip ?_
                            refine hN86 _ _ ?_
                            have e82 := some_eq H; subst e82
                            exact hJ82 _ _ ⟨v65, G66, v67, hf.sub ⟨rfl, rfl, rfl, rfl, rfl, rfl, rfl, rfl, trivial⟩, hs⟩
                      · obtain ⟨v83, G84, v85, hf, hs⟩ := hJ
                        replace H := HO82
                        clear HO82
                        refine region_k (fun K99 hK99 => ?_)
                        refine stq hf rfl rfl rfl (ex_move hf rfl) (fun a hf => ?_)
                        refine stq hf rfl rfl rfl (ex_add hf rfl rfl) (fun a hf => ?_)
                        refine stq hf rfl rfl rfl (ex_assign hf rfl) (fun a hf => ?_)
                        refine hK99 _ _ ?_
                        exact hL75 k75 _ _ (Nat.lt_succ_self _) ⟨x82.1, x82.2.1, x82.2.2.1, x82.2.2.2.1, x82.2.2.2.2, (IntKind.i64.wrap (y73 + 1)), v83, G84, v85, hf.sub ⟨rfl, rfl, rfl, rfl, rfl, rfl, rfl, rfl, trivial⟩, hs, H⟩
                    · -- not x77 = true
                      replace hf := hf.castB (t := 72) rfl (bool_f hc81)
                      refine cond_F hf rfl ?_
                      refine wp_exit ?_
                      refine hX76 0 _ _ ?_
                      refine hX75 0 _ _ ?_
                      refine hX64 _ _ ?_
                      have e59 := some_eq H; subst e59
                      exact hJ59 _ _ ⟨v65, G66, v67, hf.sub ⟨rfl, rfl, rfl, rfl, rfl, trivial⟩, hs⟩
            · obtain ⟨v60, G61, v62, hf, hs⟩ := hJ
              replace H := HO59
              clear HO59
              refine bnd H (fun s100 hs100 H => ?_)
              refine seq_reg (fun K104 hK104 => ?_)
              refine stq hf rfl rfl rfl (ex_move hf rfl) (fun a hf => ?_)
              refine stq hf rfl rfl rfl (ex_move hf rfl) (fun a hf => ?_)
              refine stq hf rfl rfl rfl (ex_move hf rfl) (fun a hf => ?_)
              refine stq hf rfl rfl rfl (ex_move hf rfl) (fun a hf => ?_)
              refine stq hf rfl rfl rfl (ex_build (cs := [.int .i64 s21, .int .u64 (IntKind.u64.wrap (x25 + 16)), .int .i64 (gd 0 ([1, 2, 4, 8] : List Int) (Int.tmod a3 4)), .bool false, .int .u64 0]) bt_37 hf rfl (.cons rfl (.cons rfl (.cons rfl .nil))) rfl) (fun a hf => ?_)
              refine stepF hf rfl rfl rfl (ex_call cf_13 hf rfl) (iospace_Bus_Access.calls k x59.1 x59.2.1 x59.2.2.1 x31.2.2.2.1 x59.2.2.2.1 x59.2.2.2.2 (⟨s21, (IntKind.u64.wrap (x25 + 16)), (gd 0 ([1, 2, 4, 8] : List Int) (Int.tmod a3 4)), false, 0⟩ : Access) b3 v32 G33 v34 G35 v36 G37 v60 G61 v62 (hs.enter (.c (.c (.c (.c (.c (.c (.c (.c (.c (.c .nil))))))))))) (Sr.nil _ _) hs100) (fun v w hR a hf => ?_)
              obtain ⟨v101, b102, v103, rfl, hs'⟩ := hR
              replace hs := hs.step (.c (.c (.c (.c (.c (.c (.c (.c (.c (.c .nil)))))))))) hs'
              clear hs'
              refine stq hf rfl rfl rfl (ex_move hf rfl) (fun a hf => ?_)
              refine stq hf rfl rfl rfl (ex_extract hf rfl rfl) (fun a hf => ?_)
              refine stq hf rfl rfl rfl (ex_extract hf rfl rfl) (fun a hf => ?_)
              refine stq hf rfl rfl rfl (ex_assign hf rfl) (fun a hf => ?_)
              refine stq hf rfl rfl rfl (ex_assign hf rfl) (fun a hf => ?_)
              refine hK104 _ _ ?_
              refine itt H (fun hc105 H => ?_) (fun hc105 H => ?_)
              · -- s100.2.2.2.2.2.2 = 0
                refine bnd H (fun s106 hs106 H => ?_)
                refine seq_reg (fun K107 hK107 => ?_)
                refine stq hf rfl rfl rfl (ex_move hf rfl) (fun a hf => ?_)
                refine stq hf rfl rfl rfl (ex_eql hf rfl rfl) (fun a hf => ?_)
                refine stq hf rfl rfl rfl (ex_move hf rfl) (fun a hf => ?_)
                replace hf := hf.castB (t := 109) rfl (dec_t hc105)
                replace hf := hf.castB (t := 110) rfl (dec_t hc105)
                refine stq hf rfl rfl rfl (ex_move hf rfl) (fun a hf => ?_)
                refine stq hf rfl rfl rfl (ex_move hf rfl) (fun a hf => ?_)
                refine stq hf rfl rfl rfl (ex_move hf rfl) (fun a hf => ?_)
                refine stepF hf rfl rfl rfl (ex_call cf_14 hf rfl) (ref09_Ones.calls k (gd 0 ([1, 2, 4, 8] : List Int) (Int.tmod a3 4)) (hs.enter (.k (.k (.k (.k (.k (.k (.k (.k (.k (.k .nil))))))))))) (Sr.nil _ _) hs106) (fun v w hR a hf => ?_)
                obtain ⟨rfl, hs'⟩ := hR
                replace hs := hs.step (.k (.k (.k (.k (.k (.k (.k (.k (.k (.k .nil)))))))))) hs'
                clear hs'
                refine stq hf rfl rfl rfl (ex_bits rfl hf rfl rfl) (fun a hf => ?_)
                refine stq hf rfl rfl rfl (ex_eql hf rfl rfl) (fun a hf => ?_)
                refine stq hf rfl rfl rfl (ex_pickT hf rfl rfl) (fun a hf => ?_)
                refine stq hf rfl rfl rfl (ex_assign hf rfl) (fun a hf => ?_)
                refine hK107 _ _ ?_
                refine wp_ret ?_
                have eR := some_eq H; subst eR
                replace hs := hs.keep (.d (.d (.d (.d (.d (.d (.d (.d (.d (.d .nil))))))))))
                exact ret1 Try.results3 hf rfl ⟨_, rfl, ⟨rfl, hs⟩⟩
              · -- not s100.2.2.2.2.2.2 = 0
                refine seq_reg (fun K108 hK108 => ?_)
                refine stq hf rfl rfl rfl (ex_move hf rfl) (fun a hf => ?_)
                refine stq hf rfl rfl rfl (ex_eql hf rfl rfl) (fun a hf => ?_)
                refine stq hf rfl rfl rfl (ex_move hf rfl) (fun a hf => ?_)
                replace hf := hf.castB (t := 109) rfl (dec_f hc105)
                replace hf := hf.castB (t := 110) rfl (dec_f hc105)
                refine stepN hf rfl rfl rfl (fun a hf => ?_)
                refine stepN hf rfl rfl rfl (fun a hf => ?_)
                refine stepN hf rfl rfl rfl (fun a hf => ?_)
                refine stepN hf rfl rfl rfl (fun a hf => ?_)
                refine stepN hf rfl rfl rfl (fun a hf => ?_)
                refine stepN hf rfl rfl rfl (fun a hf => ?_)
                refine stq hf rfl rfl rfl (ex_pickF hf rfl rfl) (fun a hf => ?_)
                refine stq hf rfl rfl rfl (ex_assign hf rfl) (fun a hf => ?_)
                refine hK108 _ _ ?_
                refine wp_ret ?_
                have eR := some_eq H; subst eR
                replace hs := hs.keep (.d (.d (.d (.d (.d (.d (.d (.d (.d (.d .nil))))))))))
                exact ret1 Try.results3 hf rfl ⟨_, rfl, ⟨rfl, hs⟩⟩
          · -- not s52.2.2.2.2.2.2 = 0
            replace hf := hf.castB (t := 64) rfl (ndec_t hc58)
            refine cond_T hf rfl ?_
            refine seq_reg (fun K109 hK109 => ?_)
            refine stq hf rfl rfl rfl (ex_assign hf rfl) (fun a hf => ?_)
            refine hK109 _ _ ?_
            refine wp_ret ?_
            refine hR51 _ _ ?_
            have eR := some_eq H; subst eR
            replace hs := hs.keep (.d (.d (.d (.d (.d (.d (.d (.d (.d (.d .nil))))))))))
            exact ret1 Try.results3 hf rfl ⟨_, rfl, ⟨rfl, hs⟩⟩
  · -- not s15 = true
    replace hf := hf.castB (t := 23) rfl (bool_f hc17)
    replace hf := hf.castB (t := 24) rfl (nbool_t hc17)
    refine cond_T hf rfl ?_
    refine seq_reg (fun K110 hK110 => ?_)
    refine stq hf rfl rfl rfl (ex_assign hf rfl) (fun a hf => ?_)
    refine hK110 _ _ ?_
    refine wp_ret ?_
    refine hR14 _ _ ?_
    have eR := some_eq H; subst eR
    replace hs := hs.keep (.d (.d (.d (.d (.d (.d (.d (.d (.d (.d .nil))))))))))
    exact ret1 Try.results3 hf rfl ⟨_, rfl, ⟨rfl, hs⟩⟩

end Go.Proofs.Ytigadacjaglfeaa.X
