/- Each function of the machine comes to what its pure function says. -/
import Derived.Test.YtigadacjaglfeaaFc1
import Derived.Test.YtigadacjaglfeaaFc2
import Derived.Test.YtigadacjaglfeaaFc3
import Derived.Test.YtigadacjaglfeaaFc4
import Derived.Test.YtigadacjaglfeaaFc5
import Derived.Test.YtigadacjaglfeaaFcawake
import Derived.Test.YtigadacjaglfeaaFb
namespace Go.Proofs.Ytigadacjaglfeaa.X
open Go Go.RowKit Go.Sx
set_option linter.unusedVariables false

set_option maxRecDepth 100000 in
theorem law09_IospaceFaults.calls {M : Nat → Prop} {w0 : World} (k : Nat) (a0 : Int) (a1 : Int) (a2 : (List Bool)) (v2 : Value) {r : Bool} (hs : St M w0 w0 []) (hr : Sr M w0 [rsl K_bool v2 a2])
    (h : law09_IospaceFaults.f k a0 a1 a2 = some r) : Calls Try.prog 5 #[.int .i64 a0, .int .i64 a1, v2] w0 fun e w => ∃ v, e = .returned v ∧ (.bool r = v ∧ St M w0 w []) := by
  have H := (law09_IospaceFaults.f.eq_1 ..).symm.trans h
  clear h
  refine enter Try.func5 rfl Try.ntmps5 rfl (fun a hf => ?_)
  refine seq_reg (fun K1 hK1 => ?_)
  refine stq hf rfl rfl rfl (ex_assign hf rfl) (fun a hf => ?_)
  refine hK1 _ _ ?_
  refine bnd H (fun s2 hs2 H => ?_)
  refine seq_reg (fun K13 hK13 => ?_)
  refine stepF hf rfl rfl rfl (ex_call cf_8 hf rfl) (iospace_New.calls k (hs.enter .nil) (Sr.nil _ _) hs2) (fun v w hR a hf => ?_)
  obtain ⟨b3, v4, b5, v6, b7, v8, b9, v10, b11, v12, rfl, hs'⟩ := hR
  replace hs := hs.step .nil hs'
  clear hs'
  refine stq hf rfl rfl rfl (ex_assign hf rfl) (fun a hf => ?_)
  refine hK13 _ _ ?_
  refine seq_n (fun Q14 hN14 hR14 hX14 => ?_)
  refine bnd H (fun s15 hs15 H => ?_)
  refine seq_reg (fun K16 hK16 => ?_)
  refine stepF hf rfl rfl rfl (ex_call cf_9 hf rfl) (law09_awake.calls k (hs.enter (.k (.k (.k (.k (.k (.k (.k (.k (.k (.k .nil))))))))))) (Sr.nil _ _) hs15) (fun v w hR a hf => ?_)
  obtain ⟨rfl, hs'⟩ := hR
  replace hs := hs.step (.k (.k (.k (.k (.k (.k (.k (.k (.k (.k .nil)))))))))) hs'
  clear hs'
  refine stq hf rfl rfl rfl (ex_not hf rfl) (fun a hf => ?_)
  refine hK16 _ _ ?_
  refine itt H (fun hc17 H => ?_) (fun hc17 H => ?_)
  · -- s15 = true
    replace hf := hf.castB (t := 16) rfl hc17
    replace hf := hf.castB (t := 17) rfl (nbool_f hc17)
    refine cond_F hf rfl ?_
    refine wp_skip ?_
    refine hN14 _ _ ?_
    refine bnd H (fun s18 hs18 H => ?_)
    refine seq_reg (fun K19 hK19 => ?_)
    refine stq hf rfl rfl rfl (ex_move hf rfl) (fun a hf => ?_)
    refine stepF hf rfl rfl rfl (ex_call cf_10 hf rfl) (help_Mod.calls k a0 8 (hs.enter (.k (.k (.k (.k (.k (.k (.k (.k (.k (.k .nil))))))))))) (Sr.nil _ _) hs18) (fun v w hR a hf => ?_)
    obtain ⟨rfl, hs'⟩ := hR
    replace hs := hs.step (.k (.k (.k (.k (.k (.k (.k (.k (.k (.k .nil)))))))))) hs'
    clear hs'
    refine stq hf rfl rfl rfl (ex_add hf rfl rfl) (fun a hf => ?_)
    refine stq hf rfl rfl rfl (ex_assign hf rfl) (fun a hf => ?_)
    refine hK19 _ _ ?_
    refine bnd H (fun s20 hs20 H => ?_)
    refine seq_reg (fun K27 hK27 => ?_)
    refine stq hf rfl rfl rfl (ex_move hf rfl) (fun a hf => ?_)
    refine stq hf rfl rfl rfl (ex_build (cs := [.int .u64 0, .int .u64 16]) bt_32 hf rfl (.cons rfl (.cons rfl .nil)) rfl) (fun a hf => ?_)
    refine stepF hf rfl rfl rfl (ex_call cf_11 hf rfl) (iospace_Bus_Map.calls k s2.1 s2.2.1 s2.2.2.1 s2.2.2.2.1 s2.2.2.2.2.1 s2.2.2.2.2.2 0 (⟨0, 16⟩ : Range) 7 b3 v4 b5 v6 b7 v8 b9 v10 b11 v12 (hs.enter (.c (.c (.c (.c (.c (.c (.c (.c (.c (.c .nil))))))))))) (Sr.nil _ _) hs20) (fun v w hR a hf => ?_)
    obtain ⟨v21, b22, v23, b24, v25, b26, rfl, hs'⟩ := hR
    replace hs := hs.step (.c (.c (.c (.c (.c (.c (.c (.c (.c (.c .nil)))))))))) hs'
    clear hs'
    refine hK27 _ _ ?_
    refine bnd H (fun s28 hs28 H => ?_)
    refine seq_reg (fun K31 hK31 => ?_)
    refine stq hf rfl rfl rfl (ex_move hf rfl) (fun a hf => ?_)
    refine stq hf rfl rfl rfl (ex_build (cs := [.int .u64 4, .int .u64 4]) bt_32 hf rfl (.cons rfl (.cons rfl .nil)) rfl) (fun a hf => ?_)
    refine stq hf rfl rfl rfl (ex_move hf rfl) (fun a hf => ?_)
    refine stepF hf rfl rfl rfl (ex_call cf_16 hf rfl) (iospace_Bus_PlanFault.calls k s20.1 s20.2.1 s20.2.2.1 s2.2.2.2.1 s2.2.2.2.2.1 s2.2.2.2.2.2 0 (⟨4, 4⟩ : Range) (IntKind.i64.wrap (1 + s18)) b3 v21 b22 v23 b24 v25 b26 v10 b11 v12 (hs.enter (.c (.c (.c (.c (.c (.c (.c (.c (.c (.c .nil))))))))))) (Sr.nil _ _) hs28) (fun v w hR a hf => ?_)
    obtain ⟨v29, b30, rfl, hs'⟩ := hR
    replace hs := hs.step (.c (.c (.c (.c (.c (.c (.c (.c (.c (.c .nil)))))))))) hs'
    clear hs'
    refine hK31 _ _ ?_
    refine seq_reg (fun K32 hK32 => ?_)
    refine stq hf rfl rfl rfl (ex_assign hf rfl) (fun a hf => ?_)
    refine hK32 _ _ ?_
    refine bnd H (fun x33 H33 HO33 => ?_)
    clear H
    refine seq_cut (fun a w => ∃ (x33s : Unit), x33 = .go x33s ∧ Fr a 94 [] ∧ St M w0 w []) (fun Q33 hJ33 hR33 hX33 => ?_) (fun a w hJ => ?_)
    · replace H := H33
      refine seq_reg (fun K34 hK34 => ?_)
      refine stq hf rfl rfl rfl (ex_assign hf rfl) (fun a hf => ?_)
      refine hK34 _ _ ?_
      refine block_k (fun Q35 hN35 hR35 hX35 hY35 => ?_)
      refine loop_k (fun n a w => ∃ (y39 : (List mapping)) (y40 : (List mapping)) (y41 : (List mapping)) (y42 : (List Bool)) (y43 : (List fault)) (y44 : (List Traced)) (y45 : Int) (y46 : Int) (v36 : Value) (G37 : List Nat) (v38 : Value), Fr a 94 [(0, .int .i64 (IntKind.i64.wrap (1 + s18))), (1, .int .i64 a1), (2, v2), (7, .pointer (some ⟨b3, 0, none⟩)), (8, .int .i64 y45), (9, .int .i64 y46)] ∧ St M w0 w [bxs b3 71 [([v21], 1), ([v23], 1), ([v25], 1), (List.map Value.bool y42, 256), ([v36], 1), ([v38], 1)], osl K_ptr_mapping v21 (ids F_mapping b22), nds F_mapping b22 y39, osl K_ptr_mapping v23 (ids F_mapping b24), nds F_mapping b24 y40, osl K_ptr_mapping v25 (ids F_mapping b26), nds F_mapping b26 y41, osl K_ptr_fault v36 (ids F_fault G37), nds F_fault G37 y43, osl K_api_Traced v38 y44] ∧ law09_IospaceFaults.l1 n a2 a1 s18 y39 y40 y41 y42 y43 y44 y45 y46 = some x33) k ?_ (fun n48 a w hI Q48 hL48 hR48 hX48 => ?_)
      · -- at the start
        replace hs := hs.pick (.k (.k (.k (.k (.k (.k (.k (.k (.k (.c .nil))))))))))
        replace hs := hs.pick (.k (.k (.k (.c (.k (.k (.k (.k (.k (.k .nil))))))))))
        replace hs := hs.pick (.k (.k (.k (.c (.k (.k (.k (.k (.k (.k .nil))))))))))
        replace hs := hs.pick (.k (.k (.k (.k (.k (.k (.k (.k (.k (.c .nil))))))))))
        replace hs := hs.pick (.k (.k (.k (.k (.k (.k (.k (.k (.k (.c .nil))))))))))
        replace hs := hs.pick (.k (.k (.k (.k (.k (.k (.k (.k (.k (.c .nil))))))))))
        replace hs := hs.pick (.k (.k (.k (.k (.k (.k (.k (.k (.k (.c .nil))))))))))
        replace hs := hs.pick (.k (.k (.k (.k (.k (.k (.k (.k (.k (.c .nil))))))))))
        replace hs := hs.pick (.k (.k (.k (.k (.k (.k (.k (.k (.k (.c .nil))))))))))
        replace hs := hs.pick (.k (.k (.k (.k (.k (.k (.k (.k (.k (.c .nil))))))))))
        exact ⟨s20.1, s20.2.1, s20.2.2.1, s2.2.2.2.1, s28.1, s2.2.2.2.2.2, 0, 0, v29, b30, v12, hf.sub ⟨rfl, rfl, rfl, rfl, rfl, rfl, trivial⟩, hs, H⟩
      · obtain ⟨y39, y40, y41, y42, y43, y44, y45, y46, v36, G37, v38, hf, hs, H⟩ := hI
        cases n48 with
        | zero => exact absurd H (by rw [law09_IospaceFaults.l1.eq_1]; intro h; cases h)
        | succ k48 =>
          replace H := (law09_IospaceFaults.l1.eq_2 ..).symm.trans H
          refine seq_n (fun Q49 hN49 hR49 hX49 => ?_)
          refine bnd H (fun x50 H50 HO50 => ?_)
          clear H
          refine seq_cut (fun a w => Fr a 94 [(0, .int .i64 (IntKind.i64.wrap (1 + s18))), (1, .int .i64 a1), (2, v2), (7, .pointer (some ⟨b3, 0, none⟩)), (8, .int .i64 y45), (9, .int .i64 y46), (35, .bool x50)] ∧ St M w0 w [bxs b3 71 [([v21], 1), ([v23], 1), ([v25], 1), (List.map Value.bool y42, 256), ([v36], 1), ([v38], 1)], osl K_ptr_mapping v21 (ids F_mapping b22), nds F_mapping b22 y39, osl K_ptr_mapping v23 (ids F_mapping b24), nds F_mapping b24 y40, osl K_ptr_mapping v25 (ids F_mapping b26), nds F_mapping b26 y41, osl K_ptr_fault v36 (ids F_fault G37), nds F_fault G37 y43, osl K_api_Traced v38 y44]) (fun Q50 hJ50 hR50 hX50 => ?_) (fun a w hJ => ?_)
          · replace H := H50
            refine itt H (fun hc51 H => ?_) (fun hc51 H => ?_)
            · -- y46 < (a2.length : Int)
              refine region_k (fun K52 hK52 => ?_)
              refine stq hf rfl rfl rfl (ex_move hf rfl) (fun a hf => ?_)
              refine stq hf rfl rfl rfl (ex_move hf rfl) (fun a hf => ?_)
              refine stq hf rfl rfl rfl (ex_lenS Try.underlying46 (rsl_isSl (hr.now hs (i := 0) rfl)) hf rfl) (fun a hf => ?_)
              refine stq hf rfl rfl rfl (ex_lss hf rfl rfl) (fun a hf => ?_)
              refine stq hf rfl rfl rfl (ex_move hf rfl) (fun a hf => ?_)
              replace hf := hf.castB (t := 31) rfl (dec_t hc51)
              replace hf := hf.castB (t := 32) rfl (dec_t hc51)
              refine stq hf rfl rfl rfl (ex_move hf rfl) (fun a hf => ?_)
              refine stq hf rfl rfl rfl (ex_lss hf rfl rfl) (fun a hf => ?_)
              refine stq hf rfl rfl rfl (ex_pickT hf rfl rfl) (fun a hf => ?_)
              refine hK52 _ _ ?_
              have e50 := some_eq H; subst e50
              exact hJ50 _ _ ⟨hf.sub ⟨rfl, rfl, rfl, rfl, rfl, rfl, rfl, trivial⟩, hs⟩
            · -- not y46 < (a2.length : Int)
              refine region_k (fun K53 hK53 => ?_)
              refine stq hf rfl rfl rfl (ex_move hf rfl) (fun a hf => ?_)
              refine stq hf rfl rfl rfl (ex_move hf rfl) (fun a hf => ?_)
              refine stq hf rfl rfl rfl (ex_lenS Try.underlying46 (rsl_isSl (hr.now hs (i := 0) rfl)) hf rfl) (fun a hf => ?_)
              refine stq hf rfl rfl rfl (ex_lss hf rfl rfl) (fun a hf => ?_)
              refine stq hf rfl rfl rfl (ex_move hf rfl) (fun a hf => ?_)
              replace hf := hf.castB (t := 31) rfl (dec_f hc51)
              replace hf := hf.castB (t := 32) rfl (dec_f hc51)
              refine stepN hf rfl rfl rfl (fun a hf => ?_)
              refine stepN hf rfl rfl rfl (fun a hf => ?_)
              refine stq hf rfl rfl rfl (ex_pickF hf rfl rfl) (fun a hf => ?_)
              refine hK53 _ _ ?_
              have e50 := some_eq H; subst e50
              exact hJ50 _ _ ⟨hf.sub ⟨rfl, rfl, rfl, rfl, rfl, rfl, rfl, trivial⟩, hs⟩
          · obtain ⟨hf, hs⟩ := hJ
            replace H := HO50
            clear HO50
            refine itt H (fun hc54 H => ?_) (fun hc54 H => ?_)
            · -- x50 = true
              replace hf := hf.castB (t := 35) rfl hc54
              refine cond_T hf rfl ?_
              refine wp_skip ?_
              refine hN49 _ _ ?_
              refine bnd H (fun x55 H55 HO55 => ?_)
              clear H
              refine seq_cut (fun a w => ∃ (x55s : (List mapping) × (List mapping) × (List mapping) × (List Bool) × (List fault) × (List Traced) × Int) (v56 : Value) (G57 : List Nat) (v58 : Value), x55 = .go x55s ∧ Fr a 94 [(0, .int .i64 (IntKind.i64.wrap (1 + s18))), (1, .int .i64 a1), (2, v2), (7, .pointer (some ⟨b3, 0, none⟩)), (8, .int .i64 x55s.2.2.2.2.2.2), (9, .int .i64 y46)] ∧ St M w0 w [bxs b3 71 [([v21], 1), ([v23], 1), ([v25], 1), (List.map Value.bool x55s.2.2.2.1, 256), ([v56], 1), ([v58], 1)], osl K_ptr_mapping v21 (ids F_mapping b22), nds F_mapping b22 x55s.1, osl K_ptr_mapping v23 (ids F_mapping b24), nds F_mapping b24 x55s.2.1, osl K_ptr_mapping v25 (ids F_mapping b26), nds F_mapping b26 x55s.2.2.1, osl K_ptr_fault v56 (ids F_fault G57), nds F_fault G57 x55s.2.2.2.2.1, osl K_api_Traced v58 x55s.2.2.2.2.2.1]) (fun Q55 hJ55 hR55 hX55 => ?_) (fun a w hJ => ?_)
              · replace H := H55
                refine block_k (fun Q59 hN59 hR59 hX59 hY59 => ?_)
                refine ck_some H (fun hc60 H => ?_)
                refine bnd H (fun s61 hs61 H => ?_)
                refine seq_reg (fun K62 hK62 => ?_)
                refine stq hf rfl rfl rfl (ex_move hf rfl) (fun a hf => ?_)
                refine stq hf rfl rfl rfl (ex_move hf rfl) (fun a hf => ?_)
                refine stq hf rfl rfl rfl (ex_move hf rfl) (fun a hf => ?_)
                refine stq hf rfl rfl rfl (ex_indexAddr sa_46 (rsl_isSl (hr.now hs (i := 0) rfl)) hc60.1 hc60.2 hf rfl rfl) (fun a hf => ?_)
                refine stq hf rfl rfl rfl (ex_load sc_4 hf rfl (el_cell (K := K_bool) (f := 0) (rsl_rd (hr.now hs (i := 0) rfl)) hc60.1 hc60.2 rfl)) (fun a hf => ?_)
                refine stepF hf rfl rfl rfl (ex_call cf_12 hf rfl) (iospace_Bus_Enable.calls k48 y39 y40 y41 y42 y43 y44 7 (gd false a2 y46) b3 v21 b22 v23 b24 v25 b26 v36 G37 v38 (hs.enter (.c (.c (.c (.c (.c (.c (.c (.c (.c (.c .nil))))))))))) (Sr.nil _ _) hs61) (fun v w hR a hf => ?_)
                obtain ⟨rfl, hs'⟩ := hR
                replace hs := hs.step (.c (.c (.c (.c (.c (.c (.c (.c (.c (.c .nil)))))))))) hs'
                clear hs'
                refine hK62 _ _ ?_
                refine bnd H (fun s63 hs63 H => ?_)
                refine bnd H (fun s64 hs64 H => ?_)
                refine seq_reg (fun K68 hK68 => ?_)
                refine stq hf rfl rfl rfl (ex_move hf rfl) (fun a hf => ?_)
                refine stq hf rfl rfl rfl (ex_move hf rfl) (fun a hf => ?_)
                refine stq hf rfl rfl rfl (ex_move hf rfl) (fun a hf => ?_)
                refine stq hf rfl rfl rfl (ex_add hf rfl rfl) (fun a hf => ?_)
                refine stepF hf rfl rfl rfl (ex_call cf_10 hf rfl) (help_Mod.calls k48 (IntKind.i64.wrap (a1 + y46)) 2 (hs.enter (.k (.k (.k (.k (.k (.k (.k (.k (.k (.k .nil))))))))))) (Sr.nil _ _) hs63) (fun v w hR a hf => ?_)
                obtain ⟨rfl, hs'⟩ := hR
                replace hs := hs.step (.k (.k (.k (.k (.k (.k (.k (.k (.k (.k .nil)))))))))) hs'
                clear hs'
                refine stq hf rfl rfl rfl (ex_mul hf rfl rfl) (fun a hf => ?_)
                refine stq hf rfl rfl rfl (ex_conv Try.underlying3 Try.underlying22 hf rfl) (fun a hf => ?_)
                refine stq hf rfl rfl rfl (ex_build (cs := [.int .i64 0, .int .u64 (IntKind.u64.wrap (IntKind.i64.wrap (4 * s63))), .int .i64 4, .bool true, .int .u64 1]) bt_37 hf rfl (.cons rfl (.cons rfl (.cons rfl (.cons rfl (.cons rfl .nil))))) rfl) (fun a hf => ?_)
                refine stepF hf rfl rfl rfl (ex_call cf_13 hf rfl) (iospace_Bus_Access.calls k48 y39 y40 y41 s61.1 y43 y44 (⟨0, (IntKind.u64.wrap (IntKind.i64.wrap (4 * s63))), 4, true, 1⟩ : Access) b3 v21 b22 v23 b24 v25 b26 v36 G37 v38 (hs.enter (.c (.c (.c (.c (.c (.c (.c (.c (.c (.c .nil))))))))))) (Sr.nil _ _) hs64) (fun v w hR a hf => ?_)
                obtain ⟨v65, b66, v67, rfl, hs'⟩ := hR
                replace hs := hs.step (.c (.c (.c (.c (.c (.c (.c (.c (.c (.c .nil)))))))))) hs'
                clear hs'
                refine stq hf rfl rfl rfl (ex_move hf rfl) (fun a hf => ?_)
                refine stq hf rfl rfl rfl (ex_extract hf rfl rfl) (fun a hf => ?_)
                refine stq hf rfl rfl rfl (ex_extract hf rfl rfl) (fun a hf => ?_)
                refine stq hf rfl rfl rfl (ex_assign hf rfl) (fun a hf => ?_)
                refine stq hf rfl rfl rfl (ex_assign hf rfl) (fun a hf => ?_)
                refine hK68 _ _ ?_
                refine bnd H (fun x69 H69 HO69 => ?_)
                clear H
                refine seq_cut (fun a w => Fr a 94 [(0, .int .i64 (IntKind.i64.wrap (1 + s18))), (1, .int .i64 a1), (2, v2), (7, .pointer (some ⟨b3, 0, none⟩)), (8, .int .i64 y45), (9, .int .i64 y46), (11, .int .i64 s64.2.2.2.2.2.2), (12, .bool x69)] ∧ St M w0 w [bxs b3 71 [([v21], 1), ([v23], 1), ([v25], 1), (List.map Value.bool s61.1, 256), ([v65], 1), ([v67], 1)], osl K_ptr_mapping v21 (ids F_mapping b22), nds F_mapping b22 s64.2.2.1, osl K_ptr_mapping v23 (ids F_mapping b24), nds F_mapping b24 s64.2.2.2.1, osl K_ptr_mapping v25 (ids F_mapping b26), nds F_mapping b26 s64.2.2.2.2.1, osl K_ptr_fault v65 (ids F_fault b66), nds F_fault b66 s64.1, osl K_api_Traced v67 s64.2.1]) (fun Q69 hJ69 hR69 hX69 => ?_) (fun a w hJ => ?_)
                · replace H := H69
                  refine itt H (fun hc70 H => ?_) (fun hc70 H => ?_)
                  · -- (gd false a2 y46) = true
                    refine bnd H (fun s71 hs71 H => ?_)
                    refine itt H (fun hc72 H => ?_) (fun hc72 H => ?_)
                    · -- s71 = 1
                      refine region_k (fun K73 hK73 => ?_)
                      refine stq hf rfl rfl rfl (ex_move hf rfl) (fun a hf => ?_)
                      refine stq hf rfl rfl rfl (ex_move hf rfl) (fun a hf => ?_)
                      refine stq hf rfl rfl rfl (ex_indexAddr sa_46 (rsl_isSl (hr.now hs (i := 0) rfl)) hc60.1 hc60.2 hf rfl rfl) (fun a hf => ?_)
                      refine stq hf rfl rfl rfl (ex_load sc_4 hf rfl (el_cell (K := K_bool) (f := 0) (rsl_rd (hr.now hs (i := 0) rfl)) hc60.1 hc60.2 rfl)) (fun a hf => ?_)
                      refine stq hf rfl rfl rfl (ex_move hf rfl) (fun a hf => ?_)
                      replace hf := hf.castB (t := 42) rfl hc70
                      replace hf := hf.castB (t := 59) rfl hc70
                      replace hf := hf.castB (t := 60) rfl hc70
                      refine stq hf rfl rfl rfl (ex_move hf rfl) (fun a hf => ?_)
                      refine stq hf rfl rfl rfl (ex_move hf rfl) (fun a hf => ?_)
                      refine stq hf rfl rfl rfl (ex_add hf rfl rfl) (fun a hf => ?_)
                      refine stepF hf rfl rfl rfl (ex_call cf_10 hf rfl) (help_Mod.calls k48 (IntKind.i64.wrap (a1 + y46)) 2 (hs.enter (.k (.k (.k (.k (.k (.k (.k (.k (.k (.k .nil))))))))))) (Sr.nil _ _) hs71) (fun v w hR a hf => ?_)
                      obtain ⟨rfl, hs'⟩ := hR
                      replace hs := hs.step (.k (.k (.k (.k (.k (.k (.k (.k (.k (.k .nil)))))))))) hs'
                      clear hs'
                      refine stq hf rfl rfl rfl (ex_eql hf rfl rfl) (fun a hf => ?_)
                      refine stq hf rfl rfl rfl (ex_pickT hf rfl rfl) (fun a hf => ?_)
                      refine stq hf rfl rfl rfl (ex_move hf rfl) (fun a hf => ?_)
                      replace hf := hf.castB (t := 65) rfl (dec_t hc72)
                      replace hf := hf.castB (t := 66) rfl (dec_t hc72)
                      replace hf := hf.castB (t := 67) rfl (dec_t hc72)
                      refine stq hf rfl rfl rfl (ex_move hf rfl) (fun a hf => ?_)
                      refine stq hf rfl rfl rfl (ex_move hf rfl) (fun a hf => ?_)
                      refine stq hf rfl rfl rfl (ex_lss hf rfl rfl) (fun a hf => ?_)
                      refine stq hf rfl rfl rfl (ex_pickT hf rfl rfl) (fun a hf => ?_)
                      refine stq hf rfl rfl rfl (ex_assign hf rfl) (fun a hf => ?_)
                      refine hK73 _ _ ?_
                      replace hs := hs.pick (.k (.k (.k (.c (.k (.k (.k (.k (.k (.k .nil))))))))))
                      replace hs := hs.pick (.k (.k (.k (.c (.k (.k (.k (.k (.k (.k .nil))))))))))
                      replace hs := hs.pick (.k (.k (.k (.c (.k (.k (.k (.k (.k (.k .nil))))))))))
                      replace hs := hs.pick (.k (.k (.k (.k (.k (.k (.k (.k (.k (.c .nil))))))))))
                      replace hs := hs.pick (.k (.k (.k (.k (.k (.k (.k (.k (.k (.c .nil))))))))))
                      replace hs := hs.pick (.k (.k (.k (.k (.k (.k (.k (.k (.k (.c .nil))))))))))
                      replace hs := hs.pick (.k (.k (.k (.k (.k (.k (.k (.k (.k (.c .nil))))))))))
                      replace hs := hs.pick (.k (.k (.k (.k (.k (.k (.k (.k (.k (.c .nil))))))))))
                      replace hs := hs.pick (.k (.k (.k (.k (.k (.k (.k (.k (.k (.c .nil))))))))))
                      replace hs := hs.pick (.k (.k (.k (.k (.k (.k (.k (.k (.k (.c .nil))))))))))
                      have e69 := some_eq H; subst e69
                      exact hJ69 _ _ ⟨hf.sub ⟨rfl, rfl, rfl, rfl, rfl, rfl, rfl, rfl, trivial⟩, hs⟩
                    · -- not s71 = 1
                      refine region_k (fun K74 hK74 => ?_)
                      refine stq hf rfl rfl rfl (ex_move hf rfl) (fun a hf => ?_)
                      refine stq hf rfl rfl rfl (ex_move hf rfl) (fun a hf => ?_)
                      refine stq hf rfl rfl rfl (ex_indexAddr sa_46 (rsl_isSl (hr.now hs (i := 0) rfl)) hc60.1 hc60.2 hf rfl rfl) (fun a hf => ?_)
                      refine stq hf rfl rfl rfl (ex_load sc_4 hf rfl (el_cell (K := K_bool) (f := 0) (rsl_rd (hr.now hs (i := 0) rfl)) hc60.1 hc60.2 rfl)) (fun a hf => ?_)
                      refine stq hf rfl rfl rfl (ex_move hf rfl) (fun a hf => ?_)
                      replace hf := hf.castB (t := 42) rfl hc70
                      replace hf := hf.castB (t := 59) rfl hc70
                      replace hf := hf.castB (t := 60) rfl hc70
                      refine stq hf rfl rfl rfl (ex_move hf rfl) (fun a hf => ?_)
                      refine stq hf rfl rfl rfl (ex_move hf rfl) (fun a hf => ?_)
                      refine stq hf rfl rfl rfl (ex_add hf rfl rfl) (fun a hf => ?_)
                      refine stepF hf rfl rfl rfl (ex_call cf_10 hf rfl) (help_Mod.calls k48 (IntKind.i64.wrap (a1 + y46)) 2 (hs.enter (.k (.k (.k (.k (.k (.k (.k (.k (.k (.k .nil))))))))))) (Sr.nil _ _) hs71) (fun v w hR a hf => ?_)
                      obtain ⟨rfl, hs'⟩ := hR
                      replace hs := hs.step (.k (.k (.k (.k (.k (.k (.k (.k (.k (.k .nil)))))))))) hs'
                      clear hs'
                      refine stq hf rfl rfl rfl (ex_eql hf rfl rfl) (fun a hf => ?_)
                      refine stq hf rfl rfl rfl (ex_pickT hf rfl rfl) (fun a hf => ?_)
                      refine stq hf rfl rfl rfl (ex_move hf rfl) (fun a hf => ?_)
                      replace hf := hf.castB (t := 65) rfl (dec_f hc72)
                      replace hf := hf.castB (t := 66) rfl (dec_f hc72)
                      replace hf := hf.castB (t := 67) rfl (dec_f hc72)
                      refine stepN hf rfl rfl rfl (fun a hf => ?_)
                      refine stepN hf rfl rfl rfl (fun a hf => ?_)
                      refine stepN hf rfl rfl rfl (fun a hf => ?_)
                      refine stq hf rfl rfl rfl (ex_pickF hf rfl rfl) (fun a hf => ?_)
                      refine stq hf rfl rfl rfl (ex_assign hf rfl) (fun a hf => ?_)
                      refine hK74 _ _ ?_
                      replace hs := hs.pick (.k (.k (.k (.c (.k (.k (.k (.k (.k (.k .nil))))))))))
                      replace hs := hs.pick (.k (.k (.k (.c (.k (.k (.k (.k (.k (.k .nil))))))))))
                      replace hs := hs.pick (.k (.k (.k (.c (.k (.k (.k (.k (.k (.k .nil))))))))))
                      replace hs := hs.pick (.k (.k (.k (.k (.k (.k (.k (.k (.k (.c .nil))))))))))
                      replace hs := hs.pick (.k (.k (.k (.k (.k (.k (.k (.k (.k (.c .nil))))))))))
                      replace hs := hs.pick (.k (.k (.k (.k (.k (.k (.k (.k (.k (.c .nil))))))))))
                      replace hs := hs.pick (.k (.k (.k (.k (.k (.k (.k (.k (.k (.c .nil))))))))))
                      replace hs := hs.pick (.k (.k (.k (.k (.k (.k (.k (.k (.k (.c .nil))))))))))
                      replace hs := hs.pick (.k (.k (.k (.k (.k (.k (.k (.k (.k (.c .nil))))))))))
                      replace hs := hs.pick (.k (.k (.k (.k (.k (.k (.k (.k (.k (.c .nil))))))))))
                      have e69 := some_eq H; subst e69
                      exact hJ69 _ _ ⟨hf.sub ⟨rfl, rfl, rfl, rfl, rfl, rfl, rfl, rfl, trivial⟩, hs⟩
                  · -- not (gd false a2 y46) = true
                    refine region_k (fun K75 hK75 => ?_)
                    refine stq hf rfl rfl rfl (ex_move hf rfl) (fun a hf => ?_)
                    refine stq hf rfl rfl rfl (ex_move hf rfl) (fun a hf => ?_)
                    refine stq hf rfl rfl rfl (ex_indexAddr sa_46 (rsl_isSl (hr.now hs (i := 0) rfl)) hc60.1 hc60.2 hf rfl rfl) (fun a hf => ?_)
                    refine stq hf rfl rfl rfl (ex_load sc_4 hf rfl (el_cell (K := K_bool) (f := 0) (rsl_rd (hr.now hs (i := 0) rfl)) hc60.1 hc60.2 rfl)) (fun a hf => ?_)
                    refine stq hf rfl rfl rfl (ex_move hf rfl) (fun a hf => ?_)
                    replace hf := hf.castB (t := 42) rfl (bool_f hc70)
                    replace hf := hf.castB (t := 59) rfl (bool_f hc70)
                    replace hf := hf.castB (t := 60) rfl (bool_f hc70)
                    refine stepN hf rfl rfl rfl (fun a hf => ?_)
                    refine stepN hf rfl rfl rfl (fun a hf => ?_)
                    refine stepN hf rfl rfl rfl (fun a hf => ?_)
                    refine stepN hf rfl rfl rfl (fun a hf => ?_)
                    refine stepN hf rfl rfl rfl (fun a hf => ?_)
                    refine stq hf rfl rfl rfl (ex_pickF hf rfl rfl) (fun a hf => ?_)
                    refine stq hf rfl rfl rfl (ex_move hf rfl) (fun a hf => ?_)
                    refine stepN hf rfl rfl rfl (fun a hf => ?_)
                    refine stepN hf rfl rfl rfl (fun a hf => ?_)
                    refine stepN hf rfl rfl rfl (fun a hf => ?_)
                    refine stq hf rfl rfl rfl (ex_pickF hf rfl rfl) (fun a hf => ?_)
                    refine stq hf rfl rfl rfl (ex_assign hf rfl) (fun a hf => ?_)
                    refine hK75 _ _ ?_
                    replace hs := hs.pick (.k (.k (.k (.c (.k (.k (.k (.k (.k (.k .nil))))))))))
                    replace hs := hs.pick (.k (.k (.k (.c (.k (.k (.k (.k (.k (.k .nil))))))))))
                    replace hs := hs.pick (.k (.k (.k (.c (.k (.k (.k (.k (.k (.k .nil))))))))))
                    replace hs := hs.pick (.k (.k (.k (.k (.k (.k (.k (.k (.k (.c .nil))))))))))
                    replace hs := hs.pick (.k (.k (.k (.k (.k (.k (.k (.k (.k (.c .nil))))))))))
                    replace hs := hs.pick (.k (.k (.k (.k (.k (.k (.k (.k (.k (.c .nil))))))))))
                    replace hs := hs.pick (.k (.k (.k (.k (.k (.k (.k (.k (.k (.c .nil))))))))))
                    replace hs := hs.pick (.k (.k (.k (.k (.k (.k (.k (.k (.k (.c .nil))))))))))
                    replace hs := hs.pick (.k (.k (.k (.k (.k (.k (.k (.k (.k (.c .nil))))))))))
                    replace hs := hs.pick (.k (.k (.k (.k (.k (.k (.k (.k (.k (.c .nil))))))))))
                    have e69 := some_eq H; subst e69
                    exact hJ69 _ _ ⟨hf.sub ⟨rfl, rfl, rfl, rfl, rfl, rfl, rfl, rfl, trivial⟩, hs⟩
                · obtain ⟨hf, hs⟩ := hJ
                  replace H := HO69
                  clear HO69
                  refine seq_n (fun Q76 hN76 hR76 hX76 => ?_)
                  refine bnd H (fun x77 H77 HO77 => ?_)
                  clear H
                  refine seq_cut (fun a w => Fr a 94 [(0, .int .i64 (IntKind.i64.wrap (1 + s18))), (1, .int .i64 a1), (2, v2), (7, .pointer (some ⟨b3, 0, none⟩)), (8, .int .i64 y45), (9, .int .i64 y46), (12, .bool x69), (83, .bool x77)] ∧ St M w0 w [bxs b3 71 [([v21], 1), ([v23], 1), ([v25], 1), (List.map Value.bool s61.1, 256), ([v65], 1), ([v67], 1)], osl K_ptr_mapping v21 (ids F_mapping b22), nds F_mapping b22 s64.2.2.1, osl K_ptr_mapping v23 (ids F_mapping b24), nds F_mapping b24 s64.2.2.2.1, osl K_ptr_mapping v25 (ids F_mapping b26), nds F_mapping b26 s64.2.2.2.2.1, osl K_ptr_fault v65 (ids F_fault b66), nds F_fault b66 s64.1, osl K_api_Traced v67 s64.2.1]) (fun Q77 hJ77 hR77 hX77 => ?_) (fun a w hJ => ?_)
                  · replace H := H77
                    refine itt H (fun hc78 H => ?_) (fun hc78 H => ?_)
                    · -- ((decide (s64.2.2.2.2.2.2 = 15)) == x69) = true
                      refine itt H (fun hc79 H => ?_) (fun hc79 H => ?_)
                      · -- s64.2.2.2.2.2.2 = 0
                        refine region_k (fun K80 hK80 => ?_)
                        refine stq hf rfl rfl rfl (ex_move hf rfl) (fun a hf => ?_)
                        refine stq hf rfl rfl rfl (ex_eql hf rfl rfl) (fun a hf => ?_)
                        refine stq hf rfl rfl rfl (ex_move hf rfl) (fun a hf => ?_)
                        refine stq hf rfl rfl rfl (ex_neb Try.underlying4 hf rfl rfl) (fun a hf => ?_)
                        refine stq hf rfl rfl rfl (ex_move hf rfl) (fun a hf => ?_)
                        replace hf := hf.castB (t := 75) rfl (nbool_f hc78)
                        replace hf := hf.castB (t := 76) rfl (nbool_f hc78)
                        refine stq hf rfl rfl rfl (ex_move hf rfl) (fun a hf => ?_)
                        refine stq hf rfl rfl rfl (ex_neq hf rfl rfl) (fun a hf => ?_)
                        refine stq hf rfl rfl rfl (ex_move hf rfl) (fun a hf => ?_)
                        replace hf := hf.castB (t := 78) rfl (ndec_f hc79)
                        replace hf := hf.castB (t := 79) rfl (ndec_f hc79)
                        refine stepN hf rfl rfl rfl (fun a hf => ?_)
                        refine stepN hf rfl rfl rfl (fun a hf => ?_)
                        refine stq hf rfl rfl rfl (ex_pickF hf rfl rfl) (fun a hf => ?_)
                        refine stq hf rfl rfl rfl (ex_pickF hf rfl rfl) (fun a hf => ?_)
                        refine hK80 _ _ ?_
                        have e77 := some_eq H; subst e77
                        exact hJ77 _ _ ⟨hf.sub ⟨rfl, rfl, rfl, rfl, rfl, rfl, rfl, rfl, trivial⟩, hs⟩
                      · -- not s64.2.2.2.2.2.2 = 0
                        refine region_k (fun K81 hK81 => ?_)
                        refine stq hf rfl rfl rfl (ex_move hf rfl) (fun a hf => ?_)
                        refine stq hf rfl rfl rfl (ex_eql hf rfl rfl) (fun a hf => ?_)
                        refine stq hf rfl rfl rfl (ex_move hf rfl) (fun a hf => ?_)
                        refine stq hf rfl rfl rfl (ex_neb Try.underlying4 hf rfl rfl) (fun a hf => ?_)
                        refine stq hf rfl rfl rfl (ex_move hf rfl) (fun a hf => ?_)
                        replace hf := hf.castB (t := 75) rfl (nbool_f hc78)
                        replace hf := hf.castB (t := 76) rfl (nbool_f hc78)
                        refine stq hf rfl rfl rfl (ex_move hf rfl) (fun a hf => ?_)
                        refine stq hf rfl rfl rfl (ex_neq hf rfl rfl) (fun a hf => ?_)
                        refine stq hf rfl rfl rfl (ex_move hf rfl) (fun a hf => ?_)
                        replace hf := hf.castB (t := 78) rfl (ndec_t hc79)
                        replace hf := hf.castB (t := 79) rfl (ndec_t hc79)
                        refine stq hf rfl rfl rfl (ex_move hf rfl) (fun a hf => ?_)
                        refine stq hf rfl rfl rfl (ex_not hf rfl) (fun a hf => ?_)
                        refine stq hf rfl rfl rfl (ex_pickT hf rfl rfl) (fun a hf => ?_)
                        refine stq hf rfl rfl rfl (ex_pickF hf rfl rfl) (fun a hf => ?_)
                        refine hK81 _ _ ?_
                        have e77 := some_eq H; subst e77
                        exact hJ77 _ _ ⟨hf.sub ⟨rfl, rfl, rfl, rfl, rfl, rfl, rfl, rfl, trivial⟩, hs⟩
                    · -- not ((decide (s64.2.2.2.2.2.2 = 15)) == x69) = true
                      refine region_k (fun K82 hK82 => ?_)
                      refine stq hf rfl rfl rfl (ex_move hf rfl) (fun a hf => ?_)
                      refine stq hf rfl rfl rfl (ex_eql hf rfl rfl) (fun a hf => ?_)
                      refine stq hf rfl rfl rfl (ex_move hf rfl) (fun a hf => ?_)
                      refine stq hf rfl rfl rfl (ex_neb Try.underlying4 hf rfl rfl) (fun a hf => ?_)
                      refine stq hf rfl rfl rfl (ex_move hf rfl) (fun a hf => ?_)
                      replace hf := hf.castB (t := 75) rfl (nbool_t hc78)
                      replace hf := hf.castB (t := 76) rfl (nbool_t hc78)
                      refine stepN hf rfl rfl rfl (fun a hf => ?_)
                      refine stepN hf rfl rfl rfl (fun a hf => ?_)
                      refine stepN hf rfl rfl rfl (fun a hf => ?_)
                      refine stepN hf rfl rfl rfl (fun a hf => ?_)
                      refine stepN hf rfl rfl rfl (fun a hf => ?_)
                      refine stepN hf rfl rfl rfl (fun a hf => ?_)
                      refine stq hf rfl rfl rfl (ex_pickT hf rfl rfl) (fun a hf => ?_)
                      refine hK82 _ _ ?_
                      have e77 := some_eq H; subst e77
                      exact hJ77 _ _ ⟨hf.sub ⟨rfl, rfl, rfl, rfl, rfl, rfl, rfl, rfl, trivial⟩, hs⟩
                  · obtain ⟨hf, hs⟩ := hJ
                    replace H := HO77
                    clear HO77
                    refine itt H (fun hc83 H => ?_) (fun hc83 H => ?_)
                    · -- x77 = true
                      replace hf := hf.castB (t := 83) rfl hc83
                      refine cond_T hf rfl ?_
                      refine seq_reg (fun K84 hK84 => ?_)
                      refine stq hf rfl rfl rfl (ex_assign hf rfl) (fun a hf => ?_)
                      refine hK84 _ _ ?_
                      refine wp_ret ?_
                      refine hR76 _ _ ?_
                      refine hR59 _ _ ?_
                      have e55 := some_eq H; subst e55; replace H := el_rt HO55
                      refine hR55 _ _ ?_
                      refine hR48 _ _ ?_
                      refine hR35 _ _ ?_
                      have e33 := some_eq H; subst e33; replace H := el_rt HO33
                      refine hR33 _ _ ?_
                      have eR := some_eq H; subst eR
                      replace hs := hs.keep (.d (.d (.d (.d (.d (.d (.d (.d (.d (.d .nil))))))))))
                      exact ret1 Try.results5 hf rfl ⟨_, rfl, ⟨rfl, hs⟩⟩
                    · -- not x77 = true
                      replace hf := hf.castB (t := 83) rfl (bool_f hc83)
                      refine cond_F hf rfl ?_
                      refine wp_skip ?_
                      refine hN76 _ _ ?_
                      refine seq_reg (fun K85 hK85 => ?_)
                      refine stq hf rfl rfl rfl (ex_move hf rfl) (fun a hf => ?_)
                      refine hK85 _ _ ?_
                      refine itt H (fun hc86 H => ?_) (fun hc86 H => ?_)
                      · -- x69 = true
                        replace hf := hf.castB (t := 12) rfl hc86
                        replace hf := hf.castB (t := 84) rfl hc86
                        refine cond_T hf rfl ?_
                        refine seq_reg (fun K87 hK87 => ?_)
                        refine stq hf rfl rfl rfl (ex_move hf rfl) (fun a hf => ?_)
                        refine stq hf rfl rfl rfl (ex_add hf rfl rfl) (fun a hf => ?_)
                        refine stq hf rfl rfl rfl (ex_assign hf rfl) (fun a hf => ?_)
                        refine hK87 _ _ ?_
                        refine bnd H (fun s88 hs88 H => ?_)
                        refine seq_reg (fun K89 hK89 => ?_)
                        refine stq hf rfl rfl rfl (ex_move hf rfl) (fun a hf => ?_)
                        refine stepF hf rfl rfl rfl (ex_call cf_17 hf rfl) (iospace_Bus_Peek.calls k48 s64.2.2.1 s64.2.2.2.1 s64.2.2.2.2.1 s61.1 s64.1 s64.2.1 0 4 b3 v21 b22 v23 b24 v25 b26 v65 b66 v67 (hs.enter (.k (.k (.k (.k (.k (.k (.k (.k (.k (.k .nil))))))))))) (Sr.own hs (.k (.k (.k (.k (.k (.k (.k (.k (.k (.k .nil)))))))))) (i := 0) rfl (fun _ h => h) (fun _ h => h) (Sr.own hs (.k (.k (.k (.k (.k (.k (.k (.k (.k (.k .nil)))))))))) (i := 1) rfl osl_rsl (fun _ h => h.1) (Sr.own hs (.k (.k (.k (.k (.k (.k (.k (.k (.k (.k .nil)))))))))) (i := 2) rfl (fun _ h => h) (fun _ h => h) (Sr.own hs (.k (.k (.k (.k (.k (.k (.k (.k (.k (.k .nil)))))))))) (i := 3) rfl osl_rsl (fun _ h => h.1) (Sr.own hs (.k (.k (.k (.k (.k (.k (.k (.k (.k (.k .nil)))))))))) (i := 4) rfl (fun _ h => h) (fun _ h => h) (Sr.own hs (.k (.k (.k (.k (.k (.k (.k (.k (.k (.k .nil)))))))))) (i := 5) rfl osl_rsl (fun _ h => h.1) (Sr.own hs (.k (.k (.k (.k (.k (.k (.k (.k (.k (.k .nil)))))))))) (i := 6) rfl (fun _ h => h) (fun _ h => h) (Sr.own hs (.k (.k (.k (.k (.k (.k (.k (.k (.k (.k .nil)))))))))) (i := 7) rfl osl_rsl (fun _ h => h.1) (Sr.own hs (.k (.k (.k (.k (.k (.k (.k (.k (.k (.k .nil)))))))))) (i := 8) rfl (fun _ h => h) (fun _ h => h) (Sr.own hs (.k (.k (.k (.k (.k (.k (.k (.k (.k (.k .nil)))))))))) (i := 9) rfl osl_rsl (fun _ h => h.1) (Sr.nil _ _))))))))))) hs88) (fun v w hR a hf => ?_)
                        obtain ⟨rfl, hs'⟩ := hR
                        replace hs := hs.step (.k (.k (.k (.k (.k (.k (.k (.k (.k (.k .nil)))))))))) hs'
                        clear hs'
                        refine stq hf rfl rfl rfl (ex_move hf rfl) (fun a hf => ?_)
                        refine stq hf rfl rfl rfl (ex_extract hf rfl rfl) (fun a hf => ?_)
                        refine stq hf rfl rfl rfl (ex_extract hf rfl rfl) (fun a hf => ?_)
                        refine stq hf rfl rfl rfl (ex_assign hf rfl) (fun a hf => ?_)
                        refine stq hf rfl rfl rfl (ex_assign hf rfl) (fun a hf => ?_)
                        refine hK89 _ _ ?_
                        refine seq_reg (fun K90 hK90 => ?_)
                        refine stq hf rfl rfl rfl (ex_move hf rfl) (fun a hf => ?_)
                        refine stq hf rfl rfl rfl (ex_neq hf rfl rfl) (fun a hf => ?_)
                        refine hK90 _ _ ?_
                        refine itt H (fun hc91 H => ?_) (fun hc91 H => ?_)
                        · -- s88.1 = 0
                          replace hf := hf.castB (t := 93) rfl (ndec_f hc91)
                          refine cond_F hf rfl ?_
                          refine wp_skip ?_
                          refine hN59 _ _ ?_
                          have e55 := some_eq H; subst e55
                          exact hJ55 _ _ ⟨_, v65, b66, v67, rfl, hf.sub ⟨rfl, rfl, rfl, rfl, rfl, rfl, trivial⟩, hs⟩
                        · -- not s88.1 = 0
                          replace hf := hf.castB (t := 93) rfl (ndec_t hc91)
                          refine cond_T hf rfl ?_
                          refine seq_reg (fun K92 hK92 => ?_)
                          refine stq hf rfl rfl rfl (ex_assign hf rfl) (fun a hf => ?_)
                          refine hK92 _ _ ?_
                          refine wp_ret ?_
                          refine hR59 _ _ ?_
                          have e55 := some_eq H; subst e55; replace H := el_rt HO55
                          refine hR55 _ _ ?_
                          refine hR48 _ _ ?_
                          refine hR35 _ _ ?_
                          have e33 := some_eq H; subst e33; replace H := el_rt HO33
                          refine hR33 _ _ ?_
                          have eR := some_eq H; subst eR
                          replace hs := hs.keep (.d (.d (.d (.d (.d (.d (.d (.d (.d (.d .nil))))))))))
                          exact ret1 Try.results5 hf rfl ⟨_, rfl, ⟨rfl, hs⟩⟩
                      · -- not x69 = true
                        replace hf := hf.castB (t := 12) rfl (bool_f hc86)
                        replace hf := hf.castB (t := 84) rfl (bool_f hc86)
                        refine cond_F hf rfl ?_
                        refine wp_skip ?_
                        refine hN59 _ _ ?_
                        have e55 := some_eq H; subst e55
                        exact hJ55 _ _ ⟨_, v65, b66, v67, rfl, hf.sub ⟨rfl, rfl, rfl, rfl, rfl, rfl, trivial⟩, hs⟩
              · obtain ⟨x55s, v56, G57, v58, rfl, hf, hs⟩ := hJ
                replace H := el_go HO55
                clear HO55
                refine region_k (fun K93 hK93 => ?_)
                refine stq hf rfl rfl rfl (ex_move hf rfl) (fun a hf => ?_)
                refine stq hf rfl rfl rfl (ex_add hf rfl rfl) (fun a hf => ?_)
                refine stq hf rfl rfl rfl (ex_assign hf rfl) (fun a hf => ?_)
                refine hK93 _ _ ?_
                exact hL48 k48 _ _ (Nat.lt_succ_self _) ⟨x55s.1, x55s.2.1, x55s.2.2.1, x55s.2.2.2.1, x55s.2.2.2.2.1, x55s.2.2.2.2.2.1, x55s.2.2.2.2.2.2, (IntKind.i64.wrap (y46 + 1)), v56, G57, v58, hf.sub ⟨rfl, rfl, rfl, rfl, rfl, rfl, trivial⟩, hs, H⟩
            · -- not x50 = true
              replace hf := hf.castB (t := 35) rfl (bool_f hc54)
              refine cond_F hf rfl ?_
              refine wp_exit ?_
              refine hX49 0 _ _ ?_
              refine hX48 0 _ _ ?_
              refine hX35 _ _ ?_
              replace hs := hs.keep (.d (.d (.d (.d (.d (.d (.d (.d (.d (.d .nil))))))))))
              have e33 := some_eq H; subst e33
              exact hJ33 _ _ ⟨_, rfl, hf.sub trivial, hs⟩
    · obtain ⟨x33s, rfl, hf, hs⟩ := hJ
      replace H := el_go HO33
      clear HO33
      refine seq_reg (fun K94 hK94 => ?_)
      refine stq hf rfl rfl rfl (ex_assign hf rfl) (fun a hf => ?_)
      refine hK94 _ _ ?_
      refine wp_ret ?_
      have eR := some_eq H; subst eR
      exact ret1 Try.results5 hf rfl ⟨_, rfl, ⟨rfl, hs⟩⟩
  · -- not s15 = true
    replace hf := hf.castB (t := 16) rfl (bool_f hc17)
    replace hf := hf.castB (t := 17) rfl (nbool_t hc17)
    refine cond_T hf rfl ?_
    refine seq_reg (fun K95 hK95 => ?_)
    refine stq hf rfl rfl rfl (ex_assign hf rfl) (fun a hf => ?_)
    refine hK95 _ _ ?_
    refine wp_ret ?_
    refine hR14 _ _ ?_
    have eR := some_eq H; subst eR
    replace hs := hs.keep (.d (.d (.d (.d (.d (.d (.d (.d (.d (.d .nil))))))))))
    exact ret1 Try.results5 hf rfl ⟨_, rfl, ⟨rfl, hs⟩⟩

end Go.Proofs.Ytigadacjaglfeaa.X
