/- Each function of the machine comes to what its pure function says. -/
import Derived.Test.YtigadacjaglfeaaFc1
import Derived.Test.YtigadacjaglfeaaFc3
import Derived.Test.YtigadacjaglfeaaFcawake
import Derived.Test.YtigadacjaglfeaaFb
namespace Go.Proofs.Ytigadacjaglfeaa.X
open Go Go.RowKit Go.Sx
set_option linter.unusedVariables false

set_option maxRecDepth 100000 in
theorem law09_IospaceMappings.calls {M : Nat → Prop} {w0 : World} (k : Nat) (a0 : (List Op)) (v0 : Value) {r : Bool} (hs : St M w0 w0 []) (hr : Sr M w0 [rsl K_platformfwlaw09_Op v0 a0])
    (h : law09_IospaceMappings.f k a0 = some r) : Calls Try.prog 4 #[v0] w0 fun e w => ∃ v, e = .returned v ∧ (.bool r = v ∧ St M w0 w []) := by
  have H := (law09_IospaceMappings.f.eq_1 ..).symm.trans h
  clear h
  refine enter Try.func4 rfl Try.ntmps4 rfl (fun a hf => ?_)
  refine seq_reg (fun K1 hK1 => ?_)
  refine stq hf rfl rfl rfl (ex_assign hf rfl) (fun a hf => ?_)
  refine hK1 _ _ ?_
  refine bnd H (fun s2 hs2 H => ?_)
  refine seq_reg (fun K13 hK13 => ?_)
  refine stepF hf rfl rfl rfl (ex_call cf_8 hf rfl) (iospace_New.calls k (hs.enter .nil) (Sr.nil _ _) hs2) (fun v w hR a hf => ?_)
  obtain ⟨b3, v4, b5, v6, b7, v8, b9, v10, b11, v12, rfl, hs'⟩ := hR
  replace hs := hs.step .nil hs'
  clear hs'
  refine stq hf rfl rfl rfl (ex_assign hf rfl) (fun a hf => ?_)
  refine hK13 _ _ ?_
  refine seq_n (fun Q14 hN14 hR14 hX14 => ?_)
  refine bnd H (fun s15 hs15 H => ?_)
  refine seq_reg (fun K16 hK16 => ?_)
  refine stepF hf rfl rfl rfl (ex_call cf_9 hf rfl) (law09_awake.calls k (hs.enter (.k (.k (.k (.k (.k (.k (.k (.k (.k (.k .nil))))))))))) (Sr.nil _ _) hs15) (fun v w hR a hf => ?_)
  obtain ⟨rfl, hs'⟩ := hR
  replace hs := hs.step (.k (.k (.k (.k (.k (.k (.k (.k (.k (.k .nil)))))))))) hs'
  clear hs'
  refine stq hf rfl rfl rfl (ex_not hf rfl) (fun a hf => ?_)
  refine hK16 _ _ ?_
  refine itt H (fun hc17 H => ?_) (fun hc17 H => ?_)
  · -- s15 = true
    replace hf := hf.castB (t := 15) rfl hc17
    replace hf := hf.castB (t := 16) rfl (nbool_f hc17)
    refine cond_F hf rfl ?_
    refine wp_skip ?_
    refine hN14 _ _ ?_
    refine seq_reg (fun K19 hK19 => ?_)
    refine stepV hf rfl rfl rfl (er_allocS (S := [(List.map (Value.int .i64) (List.replicate 128 0), 128)]) hs ti_41 rfl (by simp [lens])) (fun v w hR a hf => ?_)
    obtain ⟨b18, rfl, hs⟩ := hR
    refine hK19 _ _ ?_
    refine bnd H (fun x20 H20 HO20 => ?_)
    clear H
    refine seq_cut (fun a w => ∃ (x20s : (List mapping) × (List mapping) × (List mapping) × (List Int)) (v21 : Value) (G22 : List (Nat × Nat)) (v23 : Value) (G24 : List (Nat × Nat)) (v25 : Value) (G26 : List (Nat × Nat)), x20 = .go x20s ∧ Fr a 92 [(3, .pointer (some ⟨b3, 0, none⟩)), (4, .pointer (some ⟨b18, 0, none⟩))] ∧ St M w0 w [bxs b3 71 [([v21], 1), ([v23], 1), ([v25], 1), (List.map Value.bool s2.2.2.2.1, 256), ([v10], 1), ([v12], 1)], osl K_ptr_mapping v21 (ids F_mapping G22), nds F_mapping G22 x20s.1, osl K_ptr_mapping v23 (ids F_mapping G24), nds F_mapping G24 x20s.2.1, osl K_ptr_mapping v25 (ids F_mapping G26), nds F_mapping G26 x20s.2.2.1, osl K_ptr_fault v10 (ids F_fault b11), nds F_fault b11 s2.2.2.2.2.1, osl K_api_Traced v12 s2.2.2.2.2.2, bxs b18 41 [(List.map (Value.int .i64) x20s.2.2.2, 128)]]) (fun Q20 hJ20 hR20 hX20 => ?_) (fun a w hJ => ?_)
    · replace H := H20
      refine seq_reg (fun K27 hK27 => ?_)
      refine stq hf rfl rfl rfl (ex_assign hf rfl) (fun a hf => ?_)
      refine hK27 _ _ ?_
      refine block_k (fun Q28 hN28 hR28 hX28 hY28 => ?_)
      refine loop_k (fun n a w => ∃ (y35 : (List mapping)) (y36 : (List mapping)) (y37 : (List mapping)) (y38 : (List Int)) (y39 : Int) (v29 : Value) (G30 : List (Nat × Nat)) (v31 : Value) (G32 : List (Nat × Nat)) (v33 : Value) (G34 : List (Nat × Nat)), Fr a 92 [(0, v0), (3, .pointer (some ⟨b3, 0, none⟩)), (4, .pointer (some ⟨b18, 0, none⟩)), (5, .int .i64 y39)] ∧ St M w0 w [bxs b3 71 [([v29], 1), ([v31], 1), ([v33], 1), (List.map Value.bool s2.2.2.2.1, 256), ([v10], 1), ([v12], 1)], osl K_ptr_mapping v29 (ids F_mapping G30), nds F_mapping G30 y35, osl K_ptr_mapping v31 (ids F_mapping G32), nds F_mapping G32 y36, osl K_ptr_mapping v33 (ids F_mapping G34), nds F_mapping G34 y37, osl K_ptr_fault v10 (ids F_fault b11), nds F_fault b11 s2.2.2.2.2.1, osl K_api_Traced v12 s2.2.2.2.2.2, bxs b18 41 [(List.map (Value.int .i64) y38, 128)]] ∧ law09_IospaceMappings.l1 n a0 s2 y35 y36 y37 y38 y39 = some x20) k ?_ (fun n41 a w hI Q41 hL41 hR41 hX41 => ?_)
      · -- at the start
        replace hs := hs.pick (.k (.k (.k (.k (.k (.k (.k (.k (.k (.k (.c .nil)))))))))))
        replace hs := hs.pick (.k (.k (.k (.k (.k (.k (.k (.k (.k (.k (.c .nil)))))))))))
        replace hs := hs.pick (.k (.k (.k (.k (.k (.k (.k (.k (.k (.k (.c .nil)))))))))))
        replace hs := hs.pick (.k (.k (.k (.k (.k (.k (.k (.k (.k (.k (.c .nil)))))))))))
        replace hs := hs.pick (.k (.k (.k (.k (.k (.k (.k (.k (.k (.k (.c .nil)))))))))))
        replace hs := hs.pick (.k (.k (.k (.k (.k (.k (.k (.k (.k (.k (.c .nil)))))))))))
        replace hs := hs.pick (.k (.k (.k (.k (.k (.k (.k (.k (.k (.k (.c .nil)))))))))))
        replace hs := hs.pick (.k (.k (.k (.k (.k (.k (.k (.k (.k (.k (.c .nil)))))))))))
        replace hs := hs.pick (.k (.k (.k (.k (.k (.k (.k (.k (.k (.k (.c .nil)))))))))))
        replace hs := hs.pick (.k (.k (.k (.k (.k (.k (.k (.k (.k (.k (.c .nil)))))))))))
        exact ⟨s2.1, s2.2.1, s2.2.2.1, (List.replicate 128 0), 0, v4, b5, v6, b7, v8, b9, hf.sub ⟨rfl, rfl, rfl, rfl, trivial⟩, hs, H⟩
      · obtain ⟨y35, y36, y37, y38, y39, v29, G30, v31, G32, v33, G34, hf, hs, H⟩ := hI
        cases n41 with
        | zero => exact absurd H (by rw [law09_IospaceMappings.l1.eq_1]; intro h; cases h)
        | succ k41 =>
          replace H := (law09_IospaceMappings.l1.eq_2 ..).symm.trans H
          refine seq_n (fun Q42 hN42 hR42 hX42 => ?_)
          refine bnd H (fun x43 H43 HO43 => ?_)
          clear H
          refine seq_cut (fun a w => Fr a 92 [(0, v0), (3, .pointer (some ⟨b3, 0, none⟩)), (4, .pointer (some ⟨b18, 0, none⟩)), (5, .int .i64 y39), (24, .bool x43)] ∧ St M w0 w [bxs b3 71 [([v29], 1), ([v31], 1), ([v33], 1), (List.map Value.bool s2.2.2.2.1, 256), ([v10], 1), ([v12], 1)], osl K_ptr_mapping v29 (ids F_mapping G30), nds F_mapping G30 y35, osl K_ptr_mapping v31 (ids F_mapping G32), nds F_mapping G32 y36, osl K_ptr_mapping v33 (ids F_mapping G34), nds F_mapping G34 y37, osl K_ptr_fault v10 (ids F_fault b11), nds F_fault b11 s2.2.2.2.2.1, osl K_api_Traced v12 s2.2.2.2.2.2, bxs b18 41 [(List.map (Value.int .i64) y38, 128)]]) (fun Q43 hJ43 hR43 hX43 => ?_) (fun a w hJ => ?_)
          · replace H := H43
            refine itt H (fun hc44 H => ?_) (fun hc44 H => ?_)
            · -- y39 < (a0.length : Int)
              refine region_k (fun K45 hK45 => ?_)
              refine stq hf rfl rfl rfl (ex_move hf rfl) (fun a hf => ?_)
              refine stq hf rfl rfl rfl (ex_move hf rfl) (fun a hf => ?_)
              refine stq hf rfl rfl rfl (ex_lenS Try.underlying40 (rsl_isSl (hr.now hs (i := 0) rfl)) hf rfl) (fun a hf => ?_)
              refine stq hf rfl rfl rfl (ex_lss hf rfl rfl) (fun a hf => ?_)
              refine stq hf rfl rfl rfl (ex_move hf rfl) (fun a hf => ?_)
              replace hf := hf.castB (t := 20) rfl (dec_t hc44)
              replace hf := hf.castB (t := 21) rfl (dec_t hc44)
              refine stq hf rfl rfl rfl (ex_move hf rfl) (fun a hf => ?_)
              refine stq hf rfl rfl rfl (ex_lss hf rfl rfl) (fun a hf => ?_)
              refine stq hf rfl rfl rfl (ex_pickT hf rfl rfl) (fun a hf => ?_)
              refine hK45 _ _ ?_
              have e43 := some_eq H; subst e43
              exact hJ43 _ _ ⟨hf.sub ⟨rfl, rfl, rfl, rfl, rfl, trivial⟩, hs⟩
            · -- not y39 < (a0.length : Int)
              refine region_k (fun K46 hK46 => ?_)
              refine stq hf rfl rfl rfl (ex_move hf rfl) (fun a hf => ?_)
              refine stq hf rfl rfl rfl (ex_move hf rfl) (fun a hf => ?_)
              refine stq hf rfl rfl rfl (ex_lenS Try.underlying40 (rsl_isSl (hr.now hs (i := 0) rfl)) hf rfl) (fun a hf => ?_)
              refine stq hf rfl rfl rfl (ex_lss hf rfl rfl) (fun a hf => ?_)
              refine stq hf rfl rfl rfl (ex_move hf rfl) (fun a hf => ?_)
              replace hf := hf.castB (t := 20) rfl (dec_f hc44)
              replace hf := hf.castB (t := 21) rfl (dec_f hc44)
              refine stepN hf rfl rfl rfl (fun a hf => ?_)
              refine stepN hf rfl rfl rfl (fun a hf => ?_)
              refine stq hf rfl rfl rfl (ex_pickF hf rfl rfl) (fun a hf => ?_)
              refine hK46 _ _ ?_
              have e43 := some_eq H; subst e43
              exact hJ43 _ _ ⟨hf.sub ⟨rfl, rfl, rfl, rfl, rfl, trivial⟩, hs⟩
          · obtain ⟨hf, hs⟩ := hJ
            replace H := HO43
            clear HO43
            refine itt H (fun hc47 H => ?_) (fun hc47 H => ?_)
            · -- x43 = true
              replace hf := hf.castB (t := 24) rfl hc47
              refine cond_T hf rfl ?_
              refine wp_skip ?_
              refine hN42 _ _ ?_
              refine bnd H (fun x48 H48 HO48 => ?_)
              clear H
              refine seq_cut (fun a w => ∃ (x48s : (List mapping) × (List mapping) × (List mapping) × (List Int)) (v49 : Value) (G50 : List (Nat × Nat)) (v51 : Value) (G52 : List (Nat × Nat)) (v53 : Value) (G54 : List (Nat × Nat)), x48 = .go x48s ∧ Fr a 92 [(0, v0), (3, .pointer (some ⟨b3, 0, none⟩)), (4, .pointer (some ⟨b18, 0, none⟩)), (5, .int .i64 y39)] ∧ St M w0 w [bxs b3 71 [([v49], 1), ([v51], 1), ([v53], 1), (List.map Value.bool s2.2.2.2.1, 256), ([v10], 1), ([v12], 1)], osl K_ptr_mapping v49 (ids F_mapping G50), nds F_mapping G50 x48s.1, osl K_ptr_mapping v51 (ids F_mapping G52), nds F_mapping G52 x48s.2.1, osl K_ptr_mapping v53 (ids F_mapping G54), nds F_mapping G54 x48s.2.2.1, osl K_ptr_fault v10 (ids F_fault b11), nds F_fault b11 s2.2.2.2.2.1, osl K_api_Traced v12 s2.2.2.2.2.2, bxs b18 41 [(List.map (Value.int .i64) x48s.2.2.2, 128)]]) (fun Q48 hJ48 hR48 hX48 => ?_) (fun a w hJ => ?_)
              · replace H := H48
                refine block_k (fun Q55 hN55 hR55 hX55 hY55 => ?_)
                refine ck_some H (fun hc56 H => ?_)
                refine seq_reg (fun K58 hK58 => ?_)
                refine stq hf rfl rfl rfl (ex_move hf rfl) (fun a hf => ?_)
                refine stq hf rfl rfl rfl (ex_move hf rfl) (fun a hf => ?_)
                refine stq hf rfl rfl rfl (ex_indexAddr sa_40 (rsl_isSl (hr.now hs (i := 0) rfl)) hc56.1 hc56.2 hf rfl rfl) (fun a hf => ?_)
                refine stq hf rfl rfl rfl (ex_loadA (cs := [.int .i64 ((gd Op.zero a0 y39).Kind), .int .i64 ((gd Op.zero a0 y39).Space), .int .u64 ((gd Op.zero a0 y39).Addr), .int .u64 ((gd Op.zero a0 y39).Len), .int .i64 ((gd Op.zero a0 y39).Width), .int .i64 ((gd Op.zero a0 y39).Owner), .bool ((gd Op.zero a0 y39).Write), .int .u64 ((gd Op.zero a0 y39).Value), .bool ((gd Op.zero a0 y39).Raw)]) ag_43 hf rfl (el_cells (K := K_platformfwlaw09_Op) (rsl_rd (hr.now hs (i := 0) rfl)) hc56.1 hc56.2 rfl)) (fun a hf => ?_)
                refine stepV hf rfl rfl rfl (er_alloc hs ti_43 (cs := [.int .i64 0, .int .i64 0, .int .u64 0, .int .u64 0, .int .i64 0, .int .i64 0, .bool false, .int .u64 0, .bool false]) rfl) (fun v w hR a hf => ?_)
                obtain ⟨b57, rfl, hs⟩ := hR
                refine stepS hf rfl rfl (er_storeAB (vs := [.int .i64 ((gd Op.zero a0 y39).Kind), .int .i64 ((gd Op.zero a0 y39).Space), .int .u64 ((gd Op.zero a0 y39).Addr), .int .u64 ((gd Op.zero a0 y39).Len), .int .i64 ((gd Op.zero a0 y39).Width), .int .i64 ((gd Op.zero a0 y39).Owner), .bool ((gd Op.zero a0 y39).Write), .int .u64 ((gd Op.zero a0 y39).Value), .bool ((gd Op.zero a0 y39).Raw)]) (cs' := [.int .i64 ((gd Op.zero a0 y39).Kind), .int .i64 ((gd Op.zero a0 y39).Space), .int .u64 ((gd Op.zero a0 y39).Addr), .int .u64 ((gd Op.zero a0 y39).Len), .int .i64 ((gd Op.zero a0 y39).Width), .int .i64 ((gd Op.zero a0 y39).Owner), .bool ((gd Op.zero a0 y39).Write), .int .u64 ((gd Op.zero a0 y39).Value), .bool ((gd Op.zero a0 y39).Raw)]) hs (.c (.k (.k (.k (.k (.k (.k (.k (.k (.k (.k (.k .nil)))))))))))) sz_43 hf rfl rfl (all1 rfl (all1 rfl (all1 rfl (all1 rfl (all1 rfl (all1 rfl (all1 rfl (all1 rfl (all1 rfl (all1_nil)))))))))) rfl rfl) (fun w hs => ?_)
                refine hK58 _ _ ?_
                refine seq_n (fun Q59 hN59 hR59 hX59 => ?_)
                refine region_d fol 7 [(0, v0), (3, .pointer (some ⟨b3, 0, none⟩)), (4, .pointer (some ⟨b18, 0, none⟩)), (5, .int .i64 y39), (6, .pointer (some ⟨b57, 0, none⟩))] [(0, .pointer (some ⟨b57, 2, none⟩)), (1, .int .u64 ((gd Op.zero a0 y39).Addr)), (2, .int .u64 (Int.tmod ((gd Op.zero a0 y39).Addr) 100)), (3, .pointer (some ⟨b57, 3, none⟩)), (4, .int .u64 ((gd Op.zero a0 y39).Len)), (5, .int .u64 (Int.tmod ((gd Op.zero a0 y39).Len) 28)), (6, .int .u64 (Int.tmod ((gd Op.zero a0 y39).Addr) 100))] [] (fun w => (bx b57 43 [.int .i64 ((gd Op.zero a0 y39).Kind), .int .i64 ((gd Op.zero a0 y39).Space), .int .u64 ((gd Op.zero a0 y39).Addr), .int .u64 ((gd Op.zero a0 y39).Len), .int .i64 ((gd Op.zero a0 y39).Width), .int .i64 ((gd Op.zero a0 y39).Owner), .bool ((gd Op.zero a0 y39).Write), .int .u64 ((gd Op.zero a0 y39).Value), .bool ((gd Op.zero a0 y39).Raw)]).ok w ∧ True) (fun w => St M w0 w [bx b57 43 [.int .i64 ((gd Op.zero a0 y39).Kind), .int .i64 ((gd Op.zero a0 y39).Space), .int .u64 ((gd Op.zero a0 y39).Addr), .int .u64 ((gd Op.zero a0 y39).Len), .int .i64 ((gd Op.zero a0 y39).Width), .int .i64 ((gd Op.zero a0 y39).Owner), .bool ((gd Op.zero a0 y39).Write), .int .u64 ((gd Op.zero a0 y39).Value), .bool ((gd Op.zero a0 y39).Raw)], bxs b3 71 [([v29], 1), ([v31], 1), ([v33], 1), (List.map Value.bool s2.2.2.2.1, 256), ([v10], 1), ([v12], 1)], osl K_ptr_mapping v29 (ids F_mapping G30), nds F_mapping G30 y35, osl K_ptr_mapping v31 (ids F_mapping G32), nds F_mapping G32 y36, osl K_ptr_mapping v33 (ids F_mapping G34), nds F_mapping G34 y37, osl K_ptr_fault v10 (ids F_fault b11), nds F_fault b11 s2.2.2.2.2.1, osl K_api_Traced v12 s2.2.2.2.2.2, bxs b18 41 [(List.map (Value.int .i64) y38, 128)]]) hf ⟨rfl, rfl, rfl, rfl, rfl, trivial⟩ (by kernel_rfl) (by kernel_rfl) rfl (by decide) ⟨hs.drew.get (i := 0) rfl, trivial⟩ hs.drew (.cons (⟨_, _, rfl, rfl, rfl, rfl, fun a w hR hf => .inl ⟨wanted_yes hf rfl, ex_fieldAddrB fa_43_2 rfl hf rfl⟩⟩) (.cons (⟨_, _, rfl, rfl, rfl, rfl, fun a w hR hf => .inl ⟨wanted_yes hf rfl, ex_load sc_22 hf rfl (bx_cell (hR.1) _ rfl)⟩⟩) (.cons (⟨_, _, rfl, rfl, rfl, rfl, fun a w hR hf => .inl ⟨wanted_yes hf rfl, ex_rem hf rfl rfl (by decide)⟩⟩) (.cons (⟨_, _, rfl, rfl, rfl, rfl, fun a w hR hf => .inl ⟨wanted_yes hf rfl, ex_fieldAddrB fa_43_3 rfl hf rfl⟩⟩) (.cons (⟨_, _, rfl, rfl, rfl, rfl, fun a w hR hf => .inl ⟨wanted_yes hf rfl, ex_load sc_22 hf rfl (bx_cell (hR.1) _ rfl)⟩⟩) (.cons (⟨_, _, rfl, rfl, rfl, rfl, fun a w hR hf => .inl ⟨wanted_yes hf rfl, ex_rem hf rfl rfl (by decide)⟩⟩) (.cons (⟨_, _, rfl, rfl, rfl, rfl, fun a w hR hf => .inl ⟨wanted_yes hf rfl, ex_assign hf rfl⟩⟩) (.nil)))))))) (fun K60 hK60 => ?_)
                refine RW.zero (by kernel_rfl) (by kernel_rfl) [(0, v0), (3, .pointer (some ⟨b3, 0, none⟩)), (4, .pointer (some ⟨b18, 0, none⟩)), (5, .int .i64 y39), (7, .int .u64 (Int.tmod ((gd Op.zero a0 y39).Addr) 100)), (36, .int .u64 (Int.tmod ((gd Op.zero a0 y39).Len) 28))] ⟨rfl, rfl, rfl, rfl, rfl, rfl, trivial⟩ (fun a w hR hs hf => ?_)
                refine stq hf rfl rfl rfl (ex_assign hf rfl) (fun a hf => ?_)
                refine hK60 _ _ ?_
                refine hN59 _ _ ?_
                refine seq_reg (fun K61 hK61 => ?_)
                refine stq hf rfl rfl rfl (ex_move hf rfl) (fun a hf => ?_)
                refine stq hf rfl rfl rfl (ex_gtr hf rfl rfl) (fun a hf => ?_)
                refine stq hf rfl rfl rfl (ex_assign hf rfl) (fun a hf => ?_)
                refine hK61 _ _ ?_
                refine bnd H (fun x62 H62 HO62 => ?_)
                clear H
                refine seq_cut (fun a w => Fr a 92 [(0, v0), (3, .pointer (some ⟨b3, 0, none⟩)), (4, .pointer (some ⟨b18, 0, none⟩)), (5, .int .i64 y39), (7, .int .u64 (Int.tmod ((gd Op.zero a0 y39).Addr) 100)), (8, .int .u64 (Int.tmod ((gd Op.zero a0 y39).Len) 28)), (9, .bool x62)] ∧ St M w0 w [bxs b3 71 [([v29], 1), ([v31], 1), ([v33], 1), (List.map Value.bool s2.2.2.2.1, 256), ([v10], 1), ([v12], 1)], osl K_ptr_mapping v29 (ids F_mapping G30), nds F_mapping G30 y35, osl K_ptr_mapping v31 (ids F_mapping G32), nds F_mapping G32 y36, osl K_ptr_mapping v33 (ids F_mapping G34), nds F_mapping G34 y37, osl K_ptr_fault v10 (ids F_fault b11), nds F_fault b11 s2.2.2.2.2.1, osl K_api_Traced v12 s2.2.2.2.2.2, bxs b18 41 [(List.map (Value.int .i64) y38, 128)]]) (fun Q62 hJ62 hR62 hX62 => ?_) (fun a w hJ => ?_)
                · replace H := H62
                  refine seq_reg (fun K63 hK63 => ?_)
                  refine stq hf rfl rfl rfl (ex_move hf rfl) (fun a hf => ?_)
                  refine stq hf rfl rfl rfl (ex_assign hf rfl) (fun a hf => ?_)
                  refine hK63 _ _ ?_
                  refine block_k (fun Q64 hN64 hR64 hX64 hY64 => ?_)
                  refine loop_k (fun n a w => ∃ (y65 : Bool) (y66 : Int), Fr a 92 [(0, v0), (3, .pointer (some ⟨b3, 0, none⟩)), (4, .pointer (some ⟨b18, 0, none⟩)), (5, .int .i64 y39), (7, .int .u64 (Int.tmod ((gd Op.zero a0 y39).Addr) 100)), (8, .int .u64 (Int.tmod ((gd Op.zero a0 y39).Len) 28)), (9, .bool y65), (10, .int .u64 y66)] ∧ St M w0 w [bxs b3 71 [([v29], 1), ([v31], 1), ([v33], 1), (List.map Value.bool s2.2.2.2.1, 256), ([v10], 1), ([v12], 1)], osl K_ptr_mapping v29 (ids F_mapping G30), nds F_mapping G30 y35, osl K_ptr_mapping v31 (ids F_mapping G32), nds F_mapping G32 y36, osl K_ptr_mapping v33 (ids F_mapping G34), nds F_mapping G34 y37, osl K_ptr_fault v10 (ids F_fault b11), nds F_fault b11 s2.2.2.2.2.1, osl K_api_Traced v12 s2.2.2.2.2.2, bxs b18 41 [(List.map (Value.int .i64) y38, 128)]] ∧ law09_IospaceMappings.l2 n a0 y39 y38 y65 y66 = some x62) k41 ?_ (fun n68 a w hI Q68 hL68 hR68 hX68 => ?_)
                  · -- at the start
                    replace hs := hs.keep (.d (.k (.k (.k (.k (.k (.k (.k (.k (.k (.k (.k .nil))))))))))))
                    exact ⟨(decide (0 < (Int.tmod ((gd Op.zero a0 y39).Len) 28))), (Int.tmod ((gd Op.zero a0 y39).Addr) 100), hf.sub ⟨rfl, rfl, rfl, rfl, rfl, rfl, rfl, rfl, trivial⟩, hs, H⟩
                  · obtain ⟨y65, y66, hf, hs, H⟩ := hI
                    cases n68 with
                    | zero => exact absurd H (by rw [law09_IospaceMappings.l2.eq_1]; intro h; cases h)
                    | succ k68 =>
                      replace H := (law09_IospaceMappings.l2.eq_2 ..).symm.trans H
                      refine seq_n (fun Q69 hN69 hR69 hX69 => ?_)
                      refine seq_reg (fun K70 hK70 => ?_)
                      refine stq hf rfl rfl rfl (ex_move hf rfl) (fun a hf => ?_)
                      refine stq hf rfl rfl rfl (ex_move hf rfl) (fun a hf => ?_)
                      refine stq hf rfl rfl rfl (ex_move hf rfl) (fun a hf => ?_)
                      refine stq hf rfl rfl rfl (ex_add hf rfl rfl) (fun a hf => ?_)
                      refine stq hf rfl rfl rfl (ex_lss hf rfl rfl) (fun a hf => ?_)
                      refine hK70 _ _ ?_
                      refine itt H (fun hc71 H => ?_) (fun hc71 H => ?_)
                      · -- y66 < (IntKind.u64.wrap ((Int.tmod ((gd Op.zero a0 y39).Addr
                        replace hf := hf.castB (t := 44) rfl (dec_t hc71)
                        refine cond_T hf rfl ?_
                        refine wp_skip ?_
                        refine hN69 _ _ ?_
                        refine bnd H (fun x72 H72 HO72 => ?_)
                        clear H
                        refine seq_cut (fun a w => Fr a 92 [(0, v0), (3, .pointer (some ⟨b3, 0, none⟩)), (4, .pointer (some ⟨b18, 0, none⟩)), (5, .int .i64 y39), (7, .int .u64 (Int.tmod ((gd Op.zero a0 y39).Addr) 100)), (8, .int .u64 (Int.tmod ((gd Op.zero a0 y39).Len) 28)), (9, .bool x72), (10, .int .u64 y66)] ∧ St M w0 w [bxs b3 71 [([v29], 1), ([v31], 1), ([v33], 1), (List.map Value.bool s2.2.2.2.1, 256), ([v10], 1), ([v12], 1)], osl K_ptr_mapping v29 (ids F_mapping G30), nds F_mapping G30 y35, osl K_ptr_mapping v31 (ids F_mapping G32), nds F_mapping G32 y36, osl K_ptr_mapping v33 (ids F_mapping G34), nds F_mapping G34 y37, osl K_ptr_fault v10 (ids F_fault b11), nds F_fault b11 s2.2.2.2.2.1, osl K_api_Traced v12 s2.2.2.2.2.2, bxs b18 41 [(List.map (Value.int .i64) y38, 128)]]) (fun Q72 hJ72 hR72 hX72 => ?_) (fun a w hJ => ?_)
                        · replace H := H72
                          refine block_k (fun Q73 hN73 hR73 hX73 hY73 => ?_)
                          refine itt H (fun hc74 H => ?_) (fun hc74 H => ?_)
                          · -- y65 = true
                            refine ck_some H (fun hc75 H => ?_)
                            refine region_k (fun K76 hK76 => ?_)
                            refine stq hf rfl rfl rfl (ex_move hf rfl) (fun a hf => ?_)
                            refine stq hf rfl rfl rfl (ex_move hf rfl) (fun a hf => ?_)
                            replace hf := hf.castB (t := 9) rfl hc74
                            replace hf := hf.castB (t := 47) rfl hc74
                            replace hf := hf.castB (t := 48) rfl hc74
                            refine stq hf rfl rfl rfl (ex_move hf rfl) (fun a hf => ?_)
                            refine stq hf rfl rfl rfl (ex_indexAddrA ia_41 rfl hc75.1 hc75.2 hf rfl rfl) (fun a hf => ?_)
                            refine stq hf rfl rfl rfl (ex_load sc_3 hf rfl (sb_cell (f := (Value.int .i64)) (xs := y38) (i := 0) (z := 0) (hs.get (i := 10) rfl) rfl rfl hc75.1 hc75.2)) (fun a hf => ?_)
                            refine stq hf rfl rfl rfl (ex_eql hf rfl rfl) (fun a hf => ?_)
                            refine stq hf rfl rfl rfl (ex_pickT hf rfl rfl) (fun a hf => ?_)
                            refine stq hf rfl rfl rfl (ex_assign hf rfl) (fun a hf => ?_)
                            refine hK76 _ _ ?_
                            refine hN73 _ _ ?_
                            have e72 := some_eq H; subst e72
                            exact hJ72 _ _ ⟨hf.sub ⟨rfl, rfl, rfl, rfl, rfl, rfl, rfl, rfl, trivial⟩, hs⟩
                          · -- not y65 = true
                            refine region_k (fun K77 hK77 => ?_)
                            refine stq hf rfl rfl rfl (ex_move hf rfl) (fun a hf => ?_)
                            refine stq hf rfl rfl rfl (ex_move hf rfl) (fun a hf => ?_)
                            replace hf := hf.castB (t := 9) rfl (bool_f hc74)
                            replace hf := hf.castB (t := 47) rfl (bool_f hc74)
                            replace hf := hf.castB (t := 48) rfl (bool_f hc74)
                            refine stepN hf rfl rfl rfl (fun a hf => ?_)
                            refine stepN hf rfl rfl rfl (fun a hf => ?_)
                            refine stepN hf rfl rfl rfl (fun a hf => ?_)
                            refine stepN hf rfl rfl rfl (fun a hf => ?_)
                            refine stq hf rfl rfl rfl (ex_pickF hf rfl rfl) (fun a hf => ?_)
                            refine stq hf rfl rfl rfl (ex_assign hf rfl) (fun a hf => ?_)
                            refine hK77 _ _ ?_
                            refine hN73 _ _ ?_
                            have e72 := some_eq H; subst e72
                            exact hJ72 _ _ ⟨hf.sub ⟨rfl, rfl, rfl, rfl, rfl, rfl, rfl, rfl, trivial⟩, hs⟩
                        · obtain ⟨hf, hs⟩ := hJ
                          replace H := HO72
                          clear HO72
                          refine region_k (fun K78 hK78 => ?_)
                          refine stq hf rfl rfl rfl (ex_move hf rfl) (fun a hf => ?_)
                          refine stq hf rfl rfl rfl (ex_add hf rfl rfl) (fun a hf => ?_)
                          refine stq hf rfl rfl rfl (ex_assign hf rfl) (fun a hf => ?_)
                          refine hK78 _ _ ?_
                          exact hL68 k68 _ _ (Nat.lt_succ_self _) ⟨x72, (IntKind.u64.wrap (y66 + 1)), hf.sub ⟨rfl, rfl, rfl, rfl, rfl, rfl, rfl, rfl, trivial⟩, hs, H⟩
                      · -- not y66 < (IntKind.u64.wrap ((Int.tmod ((gd Op.zero a0 y39).Addr
                        replace hf := hf.castB (t := 44) rfl (dec_f hc71)
                        refine cond_F hf rfl ?_
                        refine wp_exit ?_
                        refine hX69 2 _ _ ?_
                        refine hX68 2 _ _ ?_
                        refine hX64 _ _ ?_
                        have e62 := some_eq H; subst e62
                        exact hJ62 _ _ ⟨hf.sub ⟨rfl, rfl, rfl, rfl, rfl, rfl, rfl, trivial⟩, hs⟩
                · obtain ⟨hf, hs⟩ := hJ
                  replace H := HO62
                  clear HO62
                  refine bnd H (fun s79 hs79 H => ?_)
                  refine seq_reg (fun K86 hK86 => ?_)
                  refine stq hf rfl rfl rfl (ex_move hf rfl) (fun a hf => ?_)
                  refine stq hf rfl rfl rfl (ex_move hf rfl) (fun a hf => ?_)
                  refine stq hf rfl rfl rfl (ex_move hf rfl) (fun a hf => ?_)
                  refine stq hf rfl rfl rfl (ex_build (cs := [.int .u64 (Int.tmod ((gd Op.zero a0 y39).Addr) 100), .int .u64 (Int.tmod ((gd Op.zero a0 y39).Len) 28)]) bt_32 hf rfl (.cons rfl (.cons rfl .nil)) rfl) (fun a hf => ?_)
                  refine stq hf rfl rfl rfl (ex_move hf rfl) (fun a hf => ?_)
                  refine stepF hf rfl rfl rfl (ex_call cf_11 hf rfl) (iospace_Bus_Map.calls k41 y35 y36 y37 s2.2.2.2.1 s2.2.2.2.2.1 s2.2.2.2.2.2 1 (⟨(Int.tmod ((gd Op.zero a0 y39).Addr) 100), (Int.tmod ((gd Op.zero a0 y39).Len) 28)⟩ : Range) y39 b3 v29 G30 v31 G32 v33 G34 v10 b11 v12 (hs.enter (.c (.c (.c (.c (.c (.c (.c (.c (.c (.c (.k .nil)))))))))))) (Sr.nil _ _) hs79) (fun v w hR a hf => ?_)
                  obtain ⟨v80, b81, v82, b83, v84, b85, rfl, hs'⟩ := hR
                  replace hs := hs.step (.c (.c (.c (.c (.c (.c (.c (.c (.c (.c (.k .nil))))))))))) hs'
                  clear hs'
                  refine stq hf rfl rfl rfl (ex_assign hf rfl) (fun a hf => ?_)
                  refine hK86 _ _ ?_
                  refine seq_n (fun Q87 hN87 hR87 hX87 => ?_)
                  refine seq_reg (fun K88 hK88 => ?_)
                  refine stq hf rfl rfl rfl (ex_move hf rfl) (fun a hf => ?_)
                  refine stq hf rfl rfl rfl (ex_eql hf rfl rfl) (fun a hf => ?_)
                  refine stq hf rfl rfl rfl (ex_move hf rfl) (fun a hf => ?_)
                  refine stq hf rfl rfl rfl (ex_neb Try.underlying4 hf rfl rfl) (fun a hf => ?_)
                  refine hK88 _ _ ?_
                  refine itt H (fun hc89 H => ?_) (fun hc89 H => ?_)
                  · -- ((decide (s79.2.2.2 = 0)) == x62) = true
                    replace hf := hf.castB (t := 63) rfl (nbool_f hc89)
                    refine cond_F hf rfl ?_
                    refine wp_skip ?_
                    refine hN87 _ _ ?_
                    refine seq_reg (fun K90 hK90 => ?_)
                    refine stq hf rfl rfl rfl (ex_move hf rfl) (fun a hf => ?_)
                    refine stq hf rfl rfl rfl (ex_assign hf rfl) (fun a hf => ?_)
                    refine hK90 _ _ ?_
                    refine block_k (fun Q91 hN91 hR91 hX91 hY91 => ?_)
                    refine loop_k (fun n a w => ∃ (y92 : (List Int)) (y93 : Bool) (y94 : Int), Fr a 92 [(0, v0), (3, .pointer (some ⟨b3, 0, none⟩)), (4, .pointer (some ⟨b18, 0, none⟩)), (5, .int .i64 y39), (7, .int .u64 (Int.tmod ((gd Op.zero a0 y39).Addr) 100)), (8, .int .u64 (Int.tmod ((gd Op.zero a0 y39).Len) 28)), (9, .bool y93), (12, .int .u64 y94)] ∧ St M w0 w [bxs b3 71 [([v80], 1), ([v82], 1), ([v84], 1), (List.map Value.bool s2.2.2.2.1, 256), ([v10], 1), ([v12], 1)], osl K_ptr_mapping v80 (ids F_mapping b81), nds F_mapping b81 s79.1, osl K_ptr_mapping v82 (ids F_mapping b83), nds F_mapping b83 s79.2.1, osl K_ptr_mapping v84 (ids F_mapping b85), nds F_mapping b85 s79.2.2.1, osl K_ptr_fault v10 (ids F_fault b11), nds F_fault b11 s2.2.2.2.2.1, osl K_api_Traced v12 s2.2.2.2.2.2, bxs b18 41 [(List.map (Value.int .i64) y92, 128)]] ∧ law09_IospaceMappings.l3 n a0 y39 s79 y92 y93 y94 = some x48) k41 ?_ (fun n96 a w hI Q96 hL96 hR96 hX96 => ?_)
                    · -- at the start
                      exact ⟨y38, x62, (Int.tmod ((gd Op.zero a0 y39).Addr) 100), hf.sub ⟨rfl, rfl, rfl, rfl, rfl, rfl, rfl, rfl, trivial⟩, hs, H⟩
                    · obtain ⟨y92, y93, y94, hf, hs, H⟩ := hI
                      cases n96 with
                      | zero => exact absurd H (by rw [law09_IospaceMappings.l3.eq_1]; intro h; cases h)
                      | succ k96 =>
                        replace H := (law09_IospaceMappings.l3.eq_2 ..).symm.trans H
                        refine seq_n (fun Q97 hN97 hR97 hX97 => ?_)
                        refine bnd H (fun x98 H98 HO98 => ?_)
                        clear H
                        refine seq_cut (fun a w => Fr a 92 [(0, v0), (3, .pointer (some ⟨b3, 0, none⟩)), (4, .pointer (some ⟨b18, 0, none⟩)), (5, .int .i64 y39), (7, .int .u64 (Int.tmod ((gd Op.zero a0 y39).Addr) 100)), (8, .int .u64 (Int.tmod ((gd Op.zero a0 y39).Len) 28)), (9, .bool x98.1), (12, .int .u64 y94), (72, .bool x98.2)] ∧ St M w0 w [bxs b3 71 [([v80], 1), ([v82], 1), ([v84], 1), (List.map Value.bool s2.2.2.2.1, 256), ([v10], 1), ([v12], 1)], osl K_ptr_mapping v80 (ids F_mapping b81), nds F_mapping b81 s79.1, osl K_ptr_mapping v82 (ids F_mapping b83), nds F_mapping b83 s79.2.1, osl K_ptr_mapping v84 (ids F_mapping b85), nds F_mapping b85 s79.2.2.1, osl K_ptr_fault v10 (ids F_fault b11), nds F_fault b11 s2.2.2.2.2.1, osl K_api_Traced v12 s2.2.2.2.2.2, bxs b18 41 [(List.map (Value.int .i64) y92, 128)]]) (fun Q98 hJ98 hR98 hX98 => ?_) (fun a w hJ => ?_)
                        · replace H := H98
                          refine itt H (fun hc99 H => ?_) (fun hc99 H => ?_)
                          · -- y93 = true
                            refine region_k (fun K100 hK100 => ?_)
                            refine stq hf rfl rfl rfl (ex_move hf rfl) (fun a hf => ?_)
                            refine stq hf rfl rfl rfl (ex_move hf rfl) (fun a hf => ?_)
                            replace hf := hf.castB (t := 9) rfl hc99
                            replace hf := hf.castB (t := 65) rfl hc99
                            replace hf := hf.castB (t := 66) rfl hc99
                            refine stq hf rfl rfl rfl (ex_move hf rfl) (fun a hf => ?_)
                            refine stq hf rfl rfl rfl (ex_move hf rfl) (fun a hf => ?_)
                            refine stq hf rfl rfl rfl (ex_move hf rfl) (fun a hf => ?_)
                            refine stq hf rfl rfl rfl (ex_add hf rfl rfl) (fun a hf => ?_)
                            refine stq hf rfl rfl rfl (ex_lss hf rfl rfl) (fun a hf => ?_)
                            refine stq hf rfl rfl rfl (ex_pickT hf rfl rfl) (fun a hf => ?_)
                            refine hK100 _ _ ?_
                            have e98 := some_eq H; subst e98
                            exact hJ98 _ _ ⟨hf.sub ⟨rfl, rfl, rfl, rfl, rfl, rfl, rfl, rfl, rfl, trivial⟩, hs⟩
                          · -- not y93 = true
                            refine region_k (fun K101 hK101 => ?_)
                            refine stq hf rfl rfl rfl (ex_move hf rfl) (fun a hf => ?_)
                            refine stq hf rfl rfl rfl (ex_move hf rfl) (fun a hf => ?_)
                            replace hf := hf.castB (t := 9) rfl (bool_f hc99)
                            replace hf := hf.castB (t := 65) rfl (bool_f hc99)
                            replace hf := hf.castB (t := 66) rfl (bool_f hc99)
                            refine stepN hf rfl rfl rfl (fun a hf => ?_)
                            refine stepN hf rfl rfl rfl (fun a hf => ?_)
                            refine stepN hf rfl rfl rfl (fun a hf => ?_)
                            refine stepN hf rfl rfl rfl (fun a hf => ?_)
                            refine stepN hf rfl rfl rfl (fun a hf => ?_)
                            refine stq hf rfl rfl rfl (ex_pickF hf rfl rfl) (fun a hf => ?_)
                            refine hK101 _ _ ?_
                            have e98 := some_eq H; subst e98
                            exact hJ98 _ _ ⟨hf.sub ⟨rfl, rfl, rfl, rfl, rfl, rfl, rfl, rfl, rfl, trivial⟩, hs⟩
                        · obtain ⟨hf, hs⟩ := hJ
                          replace H := HO98
                          clear HO98
                          refine itt H (fun hc102 H => ?_) (fun hc102 H => ?_)
                          · -- x98.2 = true
                            replace hf := hf.castB (t := 72) rfl hc102
                            refine cond_T hf rfl ?_
                            refine wp_skip ?_
                            refine hN97 _ _ ?_
                            refine seq_n (fun Q103 hN103 hR103 hX103 => ?_)
                            refine block_k (fun Q104 hN104 hR104 hX104 hY104 => ?_)
                            refine ck_some H (fun hc105 H => ?_)
                            refine region_k (fun K106 hK106 => ?_)
                            refine stq hf rfl rfl rfl (ex_move hf rfl) (fun a hf => ?_)
                            refine stq hf rfl rfl rfl (ex_move hf rfl) (fun a hf => ?_)
                            refine stq hf rfl rfl rfl (ex_add hf rfl rfl) (fun a hf => ?_)
                            refine stq hf rfl rfl rfl (ex_indexAddrA ia_41 rfl hc105.1 hc105.2 hf rfl rfl) (fun a hf => ?_)
                            refine stepS hf rfl rfl (er_storeS (f := (Value.int .i64)) (xs := y92) (u := (IntKind.i64.wrap (y39 + 1))) (i := 0) hs (.k (.k (.k (.k (.k (.k (.k (.k (.k (.k (.c .nil))))))))))) hf rfl rfl rfl sz_3 rfl rfl hc105.1 hc105.2) (fun w hs => ?_)
                            refine hK106 _ _ ?_
                            refine hN104 _ _ ?_
                            refine hN103 _ _ ?_
                            refine region_k (fun K107 hK107 => ?_)
                            refine stq hf rfl rfl rfl (ex_move hf rfl) (fun a hf => ?_)
                            refine stq hf rfl rfl rfl (ex_add hf rfl rfl) (fun a hf => ?_)
                            refine stq hf rfl rfl rfl (ex_assign hf rfl) (fun a hf => ?_)
                            refine hK107 _ _ ?_
                            replace hs := hs.pick (.k (.k (.k (.k (.k (.k (.k (.k (.k (.k (.c .nil)))))))))))
                            replace hs := hs.pick (.k (.k (.k (.k (.k (.k (.k (.k (.k (.k (.c .nil)))))))))))
                            replace hs := hs.pick (.k (.k (.k (.k (.k (.k (.k (.k (.k (.k (.c .nil)))))))))))
                            replace hs := hs.pick (.k (.k (.k (.k (.k (.k (.k (.k (.k (.k (.c .nil)))))))))))
                            replace hs := hs.pick (.k (.k (.k (.k (.k (.k (.k (.k (.k (.k (.c .nil)))))))))))
                            replace hs := hs.pick (.k (.k (.k (.k (.k (.k (.k (.k (.k (.k (.c .nil)))))))))))
                            replace hs := hs.pick (.k (.k (.k (.k (.k (.k (.k (.k (.k (.k (.c .nil)))))))))))
                            replace hs := hs.pick (.k (.k (.k (.k (.k (.k (.k (.k (.k (.k (.c .nil)))))))))))
                            replace hs := hs.pick (.k (.k (.k (.k (.k (.k (.k (.k (.k (.k (.c .nil)))))))))))
                            replace hs := hs.pick (.k (.k (.k (.k (.k (.k (.k (.k (.k (.k (.c .nil)))))))))))
                            exact hL96 k96 _ _ (Nat.lt_succ_self _) ⟨(y92.set y94.toNat (IntKind.i64.wrap (y39 + 1))), x98.1, (IntKind.u64.wrap (y94 + 1)), hf.sub ⟨rfl, rfl, rfl, rfl, rfl, rfl, rfl, rfl, trivial⟩, hs, H⟩
                          · -- not x98.2 = true
                            replace hf := hf.castB (t := 72) rfl (bool_f hc102)
                            refine cond_F hf rfl ?_
                            refine wp_exit ?_
                            refine hX97 4 _ _ ?_
                            refine hX96 4 _ _ ?_
                            refine hX91 _ _ ?_
                            refine hN55 _ _ ?_
                            have e48 := some_eq H; subst e48
                            exact hJ48 _ _ ⟨_, v80, b81, v82, b83, v84, b85, rfl, hf.sub ⟨rfl, rfl, rfl, rfl, trivial⟩, hs⟩
                  · -- not ((decide (s79.2.2.2 = 0)) == x62) = true
                    replace hf := hf.castB (t := 63) rfl (nbool_t hc89)
                    refine cond_T hf rfl ?_
                    refine seq_reg (fun K108 hK108 => ?_)
                    refine stq hf rfl rfl rfl (ex_assign hf rfl) (fun a hf => ?_)
                    refine hK108 _ _ ?_
                    refine wp_ret ?_
                    refine hR87 _ _ ?_
                    refine hR55 _ _ ?_
                    have e48 := some_eq H; subst e48; replace H := el_rt HO48
                    refine hR48 _ _ ?_
                    refine hR41 _ _ ?_
                    refine hR28 _ _ ?_
                    have e20 := some_eq H; subst e20; replace H := el_rt HO20
                    refine hR20 _ _ ?_
                    have eR := some_eq H; subst eR
                    replace hs := hs.keep (.d (.d (.d (.d (.d (.d (.d (.d (.d (.d (.d .nil)))))))))))
                    exact ret1 Try.results4 hf rfl ⟨_, rfl, ⟨rfl, hs⟩⟩
              · obtain ⟨x48s, v49, G50, v51, G52, v53, G54, rfl, hf, hs⟩ := hJ
                replace H := el_go HO48
                clear HO48
                refine region_k (fun K109 hK109 => ?_)
                refine stq hf rfl rfl rfl (ex_move hf rfl) (fun a hf => ?_)
                refine stq hf rfl rfl rfl (ex_add hf rfl rfl) (fun a hf => ?_)
                refine stq hf rfl rfl rfl (ex_assign hf rfl) (fun a hf => ?_)
                refine hK109 _ _ ?_
                exact hL41 k41 _ _ (Nat.lt_succ_self _) ⟨x48s.1, x48s.2.1, x48s.2.2.1, x48s.2.2.2, (IntKind.i64.wrap (y39 + 1)), v49, G50, v51, G52, v53, G54, hf.sub ⟨rfl, rfl, rfl, rfl, trivial⟩, hs, H⟩
            · -- not x43 = true
              replace hf := hf.castB (t := 24) rfl (bool_f hc47)
              refine cond_F hf rfl ?_
              refine wp_exit ?_
              refine hX42 0 _ _ ?_
              refine hX41 0 _ _ ?_
              refine hX28 _ _ ?_
              have e20 := some_eq H; subst e20
              exact hJ20 _ _ ⟨_, v29, G30, v31, G32, v33, G34, rfl, hf.sub ⟨rfl, rfl, trivial⟩, hs⟩
    · obtain ⟨x20s, v21, G22, v23, G24, v25, G26, rfl, hf, hs⟩ := hJ
      replace H := el_go HO20
      clear HO20
      refine bnd H (fun x110 H110 HO110 => ?_)
      clear H
      refine seq_cut (fun a w => ∃ (x110s : Unit), x110 = .go x110s ∧ Fr a 92 [] ∧ St M w0 w []) (fun Q110 hJ110 hR110 hX110 => ?_) (fun a w hJ => ?_)
      · replace H := H110
        refine seq_reg (fun K111 hK111 => ?_)
        refine stq hf rfl rfl rfl (ex_assign hf rfl) (fun a hf => ?_)
        refine hK111 _ _ ?_
        refine block_k (fun Q112 hN112 hR112 hX112 hY112 => ?_)
        refine loop_k (fun n a w => ∃ (y113 : Int), Fr a 92 [(3, .pointer (some ⟨b3, 0, none⟩)), (4, .pointer (some ⟨b18, 0, none⟩)), (13, .int .i64 y113)] ∧ St M w0 w [bxs b3 71 [([v21], 1), ([v23], 1), ([v25], 1), (List.map Value.bool s2.2.2.2.1, 256), ([v10], 1), ([v12], 1)], osl K_ptr_mapping v21 (ids F_mapping G22), nds F_mapping G22 x20s.1, osl K_ptr_mapping v23 (ids F_mapping G24), nds F_mapping G24 x20s.2.1, osl K_ptr_mapping v25 (ids F_mapping G26), nds F_mapping G26 x20s.2.2.1, osl K_ptr_fault v10 (ids F_fault b11), nds F_fault b11 s2.2.2.2.2.1, osl K_api_Traced v12 s2.2.2.2.2.2, bxs b18 41 [(List.map (Value.int .i64) x20s.2.2.2, 128)]] ∧ law09_IospaceMappings.l4 n x20s s2 y113 = some x110) k ?_ (fun n115 a w hI Q115 hL115 hR115 hX115 => ?_)
        · -- at the start
          exact ⟨0, hf.sub ⟨rfl, rfl, rfl, trivial⟩, hs, H⟩
        · obtain ⟨y113, hf, hs, H⟩ := hI
          cases n115 with
          | zero => exact absurd H (by rw [law09_IospaceMappings.l4.eq_1]; intro h; cases h)
          | succ k115 =>
            replace H := (law09_IospaceMappings.l4.eq_2 ..).symm.trans H
            refine seq_n (fun Q116 hN116 hR116 hX116 => ?_)
            refine seq_reg (fun K117 hK117 => ?_)
            refine stq hf rfl rfl rfl (ex_move hf rfl) (fun a hf => ?_)
            refine stq hf rfl rfl rfl (ex_lss hf rfl rfl) (fun a hf => ?_)
            refine hK117 _ _ ?_
            refine itt H (fun hc118 H => ?_) (fun hc118 H => ?_)
            · -- y113 < 128
              replace hf := hf.castB (t := 80) rfl (dec_t hc118)
              refine cond_T hf rfl ?_
              refine wp_skip ?_
              refine hN116 _ _ ?_
              refine seq_n (fun Q119 hN119 hR119 hX119 => ?_)
              refine block_k (fun Q120 hN120 hR120 hX120 hY120 => ?_)
              refine seq_n (fun Q121 hN121 hR121 hX121 => ?_)
              refine bnd H (fun s122 hs122 H => ?_)
              refine ck_some H (fun hc123 H => ?_)
              refine region_d fol 9 [(3, .pointer (some ⟨b3, 0, none⟩)), (4, .pointer (some ⟨b18, 0, none⟩)), (13, .int .i64 y113)] [(0, .pointer (some ⟨b3, 0, none⟩)), (1, .int .i64 y113), (2, .int .u64 (IntKind.u64.wrap y113)), (4, .int .i64 y113), (5, .pointer (some ⟨b18, 0 + y113.toNat, none⟩)), (6, .int .i64 (gd 0 x20s.2.2.2 y113)), (7, .int .i64 (IntKind.i64.wrap ((gd 0 x20s.2.2.2 y113) - 1)))] [3] (fun w => (bxs b18 41 [(List.map (Value.int .i64) x20s.2.2.2, 128)]).ok w ∧ True) (fun w => St M w0 w [bxs b3 71 [([v21], 1), ([v23], 1), ([v25], 1), (List.map Value.bool s2.2.2.2.1, 256), ([v10], 1), ([v12], 1)], osl K_ptr_mapping v21 (ids F_mapping G22), nds F_mapping G22 x20s.1, osl K_ptr_mapping v23 (ids F_mapping G24), nds F_mapping G24 x20s.2.1, osl K_ptr_mapping v25 (ids F_mapping G26), nds F_mapping G26 x20s.2.2.1, osl K_ptr_fault v10 (ids F_fault b11), nds F_fault b11 s2.2.2.2.2.1, osl K_api_Traced v12 s2.2.2.2.2.2, bxs b18 41 [(List.map (Value.int .i64) x20s.2.2.2, 128)]]) hf ⟨rfl, rfl, rfl, trivial⟩ (by kernel_rfl) (by kernel_rfl) rfl (by decide) ⟨hs.drew.get (i := 10) rfl, trivial⟩ hs.drew (.cons (⟨_, _, rfl, rfl, rfl, rfl, fun a w hR hf => .inl ⟨wanted_yes hf rfl, ex_move hf rfl⟩⟩) (.cons (⟨_, _, rfl, rfl, rfl, rfl, fun a w hR hf => .inl ⟨wanted_yes hf rfl, ex_move hf rfl⟩⟩) (.cons (⟨_, _, rfl, rfl, rfl, rfl, fun a w hR hf => .inl ⟨wanted_yes hf rfl, ex_conv Try.underlying3 Try.underlying22 hf rfl⟩⟩) (.cons (⟨_, _, rfl, rfl, rfl, rfl, fun a w hR hf => .inl ⟨wanted_yes hf rfl, ex_move hf rfl⟩⟩) (.cons (⟨_, _, rfl, rfl, rfl, rfl, fun a w hR hf => .inl ⟨wanted_yes hf rfl, ex_indexAddrA ia_41 rfl hc123.1 hc123.2 hf rfl rfl⟩⟩) (.cons (⟨_, _, rfl, rfl, rfl, rfl, fun a w hR hf => .inl ⟨wanted_yes hf rfl, ex_load sc_3 hf rfl (sb_cell (f := (Value.int .i64)) (xs := x20s.2.2.2) (i := 0) (z := 0) (hR.1) rfl rfl hc123.1 hc123.2)⟩⟩) (.cons (⟨_, _, rfl, rfl, rfl, rfl, fun a w hR hf => .inl ⟨wanted_yes hf rfl, ex_sub hf rfl rfl⟩⟩) (.nil)))))))) (fun K124 hK124 => ?_)
              refine RW.one 3 (by kernel_rfl) (by kernel_rfl) rfl (fun d hd => by cases hd; rfl) [(83, .pointer (some ⟨b3, 0, none⟩)), (85, .int .u64 (IntKind.u64.wrap y113))] ⟨rfl, rfl, trivial⟩ (fun a w hR hs hf => ⟨wanted_yes hf rfl, ?_⟩)
              refine estep_f (ex_call cf_15 hf rfl) (iospace_Bus_Owner.calls k115 x20s.1 x20s.2.1 x20s.2.2.1 s2.2.2.2.1 s2.2.2.2.2.1 s2.2.2.2.2.2 1 (IntKind.u64.wrap y113) b3 v21 G22 v23 G24 v25 G26 v10 b11 v12 (hs.enter (.k (.k (.k (.k (.k (.k (.k (.k (.k (.k (.k .nil)))))))))))) (Sr.own hs (.k (.k (.k (.k (.k (.k (.k (.k (.k (.k (.k .nil))))))))))) (i := 0) rfl (fun _ h => h) (fun _ h => h) (Sr.own hs (.k (.k (.k (.k (.k (.k (.k (.k (.k (.k (.k .nil))))))))))) (i := 1) rfl osl_rsl (fun _ h => h.1) (Sr.own hs (.k (.k (.k (.k (.k (.k (.k (.k (.k (.k (.k .nil))))))))))) (i := 2) rfl (fun _ h => h) (fun _ h => h) (Sr.own hs (.k (.k (.k (.k (.k (.k (.k (.k (.k (.k (.k .nil))))))))))) (i := 3) rfl osl_rsl (fun _ h => h.1) (Sr.own hs (.k (.k (.k (.k (.k (.k (.k (.k (.k (.k (.k .nil))))))))))) (i := 4) rfl (fun _ h => h) (fun _ h => h) (Sr.own hs (.k (.k (.k (.k (.k (.k (.k (.k (.k (.k (.k .nil))))))))))) (i := 5) rfl osl_rsl (fun _ h => h.1) (Sr.own hs (.k (.k (.k (.k (.k (.k (.k (.k (.k (.k (.k .nil))))))))))) (i := 6) rfl (fun _ h => h) (fun _ h => h) (Sr.own hs (.k (.k (.k (.k (.k (.k (.k (.k (.k (.k (.k .nil))))))))))) (i := 7) rfl osl_rsl (fun _ h => h.1) (Sr.own hs (.k (.k (.k (.k (.k (.k (.k (.k (.k (.k (.k .nil))))))))))) (i := 8) rfl (fun _ h => h) (fun _ h => h) (Sr.own hs (.k (.k (.k (.k (.k (.k (.k (.k (.k (.k (.k .nil))))))))))) (i := 9) rfl osl_rsl (fun _ h => h.1) (Sr.nil _ _))))))))))) hs122) (fun v w hR => ?_)
              obtain ⟨rfl, hs'⟩ := hR
              replace hs := hs.step (.k (.k (.k (.k (.k (.k (.k (.k (.k (.k (.k .nil))))))))))) hs'
              clear hs'
              refine ⟨[(8, .bool (!decide (s122 = (IntKind.i64.wrap ((gd 0 x20s.2.2.2 y113) - 1)))))], [(8, .bool (!decide (s122 = (IntKind.i64.wrap ((gd 0 x20s.2.2.2 y113) - 1))))), (3, .int .i64 s122), (0, .pointer (some ⟨b3, 0, none⟩)), (1, .int .i64 y113), (2, .int .u64 (IntKind.u64.wrap y113)), (4, .int .i64 y113), (5, .pointer (some ⟨b18, 0 + y113.toNat, none⟩)), (6, .int .i64 (gd 0 x20s.2.2.2 y113)), (7, .int .i64 (IntKind.i64.wrap ((gd 0 x20s.2.2.2 y113) - 1)))], [], (fun _ => True), (fun w => St M w0 w [bxs b3 71 [([v21], 1), ([v23], 1), ([v25], 1), (List.map Value.bool s2.2.2.2.1, 256), ([v10], 1), ([v12], 1)], osl K_ptr_mapping v21 (ids F_mapping G22), nds F_mapping G22 x20s.1, osl K_ptr_mapping v23 (ids F_mapping G24), nds F_mapping G24 x20s.2.1, osl K_ptr_mapping v25 (ids F_mapping G26), nds F_mapping G26 x20s.2.2.1, osl K_ptr_fault v10 (ids F_fault b11), nds F_fault b11 s2.2.2.2.2.1, osl K_api_Traced v12 s2.2.2.2.2.2, bxs b18 41 [(List.map (Value.int .i64) x20s.2.2.2, 128)]]), rfl, rfl, ⟨hs.get (i := 10) rfl, trivial⟩, trivial, hs, (by kernel_rfl), .cons (⟨_, _, rfl, rfl, rfl, rfl, fun a w hR hf => .inl ⟨wanted_yes hf rfl, ex_neq hf rfl rfl⟩⟩) (.nil), ?_⟩
              refine RW.zero (by kernel_rfl) (by kernel_rfl) [(3, .pointer (some ⟨b3, 0, none⟩)), (4, .pointer (some ⟨b18, 0, none⟩)), (13, .int .i64 y113), (91, .bool (!decide (s122 = (IntKind.i64.wrap ((gd 0 x20s.2.2.2 y113) - 1)))))] ⟨rfl, rfl, rfl, rfl, trivial⟩ (fun a w hR hs hf => ?_)
              refine hK124 _ _ ?_
              refine hN121 _ _ ?_
              refine itt H (fun hc125 H => ?_) (fun hc125 H => ?_)
              · -- s122 = (IntKind.i64.wrap ((gd 0 x20s.2.2.2 y113) - 1))
                replace hf := hf.castB (t := 91) rfl (ndec_f hc125)
                refine cond_F hf rfl ?_
                refine wp_skip ?_
                refine hN120 _ _ ?_
                refine hN119 _ _ ?_
                refine region_k (fun K126 hK126 => ?_)
                refine stq hf rfl rfl rfl (ex_move hf rfl) (fun a hf => ?_)
                refine stq hf rfl rfl rfl (ex_add hf rfl rfl) (fun a hf => ?_)
                refine stq hf rfl rfl rfl (ex_assign hf rfl) (fun a hf => ?_)
                refine hK126 _ _ ?_
                exact hL115 k115 _ _ (Nat.lt_succ_self _) ⟨(IntKind.i64.wrap (y113 + 1)), hf.sub ⟨rfl, rfl, rfl, trivial⟩, hs, H⟩
              · -- not s122 = (IntKind.i64.wrap ((gd 0 x20s.2.2.2 y113) - 1))
                replace hf := hf.castB (t := 91) rfl (ndec_t hc125)
                refine cond_T hf rfl ?_
                refine seq_reg (fun K127 hK127 => ?_)
                refine stq hf rfl rfl rfl (ex_assign hf rfl) (fun a hf => ?_)
                refine hK127 _ _ ?_
                refine wp_ret ?_
                refine hR120 _ _ ?_
                refine hR119 _ _ ?_
                refine hR115 _ _ ?_
                refine hR112 _ _ ?_
                have e110 := some_eq H; subst e110; replace H := el_rt HO110
                refine hR110 _ _ ?_
                have eR := some_eq H; subst eR
                replace hs := hs.keep (.d (.d (.d (.d (.d (.d (.d (.d (.d (.d (.d .nil)))))))))))
                exact ret1 Try.results4 hf rfl ⟨_, rfl, ⟨rfl, hs⟩⟩
            · -- not y113 < 128
              replace hf := hf.castB (t := 80) rfl (dec_f hc118)
              refine cond_F hf rfl ?_
              refine wp_exit ?_
              refine hX116 6 _ _ ?_
              refine hX115 6 _ _ ?_
              refine hX112 _ _ ?_
              replace hs := hs.keep (.d (.d (.d (.d (.d (.d (.d (.d (.d (.d (.d .nil)))))))))))
              have e110 := some_eq H; subst e110
              exact hJ110 _ _ ⟨_, rfl, hf.sub trivial, hs⟩
      · obtain ⟨x110s, rfl, hf, hs⟩ := hJ
        replace H := el_go HO110
        clear HO110
        refine seq_reg (fun K128 hK128 => ?_)
        refine stq hf rfl rfl rfl (ex_assign hf rfl) (fun a hf => ?_)
        refine hK128 _ _ ?_
        refine wp_ret ?_
        have eR := some_eq H; subst eR
        exact ret1 Try.results4 hf rfl ⟨_, rfl, ⟨rfl, hs⟩⟩
  · -- not s15 = true
    replace hf := hf.castB (t := 15) rfl (bool_f hc17)
    replace hf := hf.castB (t := 16) rfl (nbool_t hc17)
    refine cond_T hf rfl ?_
    refine seq_reg (fun K129 hK129 => ?_)
    refine stq hf rfl rfl rfl (ex_assign hf rfl) (fun a hf => ?_)
    refine hK129 _ _ ?_
    refine wp_ret ?_
    refine hR14 _ _ ?_
    have eR := some_eq H; subst eR
    replace hs := hs.keep (.d (.d (.d (.d (.d (.d (.d (.d (.d (.d .nil))))))))))
    exact ret1 Try.results4 hf rfl ⟨_, rfl, ⟨rfl, hs⟩⟩

end Go.Proofs.Ytigadacjaglfeaa.X
