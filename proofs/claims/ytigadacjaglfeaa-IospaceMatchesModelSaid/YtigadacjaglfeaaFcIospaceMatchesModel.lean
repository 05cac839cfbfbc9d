/- Each function of the machine comes to what its pure function says. -/
import Derived.Test.YtigadacjaglfeaaFc1
import Derived.Test.YtigadacjaglfeaaFc5
import Derived.Test.YtigadacjaglfeaaFc7
import Derived.Test.YtigadacjaglfeaaFcapply
import Derived.Test.YtigadacjaglfeaaFcawake
import Derived.Test.YtigadacjaglfeaaFb
namespace Go.Proofs.Ytigadacjaglfeaa.X
open Go Go.RowKit Go.Sx
set_option linter.unusedVariables false

set_option maxRecDepth 100000 in
theorem law09_IospaceMatchesModel.calls {M : Nat → Prop} {w0 : World} (k : Nat) (a0 : (List Op)) (v0 : Value) {r : Bool} (hs : St M w0 w0 []) (hr : Sr M w0 [rsl K_platformfwlaw09_Op v0 a0])
  (h : law09_IospaceMatchesModel.f k a0 = some r) : Calls Try.prog 6 #[v0] w0 fun e w => ∃ v, e = .returned v ∧ (.bool r = v ∧ St M w0 w []) := by
 have H := (law09_IospaceMatchesModel.f.eq_1 ..).symm.trans h
 clear h
 refine enter Try.func6 rfl Try.ntmps6 rfl (fun a hf => ?_)
 refine seq_reg (fun K1 hK1 => ?_)
 refine stq hf rfl rfl rfl (ex_assign hf rfl) fun a hf => ?_
 refine hK1 _ _ ?_
 refine bnd H (fun s2 hs2 H => ?_)
 refine seq_reg (fun K15 hK15 => ?_)
 refine stepF hf rfl rfl rfl (ex_call cf_8 hf rfl) (iospace_New.calls k (hs.enter .nil) (Sr.nil _ _) hs2) (fun v w hR a hf => ?_)
 obtain ⟨b3, v4, b5, v6, b7, v8, b9, v10, b11, v12, rfl, hs'⟩ := hR
 replace hs := hs.step .nil hs'
 clear hs'
 refine stq hf rfl rfl rfl (ex_build (cs := [(.slice none 0 0), .bool false, .bool false, .bool false, .bool false, .bool false, .bool false, .bool false, .bool false, .bool false, .bool false, .bool false, .bool false, .bool false, .bool false, .bool false, .bool false, .bool false, .bool false, .bool false, .bool false, .bool false, .bool false, .bool false, .bool false, .bool false, .bool false, .bool false, .bool false, .bool false, .bool false, .bool false, .bool false, .bool false, .bool false, .bool false, .bool false, .bool false, .bool false, .bool false, .bool false, .bool false, .bool false, .bool false, .bool false, .bool false, .bool false, .bool false, .bool false, .bool false, .bool false, .bool false, .bool false, .bool false, .bool false, .bool false, .bool false, .bool false, .bool false, .bool false, .bool false, .bool false, .bool false, .bool false, .bool false, .bool false, .bool false, .bool false, .bool false, .bool false, .bool false, .bool false, .bool false, .bool false, .bool false, .bool false, .bool false, .bool false, .bool false, .bool false, .bool false, .bool false, .bool false, .bool false, .bool false, .bool false, .bool false, .bool false, .bool false, .bool false, .bool false, .bool false, .bool false, .bool false, .bool false, .bool false, .bool false, .bool false, .bool false, .bool false, .bool false, .bool false, .bool false, .bool false, .bool false, .bool false, .bool false, .bool false, .bool false, .bool false, .bool false, .bool false, .bool false, .bool false, .bool false, .bool false, .bool false, .bool false, .bool false, .bool false, .bool false, .bool false, .bool false, .bool false, .bool false, .bool false, .bool false, .bool false, .bool false, .bool false, .bool false, .bool false, .bool false, .bool false, .bool false, .bool false, .bool false, .bool false, .bool false, .bool false, .bool false, .bool false, .bool false, .bool false, .bool false, .bool false, .bool false, .bool false, .bool false, .bool false, .bool false, .bool false, .bool false, .bool false, .bool false, .bool false, .bool false, .bool false, .bool false, .bool false, .bool false, .bool false, .bool false, .bool false, .bool false, .bool false, .bool false, .bool false, .bool false, .bool false, .bool false, .bool false, .bool false, .bool false, .bool false, .bool false, .bool false, .bool false, .bool false, .bool false, .bool false, .bool false, .bool false, .bool false, .bool false, .bool false, .bool false, .bool false, .bool false, .bool false, .bool false, .bool false, .bool false, .bool false, .bool false, .bool false, .bool false, .bool false, .bool false, .bool false, .bool false, .bool false, .bool false, .bool false, .bool false, .bool false, .bool false, .bool false, .bool false, .bool false, .bool false, .bool false, .bool false, .bool false, .bool false, .bool false, .bool false, .bool false, .bool false, .bool false, .bool false, .bool false, .bool false, .bool false, .bool false, .bool false, .bool false, .bool false, .bool false, .bool false, .bool false, .bool false, .bool false, .bool false, .bool false, .bool false, .bool false, .bool false, .bool false, .bool false, .bool false, .bool false, .bool false, .bool false, .bool false, .bool false, .bool false, .bool false, .bool false, .bool false, .bool false, .bool false, .bool false, .bool false, .bool false, .bool false, .bool false, (.slice none 0 0), (.slice none 0 0)]) bt_56 hf rfl .nil rfl) fun a hf => ?_
 refine stepV hf rfl rfl rfl (er_boxS (S := [([(.slice none 0 0)], 1), (List.map Value.bool (List.replicate 256 false), 256), ([(.slice none 0 0)], 1), ([(.slice none 0 0)], 1)]) hs hf rfl rfl (by simp [lens])) (fun v w hR a hf => ?_)
 obtain ⟨b13, rfl, hs⟩ := hR
 refine stq hf rfl rfl rfl (ex_build (cs := [.pointer (some ⟨b3, 0, none⟩), .pointer (some ⟨b13, 0, none⟩)]) bt_58 hf rfl (.cons rfl (.cons rfl .nil)) rfl) fun a hf => ?_
 refine stepV hf rfl rfl rfl (er_alloc hs ti_58 (cs := [.pointer none, .pointer none]) rfl) (fun v w hR a hf => ?_)
 obtain ⟨b14, rfl, hs⟩ := hR
 refine stepS hf rfl rfl (er_storeAB (vs := [.pointer (some ⟨b3, 0, none⟩), .pointer (some ⟨b13, 0, none⟩)]) (cs' := [.pointer (some ⟨b3, 0, none⟩), .pointer (some ⟨b13, 0, none⟩)]) hs (.c sN) sz_58 hf rfl rfl (all1 rfl (all1 rfl (all1_nil))) rfl rfl) (fun w hs => ?_)
 refine hK15 _ _ ?_
 refine seq_n (fun Q16 hN16 hR16 hX16 => ?_)
 refine bnd H (fun s17 hs17 H => ?_)
 refine seq_reg (fun K18 hK18 => ?_)
 refine stepF hf rfl rfl rfl (ex_call cf_9 hf rfl) (law09_awake.calls k (hs.enter sN) (Sr.nil _ _) hs17) (fun v w hR a hf => ?_)
 obtain ⟨rfl, hs'⟩ := hR
 replace hs := hs.step sN hs'
 clear hs'
 refine stq hf rfl rfl rfl (ex_not hf rfl) fun a hf => ?_
 refine hK18 _ _ ?_
 refine itt H (fun hc19 H => ?_) (fun hc19 H => ?_)
 ·
  replace hf := hf.castB (t := 10) rfl (nbool_f hc19)
  refine cond_F hf rfl ?_
  refine wp_skip ?_
  refine hN16 _ _ ?_
  refine bnd H (fun x20 H20 HO20 => ?_)
  clear H
  refine seq_cut (fun a w => ∃ (x20s : (List mapping) × (List mapping) × (List mapping) × (List Bool) × (List fault) × (List Traced) × (List ref09_mapping) × (List Bool) × (List ref09_fault) × (List Traced)) (v21 : Value) (G22 : List (Nat × Nat)) (v23 : Value) (G24 : List (Nat × Nat)) (v25 : Value) (G26 : List (Nat × Nat)) (v27 : Value) (G28 : List Nat) (v29 : Value) (v30 : Value) (G31 : List SlV) (v32 : Value) (v33 : Value), x20 = .go x20s ∧ Fr a 36 [(3, .pointer (some ⟨b14, 0, none⟩))] ∧ St M w0 w [bx b14 58 [.pointer (some ⟨b3, 0, none⟩), .pointer (some ⟨b13, 0, none⟩)], bxs b3 71 [([v21], 1), ([v23], 1), ([v25], 1), (List.map Value.bool x20s.2.2.2.1, 256), ([v27], 1), ([v29], 1)], osl Km v21 (ids Fm G22), nds Fm G22 x20s.1, osl Km v23 (ids Fm G24), nds Fm G24 x20s.2.1, osl Km v25 (ids Fm G26), nds Fm G26 x20s.2.2.1, osl Kf v27 (ids Ff G28), nds Ff G28 x20s.2.2.2.2.1, osl Kt v29 x20s.2.2.2.2.2.1, bxs b13 56 [([v30], 1), (List.map Value.bool x20s.2.2.2.2.2.2.2.1, 256), ([v32], 1), ([v33], 1)], osl KR v30 (List.zip G31 x20s.2.2.2.2.2.2.1), ndv FR G31 x20s.2.2.2.2.2.2.1, osl KF v32 x20s.2.2.2.2.2.2.2.2.1, osl Kt v33 x20s.2.2.2.2.2.2.2.2.2]) (fun Q20 hJ20 hR20 hX20 => ?_) (fun a w hJ => ?_)
  ·
   replace H := H20
   refine seq_reg (fun K34 hK34 => ?_)
   refine stq hf rfl rfl rfl (ex_assign hf rfl) fun a hf => ?_
   refine hK34 _ _ ?_
   refine block_k (fun Q35 hN35 hR35 hX35 hY35 => ?_)
   refine loop_k (fun n a w => ∃ (y49 : (List mapping)) (y50 : (List mapping)) (y51 : (List mapping)) (y52 : (List Bool)) (y53 : (List fault)) (y54 : (List Traced)) (y55 : (List ref09_mapping)) (y56 : (List Bool)) (y57 : (List ref09_fault)) (y58 : (List Traced)) (y59 : Int) (v36 : Value) (G37 : List (Nat × Nat)) (v38 : Value) (G39 : List (Nat × Nat)) (v40 : Value) (G41 : List (Nat × Nat)) (v42 : Value) (G43 : List Nat) (v44 : Value) (v45 : Value) (G46 : List SlV) (v47 : Value) (v48 : Value), Fr a 36 [(0, v0), (3, .pointer (some ⟨b14, 0, none⟩)), (4, .int .i64 y59)] ∧ St M w0 w [bx b14 58 [.pointer (some ⟨b3, 0, none⟩), .pointer (some ⟨b13, 0, none⟩)], bxs b3 71 [([v36], 1), ([v38], 1), ([v40], 1), (List.map Value.bool y52, 256), ([v42], 1), ([v44], 1)], osl Km v36 (ids Fm G37), nds Fm G37 y49, osl Km v38 (ids Fm G39), nds Fm G39 y50, osl Km v40 (ids Fm G41), nds Fm G41 y51, osl Kf v42 (ids Ff G43), nds Ff G43 y53, osl Kt v44 y54, bxs b13 56 [([v45], 1), (List.map Value.bool y56, 256), ([v47], 1), ([v48], 1)], osl KR v45 (List.zip G46 y55), ndv FR G46 y55, osl KF v47 y57, osl Kt v48 y58] ∧ law09_IospaceMatchesModel.l1 n a0 y49 y50 y51 y52 y53 y54 y55 y56 y57 y58 y59 = some x20) k ?_ (fun n61 a w hI Q61 hL61 hR61 hX61 => ?_)
   ·
    replace hs := hs.nilS KR
    replace hs := hs.vnil FR
    replace hs := hs.nilS KF
    replace hs := hs.nilS Kt
    replace hs := hs.p1.p2.p3.p5.p15.p15.p15.p15.p15.p15.p15.p15.p15.p15.p15
    exact ⟨s2.1, s2.2.1, s2.2.2.1, s2.2.2.2.1, s2.2.2.2.2.1, s2.2.2.2.2.2, [], (List.replicate 256 false), [], [], 0, v4, b5, v6, b7, v8, b9, v10, b11, v12, (.slice none 0 0), [], (.slice none 0 0), (.slice none 0 0), hf.sub ⟨rfl, rfl, rfl, trivial⟩, hs, H⟩
   ·
    obtain ⟨y49, y50, y51, y52, y53, y54, y55, y56, y57, y58, y59, v36, G37, v38, G39, v40, G41, v42, G43, v44, v45, G46, v47, v48, hf, hs, H⟩ := hI
    cases n61 with
    | zero => exact absurd H (by rw [law09_IospaceMatchesModel.l1.eq_1]; intro h; cases h)
    | succ k61 =>
     replace H := (law09_IospaceMatchesModel.l1.eq_2 ..).symm.trans H
     refine seq_n (fun Q62 hN62 hR62 hX62 => ?_)
     refine bnd H (fun x63 H63 HO63 => ?_)
     clear H
     refine seq_cut (fun a w => Fr a 36 [(0, v0), (3, .pointer (some ⟨b14, 0, none⟩)), (4, .int .i64 y59), (18, .bool x63)] ∧ St M w0 w [bx b14 58 [.pointer (some ⟨b3, 0, none⟩), .pointer (some ⟨b13, 0, none⟩)], bxs b3 71 [([v36], 1), ([v38], 1), ([v40], 1), (List.map Value.bool y52, 256), ([v42], 1), ([v44], 1)], osl Km v36 (ids Fm G37), nds Fm G37 y49, osl Km v38 (ids Fm G39), nds Fm G39 y50, osl Km v40 (ids Fm G41), nds Fm G41 y51, osl Kf v42 (ids Ff G43), nds Ff G43 y53, osl Kt v44 y54, bxs b13 56 [([v45], 1), (List.map Value.bool y56, 256), ([v47], 1), ([v48], 1)], osl KR v45 (List.zip G46 y55), ndv FR G46 y55, osl KF v47 y57, osl Kt v48 y58]) (fun Q63 hJ63 hR63 hX63 => ?_) (fun a w hJ => ?_)
     ·
      replace H := H63
      refine itt H (fun hc64 H => ?_) (fun hc64 H => ?_)
      ·
       refine region_k (fun K65 hK65 => ?_)
       refine stq hf rfl rfl rfl (ex_move hf rfl) fun a hf => stq hf rfl rfl rfl (ex_move hf rfl) fun a hf => stq hf rfl rfl rfl (ex_lenS Try.underlying40 (rsl_isSl (hr.now hs (i := 0) rfl)) hf rfl) fun a hf => stq hf rfl rfl rfl (ex_lss hf rfl rfl) fun a hf => stq hf rfl rfl rfl (ex_move hf rfl) fun a hf => ?_
       replace hf := hf.castB (t := 14) rfl (dec_t hc64)
       replace hf := hf.castB (t := 15) rfl (dec_t hc64)
       refine stq hf rfl rfl rfl (ex_move hf rfl) fun a hf => stq hf rfl rfl rfl (ex_lss hf rfl rfl) fun a hf => stq hf rfl rfl rfl (ex_pickT hf rfl rfl) fun a hf => ?_
       refine hK65 _ _ ?_
       have e63 := some_eq H; subst e63
       exact hJ63 _ _ ⟨hf.sub ⟨rfl, rfl, rfl, rfl, trivial⟩, hs⟩
      ·
       refine region_k (fun K66 hK66 => ?_)
       refine stq hf rfl rfl rfl (ex_move hf rfl) fun a hf => stq hf rfl rfl rfl (ex_move hf rfl) fun a hf => stq hf rfl rfl rfl (ex_lenS Try.underlying40 (rsl_isSl (hr.now hs (i := 0) rfl)) hf rfl) fun a hf => stq hf rfl rfl rfl (ex_lss hf rfl rfl) fun a hf => stq hf rfl rfl rfl (ex_move hf rfl) fun a hf => ?_
       replace hf := hf.castB (t := 14) rfl (dec_f hc64)
       replace hf := hf.castB (t := 15) rfl (dec_f hc64)
       refine stepN hf rfl rfl rfl fun a hf => stepN hf rfl rfl rfl fun a hf => stq hf rfl rfl rfl (ex_pickF hf rfl rfl) fun a hf => ?_
       refine hK66 _ _ ?_
       have e63 := some_eq H; subst e63
       exact hJ63 _ _ ⟨hf.sub ⟨rfl, rfl, rfl, rfl, trivial⟩, hs⟩
     ·
      obtain ⟨hf, hs⟩ := hJ
      replace H := HO63
      clear HO63
      refine itt H (fun hc67 H => ?_) (fun hc67 H => ?_)
      ·
       replace hf := hf.castB (t := 18) rfl hc67
       refine cond_T hf rfl ?_
       refine wp_skip ?_
       refine hN62 _ _ ?_
       refine seq_n (fun Q68 hN68 hR68 hX68 => ?_)
       refine block_k (fun Q69 hN69 hR69 hX69 hY69 => ?_)
       refine seq_n (fun Q70 hN70 hR70 hX70 => ?_)
       refine ck_some H (fun hc71 H => ?_)
       refine bnd H (fun s72 hs72 H => ?_)
       refine bnd H (fun s73 hs73 H => ?_)
       refine region_dS fol 8 [(0, v0), (3, .pointer (some ⟨b14, 0, none⟩)), (4, .int .i64 y59)] [(0, .agg #[.pointer (some ⟨b3, 0, none⟩), .pointer (some ⟨b13, 0, none⟩)]), (1, v0), (2, .int .i64 y59), (3, .pointer (some (sla v0 (y59.toNat * 9)))), (4, .agg #[.int .i64 ((gd Op.zero a0 y59).Kind), .int .i64 ((gd Op.zero a0 y59).Space), .int .u64 ((gd Op.zero a0 y59).Addr), .int .u64 ((gd Op.zero a0 y59).Len), .int .i64 ((gd Op.zero a0 y59).Width), .int .i64 ((gd Op.zero a0 y59).Owner), .bool ((gd Op.zero a0 y59).Write), .int .u64 ((gd Op.zero a0 y59).Value), .bool ((gd Op.zero a0 y59).Raw)])] [5, 6] (fun w => (bx b14 58 [.pointer (some ⟨b3, 0, none⟩), .pointer (some ⟨b13, 0, none⟩)]).ok w ∧ (rsl K_platformfwlaw09_Op v0 a0).ok w ∧ True) hf ⟨rfl, rfl, rfl, trivial⟩ (by kernel_rfl) (by kernel_rfl) rfl (by decide) ⟨hs.drew.get (i := 0) rfl, hr.now hs.drew (i := 0) rfl, trivial⟩ hs ((.cons (qy rfl rfl rfl rfl rfl fun hR hf => ex_loadA (cs := [.pointer (some ⟨b3, 0, none⟩), .pointer (some ⟨b13, 0, none⟩)]) ag_58 hf rfl (bx_cells (hR.1) rfl)) (.cons (qy rfl rfl rfl rfl rfl fun hR hf => ex_move hf rfl) (.cons (qy rfl rfl rfl rfl rfl fun hR hf => ex_move hf rfl) (.cons (qy rfl rfl rfl rfl rfl fun hR hf => ex_indexAddr sa_40 (rsl_isSl hR.2.1) hc71.1 hc71.2 hf rfl rfl) (.cons (qy rfl rfl rfl rfl rfl fun hR hf => ex_loadA (cs := [.int .i64 ((gd Op.zero a0 y59).Kind), .int .i64 ((gd Op.zero a0 y59).Space), .int .u64 ((gd Op.zero a0 y59).Addr), .int .u64 ((gd Op.zero a0 y59).Len), .int .i64 ((gd Op.zero a0 y59).Width), .int .i64 ((gd Op.zero a0 y59).Owner), .bool ((gd Op.zero a0 y59).Write), .int .u64 ((gd Op.zero a0 y59).Value), .bool ((gd Op.zero a0 y59).Raw)]) ag_43 hf rfl (el_cells (K := K_platformfwlaw09_Op) (rsl_rd hR.2.1) hc71.1 hc71.2 rfl)) .nil)))))) (fun K87 hK87 => ?_)
       refine RW.one 5 (by kernel_rfl) (by kernel_rfl) rfl (fun d hd => by cases hd; rfl) [(25, .agg #[.int .i64 ((gd Op.zero a0 y59).Kind), .int .i64 ((gd Op.zero a0 y59).Space), .int .u64 ((gd Op.zero a0 y59).Addr), .int .u64 ((gd Op.zero a0 y59).Len), .int .i64 ((gd Op.zero a0 y59).Width), .int .i64 ((gd Op.zero a0 y59).Owner), .bool ((gd Op.zero a0 y59).Write), .int .u64 ((gd Op.zero a0 y59).Value), .bool ((gd Op.zero a0 y59).Raw)])] ⟨rfl, trivial⟩ (fun a w hR hs hf => ⟨wanted_yes hf rfl, ?_⟩)
       refine estep_f (ex_call cf_19 hf rfl) (law09_some.calls k61 (⟨((gd Op.zero a0 y59).Kind), ((gd Op.zero a0 y59).Space), ((gd Op.zero a0 y59).Addr), ((gd Op.zero a0 y59).Len), ((gd Op.zero a0 y59).Width), ((gd Op.zero a0 y59).Owner), ((gd Op.zero a0 y59).Write), ((gd Op.zero a0 y59).Value), ((gd Op.zero a0 y59).Raw)⟩ : Op) (hs.enter sN) (Sr.nil _ _) hs72) (fun v w hR => ?_)
       obtain ⟨rfl, hs'⟩ := hR
       replace hs := hs.step sN hs'
       clear hs'
       refine ⟨[], _, [6], (fun _ => True), hs.fn, rfl, rfl, ⟨hs.get (i := 0) rfl, hr.now hs (i := 0) rfl, trivial⟩, trivial, hs, (by kernel_rfl), .nil, ?_⟩
       refine RW.one 6 (by kernel_rfl) (by kernel_rfl) rfl (fun d hd => by cases hd; rfl) [(21, .agg #[.pointer (some ⟨b3, 0, none⟩), .pointer (some ⟨b13, 0, none⟩)]), (26, .agg #[.int .i64 s72.Kind, .int .i64 s72.Space, .int .u64 s72.Addr, .int .u64 s72.Len, .int .i64 s72.Width, .int .i64 s72.Owner, .bool s72.Write, .int .u64 s72.Value, .bool s72.Raw])] ⟨rfl, rfl, trivial⟩ (fun a w hR hs hf => ⟨wanted_yes hf rfl, ?_⟩)
       refine estep_f (ex_call cf_18 hf rfl) (law09_both_apply.calls k61 y49 y50 y51 y52 y53 y54 y55 y56 y57 y58 s72 b3 v36 G37 v38 G39 v40 G41 v42 G43 v44 b13 v45 G46 v47 v48 (hs.enter (.k (.c (.c (.c (.c (.c (.c (.c (.c (.c (.c (.c (.c (.c (.c (.c .nil))))))))))))))))) (Sr.nil _ _) hs73) (fun v w hR => ?_)
       obtain ⟨v74, b75, v76, b77, v78, b79, v80, b81, v82, v83, b84, v85, v86, rfl, hs'⟩ := hR
       replace hs := hs.step (.k (.c (.c (.c (.c (.c (.c (.c (.c (.c (.c (.c (.c (.c (.c (.c .nil)))))))))))))))) hs'
       clear hs'
       refine ⟨[(7, .bool (!s73.2.2.2.2.2.2.2.2.2.2))], _, [], (fun _ => True), hs.fn, rfl, rfl, ⟨⟨hs.get (i := 15) rfl, hr.now hs (i := 0) rfl, trivial⟩, trivial⟩, trivial, hs, (by kernel_rfl), (.cons (qy rfl rfl rfl rfl rfl fun hR hf => ex_not hf rfl) .nil), ?_⟩
       refine RW.zero (by kernel_rfl) (by kernel_rfl) [(0, v0), (3, .pointer (some ⟨b14, 0, none⟩)), (4, .int .i64 y59), (28, .bool (!s73.2.2.2.2.2.2.2.2.2.2))] ⟨rfl, rfl, rfl, rfl, trivial⟩ (fun a w hR hs hf => ?_)
       refine hK87 _ _ ?_
       refine hN70 _ _ ?_
       refine itt H (fun hc88 H => ?_) (fun hc88 H => ?_)
       ·
        replace hf := hf.castB (t := 28) rfl (nbool_f hc88)
        refine cond_F hf rfl ?_
        refine wp_skip ?_
        refine hN69 _ _ ?_
        refine hN68 _ _ ?_
        refine region_k (fun K89 hK89 => ?_)
        refine stq hf rfl rfl rfl (ex_move hf rfl) fun a hf => stq hf rfl rfl rfl (ex_add hf rfl rfl) fun a hf => stq hf rfl rfl rfl (ex_assign hf rfl) fun a hf => ?_
        refine hK89 _ _ ?_
        replace hs := hs.p14.p14.p14.p14.p14.p14.p14.p14.p14.p14.p14.p14.p14.p14.p14.p15
        exact hL61 k61 _ _ (Nat.lt_succ_self _) ⟨s73.1, s73.2.1, s73.2.2.1, s73.2.2.2.1, s73.2.2.2.2.1, s73.2.2.2.2.2.1, s73.2.2.2.2.2.2.1, s73.2.2.2.2.2.2.2.1, s73.2.2.2.2.2.2.2.2.1, s73.2.2.2.2.2.2.2.2.2.1, (IntKind.i64.wrap (y59 + 1)), v74, b75, v76, b77, v78, b79, v80, b81, v82, v83, b84, v85, v86, hf.sub ⟨rfl, rfl, rfl, trivial⟩, hs, H⟩
       ·
        replace hf := hf.castB (t := 28) rfl (nbool_t hc88)
        refine cond_T hf rfl ?_
        refine seq_reg (fun K90 hK90 => ?_)
        refine stq hf rfl rfl rfl (ex_assign hf rfl) fun a hf => ?_
        refine hK90 _ _ ?_
        refine wp_ret ?_
        refine hR69 _ _ ?_
        refine hR68 _ _ ?_
        refine hR61 _ _ ?_
        refine hR35 _ _ ?_
        have e20 := some_eq H; subst e20; replace H := el_rt HO20
        refine hR20 _ _ ?_
        have eR := some_eq H; subst eR
        replace hs := hs.keep (.d (.d (.d (.d (.d (.d (.d (.d (.d (.d (.d (.d (.d (.d (.d (.d .nil))))))))))))))))
        exact ret1 Try.results6 hf rfl ⟨_, rfl, ⟨rfl, hs⟩⟩
      ·
       replace hf := hf.castB (t := 18) rfl (bool_f hc67)
       refine cond_F hf rfl ?_
       refine wp_exit ?_
       refine hX62 0 _ _ ?_
       refine hX61 0 _ _ ?_
       refine hX35 _ _ ?_
       have e20 := some_eq H; subst e20
       exact hJ20 _ _ ⟨_, v36, G37, v38, G39, v40, G41, v42, G43, v44, v45, G46, v47, v48, rfl, hf.sub ⟨rfl, trivial⟩, hs⟩
  ·
   obtain ⟨x20s, v21, G22, v23, G24, v25, G26, v27, G28, v29, v30, G31, v32, v33, rfl, hf, hs⟩ := hJ
   replace H := el_go HO20
   clear HO20
   refine seq_n (fun Q91 hN91 hR91 hX91 => ?_)
   refine bnd H (fun s92 hs92 H => ?_)
   refine bnd H (fun s95 hs95 H => ?_)
   refine bnd H (fun s98 hs98 H => ?_)
   refine region_dS fol 7 [(3, .pointer (some ⟨b14, 0, none⟩))] [(0, .pointer (some ⟨b14, 0, none⟩)), (1, .pointer (some ⟨b3, 0, none⟩)), (3, .pointer (some ⟨b14, 1, none⟩)), (4, .pointer (some ⟨b13, 0, none⟩))] [2, 5, 6] (fun w => (bx b14 58 [.pointer (some ⟨b3, 0, none⟩), .pointer (some ⟨b13, 0, none⟩)]).ok w ∧ True) hf ⟨rfl, trivial⟩ (by kernel_rfl) (by kernel_rfl) rfl (by decide) ⟨hs.drew.get (i := 0) rfl, trivial⟩ hs ((.cons (qy rfl rfl rfl rfl rfl fun hR hf => ex_fieldAddrB fa_58_0 rfl hf rfl) (.cons (qy rfl rfl rfl rfl rfl fun hR hf => ex_load sc_24 hf rfl (bx_cell (hR.1) _ rfl)) (.cons (qy rfl rfl rfl rfl rfl fun hR hf => ex_fieldAddrB fa_58_1 rfl hf rfl) (.cons (qy rfl rfl rfl rfl rfl fun hR hf => ex_load sc_50 hf rfl (bx_cell (hR.1) _ rfl)) .nil))))) (fun K99 hK99 => ?_)
   refine RW.one 2 (by kernel_rfl) (by kernel_rfl) rfl (fun d hd => by cases hd; rfl) [(30, .pointer (some ⟨b3, 0, none⟩))] ⟨rfl, trivial⟩ (fun a w hR hs hf => ⟨wanted_yes hf rfl, ?_⟩)
   refine estep_f (ex_call cf_21 hf rfl) (iospace_Bus_TakeTrace.calls k x20s.1 x20s.2.1 x20s.2.2.1 x20s.2.2.2.1 x20s.2.2.2.2.1 x20s.2.2.2.2.2.1 b3 v21 G22 v23 G24 v25 G26 v27 G28 v29 (hs.enter (.k (.c (.c (.c (.c (.c (.c (.c (.c (.c (.c sN)))))))))))) (Sr.nil _ _) hs92) (fun v w hR => ?_)
   obtain ⟨v93, v94, rfl, hs'⟩ := hR
   replace hs := hs.step (.k (.c (.c (.c (.c (.c (.c (.c (.c (.c (.c sN))))))))))) hs'
   clear hs'
   refine ⟨[], _, [5, 6], (fun _ => True), hs.fn, rfl, rfl, ⟨hs.get (i := 11) rfl, trivial⟩, trivial, hs, (by kernel_rfl), .nil, ?_⟩
   refine RW.one 5 (by kernel_rfl) (by kernel_rfl) rfl (fun d hd => by cases hd; rfl) [(33, .pointer (some ⟨b13, 0, none⟩))] ⟨rfl, trivial⟩ (fun a w hR hs hf => ⟨wanted_yes hf rfl, ?_⟩)
   refine estep_f (ex_call cf_22 hf rfl) (ref09_Bus_TakeTrace.calls k x20s.2.2.2.2.2.2.1 x20s.2.2.2.2.2.2.2.1 x20s.2.2.2.2.2.2.2.2.1 x20s.2.2.2.2.2.2.2.2.2 b13 v30 G31 v32 v33 (hs.enter (.k (.k (.k (.k (.k (.k (.k (.k (.k (.k (.k (.k (.c (.c (.c (.c (.c .nil)))))))))))))))))) (Sr.nil _ _) hs95) (fun v w hR => ?_)
   obtain ⟨v96, v97, rfl, hs'⟩ := hR
   replace hs := hs.step (.k (.k (.k (.k (.k (.k (.k (.k (.k (.k (.k (.k (.c (.c (.c (.c (.c .nil))))))))))))))))) hs'
   clear hs'
   refine ⟨[], _, [6], (fun _ => True), hs.fn, rfl, rfl, ⟨⟨hs.get (i := 17) rfl, trivial⟩, trivial⟩, trivial, hs, (by kernel_rfl), .nil, ?_⟩
   refine RW.one 6 (by kernel_rfl) (by kernel_rfl) rfl (fun d hd => by cases hd; rfl) [(31, v94), (34, v97)] ⟨rfl, rfl, trivial⟩ (fun a w hR hs hf => ⟨wanted_yes hf rfl, ?_⟩)
   refine estep_f (ex_call cf_20 hf rfl) (help_Equal_api_Traced.calls k s92.2 s95.2 v94 v97 (hs.enter sN) (Sr.own hs sN (i := 16) rfl osl_rsl (fun _ h => h.1) (Sr.own hs sN (i := 5) rfl osl_rsl (fun _ h => h.1) (Sr.nil _ _))) hs98) (fun v w hR => ?_)
   obtain ⟨rfl, hs'⟩ := hR
   replace hs := hs.step sN hs'
   clear hs'
   refine ⟨[], _, [], (fun _ => True), hs.fn, rfl, rfl, ⟨⟨⟨hs.get (i := 17) rfl, trivial⟩, trivial⟩, trivial⟩, trivial, hs, (by kernel_rfl), .nil, ?_⟩
   refine RW.zero (by kernel_rfl) (by kernel_rfl) [(35, .bool s98)] ⟨rfl, trivial⟩ (fun a w hR hs hf => ?_)
   refine stq hf rfl rfl rfl (ex_assign hf rfl) fun a hf => ?_
   refine hK99 _ _ ?_
   refine hN91 _ _ ?_
   refine wp_ret ?_
   have eR := some_eq H; subst eR
   replace hs := hs.keep (.d (.d (.d (.d (.d (.d (.d (.d (.d (.d (.d (.d (.d (.d (.d (.d (.d (.d .nil))))))))))))))))))
   exact ret1 Try.results6 hf rfl ⟨_, rfl, ⟨rfl, hs⟩⟩
 ·
  replace hf := hf.castB (t := 10) rfl (nbool_t hc19)
  refine cond_T hf rfl ?_
  refine seq_reg (fun K100 hK100 => ?_)
  refine stq hf rfl rfl rfl (ex_assign hf rfl) fun a hf => ?_
  refine hK100 _ _ ?_
  refine wp_ret ?_
  refine hR16 _ _ ?_
  have eR := some_eq H; subst eR
  replace hs := hs.keep (.d (.d (.d (.d (.d (.d (.d (.d (.d (.d (.d (.d .nil))))))))))))
  exact ret1 Try.results6 hf rfl ⟨_, rfl, ⟨rfl, hs⟩⟩

end Go.Proofs.Ytigadacjaglfeaa.X
