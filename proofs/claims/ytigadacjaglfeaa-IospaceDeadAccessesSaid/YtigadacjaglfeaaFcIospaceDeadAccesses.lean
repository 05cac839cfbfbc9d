/- Each function of the machine comes to what its pure function says. -/
import Derived.Test.YtigadacjaglfeaaFc1
import Derived.Test.YtigadacjaglfeaaFc4
import Derived.Test.YtigadacjaglfeaaFc5
import Derived.Test.YtigadacjaglfeaaFc7
import Derived.Test.YtigadacjaglfeaaFcapply
import Derived.Test.YtigadacjaglfeaaFcawake
import Derived.Test.YtigadacjaglfeaaFb
namespace Go.Proofs.Ytigadacjaglfeaa.X
open Go Go.RowKit Go.Sx
set_option linter.unusedVariables false

set_option maxHeartbeats 4000000 in
set_option maxRecDepth 100000 in
theorem law09_IospaceDeadAccesses.calls {M : Nat → Prop} {w0 : World} (k : Nat) (a0 : (List Op)) (a1 : Op) (v0 : Value) {r : Bool} (hs : St M w0 w0 []) (hr : Sr M w0 [rsl K_platformfwlaw09_Op v0 a0])
  (h : law09_IospaceDeadAccesses.f k a0 a1 = some r) : Calls Try.prog 7 #[v0, .agg #[.int .i64 a1.Kind, .int .i64 a1.Space, .int .u64 a1.Addr, .int .u64 a1.Len, .int .i64 a1.Width, .int .i64 a1.Owner, .bool a1.Write, .int .u64 a1.Value, .bool a1.Raw]] w0 fun e w => ∃ v, e = .returned v ∧ (.bool r = v ∧ St M w0 w []) := by
 have H := (law09_IospaceDeadAccesses.f.eq_1 ..).symm.trans h
 clear h
 refine enter Try.func7 Z Try.ntmps7 Z (fun a hf => ?_)
 refine seq_reg (fun K2 hK2 => ?_)
 refine stepV hf Z Z Z (er_box (cs := [.int .i64 a1.Kind, .int .i64 a1.Space, .int .u64 a1.Addr, .int .u64 a1.Len, .int .i64 a1.Width, .int .i64 a1.Owner, .bool a1.Write, .int .u64 a1.Value, .bool a1.Raw]) hs hf Z Z) (fun v w hR a hf => ?_)
 obtain ⟨b1, rfl, hs⟩ := hR
 refine stq hf Z Z Z (ex_assign hf Z) fun a hf => ?_
 refine hK2 _ _ ?_
 refine bnd H (fun s3 hs3 H => ?_)
 refine seq_reg (fun K16 hK16 => ?_)
 refine stepF hf Z Z Z (ex_call cf_8 hf Z) (iospace_New.calls k (hs.enter sN) (Sr.nil _ _) hs3) (fun v w hR a hf => ?_)
 obtain ⟨b4, v5, b6, v7, b8, v9, b10, v11, b12, v13, rfl, hs'⟩ := hR
 replace hs := hs.step sN hs'
 clear hs'
 refine stq hf Z Z Z (ex_build (cs := [(.slice none 0 0), .bool false, .bool false, .bool false, .bool false, .bool false, .bool false, .bool false, .bool false, .bool false, .bool false, .bool false, .bool false, .bool false, .bool false, .bool false, .bool false, .bool false, .bool false, .bool false, .bool false, .bool false, .bool false, .bool false, .bool false, .bool false, .bool false, .bool false, .bool false, .bool false, .bool false, .bool false, .bool false, .bool false, .bool false, .bool false, .bool false, .bool false, .bool false, .bool false, .bool false, .bool false, .bool false, .bool false, .bool false, .bool false, .bool false, .bool false, .bool false, .bool false, .bool false, .bool false, .bool false, .bool false, .bool false, .bool false, .bool false, .bool false, .bool false, .bool false, .bool false, .bool false, .bool false, .bool false, .bool false, .bool false, .bool false, .bool false, .bool false, .bool false, .bool false, .bool false, .bool false, .bool false, .bool false, .bool false, .bool false, .bool false, .bool false, .bool false, .bool false, .bool false, .bool false, .bool false, .bool false, .bool false, .bool false, .bool false, .bool false, .bool false, .bool false, .bool false, .bool false, .bool false, .bool false, .bool false, .bool false, .bool false, .bool false, .bool false, .bool false, .bool false, .bool false, .bool false, .bool false, .bool false, .bool false, .bool false, .bool false, .bool false, .bool false, .bool false, .bool false, .bool false, .bool false, .bool false, .bool false, .bool false, .bool false, .bool false, .bool false, .bool false, .bool false, .bool false, .bool false, .bool false, .bool false, .bool false, .bool false, .bool false, .bool false, .bool false, .bool false, .bool false, .bool false, .bool false, .bool false, .bool false, .bool false, .bool false, .bool false, .bool false, .bool false, .bool false, .bool false, .bool false, .bool false, .bool false, .bool false, .bool false, .bool false, .bool false, .bool false, .bool false, .bool false, .bool false, .bool false, .bool false, .bool false, .bool false, .bool false, .bool false, .bool false, .bool false, .bool false, .bool false, .bool false, .bool false, .bool false, .bool false, .bool false, .bool false, .bool false, .bool false, .bool false, .bool false, .bool false, .bool false, .bool false, .bool false, .bool false, .bool false, .bool false, .bool false, .bool false, .bool false, .bool false, .bool false, .bool false, .bool false, .bool false, .bool false, .bool false, .bool false, .bool false, .bool false, .bool false, .bool false, .bool false, .bool false, .bool false, .bool false, .bool false, .bool false, .bool false, .bool false, .bool false, .bool false, .bool false, .bool false, .bool false, .bool false, .bool false, .bool false, .bool false, .bool false, .bool false, .bool false, .bool false, .bool false, .bool false, .bool false, .bool false, .bool false, .bool false, .bool false, .bool false, .bool false, .bool false, .bool false, .bool false, .bool false, .bool false, .bool false, .bool false, .bool false, .bool false, .bool false, .bool false, .bool false, .bool false, .bool false, .bool false, .bool false, .bool false, .bool false, .bool false, .bool false, .bool false, .bool false, .bool false, .bool false, .bool false, .bool false, .bool false, .bool false, .bool false, (.slice none 0 0), (.slice none 0 0)]) bt_56 hf Z .nil Z) fun a hf => ?_
 refine stepV hf Z Z Z (er_boxS (S := [([(.slice none 0 0)], 1), (List.map Value.bool (List.replicate 256 false), 256), ([(.slice none 0 0)], 1), ([(.slice none 0 0)], 1)]) hs hf Z Z (by simp [lens])) (fun v w hR a hf => ?_)
 obtain ⟨b14, rfl, hs⟩ := hR
 refine stq hf Z Z Z (ex_build (cs := [.pointer (some ⟨b4, 0, none⟩), .pointer (some ⟨b14, 0, none⟩)]) bt_58 hf Z (.cons Z (.cons Z .nil)) Z) fun a hf => ?_
 refine stepV hf Z Z Z (er_alloc hs ti_58 (cs := [.pointer none, .pointer none]) Z) (fun v w hR a hf => ?_)
 obtain ⟨b15, rfl, hs⟩ := hR
 refine stepS hf Z Z (er_storeAB (vs := [.pointer (some ⟨b4, 0, none⟩), .pointer (some ⟨b14, 0, none⟩)]) (cs' := [.pointer (some ⟨b4, 0, none⟩), .pointer (some ⟨b14, 0, none⟩)]) hs (.c sN) sz_58 hf Z Z (all1 Z (all1 Z (all1_nil))) Z Z) (fun w hs => ?_)
 refine hK16 _ _ ?_
 refine seq_n (fun Q17 hN17 hR17 hX17 => ?_)
 refine bnd H (fun s18 hs18 H => ?_)
 refine seq_reg (fun K19 hK19 => ?_)
 refine stepF hf Z Z Z (ex_call cf_9 hf Z) (law09_awake.calls k (hs.enter sN) (Sr.nil _ _) hs18) (fun v w hR a hf => ?_)
 obtain ⟨rfl, hs'⟩ := hR
 replace hs := hs.step sN hs'
 clear hs'
 refine stq hf Z Z Z (ex_not hf Z) fun a hf => ?_
 refine hK19 _ _ ?_
 refine itt H (fun hc20 H => ?_) (fun hc20 H => ?_)
 ·
  replace hf := hf.castB (t := 24) Z (nbool_f hc20)
  refine cond_F hf Z ?_
  refine wp_skip ?_
  refine hN17 _ _ ?_
  refine bnd H (fun x21 H21 HO21 => ?_)
  clear H
  refine seq_cut (fun a w => ∃ (v22 : Value) (G23 : List (Nat × Nat)) (v24 : Value) (G25 : List (Nat × Nat)) (v26 : Value) (G27 : List (Nat × Nat)) (v28 : Value) (G29 : List Nat) (v30 : Value) (v31 : Value) (G32 : List SlV) (v33 : Value) (v34 : Value), Fr a 186 [(3, .pointer (some ⟨b1, 0, none⟩)), (5, .pointer (some ⟨b15, 0, none⟩))] ∧ St M w0 w [bx b1 43 [.int .i64 a1.Kind, .int .i64 a1.Space, .int .u64 a1.Addr, .int .u64 a1.Len, .int .i64 a1.Width, .int .i64 a1.Owner, .bool a1.Write, .int .u64 a1.Value, .bool a1.Raw], bx b15 58 [.pointer (some ⟨b4, 0, none⟩), .pointer (some ⟨b14, 0, none⟩)], bxs b4 71 [([v22], 1), ([v24], 1), ([v26], 1), (List.map Value.bool x21.2.2.2.1, 256), ([v28], 1), ([v30], 1)], osl Km v22 (ids Fm G23), nds Fm G23 x21.1, osl Km v24 (ids Fm G25), nds Fm G25 x21.2.1, osl Km v26 (ids Fm G27), nds Fm G27 x21.2.2.1, osl Kf v28 (ids Ff G29), nds Ff G29 x21.2.2.2.2.1, osl Kt v30 x21.2.2.2.2.2.1, bxs b14 56 [([v31], 1), (List.map Value.bool x21.2.2.2.2.2.2.2.1, 256), ([v33], 1), ([v34], 1)], osl KR v31 (List.zip G32 x21.2.2.2.2.2.2.1), ndv FR G32 x21.2.2.2.2.2.2.1, osl KF v33 x21.2.2.2.2.2.2.2.2.1, osl Kt v34 x21.2.2.2.2.2.2.2.2.2]) (fun Q21 hJ21 hR21 hX21 => ?_) (fun a w hJ => ?_)
  ·
   replace H := H21
   refine seq_reg (fun K35 hK35 => ?_)
   refine stq hf Z Z Z (ex_assign hf Z) fun a hf => ?_
   refine hK35 _ _ ?_
   refine block_k (fun Q36 hN36 hR36 hX36 hY36 => ?_)
   refine loop_k (fun n a w => ∃ (y50 : (List mapping)) (y51 : (List mapping)) (y52 : (List mapping)) (y53 : (List Bool)) (y54 : (List fault)) (y55 : (List Traced)) (y56 : (List ref09_mapping)) (y57 : (List Bool)) (y58 : (List ref09_fault)) (y59 : (List Traced)) (y60 : Int) (v37 : Value) (G38 : List (Nat × Nat)) (v39 : Value) (G40 : List (Nat × Nat)) (v41 : Value) (G42 : List (Nat × Nat)) (v43 : Value) (G44 : List Nat) (v45 : Value) (v46 : Value) (G47 : List SlV) (v48 : Value) (v49 : Value), Fr a 186 [(0, v0), (3, .pointer (some ⟨b1, 0, none⟩)), (5, .pointer (some ⟨b15, 0, none⟩)), (6, .int .i64 y60)] ∧ St M w0 w [bx b1 43 [.int .i64 a1.Kind, .int .i64 a1.Space, .int .u64 a1.Addr, .int .u64 a1.Len, .int .i64 a1.Width, .int .i64 a1.Owner, .bool a1.Write, .int .u64 a1.Value, .bool a1.Raw], bx b15 58 [.pointer (some ⟨b4, 0, none⟩), .pointer (some ⟨b14, 0, none⟩)], bxs b4 71 [([v37], 1), ([v39], 1), ([v41], 1), (List.map Value.bool y53, 256), ([v43], 1), ([v45], 1)], osl Km v37 (ids Fm G38), nds Fm G38 y50, osl Km v39 (ids Fm G40), nds Fm G40 y51, osl Km v41 (ids Fm G42), nds Fm G42 y52, osl Kf v43 (ids Ff G44), nds Ff G44 y54, osl Kt v45 y55, bxs b14 56 [([v46], 1), (List.map Value.bool y57, 256), ([v48], 1), ([v49], 1)], osl KR v46 (List.zip G47 y56), ndv FR G47 y56, osl KF v48 y58, osl Kt v49 y59] ∧ law09_IospaceDeadAccesses.l1 n a0 y50 y51 y52 y53 y54 y55 y56 y57 y58 y59 y60 = some x21) k ?_ (fun n62 a w hI Q62 hL62 hR62 hX62 => ?_)
   ·
    replace hs := hs.nilS KR
    replace hs := hs.vnil FR
    replace hs := hs.nilS KF
    replace hs := hs.nilS Kt
    replace hs := hs.p1.p2.p3.p5.p15.p15.p15.p15.p15.p15.p15.p15.p15.p15.p15.p16
    exact ⟨s3.1, s3.2.1, s3.2.2.1, s3.2.2.2.1, s3.2.2.2.2.1, s3.2.2.2.2.2, [], (List.replicate 256 false), [], [], 0, v5, b6, v7, b8, v9, b10, v11, b12, v13, (.slice none 0 0), [], (.slice none 0 0), (.slice none 0 0), hf.sub ⟨Z, Z, Z, Z, trivial⟩, hs, H⟩
   ·
    obtain ⟨y50, y51, y52, y53, y54, y55, y56, y57, y58, y59, y60, v37, G38, v39, G40, v41, G42, v43, G44, v45, v46, G47, v48, v49, hf, hs, H⟩ := hI
    cases n62 with
    | zero => exact absurd H (by rw [law09_IospaceDeadAccesses.l1.eq_1]; intro h; cases h)
    | succ k62 =>
     replace H := (law09_IospaceDeadAccesses.l1.eq_2 ..).symm.trans H
     refine seq_n (fun Q63 hN63 hR63 hX63 => ?_)
     refine bnd H (fun x64 H64 HO64 => ?_)
     clear H
     refine seq_cut (fun a w => Fr a 186 [(0, v0), (3, .pointer (some ⟨b1, 0, none⟩)), (5, .pointer (some ⟨b15, 0, none⟩)), (6, .int .i64 y60), (32, .bool x64)] ∧ St M w0 w [bx b1 43 [.int .i64 a1.Kind, .int .i64 a1.Space, .int .u64 a1.Addr, .int .u64 a1.Len, .int .i64 a1.Width, .int .i64 a1.Owner, .bool a1.Write, .int .u64 a1.Value, .bool a1.Raw], bx b15 58 [.pointer (some ⟨b4, 0, none⟩), .pointer (some ⟨b14, 0, none⟩)], bxs b4 71 [([v37], 1), ([v39], 1), ([v41], 1), (List.map Value.bool y53, 256), ([v43], 1), ([v45], 1)], osl Km v37 (ids Fm G38), nds Fm G38 y50, osl Km v39 (ids Fm G40), nds Fm G40 y51, osl Km v41 (ids Fm G42), nds Fm G42 y52, osl Kf v43 (ids Ff G44), nds Ff G44 y54, osl Kt v45 y55, bxs b14 56 [([v46], 1), (List.map Value.bool y57, 256), ([v48], 1), ([v49], 1)], osl KR v46 (List.zip G47 y56), ndv FR G47 y56, osl KF v48 y58, osl Kt v49 y59]) (fun Q64 hJ64 hR64 hX64 => ?_) (fun a w hJ => ?_)
     ·
      replace H := H64
      refine itt H (fun hc65 H => ?_) (fun hc65 H => ?_)
      ·
       refine region_k (fun K66 hK66 => ?_)
       refine stq hf Z Z Z (ex_move hf Z) fun a hf => stq hf Z Z Z (ex_move hf Z) fun a hf => stq hf Z Z Z (ex_lenS Try.underlying40 (rsl_isSl (hr.now hs (i := 0) Z)) hf Z) fun a hf => stq hf Z Z Z (ex_lss hf Z Z) fun a hf => stq hf Z Z Z (ex_move hf Z) fun a hf => ?_
       replace hf := hf.castB (t := 28) Z (dec_t hc65)
       replace hf := hf.castB (t := 29) Z (dec_t hc65)
       refine stq hf Z Z Z (ex_move hf Z) fun a hf => stq hf Z Z Z (ex_lss hf Z Z) fun a hf => stq hf Z Z Z (ex_pickT hf Z Z) fun a hf => ?_
       refine hK66 _ _ ?_
       have e64 := some_eq H; subst e64
       exact hJ64 _ _ ⟨hf.sub ⟨Z, Z, Z, Z, Z, trivial⟩, hs⟩
      ·
       refine region_k (fun K67 hK67 => ?_)
       refine stq hf Z Z Z (ex_move hf Z) fun a hf => stq hf Z Z Z (ex_move hf Z) fun a hf => stq hf Z Z Z (ex_lenS Try.underlying40 (rsl_isSl (hr.now hs (i := 0) Z)) hf Z) fun a hf => stq hf Z Z Z (ex_lss hf Z Z) fun a hf => stq hf Z Z Z (ex_move hf Z) fun a hf => ?_
       replace hf := hf.castB (t := 28) Z (dec_f hc65)
       replace hf := hf.castB (t := 29) Z (dec_f hc65)
       refine stepN hf Z Z Z fun a hf => stepN hf Z Z Z fun a hf => stq hf Z Z Z (ex_pickF hf Z Z) fun a hf => ?_
       refine hK67 _ _ ?_
       have e64 := some_eq H; subst e64
       exact hJ64 _ _ ⟨hf.sub ⟨Z, Z, Z, Z, Z, trivial⟩, hs⟩
     ·
      obtain ⟨hf, hs⟩ := hJ
      replace H := HO64
      clear HO64
      refine itt H (fun hc68 H => ?_) (fun hc68 H => ?_)
      ·
       replace hf := hf.castB (t := 32) Z hc68
       refine cond_T hf Z ?_
       refine wp_skip ?_
       refine hN63 _ _ ?_
       refine seq_n (fun Q69 hN69 hR69 hX69 => ?_)
       refine block_k (fun Q70 hN70 hR70 hX70 hY70 => ?_)
       refine ck_some H (fun hc71 H => ?_)
       refine bnd H (fun s72 hs72 H => ?_)
       refine seq_reg (fun K74 hK74 => ?_)
       refine stq hf Z Z Z (ex_move hf Z) fun a hf => stq hf Z Z Z (ex_move hf Z) fun a hf => stq hf Z Z Z (ex_indexAddr sa_40 (rsl_isSl (hr.now hs (i := 0) Z)) hc71.1 hc71.2 hf Z Z) fun a hf => stq hf Z Z Z (ex_loadA (cs := [.int .i64 ((gd Op.zero a0 y60).Kind), .int .i64 ((gd Op.zero a0 y60).Space), .int .u64 ((gd Op.zero a0 y60).Addr), .int .u64 ((gd Op.zero a0 y60).Len), .int .i64 ((gd Op.zero a0 y60).Width), .int .i64 ((gd Op.zero a0 y60).Owner), .bool ((gd Op.zero a0 y60).Write), .int .u64 ((gd Op.zero a0 y60).Value), .bool ((gd Op.zero a0 y60).Raw)]) ag_43 hf Z (el_cells (K := K_platformfwlaw09_Op) (rsl_rd (hr.now hs (i := 0) Z)) hc71.1 hc71.2 Z)) fun a hf => ?_
       refine stepF hf Z Z Z (ex_call cf_19 hf Z) (law09_some.calls k62 (⟨((gd Op.zero a0 y60).Kind), ((gd Op.zero a0 y60).Space), ((gd Op.zero a0 y60).Addr), ((gd Op.zero a0 y60).Len), ((gd Op.zero a0 y60).Width), ((gd Op.zero a0 y60).Owner), ((gd Op.zero a0 y60).Write), ((gd Op.zero a0 y60).Value), ((gd Op.zero a0 y60).Raw)⟩ : Op) (hs.enter sN) (Sr.nil _ _) hs72) (fun v w hR a hf => ?_)
       obtain ⟨rfl, hs'⟩ := hR
       replace hs := hs.step sN hs'
       clear hs'
       refine stepV hf Z Z Z (er_alloc hs ti_43 (cs := [.int .i64 0, .int .i64 0, .int .u64 0, .int .u64 0, .int .i64 0, .int .i64 0, .bool false, .int .u64 0, .bool false]) Z) (fun v w hR a hf => ?_)
       obtain ⟨b73, rfl, hs⟩ := hR
       refine stepS hf Z Z (er_storeAB (vs := [.int .i64 s72.Kind, .int .i64 s72.Space, .int .u64 s72.Addr, .int .u64 s72.Len, .int .i64 s72.Width, .int .i64 s72.Owner, .bool s72.Write, .int .u64 s72.Value, .bool s72.Raw]) (cs' := [.int .i64 s72.Kind, .int .i64 s72.Space, .int .u64 s72.Addr, .int .u64 s72.Len, .int .i64 s72.Width, .int .i64 s72.Owner, .bool s72.Write, .int .u64 s72.Value, .bool s72.Raw]) hs (.c sN) sz_43 hf Z Z (all1 Z (all1 Z (all1 Z (all1 Z (all1 Z (all1 Z (all1 Z (all1 Z (all1 Z (all1_nil)))))))))) Z Z) (fun w hs => ?_)
       refine hK74 _ _ ?_
       refine bnd H (fun s75 hs75 H => ?_)
       refine region_k (fun K89 hK89 => ?_)
       refine stq hf Z Z Z (ex_loadA (cs := [.pointer (some ⟨b4, 0, none⟩), .pointer (some ⟨b14, 0, none⟩)]) ag_58 hf Z (bx_cells (hs.get (i := 2) Z) Z)) fun a hf => stq hf Z Z Z (ex_loadA (cs := [.int .i64 s72.Kind, .int .i64 s72.Space, .int .u64 s72.Addr, .int .u64 s72.Len, .int .i64 s72.Width, .int .i64 s72.Owner, .bool s72.Write, .int .u64 s72.Value, .bool s72.Raw]) ag_43 hf Z (bx_cells (hs.get (i := 0) Z) Z)) fun a hf => ?_
       refine stepF hf Z Z Z (ex_call cf_18 hf Z) (law09_both_apply.calls k62 y50 y51 y52 y53 y54 y55 y56 y57 y58 y59 s72 b4 v37 G38 v39 G40 v41 G42 v43 G44 v45 b14 v46 G47 v48 v49 (hs.enter (.k (.k (.k (.c (.c (.c (.c (.c (.c (.c (.c (.c (.c (.c (.c (.c (.c (.c .nil))))))))))))))))))) (Sr.nil _ _) hs75) (fun v w hR a hf => ?_)
       obtain ⟨v76, b77, v78, b79, v80, b81, v82, b83, v84, v85, b86, v87, v88, rfl, hs'⟩ := hR
       replace hs := hs.step (.k (.k (.k (.c (.c (.c (.c (.c (.c (.c (.c (.c (.c (.c (.c (.c (.c (.c .nil)))))))))))))))))) hs'
       clear hs'
       refine hK89 _ _ ?_
       refine hN70 _ _ ?_
       refine hN69 _ _ ?_
       refine region_k (fun K90 hK90 => ?_)
       refine stq hf Z Z Z (ex_move hf Z) fun a hf => stq hf Z Z Z (ex_add hf Z Z) fun a hf => stq hf Z Z Z (ex_assign hf Z) fun a hf => ?_
       refine hK90 _ _ ?_
       replace hs := hs.keep (.k (.k (.k (.k (.k (.k (.k (.k (.k (.k (.k (.k (.k (.k (.k (.d sN))))))))))))))))
       replace hs := hs.p14.p14.p14.p14.p14.p14.p14.p14.p14.p14.p14.p14.p14.p14.p14.p16.p16
       exact hL62 k62 _ _ (Nat.lt_succ_self _) ⟨s75.1, s75.2.1, s75.2.2.1, s75.2.2.2.1, s75.2.2.2.2.1, s75.2.2.2.2.2.1, s75.2.2.2.2.2.2.1, s75.2.2.2.2.2.2.2.1, s75.2.2.2.2.2.2.2.2.1, s75.2.2.2.2.2.2.2.2.2.1, (IntKind.i64.wrap (y60 + 1)), v76, b77, v78, b79, v80, b81, v82, b83, v84, v85, b86, v87, v88, hf.sub ⟨Z, Z, Z, Z, trivial⟩, hs, H⟩
      ·
       replace hf := hf.castB (t := 32) Z (bool_f hc68)
       refine cond_F hf Z ?_
       refine wp_exit ?_
       refine hX63 0 _ _ ?_
       refine hX62 0 _ _ ?_
       refine hX36 _ _ ?_
       have e21 := some_eq H; subst e21
       exact hJ21 _ _ ⟨v37, G38, v39, G40, v41, G42, v43, G44, v45, v46, G47, v48, v49, hf.sub ⟨Z, Z, trivial⟩, hs⟩
  ·
   obtain ⟨v22, G23, v24, G25, v26, G27, v28, G29, v30, v31, G32, v33, v34, hf, hs⟩ := hJ
   replace H := HO21
   clear HO21
   refine bnd H (fun s91 hs91 H => ?_)
   refine seq_reg (fun K92 hK92 => ?_)
   refine stq hf Z Z Z (ex_loadA (cs := [.int .i64 a1.Kind, .int .i64 a1.Space, .int .u64 a1.Addr, .int .u64 a1.Len, .int .i64 a1.Width, .int .i64 a1.Owner, .bool a1.Write, .int .u64 a1.Value, .bool a1.Raw]) ag_43 hf Z (bx_cells (hs.get (i := 0) Z) Z)) fun a hf => ?_
   refine stepF hf Z Z Z (ex_call cf_19 hf Z) (law09_some.calls k a1 (hs.enter sN) (Sr.nil _ _) hs91) (fun v w hR a hf => ?_)
   obtain ⟨rfl, hs'⟩ := hR
   replace hs := hs.step sN hs'
   clear hs'
   refine stepS hf Z Z (er_storeAB (vs := [.int .i64 s91.Kind, .int .i64 s91.Space, .int .u64 s91.Addr, .int .u64 s91.Len, .int .i64 s91.Width, .int .i64 s91.Owner, .bool s91.Write, .int .u64 s91.Value, .bool s91.Raw]) (cs' := [.int .i64 s91.Kind, .int .i64 s91.Space, .int .u64 s91.Addr, .int .u64 s91.Len, .int .i64 s91.Width, .int .i64 s91.Owner, .bool s91.Write, .int .u64 s91.Value, .bool s91.Raw]) hs (.c sN) sz_43 hf Z Z (all1 Z (all1 Z (all1 Z (all1 Z (all1 Z (all1 Z (all1 Z (all1 Z (all1 Z (all1_nil)))))))))) Z Z) (fun w hs => ?_)
   refine hK92 _ _ ?_
   refine seq_n (fun Q93 hN93 hR93 hX93 => ?_)
   refine bnd H (fun s94 hs94 H => ?_)
   refine bnd H (fun s96 hs96 H => ?_)
   refine ck_some H (fun hc97 H => ?_)
   refine wp_cut (fun a w => ∃ (b99 : Nat), Fr a 186 [(5, .pointer (some ⟨b15, 0, none⟩)), (8, .pointer (some ⟨b99, 0, none⟩))] ∧ St M w0 w [bx b15 58 [.pointer (some ⟨b4, 0, none⟩), .pointer (some ⟨b14, 0, none⟩)], bxs b4 71 [([v22], 1), ([v24], 1), ([v26], 1), (List.map Value.bool x21.2.2.2.1, 256), ([v28], 1), ([v30], 1)], osl Km v22 (ids Fm G23), nds Fm G23 x21.1, osl Km v24 (ids Fm G25), nds Fm G25 x21.2.1, osl Km v26 (ids Fm G27), nds Fm G27 x21.2.2.1, osl Kf v28 (ids Ff G29), nds Ff G29 x21.2.2.2.2.1, osl Kt v30 x21.2.2.2.2.2.1, bxs b14 56 [([v31], 1), (List.map Value.bool x21.2.2.2.2.2.2.2.1, 256), ([v33], 1), ([v34], 1)], osl KR v31 (List.zip G32 x21.2.2.2.2.2.2.1), ndv FR G32 x21.2.2.2.2.2.2.1, osl KF v33 x21.2.2.2.2.2.2.2.2.1, osl Kt v34 x21.2.2.2.2.2.2.2.2.2, bx b99 37 [.int .i64 s94, .int .u64 s91.Addr, .int .i64 (gd 0 ([1, 2, 4, 8] : List Int) s96), .bool s91.Write, .int .u64 s91.Value]]) (fun Q100 hJ100 => ?_) (fun a w hJ => ?_)
   ·
    refine region_dS fol 17 [(3, .pointer (some ⟨b1, 0, none⟩)), (5, .pointer (some ⟨b15, 0, none⟩))] [(0, .pointer (some ⟨b1, 1, none⟩)), (1, .int .i64 s91.Space), (3, .pointer (some ⟨b1, 2, none⟩)), (4, .int .u64 s91.Addr), (6, .pointer (some ⟨b1, 4, none⟩)), (7, .int .i64 s91.Width), (11, .pointer (some ⟨b1, 6, none⟩)), (12, .bool s91.Write), (13, .pointer (some ⟨b1, 7, none⟩)), (14, .int .u64 s91.Value)] [2, 5, 8, 16] (fun w => (bx b1 43 [.int .i64 s91.Kind, .int .i64 s91.Space, .int .u64 s91.Addr, .int .u64 s91.Len, .int .i64 s91.Width, .int .i64 s91.Owner, .bool s91.Write, .int .u64 s91.Value, .bool s91.Raw]).ok w ∧ True) hf ⟨Z, Z, trivial⟩ (by kernel_rfl) (by kernel_rfl) Z (by decide) ⟨hs.drew.get (i := 0) Z, trivial⟩ hs ((.cons (qy Z Z Z Z Z fun hR hf => ex_fieldAddrB fa_43_1 Z hf Z) (.cons (qy Z Z Z Z Z fun hR hf => ex_load sc_3 hf Z (bx_cell (hR.1) _ Z)) (.cons (qy Z Z Z Z Z fun hR hf => ex_fieldAddrB fa_43_2 Z hf Z) (.cons (qy Z Z Z Z Z fun hR hf => ex_load sc_22 hf Z (bx_cell (hR.1) _ Z)) (.cons (qy Z Z Z Z Z fun hR hf => ex_fieldAddrB fa_43_4 Z hf Z) (.cons (qy Z Z Z Z Z fun hR hf => ex_load sc_3 hf Z (bx_cell (hR.1) _ Z)) (.cons (qy Z Z Z Z Z fun hR hf => ex_fieldAddrB fa_43_6 Z hf Z) (.cons (qy Z Z Z Z Z fun hR hf => ex_load sc_4 hf Z (bx_cell (hR.1) _ Z)) (.cons (qy Z Z Z Z Z fun hR hf => ex_fieldAddrB fa_43_7 Z hf Z) (.cons (qy Z Z Z Z Z fun hR hf => ex_load sc_22 hf Z (bx_cell (hR.1) _ Z)) .nil))))))))))) (fun K101 hK101 => ?_)
    refine RW.fork [2, 5, 16] (by kernel_rfl) (by kernel_rfl) ⟨?_, ?_, ?_, trivial⟩
    ·
     refine RWe.mk 2 rfl (fun d hd => by cases hd; rfl) [(46, .int .i64 s91.Space)] ⟨rfl, trivial⟩ (fun a w hR hs hf => ⟨wanted_yes hf rfl, ?_⟩)
     refine estep_f (ex_call cf_10 hf Z) (help_Mod.calls k s91.Space 3 (hs.enter sN) (Sr.nil _ _) hs94) (fun v w hR => ?_)
     obtain ⟨rfl, hs'⟩ := hR
     replace hs := hs.step sN hs'
     clear hs'
     refine ⟨[], _, [5, 8, 16], (fun _ => True), hs.fn, Z, Z, ⟨hs.get (i := 0) Z, trivial⟩, trivial, hs, (by kernel_rfl), .nil, ?_⟩
     refine RW.fork [5, 8, 16] (by kernel_rfl) (by kernel_rfl) ⟨?_, ?_, ?_, trivial⟩
     ·
      refine RWe.mk 5 rfl (fun d hd => by cases hd; rfl) [] trivial (fun a w hR hs hf => ⟨wanted_yes hf rfl, ?_⟩)
      refine estep_v (er_buildSlice (K := K_int) (xs := ([1, 2, 4, 8] : List Int)) hs Try.underlying27 ep_3 Z Z hf Z (.cons Z (.cons Z (.cons Z (.cons Z .nil)))) Z Z) (fun v102 w hs => ?_)
      refine ⟨[], _, [8, 16], (fun _ => True), hs.fn, Z, Z, ⟨⟨hs.get (i := 1) Z, trivial⟩, trivial⟩, trivial, hs, (by kernel_rfl), .nil, ?_⟩
      refine RW.fork [8, 16] (by kernel_rfl) (by kernel_rfl) ⟨?_, ?_, trivial⟩
      ·
       refine RWe.mk 8 rfl (fun d hd => by cases hd; rfl) [(52, .int .i64 s91.Width)] ⟨rfl, trivial⟩ (fun a w hR hs hf => ⟨wanted_yes hf rfl, ?_⟩)
       refine estep_f (ex_call cf_10 hf Z) (help_Mod.calls k s91.Width 4 (hs.enter sN) (Sr.nil _ _) hs96) (fun v w hR => ?_)
       obtain ⟨rfl, hs'⟩ := hR
       replace hs := hs.step sN hs'
       clear hs'
       refine ⟨[(9, .pointer (some (sla v102 (s96.toNat * 1)))), (10, .int .i64 (gd 0 ([1, 2, 4, 8] : List Int) s96)), (15, .agg #[.int .i64 s94, .int .u64 s91.Addr, .int .i64 (gd 0 ([1, 2, 4, 8] : List Int) s96), .bool s91.Write, .int .u64 s91.Value])], _, [16], (fun w => (osl K_int v102 ([1, 2, 4, 8] : List Int)).ok w ∧ True), hs.fn, Z, Z, ⟨⟨⟨hs.get (i := 1) Z, trivial⟩, trivial⟩, trivial⟩, ⟨hs.get (i := 0) Z, trivial⟩, hs, (by kernel_rfl), (.cons (qy Z Z Z Z Z fun hR hf => ex_indexAddr sa_27 (rsl_isSl (osl_rsl _ hR.2.1)) hc97.1 hc97.2 hf Z Z) (.cons (qy Z Z Z Z Z fun hR hf => ex_load sc_3 hf Z (el_cell (K := K_int) (f := 0) (rsl_rd (osl_rsl _ hR.2.1)) hc97.1 hc97.2 Z)) (.cons (qy Z Z Z Z Z fun hR hf => ex_build (cs := [.int .i64 s94, .int .u64 s91.Addr, .int .i64 (gd 0 ([1, 2, 4, 8] : List Int) s96), .bool s91.Write, .int .u64 s91.Value]) bt_37 hf Z (.cons Z (.cons Z (.cons Z (.cons Z (.cons Z .nil))))) Z) .nil))), ?_⟩
       refine RW.one 16 (by kernel_rfl) (by kernel_rfl) rfl (fun d hd => by cases hd; rfl) [] trivial (fun a w hR hs hf => ⟨wanted_yes hf rfl, ?_⟩)
       refine estep_v (er_alloc hs ti_37 (cs := [.int .i64 0, .int .u64 0, .int .i64 0, .bool false, .int .u64 0]) Z) (fun v w hR => ?_)
       obtain ⟨b103, rfl, hs⟩ := hR
       refine ⟨[], _, [], (fun _ => True), hs.fn, Z, Z, ⟨⟨⟨⟨hs.get (i := 2) Z, trivial⟩, trivial⟩, trivial⟩, ⟨hs.get (i := 1) Z, trivial⟩⟩, trivial, hs, (by kernel_rfl), .nil, ?_⟩
       refine RW.zero (by kernel_rfl) (by kernel_rfl) [(5, .pointer (some ⟨b15, 0, none⟩)), (8, .pointer (some ⟨b103, 0, none⟩)), (60, .agg #[.int .i64 s94, .int .u64 s91.Addr, .int .i64 (gd 0 ([1, 2, 4, 8] : List Int) s96), .bool s91.Write, .int .u64 s91.Value])] ⟨Z, Z, Z, trivial⟩ (fun a w hR hs hf => ?_)
       refine stepS hf Z Z (er_storeAB (vs := [.int .i64 s94, .int .u64 s91.Addr, .int .i64 (gd 0 ([1, 2, 4, 8] : List Int) s96), .bool s91.Write, .int .u64 s91.Value]) (cs' := [.int .i64 s94, .int .u64 s91.Addr, .int .i64 (gd 0 ([1, 2, 4, 8] : List Int) s96), .bool s91.Write, .int .u64 s91.Value]) hs (.c sN) sz_37 hf Z Z (all1 Z (all1 Z (all1 Z (all1 Z (all1 Z (all1_nil)))))) Z Z) (fun w hs => ?_)
       refine hK101 _ _ ?_
       replace hs := hs.keep (.k (.d (.d sN)))
       replace hs := hs.p16.p16.p16.p16.p16.p16.p16.p16.p16.p16.p16.p16.p16.p16.p16.p16
       exact hJ100 _ _ ⟨b103, hf.sub ⟨Z, Z, trivial⟩, hs⟩
      ·
       refine RWe.mk 16 rfl (fun d hd => by cases hd; rfl) [] trivial (fun a w hR hs hf => ⟨wanted_yes hf rfl, ?_⟩)
       refine estep_v (er_alloc hs ti_37 (cs := [.int .i64 0, .int .u64 0, .int .i64 0, .bool false, .int .u64 0]) Z) (fun v w hR => ?_)
       obtain ⟨b104, rfl, hs⟩ := hR
       refine ⟨[], _, [8], (fun _ => True), hs.fn, Z, Z, ⟨⟨⟨hs.get (i := 2) Z, trivial⟩, trivial⟩, trivial⟩, trivial, hs, (by kernel_rfl), .nil, ?_⟩
       refine RW.one 8 (by kernel_rfl) (by kernel_rfl) rfl (fun d hd => by cases hd; rfl) [(52, .int .i64 s91.Width)] ⟨rfl, trivial⟩ (fun a w hR hs hf => ⟨wanted_yes hf rfl, ?_⟩)
       refine estep_f (ex_call cf_10 hf Z) (help_Mod.calls k s91.Width 4 (hs.enter sN) (Sr.nil _ _) hs96) (fun v w hR => ?_)
       obtain ⟨rfl, hs'⟩ := hR
       replace hs := hs.step sN hs'
       clear hs'
       refine ⟨[(9, .pointer (some (sla v102 (s96.toNat * 1)))), (10, .int .i64 (gd 0 ([1, 2, 4, 8] : List Int) s96)), (15, .agg #[.int .i64 s94, .int .u64 s91.Addr, .int .i64 (gd 0 ([1, 2, 4, 8] : List Int) s96), .bool s91.Write, .int .u64 s91.Value])], _, [], (fun w => (osl K_int v102 ([1, 2, 4, 8] : List Int)).ok w ∧ True), hs.fn, Z, Z, ⟨⟨⟨⟨hs.get (i := 2) Z, trivial⟩, trivial⟩, trivial⟩, trivial⟩, ⟨hs.get (i := 1) Z, trivial⟩, hs, (by kernel_rfl), (.cons (qy Z Z Z Z Z fun hR hf => ex_indexAddr sa_27 (rsl_isSl (osl_rsl _ hR.2.1)) hc97.1 hc97.2 hf Z Z) (.cons (qy Z Z Z Z Z fun hR hf => ex_load sc_3 hf Z (el_cell (K := K_int) (f := 0) (rsl_rd (osl_rsl _ hR.2.1)) hc97.1 hc97.2 Z)) (.cons (qy Z Z Z Z Z fun hR hf => ex_build (cs := [.int .i64 s94, .int .u64 s91.Addr, .int .i64 (gd 0 ([1, 2, 4, 8] : List Int) s96), .bool s91.Write, .int .u64 s91.Value]) bt_37 hf Z (.cons Z (.cons Z (.cons Z (.cons Z (.cons Z .nil))))) Z) .nil))), ?_⟩
       refine RW.zero (by kernel_rfl) (by kernel_rfl) [(5, .pointer (some ⟨b15, 0, none⟩)), (8, .pointer (some ⟨b104, 0, none⟩)), (60, .agg #[.int .i64 s94, .int .u64 s91.Addr, .int .i64 (gd 0 ([1, 2, 4, 8] : List Int) s96), .bool s91.Write, .int .u64 s91.Value])] ⟨Z, Z, Z, trivial⟩ (fun a w hR hs hf => ?_)
       refine stepS hf Z Z (er_storeAB (vs := [.int .i64 s94, .int .u64 s91.Addr, .int .i64 (gd 0 ([1, 2, 4, 8] : List Int) s96), .bool s91.Write, .int .u64 s91.Value]) (cs' := [.int .i64 s94, .int .u64 s91.Addr, .int .i64 (gd 0 ([1, 2, 4, 8] : List Int) s96), .bool s91.Write, .int .u64 s91.Value]) hs (.c sN) sz_37 hf Z Z (all1 Z (all1 Z (all1 Z (all1 Z (all1 Z (all1_nil)))))) Z Z) (fun w hs => ?_)
       refine hK101 _ _ ?_
       replace hs := hs.keep (.k (.d (.d sN)))
       replace hs := hs.p16.p16.p16.p16.p16.p16.p16.p16.p16.p16.p16.p16.p16.p16.p16.p16
       exact hJ100 _ _ ⟨b104, hf.sub ⟨Z, Z, trivial⟩, hs⟩
     ·
      refine RWe.mk 8 rfl (fun d hd => by cases hd; rfl) [(52, .int .i64 s91.Width)] ⟨rfl, trivial⟩ (fun a w hR hs hf => ⟨wanted_yes hf rfl, ?_⟩)
      refine estep_f (ex_call cf_10 hf Z) (help_Mod.calls k s91.Width 4 (hs.enter sN) (Sr.nil _ _) hs96) (fun v w hR => ?_)
      obtain ⟨rfl, hs'⟩ := hR
      replace hs := hs.step sN hs'
      clear hs'
      refine ⟨[], _, [5, 16], (fun _ => True), hs.fn, Z, Z, ⟨⟨hs.get (i := 0) Z, trivial⟩, trivial⟩, trivial, hs, (by kernel_rfl), .nil, ?_⟩
      refine RW.fork [5, 16] (by kernel_rfl) (by kernel_rfl) ⟨?_, ?_, trivial⟩
      ·
       refine RWe.mk 5 rfl (fun d hd => by cases hd; rfl) [] trivial (fun a w hR hs hf => ⟨wanted_yes hf rfl, ?_⟩)
       refine estep_v (er_buildSlice (K := K_int) (xs := ([1, 2, 4, 8] : List Int)) hs Try.underlying27 ep_3 Z Z hf Z (.cons Z (.cons Z (.cons Z (.cons Z .nil)))) Z Z) (fun v105 w hs => ?_)
       refine ⟨[(9, .pointer (some (sla v105 (s96.toNat * 1)))), (10, .int .i64 (gd 0 ([1, 2, 4, 8] : List Int) s96)), (15, .agg #[.int .i64 s94, .int .u64 s91.Addr, .int .i64 (gd 0 ([1, 2, 4, 8] : List Int) s96), .bool s91.Write, .int .u64 s91.Value])], _, [16], (fun w => (osl K_int v105 ([1, 2, 4, 8] : List Int)).ok w ∧ True), hs.fn, Z, Z, ⟨⟨⟨hs.get (i := 1) Z, trivial⟩, trivial⟩, trivial⟩, ⟨hs.get (i := 0) Z, trivial⟩, hs, (by kernel_rfl), (.cons (qy Z Z Z Z Z fun hR hf => ex_indexAddr sa_27 (rsl_isSl (osl_rsl _ hR.2.1)) hc97.1 hc97.2 hf Z Z) (.cons (qy Z Z Z Z Z fun hR hf => ex_load sc_3 hf Z (el_cell (K := K_int) (f := 0) (rsl_rd (osl_rsl _ hR.2.1)) hc97.1 hc97.2 Z)) (.cons (qy Z Z Z Z Z fun hR hf => ex_build (cs := [.int .i64 s94, .int .u64 s91.Addr, .int .i64 (gd 0 ([1, 2, 4, 8] : List Int) s96), .bool s91.Write, .int .u64 s91.Value]) bt_37 hf Z (.cons Z (.cons Z (.cons Z (.cons Z (.cons Z .nil))))) Z) .nil))), ?_⟩
       refine RW.one 16 (by kernel_rfl) (by kernel_rfl) rfl (fun d hd => by cases hd; rfl) [] trivial (fun a w hR hs hf => ⟨wanted_yes hf rfl, ?_⟩)
       refine estep_v (er_alloc hs ti_37 (cs := [.int .i64 0, .int .u64 0, .int .i64 0, .bool false, .int .u64 0]) Z) (fun v w hR => ?_)
       obtain ⟨b106, rfl, hs⟩ := hR
       refine ⟨[], _, [], (fun _ => True), hs.fn, Z, Z, ⟨⟨⟨⟨hs.get (i := 2) Z, trivial⟩, trivial⟩, trivial⟩, ⟨hs.get (i := 1) Z, trivial⟩⟩, trivial, hs, (by kernel_rfl), .nil, ?_⟩
       refine RW.zero (by kernel_rfl) (by kernel_rfl) [(5, .pointer (some ⟨b15, 0, none⟩)), (8, .pointer (some ⟨b106, 0, none⟩)), (60, .agg #[.int .i64 s94, .int .u64 s91.Addr, .int .i64 (gd 0 ([1, 2, 4, 8] : List Int) s96), .bool s91.Write, .int .u64 s91.Value])] ⟨Z, Z, Z, trivial⟩ (fun a w hR hs hf => ?_)
       refine stepS hf Z Z (er_storeAB (vs := [.int .i64 s94, .int .u64 s91.Addr, .int .i64 (gd 0 ([1, 2, 4, 8] : List Int) s96), .bool s91.Write, .int .u64 s91.Value]) (cs' := [.int .i64 s94, .int .u64 s91.Addr, .int .i64 (gd 0 ([1, 2, 4, 8] : List Int) s96), .bool s91.Write, .int .u64 s91.Value]) hs (.c sN) sz_37 hf Z Z (all1 Z (all1 Z (all1 Z (all1 Z (all1 Z (all1_nil)))))) Z Z) (fun w hs => ?_)
       refine hK101 _ _ ?_
       replace hs := hs.keep (.k (.d (.d sN)))
       replace hs := hs.p16.p16.p16.p16.p16.p16.p16.p16.p16.p16.p16.p16.p16.p16.p16.p16
       exact hJ100 _ _ ⟨b106, hf.sub ⟨Z, Z, trivial⟩, hs⟩
      ·
       refine RWe.mk 16 rfl (fun d hd => by cases hd; rfl) [] trivial (fun a w hR hs hf => ⟨wanted_yes hf rfl, ?_⟩)
       refine estep_v (er_alloc hs ti_37 (cs := [.int .i64 0, .int .u64 0, .int .i64 0, .bool false, .int .u64 0]) Z) (fun v w hR => ?_)
       obtain ⟨b107, rfl, hs⟩ := hR
       refine ⟨[], _, [5], (fun _ => True), hs.fn, Z, Z, ⟨⟨⟨hs.get (i := 1) Z, trivial⟩, trivial⟩, trivial⟩, trivial, hs, (by kernel_rfl), .nil, ?_⟩
       refine RW.one 5 (by kernel_rfl) (by kernel_rfl) rfl (fun d hd => by cases hd; rfl) [] trivial (fun a w hR hs hf => ⟨wanted_yes hf rfl, ?_⟩)
       refine estep_v (er_buildSlice (K := K_int) (xs := ([1, 2, 4, 8] : List Int)) hs Try.underlying27 ep_3 Z Z hf Z (.cons Z (.cons Z (.cons Z (.cons Z .nil)))) Z Z) (fun v108 w hs => ?_)
       refine ⟨[(9, .pointer (some (sla v108 (s96.toNat * 1)))), (10, .int .i64 (gd 0 ([1, 2, 4, 8] : List Int) s96)), (15, .agg #[.int .i64 s94, .int .u64 s91.Addr, .int .i64 (gd 0 ([1, 2, 4, 8] : List Int) s96), .bool s91.Write, .int .u64 s91.Value])], _, [], (fun w => (osl K_int v108 ([1, 2, 4, 8] : List Int)).ok w ∧ True), hs.fn, Z, Z, ⟨⟨⟨⟨hs.get (i := 2) Z, trivial⟩, trivial⟩, trivial⟩, trivial⟩, ⟨hs.get (i := 0) Z, trivial⟩, hs, (by kernel_rfl), (.cons (qy Z Z Z Z Z fun hR hf => ex_indexAddr sa_27 (rsl_isSl (osl_rsl _ hR.2.1)) hc97.1 hc97.2 hf Z Z) (.cons (qy Z Z Z Z Z fun hR hf => ex_load sc_3 hf Z (el_cell (K := K_int) (f := 0) (rsl_rd (osl_rsl _ hR.2.1)) hc97.1 hc97.2 Z)) (.cons (qy Z Z Z Z Z fun hR hf => ex_build (cs := [.int .i64 s94, .int .u64 s91.Addr, .int .i64 (gd 0 ([1, 2, 4, 8] : List Int) s96), .bool s91.Write, .int .u64 s91.Value]) bt_37 hf Z (.cons Z (.cons Z (.cons Z (.cons Z (.cons Z .nil))))) Z) .nil))), ?_⟩
       refine RW.zero (by kernel_rfl) (by kernel_rfl) [(5, .pointer (some ⟨b15, 0, none⟩)), (8, .pointer (some ⟨b107, 0, none⟩)), (60, .agg #[.int .i64 s94, .int .u64 s91.Addr, .int .i64 (gd 0 ([1, 2, 4, 8] : List Int) s96), .bool s91.Write, .int .u64 s91.Value])] ⟨Z, Z, Z, trivial⟩ (fun a w hR hs hf => ?_)
       refine stepS hf Z Z (er_storeAB (vs := [.int .i64 s94, .int .u64 s91.Addr, .int .i64 (gd 0 ([1, 2, 4, 8] : List Int) s96), .bool s91.Write, .int .u64 s91.Value]) (cs' := [.int .i64 s94, .int .u64 s91.Addr, .int .i64 (gd 0 ([1, 2, 4, 8] : List Int) s96), .bool s91.Write, .int .u64 s91.Value]) hs (.k (.c sN)) sz_37 hf Z Z (all1 Z (all1 Z (all1 Z (all1 Z (all1 Z (all1_nil)))))) Z Z) (fun w hs => ?_)
       refine hK101 _ _ ?_
       replace hs := hs.keep (.k (.d (.d sN)))
       replace hs := hs.p16.p16.p16.p16.p16.p16.p16.p16.p16.p16.p16.p16.p16.p16.p16.p16
       exact hJ100 _ _ ⟨b107, hf.sub ⟨Z, Z, trivial⟩, hs⟩
     ·
      refine RWe.mk 16 rfl (fun d hd => by cases hd; rfl) [] trivial (fun a w hR hs hf => ⟨wanted_yes hf rfl, ?_⟩)
      refine estep_v (er_alloc hs ti_37 (cs := [.int .i64 0, .int .u64 0, .int .i64 0, .bool false, .int .u64 0]) Z) (fun v w hR => ?_)
      obtain ⟨b109, rfl, hs⟩ := hR
      refine ⟨[], _, [5, 8], (fun _ => True), hs.fn, Z, Z, ⟨⟨hs.get (i := 1) Z, trivial⟩, trivial⟩, trivial, hs, (by kernel_rfl), .nil, ?_⟩
      refine RW.fork [5, 8] (by kernel_rfl) (by kernel_rfl) ⟨?_, ?_, trivial⟩
      ·
       refine RWe.mk 5 rfl (fun d hd => by cases hd; rfl) [] trivial (fun a w hR hs hf => ⟨wanted_yes hf rfl, ?_⟩)
       refine estep_v (er_buildSlice (K := K_int) (xs := ([1, 2, 4, 8] : List Int)) hs Try.underlying27 ep_3 Z Z hf Z (.cons Z (.cons Z (.cons Z (.cons Z .nil)))) Z Z) (fun v110 w hs => ?_)
       refine ⟨[], _, [8], (fun _ => True), hs.fn, Z, Z, ⟨⟨⟨hs.get (i := 2) Z, trivial⟩, trivial⟩, trivial⟩, trivial, hs, (by kernel_rfl), .nil, ?_⟩
       refine RW.one 8 (by kernel_rfl) (by kernel_rfl) rfl (fun d hd => by cases hd; rfl) [(52, .int .i64 s91.Width)] ⟨rfl, trivial⟩ (fun a w hR hs hf => ⟨wanted_yes hf rfl, ?_⟩)
       refine estep_f (ex_call cf_10 hf Z) (help_Mod.calls k s91.Width 4 (hs.enter sN) (Sr.nil _ _) hs96) (fun v w hR => ?_)
       obtain ⟨rfl, hs'⟩ := hR
       replace hs := hs.step sN hs'
       clear hs'
       refine ⟨[(9, .pointer (some (sla v110 (s96.toNat * 1)))), (10, .int .i64 (gd 0 ([1, 2, 4, 8] : List Int) s96)), (15, .agg #[.int .i64 s94, .int .u64 s91.Addr, .int .i64 (gd 0 ([1, 2, 4, 8] : List Int) s96), .bool s91.Write, .int .u64 s91.Value])], _, [], (fun w => (osl K_int v110 ([1, 2, 4, 8] : List Int)).ok w ∧ True), hs.fn, Z, Z, ⟨⟨⟨⟨hs.get (i := 2) Z, trivial⟩, trivial⟩, trivial⟩, trivial⟩, ⟨hs.get (i := 0) Z, trivial⟩, hs, (by kernel_rfl), (.cons (qy Z Z Z Z Z fun hR hf => ex_indexAddr sa_27 (rsl_isSl (osl_rsl _ hR.2.1)) hc97.1 hc97.2 hf Z Z) (.cons (qy Z Z Z Z Z fun hR hf => ex_load sc_3 hf Z (el_cell (K := K_int) (f := 0) (rsl_rd (osl_rsl _ hR.2.1)) hc97.1 hc97.2 Z)) (.cons (qy Z Z Z Z Z fun hR hf => ex_build (cs := [.int .i64 s94, .int .u64 s91.Addr, .int .i64 (gd 0 ([1, 2, 4, 8] : List Int) s96), .bool s91.Write, .int .u64 s91.Value]) bt_37 hf Z (.cons Z (.cons Z (.cons Z (.cons Z (.cons Z .nil))))) Z) .nil))), ?_⟩
       refine RW.zero (by kernel_rfl) (by kernel_rfl) [(5, .pointer (some ⟨b15, 0, none⟩)), (8, .pointer (some ⟨b109, 0, none⟩)), (60, .agg #[.int .i64 s94, .int .u64 s91.Addr, .int .i64 (gd 0 ([1, 2, 4, 8] : List Int) s96), .bool s91.Write, .int .u64 s91.Value])] ⟨Z, Z, Z, trivial⟩ (fun a w hR hs hf => ?_)
       refine stepS hf Z Z (er_storeAB (vs := [.int .i64 s94, .int .u64 s91.Addr, .int .i64 (gd 0 ([1, 2, 4, 8] : List Int) s96), .bool s91.Write, .int .u64 s91.Value]) (cs' := [.int .i64 s94, .int .u64 s91.Addr, .int .i64 (gd 0 ([1, 2, 4, 8] : List Int) s96), .bool s91.Write, .int .u64 s91.Value]) hs (.k (.c sN)) sz_37 hf Z Z (all1 Z (all1 Z (all1 Z (all1 Z (all1 Z (all1_nil)))))) Z Z) (fun w hs => ?_)
       refine hK101 _ _ ?_
       replace hs := hs.keep (.k (.d (.d sN)))
       replace hs := hs.p16.p16.p16.p16.p16.p16.p16.p16.p16.p16.p16.p16.p16.p16.p16.p16
       exact hJ100 _ _ ⟨b109, hf.sub ⟨Z, Z, trivial⟩, hs⟩
      ·
       refine RWe.mk 8 rfl (fun d hd => by cases hd; rfl) [(52, .int .i64 s91.Width)] ⟨rfl, trivial⟩ (fun a w hR hs hf => ⟨wanted_yes hf rfl, ?_⟩)
       refine estep_f (ex_call cf_10 hf Z) (help_Mod.calls k s91.Width 4 (hs.enter sN) (Sr.nil _ _) hs96) (fun v w hR => ?_)
       obtain ⟨rfl, hs'⟩ := hR
       replace hs := hs.step sN hs'
       clear hs'
       refine ⟨[], _, [5], (fun _ => True), hs.fn, Z, Z, ⟨⟨⟨hs.get (i := 1) Z, trivial⟩, trivial⟩, trivial⟩, trivial, hs, (by kernel_rfl), .nil, ?_⟩
       refine RW.one 5 (by kernel_rfl) (by kernel_rfl) rfl (fun d hd => by cases hd; rfl) [] trivial (fun a w hR hs hf => ⟨wanted_yes hf rfl, ?_⟩)
       refine estep_v (er_buildSlice (K := K_int) (xs := ([1, 2, 4, 8] : List Int)) hs Try.underlying27 ep_3 Z Z hf Z (.cons Z (.cons Z (.cons Z (.cons Z .nil)))) Z Z) (fun v111 w hs => ?_)
       refine ⟨[(9, .pointer (some (sla v111 (s96.toNat * 1)))), (10, .int .i64 (gd 0 ([1, 2, 4, 8] : List Int) s96)), (15, .agg #[.int .i64 s94, .int .u64 s91.Addr, .int .i64 (gd 0 ([1, 2, 4, 8] : List Int) s96), .bool s91.Write, .int .u64 s91.Value])], _, [], (fun w => (osl K_int v111 ([1, 2, 4, 8] : List Int)).ok w ∧ True), hs.fn, Z, Z, ⟨⟨⟨⟨hs.get (i := 2) Z, trivial⟩, trivial⟩, trivial⟩, trivial⟩, ⟨hs.get (i := 0) Z, trivial⟩, hs, (by kernel_rfl), (.cons (qy Z Z Z Z Z fun hR hf => ex_indexAddr sa_27 (rsl_isSl (osl_rsl _ hR.2.1)) hc97.1 hc97.2 hf Z Z) (.cons (qy Z Z Z Z Z fun hR hf => ex_load sc_3 hf Z (el_cell (K := K_int) (f := 0) (rsl_rd (osl_rsl _ hR.2.1)) hc97.1 hc97.2 Z)) (.cons (qy Z Z Z Z Z fun hR hf => ex_build (cs := [.int .i64 s94, .int .u64 s91.Addr, .int .i64 (gd 0 ([1, 2, 4, 8] : List Int) s96), .bool s91.Write, .int .u64 s91.Value]) bt_37 hf Z (.cons Z (.cons Z (.cons Z (.cons Z (.cons Z .nil))))) Z) .nil))), ?_⟩
       refine RW.zero (by kernel_rfl) (by kernel_rfl) [(5, .pointer (some ⟨b15, 0, none⟩)), (8, .pointer (some ⟨b109, 0, none⟩)), (60, .agg #[.int .i64 s94, .int .u64 s91.Addr, .int .i64 (gd 0 ([1, 2, 4, 8] : List Int) s96), .bool s91.Write, .int .u64 s91.Value])] ⟨Z, Z, Z, trivial⟩ (fun a w hR hs hf => ?_)
       refine stepS hf Z Z (er_storeAB (vs := [.int .i64 s94, .int .u64 s91.Addr, .int .i64 (gd 0 ([1, 2, 4, 8] : List Int) s96), .bool s91.Write, .int .u64 s91.Value]) (cs' := [.int .i64 s94, .int .u64 s91.Addr, .int .i64 (gd 0 ([1, 2, 4, 8] : List Int) s96), .bool s91.Write, .int .u64 s91.Value]) hs (.k (.c sN)) sz_37 hf Z Z (all1 Z (all1 Z (all1 Z (all1 Z (all1 Z (all1_nil)))))) Z Z) (fun w hs => ?_)
       refine hK101 _ _ ?_
       replace hs := hs.keep (.k (.d (.d sN)))
       replace hs := hs.p16.p16.p16.p16.p16.p16.p16.p16.p16.p16.p16.p16.p16.p16.p16.p16
       exact hJ100 _ _ ⟨b109, hf.sub ⟨Z, Z, trivial⟩, hs⟩
    ·
     refine RWe.mk 5 rfl (fun d hd => by cases hd; rfl) [] trivial (fun a w hR hs hf => ⟨wanted_yes hf rfl, ?_⟩)
     refine estep_v (er_buildSlice (K := K_int) (xs := ([1, 2, 4, 8] : List Int)) hs Try.underlying27 ep_3 Z Z hf Z (.cons Z (.cons Z (.cons Z (.cons Z .nil)))) Z Z) (fun v112 w hs => ?_)
     refine ⟨[], _, [2, 8, 16], (fun _ => True), hs.fn, Z, Z, ⟨hs.get (i := 1) Z, trivial⟩, trivial, hs, (by kernel_rfl), .nil, ?_⟩
     refine RW.fork [2, 16] (by kernel_rfl) (by kernel_rfl) ⟨?_, ?_, trivial⟩
     ·
      refine RWe.mk 2 rfl (fun d hd => by cases hd; rfl) [(46, .int .i64 s91.Space)] ⟨rfl, trivial⟩ (fun a w hR hs hf => ⟨wanted_yes hf rfl, ?_⟩)
      refine estep_f (ex_call cf_10 hf Z) (help_Mod.calls k s91.Space 3 (hs.enter sN) (Sr.nil _ _) hs94) (fun v w hR => ?_)
      obtain ⟨rfl, hs'⟩ := hR
      replace hs := hs.step sN hs'
      clear hs'
      refine ⟨[], _, [8, 16], (fun _ => True), hs.fn, Z, Z, ⟨⟨hs.get (i := 1) Z, trivial⟩, trivial⟩, trivial, hs, (by kernel_rfl), .nil, ?_⟩
      refine RW.fork [8, 16] (by kernel_rfl) (by kernel_rfl) ⟨?_, ?_, trivial⟩
      ·
       refine RWe.mk 8 rfl (fun d hd => by cases hd; rfl) [(52, .int .i64 s91.Width)] ⟨rfl, trivial⟩ (fun a w hR hs hf => ⟨wanted_yes hf rfl, ?_⟩)
       refine estep_f (ex_call cf_10 hf Z) (help_Mod.calls k s91.Width 4 (hs.enter sN) (Sr.nil _ _) hs96) (fun v w hR => ?_)
       obtain ⟨rfl, hs'⟩ := hR
       replace hs := hs.step sN hs'
       clear hs'
       refine ⟨[(9, .pointer (some (sla v112 (s96.toNat * 1)))), (10, .int .i64 (gd 0 ([1, 2, 4, 8] : List Int) s96)), (15, .agg #[.int .i64 s94, .int .u64 s91.Addr, .int .i64 (gd 0 ([1, 2, 4, 8] : List Int) s96), .bool s91.Write, .int .u64 s91.Value])], _, [16], (fun w => (osl K_int v112 ([1, 2, 4, 8] : List Int)).ok w ∧ True), hs.fn, Z, Z, ⟨⟨⟨hs.get (i := 1) Z, trivial⟩, trivial⟩, trivial⟩, ⟨hs.get (i := 0) Z, trivial⟩, hs, (by kernel_rfl), (.cons (qy Z Z Z Z Z fun hR hf => ex_indexAddr sa_27 (rsl_isSl (osl_rsl _ hR.2.1)) hc97.1 hc97.2 hf Z Z) (.cons (qy Z Z Z Z Z fun hR hf => ex_load sc_3 hf Z (el_cell (K := K_int) (f := 0) (rsl_rd (osl_rsl _ hR.2.1)) hc97.1 hc97.2 Z)) (.cons (qy Z Z Z Z Z fun hR hf => ex_build (cs := [.int .i64 s94, .int .u64 s91.Addr, .int .i64 (gd 0 ([1, 2, 4, 8] : List Int) s96), .bool s91.Write, .int .u64 s91.Value]) bt_37 hf Z (.cons Z (.cons Z (.cons Z (.cons Z (.cons Z .nil))))) Z) .nil))), ?_⟩
       refine RW.one 16 (by kernel_rfl) (by kernel_rfl) rfl (fun d hd => by cases hd; rfl) [] trivial (fun a w hR hs hf => ⟨wanted_yes hf rfl, ?_⟩)
       refine estep_v (er_alloc hs ti_37 (cs := [.int .i64 0, .int .u64 0, .int .i64 0, .bool false, .int .u64 0]) Z) (fun v w hR => ?_)
       obtain ⟨b113, rfl, hs⟩ := hR
       refine ⟨[], _, [], (fun _ => True), hs.fn, Z, Z, ⟨⟨⟨⟨hs.get (i := 2) Z, trivial⟩, trivial⟩, trivial⟩, ⟨hs.get (i := 1) Z, trivial⟩⟩, trivial, hs, (by kernel_rfl), .nil, ?_⟩
       refine RW.zero (by kernel_rfl) (by kernel_rfl) [(5, .pointer (some ⟨b15, 0, none⟩)), (8, .pointer (some ⟨b113, 0, none⟩)), (60, .agg #[.int .i64 s94, .int .u64 s91.Addr, .int .i64 (gd 0 ([1, 2, 4, 8] : List Int) s96), .bool s91.Write, .int .u64 s91.Value])] ⟨Z, Z, Z, trivial⟩ (fun a w hR hs hf => ?_)
       refine stepS hf Z Z (er_storeAB (vs := [.int .i64 s94, .int .u64 s91.Addr, .int .i64 (gd 0 ([1, 2, 4, 8] : List Int) s96), .bool s91.Write, .int .u64 s91.Value]) (cs' := [.int .i64 s94, .int .u64 s91.Addr, .int .i64 (gd 0 ([1, 2, 4, 8] : List Int) s96), .bool s91.Write, .int .u64 s91.Value]) hs (.c sN) sz_37 hf Z Z (all1 Z (all1 Z (all1 Z (all1 Z (all1 Z (all1_nil)))))) Z Z) (fun w hs => ?_)
       refine hK101 _ _ ?_
       replace hs := hs.keep (.k (.d (.d sN)))
       replace hs := hs.p16.p16.p16.p16.p16.p16.p16.p16.p16.p16.p16.p16.p16.p16.p16.p16
       exact hJ100 _ _ ⟨b113, hf.sub ⟨Z, Z, trivial⟩, hs⟩
      ·
       refine RWe.mk 16 rfl (fun d hd => by cases hd; rfl) [] trivial (fun a w hR hs hf => ⟨wanted_yes hf rfl, ?_⟩)
       refine estep_v (er_alloc hs ti_37 (cs := [.int .i64 0, .int .u64 0, .int .i64 0, .bool false, .int .u64 0]) Z) (fun v w hR => ?_)
       obtain ⟨b114, rfl, hs⟩ := hR
       refine ⟨[], _, [8], (fun _ => True), hs.fn, Z, Z, ⟨⟨⟨hs.get (i := 2) Z, trivial⟩, trivial⟩, trivial⟩, trivial, hs, (by kernel_rfl), .nil, ?_⟩
       refine RW.one 8 (by kernel_rfl) (by kernel_rfl) rfl (fun d hd => by cases hd; rfl) [(52, .int .i64 s91.Width)] ⟨rfl, trivial⟩ (fun a w hR hs hf => ⟨wanted_yes hf rfl, ?_⟩)
       refine estep_f (ex_call cf_10 hf Z) (help_Mod.calls k s91.Width 4 (hs.enter sN) (Sr.nil _ _) hs96) (fun v w hR => ?_)
       obtain ⟨rfl, hs'⟩ := hR
       replace hs := hs.step sN hs'
       clear hs'
       refine ⟨[(9, .pointer (some (sla v112 (s96.toNat * 1)))), (10, .int .i64 (gd 0 ([1, 2, 4, 8] : List Int) s96)), (15, .agg #[.int .i64 s94, .int .u64 s91.Addr, .int .i64 (gd 0 ([1, 2, 4, 8] : List Int) s96), .bool s91.Write, .int .u64 s91.Value])], _, [], (fun w => (osl K_int v112 ([1, 2, 4, 8] : List Int)).ok w ∧ True), hs.fn, Z, Z, ⟨⟨⟨⟨hs.get (i := 2) Z, trivial⟩, trivial⟩, trivial⟩, trivial⟩, ⟨hs.get (i := 1) Z, trivial⟩, hs, (by kernel_rfl), (.cons (qy Z Z Z Z Z fun hR hf => ex_indexAddr sa_27 (rsl_isSl (osl_rsl _ hR.2.1)) hc97.1 hc97.2 hf Z Z) (.cons (qy Z Z Z Z Z fun hR hf => ex_load sc_3 hf Z (el_cell (K := K_int) (f := 0) (rsl_rd (osl_rsl _ hR.2.1)) hc97.1 hc97.2 Z)) (.cons (qy Z Z Z Z Z fun hR hf => ex_build (cs := [.int .i64 s94, .int .u64 s91.Addr, .int .i64 (gd 0 ([1, 2, 4, 8] : List Int) s96), .bool s91.Write, .int .u64 s91.Value]) bt_37 hf Z (.cons Z (.cons Z (.cons Z (.cons Z (.cons Z .nil))))) Z) .nil))), ?_⟩
       refine RW.zero (by kernel_rfl) (by kernel_rfl) [(5, .pointer (some ⟨b15, 0, none⟩)), (8, .pointer (some ⟨b114, 0, none⟩)), (60, .agg #[.int .i64 s94, .int .u64 s91.Addr, .int .i64 (gd 0 ([1, 2, 4, 8] : List Int) s96), .bool s91.Write, .int .u64 s91.Value])] ⟨Z, Z, Z, trivial⟩ (fun a w hR hs hf => ?_)
       refine stepS hf Z Z (er_storeAB (vs := [.int .i64 s94, .int .u64 s91.Addr, .int .i64 (gd 0 ([1, 2, 4, 8] : List Int) s96), .bool s91.Write, .int .u64 s91.Value]) (cs' := [.int .i64 s94, .int .u64 s91.Addr, .int .i64 (gd 0 ([1, 2, 4, 8] : List Int) s96), .bool s91.Write, .int .u64 s91.Value]) hs (.c sN) sz_37 hf Z Z (all1 Z (all1 Z (all1 Z (all1 Z (all1 Z (all1_nil)))))) Z Z) (fun w hs => ?_)
       refine hK101 _ _ ?_
       replace hs := hs.keep (.k (.d (.d sN)))
       replace hs := hs.p16.p16.p16.p16.p16.p16.p16.p16.p16.p16.p16.p16.p16.p16.p16.p16
       exact hJ100 _ _ ⟨b114, hf.sub ⟨Z, Z, trivial⟩, hs⟩
     ·
      refine RWe.mk 16 rfl (fun d hd => by cases hd; rfl) [] trivial (fun a w hR hs hf => ⟨wanted_yes hf rfl, ?_⟩)
      refine estep_v (er_alloc hs ti_37 (cs := [.int .i64 0, .int .u64 0, .int .i64 0, .bool false, .int .u64 0]) Z) (fun v w hR => ?_)
      obtain ⟨b115, rfl, hs⟩ := hR
      refine ⟨[], _, [2, 8], (fun _ => True), hs.fn, Z, Z, ⟨⟨hs.get (i := 2) Z, trivial⟩, trivial⟩, trivial, hs, (by kernel_rfl), .nil, ?_⟩
      refine RW.one 2 (by kernel_rfl) (by kernel_rfl) rfl (fun d hd => by cases hd; rfl) [(46, .int .i64 s91.Space)] ⟨rfl, trivial⟩ (fun a w hR hs hf => ⟨wanted_yes hf rfl, ?_⟩)
      refine estep_f (ex_call cf_10 hf Z) (help_Mod.calls k s91.Space 3 (hs.enter sN) (Sr.nil _ _) hs94) (fun v w hR => ?_)
      obtain ⟨rfl, hs'⟩ := hR
      replace hs := hs.step sN hs'
      clear hs'
      refine ⟨[], _, [8], (fun _ => True), hs.fn, Z, Z, ⟨⟨⟨hs.get (i := 2) Z, trivial⟩, trivial⟩, trivial⟩, trivial, hs, (by kernel_rfl), .nil, ?_⟩
      refine RW.one 8 (by kernel_rfl) (by kernel_rfl) rfl (fun d hd => by cases hd; rfl) [(52, .int .i64 s91.Width)] ⟨rfl, trivial⟩ (fun a w hR hs hf => ⟨wanted_yes hf rfl, ?_⟩)
      refine estep_f (ex_call cf_10 hf Z) (help_Mod.calls k s91.Width 4 (hs.enter sN) (Sr.nil _ _) hs96) (fun v w hR => ?_)
      obtain ⟨rfl, hs'⟩ := hR
      replace hs := hs.step sN hs'
      clear hs'
      refine ⟨[(9, .pointer (some (sla v112 (s96.toNat * 1)))), (10, .int .i64 (gd 0 ([1, 2, 4, 8] : List Int) s96)), (15, .agg #[.int .i64 s94, .int .u64 s91.Addr, .int .i64 (gd 0 ([1, 2, 4, 8] : List Int) s96), .bool s91.Write, .int .u64 s91.Value])], _, [], (fun w => (osl K_int v112 ([1, 2, 4, 8] : List Int)).ok w ∧ True), hs.fn, Z, Z, ⟨⟨⟨⟨hs.get (i := 2) Z, trivial⟩, trivial⟩, trivial⟩, trivial⟩, ⟨hs.get (i := 1) Z, trivial⟩, hs, (by kernel_rfl), (.cons (qy Z Z Z Z Z fun hR hf => ex_indexAddr sa_27 (rsl_isSl (osl_rsl _ hR.2.1)) hc97.1 hc97.2 hf Z Z) (.cons (qy Z Z Z Z Z fun hR hf => ex_load sc_3 hf Z (el_cell (K := K_int) (f := 0) (rsl_rd (osl_rsl _ hR.2.1)) hc97.1 hc97.2 Z)) (.cons (qy Z Z Z Z Z fun hR hf => ex_build (cs := [.int .i64 s94, .int .u64 s91.Addr, .int .i64 (gd 0 ([1, 2, 4, 8] : List Int) s96), .bool s91.Write, .int .u64 s91.Value]) bt_37 hf Z (.cons Z (.cons Z (.cons Z (.cons Z (.cons Z .nil))))) Z) .nil))), ?_⟩
      refine RW.zero (by kernel_rfl) (by kernel_rfl) [(5, .pointer (some ⟨b15, 0, none⟩)), (8, .pointer (some ⟨b115, 0, none⟩)), (60, .agg #[.int .i64 s94, .int .u64 s91.Addr, .int .i64 (gd 0 ([1, 2, 4, 8] : List Int) s96), .bool s91.Write, .int .u64 s91.Value])] ⟨Z, Z, Z, trivial⟩ (fun a w hR hs hf => ?_)
      refine stepS hf Z Z (er_storeAB (vs := [.int .i64 s94, .int .u64 s91.Addr, .int .i64 (gd 0 ([1, 2, 4, 8] : List Int) s96), .bool s91.Write, .int .u64 s91.Value]) (cs' := [.int .i64 s94, .int .u64 s91.Addr, .int .i64 (gd 0 ([1, 2, 4, 8] : List Int) s96), .bool s91.Write, .int .u64 s91.Value]) hs (.c sN) sz_37 hf Z Z (all1 Z (all1 Z (all1 Z (all1 Z (all1 Z (all1_nil)))))) Z Z) (fun w hs => ?_)
      refine hK101 _ _ ?_
      replace hs := hs.keep (.k (.d (.d sN)))
      replace hs := hs.p16.p16.p16.p16.p16.p16.p16.p16.p16.p16.p16.p16.p16.p16.p16.p16
      exact hJ100 _ _ ⟨b115, hf.sub ⟨Z, Z, trivial⟩, hs⟩
    ·
     refine RWe.mk 16 rfl (fun d hd => by cases hd; rfl) [] trivial (fun a w hR hs hf => ⟨wanted_yes hf rfl, ?_⟩)
     refine estep_v (er_alloc hs ti_37 (cs := [.int .i64 0, .int .u64 0, .int .i64 0, .bool false, .int .u64 0]) Z) (fun v w hR => ?_)
     obtain ⟨b116, rfl, hs⟩ := hR
     refine ⟨[], _, [2, 5, 8], (fun _ => True), hs.fn, Z, Z, ⟨hs.get (i := 1) Z, trivial⟩, trivial, hs, (by kernel_rfl), .nil, ?_⟩
     refine RW.fork [2, 5] (by kernel_rfl) (by kernel_rfl) ⟨?_, ?_, trivial⟩
     ·
      refine RWe.mk 2 rfl (fun d hd => by cases hd; rfl) [(46, .int .i64 s91.Space)] ⟨rfl, trivial⟩ (fun a w hR hs hf => ⟨wanted_yes hf rfl, ?_⟩)
      refine estep_f (ex_call cf_10 hf Z) (help_Mod.calls k s91.Space 3 (hs.enter sN) (Sr.nil _ _) hs94) (fun v w hR => ?_)
      obtain ⟨rfl, hs'⟩ := hR
      replace hs := hs.step sN hs'
      clear hs'
      refine ⟨[], _, [5, 8], (fun _ => True), hs.fn, Z, Z, ⟨⟨hs.get (i := 1) Z, trivial⟩, trivial⟩, trivial, hs, (by kernel_rfl), .nil, ?_⟩
      refine RW.fork [5, 8] (by kernel_rfl) (by kernel_rfl) ⟨?_, ?_, trivial⟩
      ·
       refine RWe.mk 5 rfl (fun d hd => by cases hd; rfl) [] trivial (fun a w hR hs hf => ⟨wanted_yes hf rfl, ?_⟩)
       refine estep_v (er_buildSlice (K := K_int) (xs := ([1, 2, 4, 8] : List Int)) hs Try.underlying27 ep_3 Z Z hf Z (.cons Z (.cons Z (.cons Z (.cons Z .nil)))) Z Z) (fun v117 w hs => ?_)
       refine ⟨[], _, [8], (fun _ => True), hs.fn, Z, Z, ⟨⟨⟨hs.get (i := 2) Z, trivial⟩, trivial⟩, trivial⟩, trivial, hs, (by kernel_rfl), .nil, ?_⟩
       refine RW.one 8 (by kernel_rfl) (by kernel_rfl) rfl (fun d hd => by cases hd; rfl) [(52, .int .i64 s91.Width)] ⟨rfl, trivial⟩ (fun a w hR hs hf => ⟨wanted_yes hf rfl, ?_⟩)
       refine estep_f (ex_call cf_10 hf Z) (help_Mod.calls k s91.Width 4 (hs.enter sN) (Sr.nil _ _) hs96) (fun v w hR => ?_)
       obtain ⟨rfl, hs'⟩ := hR
       replace hs := hs.step sN hs'
       clear hs'
       refine ⟨[(9, .pointer (some (sla v117 (s96.toNat * 1)))), (10, .int .i64 (gd 0 ([1, 2, 4, 8] : List Int) s96)), (15, .agg #[.int .i64 s94, .int .u64 s91.Addr, .int .i64 (gd 0 ([1, 2, 4, 8] : List Int) s96), .bool s91.Write, .int .u64 s91.Value])], _, [], (fun w => (osl K_int v117 ([1, 2, 4, 8] : List Int)).ok w ∧ True), hs.fn, Z, Z, ⟨⟨⟨⟨hs.get (i := 2) Z, trivial⟩, trivial⟩, trivial⟩, trivial⟩, ⟨hs.get (i := 0) Z, trivial⟩, hs, (by kernel_rfl), (.cons (qy Z Z Z Z Z fun hR hf => ex_indexAddr sa_27 (rsl_isSl (osl_rsl _ hR.2.1)) hc97.1 hc97.2 hf Z Z) (.cons (qy Z Z Z Z Z fun hR hf => ex_load sc_3 hf Z (el_cell (K := K_int) (f := 0) (rsl_rd (osl_rsl _ hR.2.1)) hc97.1 hc97.2 Z)) (.cons (qy Z Z Z Z Z fun hR hf => ex_build (cs := [.int .i64 s94, .int .u64 s91.Addr, .int .i64 (gd 0 ([1, 2, 4, 8] : List Int) s96), .bool s91.Write, .int .u64 s91.Value]) bt_37 hf Z (.cons Z (.cons Z (.cons Z (.cons Z (.cons Z .nil))))) Z) .nil))), ?_⟩
       refine RW.zero (by kernel_rfl) (by kernel_rfl) [(5, .pointer (some ⟨b15, 0, none⟩)), (8, .pointer (some ⟨b116, 0, none⟩)), (60, .agg #[.int .i64 s94, .int .u64 s91.Addr, .int .i64 (gd 0 ([1, 2, 4, 8] : List Int) s96), .bool s91.Write, .int .u64 s91.Value])] ⟨Z, Z, Z, trivial⟩ (fun a w hR hs hf => ?_)
       refine stepS hf Z Z (er_storeAB (vs := [.int .i64 s94, .int .u64 s91.Addr, .int .i64 (gd 0 ([1, 2, 4, 8] : List Int) s96), .bool s91.Write, .int .u64 s91.Value]) (cs' := [.int .i64 s94, .int .u64 s91.Addr, .int .i64 (gd 0 ([1, 2, 4, 8] : List Int) s96), .bool s91.Write, .int .u64 s91.Value]) hs (.k (.c sN)) sz_37 hf Z Z (all1 Z (all1 Z (all1 Z (all1 Z (all1 Z (all1_nil)))))) Z Z) (fun w hs => ?_)
       refine hK101 _ _ ?_
       replace hs := hs.keep (.k (.d (.d sN)))
       replace hs := hs.p16.p16.p16.p16.p16.p16.p16.p16.p16.p16.p16.p16.p16.p16.p16.p16
       exact hJ100 _ _ ⟨b116, hf.sub ⟨Z, Z, trivial⟩, hs⟩
      ·
       refine RWe.mk 8 rfl (fun d hd => by cases hd; rfl) [(52, .int .i64 s91.Width)] ⟨rfl, trivial⟩ (fun a w hR hs hf => ⟨wanted_yes hf rfl, ?_⟩)
       refine estep_f (ex_call cf_10 hf Z) (help_Mod.calls k s91.Width 4 (hs.enter sN) (Sr.nil _ _) hs96) (fun v w hR => ?_)
       obtain ⟨rfl, hs'⟩ := hR
       replace hs := hs.step sN hs'
       clear hs'
       refine ⟨[], _, [5], (fun _ => True), hs.fn, Z, Z, ⟨⟨⟨hs.get (i := 1) Z, trivial⟩, trivial⟩, trivial⟩, trivial, hs, (by kernel_rfl), .nil, ?_⟩
       refine RW.one 5 (by kernel_rfl) (by kernel_rfl) rfl (fun d hd => by cases hd; rfl) [] trivial (fun a w hR hs hf => ⟨wanted_yes hf rfl, ?_⟩)
       refine estep_v (er_buildSlice (K := K_int) (xs := ([1, 2, 4, 8] : List Int)) hs Try.underlying27 ep_3 Z Z hf Z (.cons Z (.cons Z (.cons Z (.cons Z .nil)))) Z Z) (fun v118 w hs => ?_)
       refine ⟨[(9, .pointer (some (sla v118 (s96.toNat * 1)))), (10, .int .i64 (gd 0 ([1, 2, 4, 8] : List Int) s96)), (15, .agg #[.int .i64 s94, .int .u64 s91.Addr, .int .i64 (gd 0 ([1, 2, 4, 8] : List Int) s96), .bool s91.Write, .int .u64 s91.Value])], _, [], (fun w => (osl K_int v118 ([1, 2, 4, 8] : List Int)).ok w ∧ True), hs.fn, Z, Z, ⟨⟨⟨⟨hs.get (i := 2) Z, trivial⟩, trivial⟩, trivial⟩, trivial⟩, ⟨hs.get (i := 0) Z, trivial⟩, hs, (by kernel_rfl), (.cons (qy Z Z Z Z Z fun hR hf => ex_indexAddr sa_27 (rsl_isSl (osl_rsl _ hR.2.1)) hc97.1 hc97.2 hf Z Z) (.cons (qy Z Z Z Z Z fun hR hf => ex_load sc_3 hf Z (el_cell (K := K_int) (f := 0) (rsl_rd (osl_rsl _ hR.2.1)) hc97.1 hc97.2 Z)) (.cons (qy Z Z Z Z Z fun hR hf => ex_build (cs := [.int .i64 s94, .int .u64 s91.Addr, .int .i64 (gd 0 ([1, 2, 4, 8] : List Int) s96), .bool s91.Write, .int .u64 s91.Value]) bt_37 hf Z (.cons Z (.cons Z (.cons Z (.cons Z (.cons Z .nil))))) Z) .nil))), ?_⟩
       refine RW.zero (by kernel_rfl) (by kernel_rfl) [(5, .pointer (some ⟨b15, 0, none⟩)), (8, .pointer (some ⟨b116, 0, none⟩)), (60, .agg #[.int .i64 s94, .int .u64 s91.Addr, .int .i64 (gd 0 ([1, 2, 4, 8] : List Int) s96), .bool s91.Write, .int .u64 s91.Value])] ⟨Z, Z, Z, trivial⟩ (fun a w hR hs hf => ?_)
       refine stepS hf Z Z (er_storeAB (vs := [.int .i64 s94, .int .u64 s91.Addr, .int .i64 (gd 0 ([1, 2, 4, 8] : List Int) s96), .bool s91.Write, .int .u64 s91.Value]) (cs' := [.int .i64 s94, .int .u64 s91.Addr, .int .i64 (gd 0 ([1, 2, 4, 8] : List Int) s96), .bool s91.Write, .int .u64 s91.Value]) hs (.k (.c sN)) sz_37 hf Z Z (all1 Z (all1 Z (all1 Z (all1 Z (all1 Z (all1_nil)))))) Z Z) (fun w hs => ?_)
       refine hK101 _ _ ?_
       replace hs := hs.keep (.k (.d (.d sN)))
       replace hs := hs.p16.p16.p16.p16.p16.p16.p16.p16.p16.p16.p16.p16.p16.p16.p16.p16
       exact hJ100 _ _ ⟨b116, hf.sub ⟨Z, Z, trivial⟩, hs⟩
     ·
      refine RWe.mk 5 rfl (fun d hd => by cases hd; rfl) [] trivial (fun a w hR hs hf => ⟨wanted_yes hf rfl, ?_⟩)
      refine estep_v (er_buildSlice (K := K_int) (xs := ([1, 2, 4, 8] : List Int)) hs Try.underlying27 ep_3 Z Z hf Z (.cons Z (.cons Z (.cons Z (.cons Z .nil)))) Z Z) (fun v119 w hs => ?_)
      refine ⟨[], _, [2, 8], (fun _ => True), hs.fn, Z, Z, ⟨⟨hs.get (i := 2) Z, trivial⟩, trivial⟩, trivial, hs, (by kernel_rfl), .nil, ?_⟩
      refine RW.one 2 (by kernel_rfl) (by kernel_rfl) rfl (fun d hd => by cases hd; rfl) [(46, .int .i64 s91.Space)] ⟨rfl, trivial⟩ (fun a w hR hs hf => ⟨wanted_yes hf rfl, ?_⟩)
      refine estep_f (ex_call cf_10 hf Z) (help_Mod.calls k s91.Space 3 (hs.enter sN) (Sr.nil _ _) hs94) (fun v w hR => ?_)
      obtain ⟨rfl, hs'⟩ := hR
      replace hs := hs.step sN hs'
      clear hs'
      refine ⟨[], _, [8], (fun _ => True), hs.fn, Z, Z, ⟨⟨⟨hs.get (i := 2) Z, trivial⟩, trivial⟩, trivial⟩, trivial, hs, (by kernel_rfl), .nil, ?_⟩
      refine RW.one 8 (by kernel_rfl) (by kernel_rfl) rfl (fun d hd => by cases hd; rfl) [(52, .int .i64 s91.Width)] ⟨rfl, trivial⟩ (fun a w hR hs hf => ⟨wanted_yes hf rfl, ?_⟩)
      refine estep_f (ex_call cf_10 hf Z) (help_Mod.calls k s91.Width 4 (hs.enter sN) (Sr.nil _ _) hs96) (fun v w hR => ?_)
      obtain ⟨rfl, hs'⟩ := hR
      replace hs := hs.step sN hs'
      clear hs'
      refine ⟨[(9, .pointer (some (sla v119 (s96.toNat * 1)))), (10, .int .i64 (gd 0 ([1, 2, 4, 8] : List Int) s96)), (15, .agg #[.int .i64 s94, .int .u64 s91.Addr, .int .i64 (gd 0 ([1, 2, 4, 8] : List Int) s96), .bool s91.Write, .int .u64 s91.Value])], _, [], (fun w => (osl K_int v119 ([1, 2, 4, 8] : List Int)).ok w ∧ True), hs.fn, Z, Z, ⟨⟨⟨⟨hs.get (i := 2) Z, trivial⟩, trivial⟩, trivial⟩, trivial⟩, ⟨hs.get (i := 0) Z, trivial⟩, hs, (by kernel_rfl), (.cons (qy Z Z Z Z Z fun hR hf => ex_indexAddr sa_27 (rsl_isSl (osl_rsl _ hR.2.1)) hc97.1 hc97.2 hf Z Z) (.cons (qy Z Z Z Z Z fun hR hf => ex_load sc_3 hf Z (el_cell (K := K_int) (f := 0) (rsl_rd (osl_rsl _ hR.2.1)) hc97.1 hc97.2 Z)) (.cons (qy Z Z Z Z Z fun hR hf => ex_build (cs := [.int .i64 s94, .int .u64 s91.Addr, .int .i64 (gd 0 ([1, 2, 4, 8] : List Int) s96), .bool s91.Write, .int .u64 s91.Value]) bt_37 hf Z (.cons Z (.cons Z (.cons Z (.cons Z (.cons Z .nil))))) Z) .nil))), ?_⟩
      refine RW.zero (by kernel_rfl) (by kernel_rfl) [(5, .pointer (some ⟨b15, 0, none⟩)), (8, .pointer (some ⟨b116, 0, none⟩)), (60, .agg #[.int .i64 s94, .int .u64 s91.Addr, .int .i64 (gd 0 ([1, 2, 4, 8] : List Int) s96), .bool s91.Write, .int .u64 s91.Value])] ⟨Z, Z, Z, trivial⟩ (fun a w hR hs hf => ?_)
      refine stepS hf Z Z (er_storeAB (vs := [.int .i64 s94, .int .u64 s91.Addr, .int .i64 (gd 0 ([1, 2, 4, 8] : List Int) s96), .bool s91.Write, .int .u64 s91.Value]) (cs' := [.int .i64 s94, .int .u64 s91.Addr, .int .i64 (gd 0 ([1, 2, 4, 8] : List Int) s96), .bool s91.Write, .int .u64 s91.Value]) hs (.k (.c sN)) sz_37 hf Z Z (all1 Z (all1 Z (all1 Z (all1 Z (all1 Z (all1_nil)))))) Z Z) (fun w hs => ?_)
      refine hK101 _ _ ?_
      replace hs := hs.keep (.k (.d (.d sN)))
      replace hs := hs.p16.p16.p16.p16.p16.p16.p16.p16.p16.p16.p16.p16.p16.p16.p16.p16
      exact hJ100 _ _ ⟨b116, hf.sub ⟨Z, Z, trivial⟩, hs⟩
   ·
    obtain ⟨b99, hf, hs⟩ := hJ
    refine hN93 _ _ ?_
    refine seq_n (fun Q120 hN120 hR120 hX120 => ?_)
    refine ck_some H (fun hc121 H => ?_)
    refine region_dS fol 9 [(5, .pointer (some ⟨b15, 0, none⟩)), (8, .pointer (some ⟨b99, 0, none⟩))] [(0, .pointer (some ⟨b99, 1, none⟩)), (1, .int .u64 s91.Addr), (2, .pointer (some ⟨b99, 1, none⟩)), (3, .int .u64 s91.Addr), (4, .pointer (some ⟨b99, 2, none⟩)), (5, .int .i64 (gd 0 ([1, 2, 4, 8] : List Int) s96)), (6, .int .u64 (IntKind.u64.wrap (gd 0 ([1, 2, 4, 8] : List Int) s96))), (7, .int .u64 (Int.tmod s91.Addr (IntKind.u64.wrap (gd 0 ([1, 2, 4, 8] : List Int) s96)))), (8, .int .u64 (IntKind.u64.wrap (s91.Addr - (Int.tmod s91.Addr (IntKind.u64.wrap (gd 0 ([1, 2, 4, 8] : List Int) s96))))))] [] (fun w => (bx b99 37 [.int .i64 s94, .int .u64 s91.Addr, .int .i64 (gd 0 ([1, 2, 4, 8] : List Int) s96), .bool s91.Write, .int .u64 s91.Value]).ok w ∧ True) hf ⟨Z, Z, trivial⟩ (by kernel_rfl) (by kernel_rfl) Z (by decide) ⟨hs.drew.get (i := 16) Z, trivial⟩ hs ((.cons (qy Z Z Z Z Z fun hR hf => ex_fieldAddrB fa_37_1 Z hf Z) (.cons (qy Z Z Z Z Z fun hR hf => ex_load sc_22 hf Z (bx_cell (hR.1) _ Z)) (.cons (qy Z Z Z Z Z fun hR hf => ex_fieldAddrB fa_37_1 Z hf Z) (.cons (qy Z Z Z Z Z fun hR hf => ex_load sc_22 hf Z (bx_cell (hR.1) _ Z)) (.cons (qy Z Z Z Z Z fun hR hf => ex_fieldAddrB fa_37_2 Z hf Z) (.cons (qy Z Z Z Z Z fun hR hf => ex_load sc_3 hf Z (bx_cell (hR.1) _ Z)) (.cons (qy Z Z Z Z Z fun hR hf => ex_conv Try.underlying3 Try.underlying22 hf Z) (.cons (qy Z Z Z Z Z fun hR hf => ex_rem hf Z Z hc121) (.cons (qy Z Z Z Z Z fun hR hf => ex_sub hf Z Z) .nil)))))))))) (fun K122 hK122 => ?_)
    refine RW.zero (by kernel_rfl) (by kernel_rfl) [(5, .pointer (some ⟨b15, 0, none⟩)), (8, .pointer (some ⟨b99, 0, none⟩)), (69, .int .u64 (IntKind.u64.wrap (s91.Addr - (Int.tmod s91.Addr (IntKind.u64.wrap (gd 0 ([1, 2, 4, 8] : List Int) s96))))))] ⟨Z, Z, Z, trivial⟩ (fun a w hR hs hf => ?_)
    refine stq hf Z Z Z (ex_fieldAddrB fa_37_1 Z hf Z) fun a hf => ?_
    refine stepS hf Z Z (er_storeB hs (.k (.k (.k (.k (.k (.k (.k (.k (.k (.k (.k (.k (.k (.k (.k (.k (.c .nil))))))))))))))))) hf Z Z Z sz_22 Z) (fun w hs => ?_)
    refine hK122 _ _ ?_
    refine hN120 _ _ ?_
    refine bnd H (fun x123 H123 HO123 => ?_)
    clear H
    refine seq_cut (fun a w => Fr a 186 [(5, .pointer (some ⟨b15, 0, none⟩)), (8, .pointer (some ⟨b99, 0, none⟩))] ∧ St M w0 w [bx b15 58 [.pointer (some ⟨b4, 0, none⟩), .pointer (some ⟨b14, 0, none⟩)], bxs b4 71 [([v22], 1), ([v24], 1), ([v26], 1), (List.map Value.bool x123, 256), ([v28], 1), ([v30], 1)], osl Km v22 (ids Fm G23), nds Fm G23 x21.1, osl Km v24 (ids Fm G25), nds Fm G25 x21.2.1, osl Km v26 (ids Fm G27), nds Fm G27 x21.2.2.1, osl Kf v28 (ids Ff G29), nds Ff G29 x21.2.2.2.2.1, osl Kt v30 x21.2.2.2.2.2.1, bxs b14 56 [([v31], 1), (List.map Value.bool x21.2.2.2.2.2.2.2.1, 256), ([v33], 1), ([v34], 1)], osl KR v31 (List.zip G32 x21.2.2.2.2.2.2.1), ndv FR G32 x21.2.2.2.2.2.2.1, osl KF v33 x21.2.2.2.2.2.2.2.2.1, osl Kt v34 x21.2.2.2.2.2.2.2.2.2, bx b99 37 [.int .i64 s94, .int .u64 (IntKind.u64.wrap (s91.Addr - (Int.tmod s91.Addr (IntKind.u64.wrap (gd 0 ([1, 2, 4, 8] : List Int) s96))))), .int .i64 (gd 0 ([1, 2, 4, 8] : List Int) s96), .bool s91.Write, .int .u64 s91.Value]]) (fun Q123 hJ123 hR123 hX123 => ?_) (fun a w hJ => ?_)
    ·
     replace H := H123
     refine seq_reg (fun K124 hK124 => ?_)
     refine stq hf Z Z Z (ex_assign hf Z) fun a hf => ?_
     refine hK124 _ _ ?_
     refine block_k (fun Q125 hN125 hR125 hX125 hY125 => ?_)
     refine loop_k (fun n a w => ∃ (y126 : (List Bool)) (y127 : Int), Fr a 186 [(5, .pointer (some ⟨b15, 0, none⟩)), (8, .pointer (some ⟨b99, 0, none⟩)), (9, .int .i64 y127)] ∧ St M w0 w [bx b15 58 [.pointer (some ⟨b4, 0, none⟩), .pointer (some ⟨b14, 0, none⟩)], bxs b4 71 [([v22], 1), ([v24], 1), ([v26], 1), (List.map Value.bool y126, 256), ([v28], 1), ([v30], 1)], osl Km v22 (ids Fm G23), nds Fm G23 x21.1, osl Km v24 (ids Fm G25), nds Fm G25 x21.2.1, osl Km v26 (ids Fm G27), nds Fm G27 x21.2.2.1, osl Kf v28 (ids Ff G29), nds Ff G29 x21.2.2.2.2.1, osl Kt v30 x21.2.2.2.2.2.1, bxs b14 56 [([v31], 1), (List.map Value.bool x21.2.2.2.2.2.2.2.1, 256), ([v33], 1), ([v34], 1)], osl KR v31 (List.zip G32 x21.2.2.2.2.2.2.1), ndv FR G32 x21.2.2.2.2.2.2.1, osl KF v33 x21.2.2.2.2.2.2.2.2.1, osl Kt v34 x21.2.2.2.2.2.2.2.2.2, bx b99 37 [.int .i64 s94, .int .u64 (IntKind.u64.wrap (s91.Addr - (Int.tmod s91.Addr (IntKind.u64.wrap (gd 0 ([1, 2, 4, 8] : List Int) s96))))), .int .i64 (gd 0 ([1, 2, 4, 8] : List Int) s96), .bool s91.Write, .int .u64 s91.Value]] ∧ law09_IospaceDeadAccesses.l2 n x21 y126 y127 = some x123) k ?_ (fun n129 a w hI Q129 hL129 hR129 hX129 => ?_)
     ·
      replace hs := hs.p16.p16.p16.p16.p16.p16.p16.p16.p16.p16.p16.p16.p16.p16.p16.p16
      exact ⟨x21.2.2.2.1, (-1), hf.sub ⟨Z, Z, Z, trivial⟩, hs, H⟩
     ·
      obtain ⟨y126, y127, hf, hs, H⟩ := hI
      cases n129 with
      | zero => exact absurd H (by rw [law09_IospaceDeadAccesses.l2.eq_1]; intro h; cases h)
      | succ k129 =>
       replace H := (law09_IospaceDeadAccesses.l2.eq_2 ..).symm.trans H
       refine seq_n (fun Q130 hN130 hR130 hX130 => ?_)
       refine seq_reg (fun K131 hK131 => ?_)
       refine stq hf Z Z Z (ex_move hf Z) fun a hf => stq hf Z Z Z (ex_lss hf Z Z) fun a hf => ?_
       refine hK131 _ _ ?_
       refine itt H (fun hc132 H => ?_) (fun hc132 H => ?_)
       ·
        replace hf := hf.castB (t := 72) Z (dec_t hc132)
        refine cond_T hf Z ?_
        refine wp_skip ?_
        refine hN130 _ _ ?_
        refine seq_n (fun Q133 hN133 hR133 hX133 => ?_)
        refine block_k (fun Q134 hN134 hR134 hX134 hY134 => ?_)
        refine bnd H (fun s135 hs135 H => ?_)
        refine region_k (fun K136 hK136 => ?_)
        refine stq hf Z Z Z (ex_fieldAddrB fa_58_0 Z hf Z) fun a hf => stq hf Z Z Z (ex_load sc_24 hf Z (bx_cell (hs.get (i := 0) Z) _ Z)) fun a hf => stq hf Z Z Z (ex_move hf Z) fun a hf => ?_
        refine stepF hf Z Z Z (ex_call cf_12 hf Z) (iospace_Bus_Enable.calls k129 x21.1 x21.2.1 x21.2.2.1 y126 x21.2.2.2.2.1 x21.2.2.2.2.2.1 y127 false b4 v22 G23 v24 G25 v26 G27 v28 G29 v30 (hs.enter (.k (.c (.c (.c (.c (.c (.c (.c (.c (.c (.c sN)))))))))))) (Sr.nil _ _) hs135) (fun v w hR a hf => ?_)
        obtain ⟨rfl, hs'⟩ := hR
        replace hs := hs.step (.k (.c (.c (.c (.c (.c (.c (.c (.c (.c (.c sN))))))))))) hs'
        clear hs'
        refine hK136 _ _ ?_
        refine hN134 _ _ ?_
        refine hN133 _ _ ?_
        refine region_k (fun K137 hK137 => ?_)
        refine stq hf Z Z Z (ex_move hf Z) fun a hf => stq hf Z Z Z (ex_add hf Z Z) fun a hf => stq hf Z Z Z (ex_assign hf Z) fun a hf => ?_
        refine hK137 _ _ ?_
        replace hs := hs.p16.p16.p16.p16.p16.p16.p15.p15.p15.p15.p15.p15.p15.p15.p15.p15.p16
        exact hL129 k129 _ _ (Nat.lt_succ_self _) ⟨s135.1, (IntKind.i64.wrap (y127 + 1)), hf.sub ⟨Z, Z, Z, trivial⟩, hs, H⟩
       ·
        replace hf := hf.castB (t := 72) Z (dec_f hc132)
        refine cond_F hf Z ?_
        refine wp_exit ?_
        refine hX130 2 _ _ ?_
        refine hX129 2 _ _ ?_
        refine hX125 _ _ ?_
        have e123 := some_eq H; subst e123
        exact hJ123 _ _ ⟨hf.sub ⟨Z, Z, trivial⟩, hs⟩
    ·
     obtain ⟨hf, hs⟩ := hJ
     replace H := HO123
     clear HO123
     refine bnd H (fun x138 H138 HO138 => ?_)
     clear H
     refine seq_cut (fun a w => Fr a 186 [(5, .pointer (some ⟨b15, 0, none⟩)), (8, .pointer (some ⟨b99, 0, none⟩))] ∧ St M w0 w [bx b15 58 [.pointer (some ⟨b4, 0, none⟩), .pointer (some ⟨b14, 0, none⟩)], bxs b4 71 [([v22], 1), ([v24], 1), ([v26], 1), (List.map Value.bool x138, 256), ([v28], 1), ([v30], 1)], osl Km v22 (ids Fm G23), nds Fm G23 x21.1, osl Km v24 (ids Fm G25), nds Fm G25 x21.2.1, osl Km v26 (ids Fm G27), nds Fm G27 x21.2.2.1, osl Kf v28 (ids Ff G29), nds Ff G29 x21.2.2.2.2.1, osl Kt v30 x21.2.2.2.2.2.1, bxs b14 56 [([v31], 1), (List.map Value.bool x21.2.2.2.2.2.2.2.1, 256), ([v33], 1), ([v34], 1)], osl KR v31 (List.zip G32 x21.2.2.2.2.2.2.1), ndv FR G32 x21.2.2.2.2.2.2.1, osl KF v33 x21.2.2.2.2.2.2.2.2.1, osl Kt v34 x21.2.2.2.2.2.2.2.2.2, bx b99 37 [.int .i64 s94, .int .u64 (IntKind.u64.wrap (s91.Addr - (Int.tmod s91.Addr (IntKind.u64.wrap (gd 0 ([1, 2, 4, 8] : List Int) s96))))), .int .i64 (gd 0 ([1, 2, 4, 8] : List Int) s96), .bool s91.Write, .int .u64 s91.Value]]) (fun Q138 hJ138 hR138 hX138 => ?_) (fun a w hJ => ?_)
     ·
      replace H := H138
      refine seq_reg (fun K139 hK139 => ?_)
      refine stq hf Z Z Z (ex_assign hf Z) fun a hf => ?_
      refine hK139 _ _ ?_
      refine block_k (fun Q140 hN140 hR140 hX140 hY140 => ?_)
      refine loop_k (fun n a w => ∃ (y141 : (List Bool)) (y142 : Int), Fr a 186 [(5, .pointer (some ⟨b15, 0, none⟩)), (8, .pointer (some ⟨b99, 0, none⟩)), (10, .int .i64 y142)] ∧ St M w0 w [bx b15 58 [.pointer (some ⟨b4, 0, none⟩), .pointer (some ⟨b14, 0, none⟩)], bxs b4 71 [([v22], 1), ([v24], 1), ([v26], 1), (List.map Value.bool y141, 256), ([v28], 1), ([v30], 1)], osl Km v22 (ids Fm G23), nds Fm G23 x21.1, osl Km v24 (ids Fm G25), nds Fm G25 x21.2.1, osl Km v26 (ids Fm G27), nds Fm G27 x21.2.2.1, osl Kf v28 (ids Ff G29), nds Ff G29 x21.2.2.2.2.1, osl Kt v30 x21.2.2.2.2.2.1, bxs b14 56 [([v31], 1), (List.map Value.bool x21.2.2.2.2.2.2.2.1, 256), ([v33], 1), ([v34], 1)], osl KR v31 (List.zip G32 x21.2.2.2.2.2.2.1), ndv FR G32 x21.2.2.2.2.2.2.1, osl KF v33 x21.2.2.2.2.2.2.2.2.1, osl Kt v34 x21.2.2.2.2.2.2.2.2.2, bx b99 37 [.int .i64 s94, .int .u64 (IntKind.u64.wrap (s91.Addr - (Int.tmod s91.Addr (IntKind.u64.wrap (gd 0 ([1, 2, 4, 8] : List Int) s96))))), .int .i64 (gd 0 ([1, 2, 4, 8] : List Int) s96), .bool s91.Write, .int .u64 s91.Value]] ∧ law09_IospaceDeadAccesses.l3 n x21 y141 y142 = some x138) k ?_ (fun n144 a w hI Q144 hL144 hR144 hX144 => ?_)
      ·
       exact ⟨x123, 0, hf.sub ⟨Z, Z, Z, trivial⟩, hs, H⟩
      ·
       obtain ⟨y141, y142, hf, hs, H⟩ := hI
       cases n144 with
       | zero => exact absurd H (by rw [law09_IospaceDeadAccesses.l3.eq_1]; intro h; cases h)
       | succ k144 =>
        replace H := (law09_IospaceDeadAccesses.l3.eq_2 ..).symm.trans H
        refine seq_n (fun Q145 hN145 hR145 hX145 => ?_)
        refine seq_reg (fun K146 hK146 => ?_)
        refine stq hf Z Z Z (ex_move hf Z) fun a hf => stq hf Z Z Z (ex_lss hf Z Z) fun a hf => ?_
        refine hK146 _ _ ?_
        refine itt H (fun hc147 H => ?_) (fun hc147 H => ?_)
        ·
         replace hf := hf.castB (t := 80) Z (dec_t hc147)
         refine cond_T hf Z ?_
         refine wp_skip ?_
         refine hN145 _ _ ?_
         refine seq_n (fun Q148 hN148 hR148 hX148 => ?_)
         refine block_k (fun Q149 hN149 hR149 hX149 hY149 => ?_)
         refine bnd H (fun s150 hs150 H => ?_)
         refine region_k (fun K151 hK151 => ?_)
         refine stq hf Z Z Z (ex_fieldAddrB fa_58_0 Z hf Z) fun a hf => stq hf Z Z Z (ex_load sc_24 hf Z (bx_cell (hs.get (i := 0) Z) _ Z)) fun a hf => stq hf Z Z Z (ex_move hf Z) fun a hf => ?_
         refine stepF hf Z Z Z (ex_call cf_12 hf Z) (iospace_Bus_Enable.calls k144 x21.1 x21.2.1 x21.2.2.1 y141 x21.2.2.2.2.1 x21.2.2.2.2.2.1 y142 false b4 v22 G23 v24 G25 v26 G27 v28 G29 v30 (hs.enter (.k (.c (.c (.c (.c (.c (.c (.c (.c (.c (.c sN)))))))))))) (Sr.nil _ _) hs150) (fun v w hR a hf => ?_)
         obtain ⟨rfl, hs'⟩ := hR
         replace hs := hs.step (.k (.c (.c (.c (.c (.c (.c (.c (.c (.c (.c sN))))))))))) hs'
         clear hs'
         refine hK151 _ _ ?_
         refine hN149 _ _ ?_
         refine hN148 _ _ ?_
         refine region_k (fun K152 hK152 => ?_)
         refine stq hf Z Z Z (ex_move hf Z) fun a hf => stq hf Z Z Z (ex_add hf Z Z) fun a hf => stq hf Z Z Z (ex_assign hf Z) fun a hf => ?_
         refine hK152 _ _ ?_
         replace hs := hs.p16.p16.p16.p16.p16.p16.p15.p15.p15.p15.p15.p15.p15.p15.p15.p15.p16
         exact hL144 k144 _ _ (Nat.lt_succ_self _) ⟨s150.1, (IntKind.i64.wrap (y142 + 1)), hf.sub ⟨Z, Z, Z, trivial⟩, hs, H⟩
        ·
         replace hf := hf.castB (t := 80) Z (dec_f hc147)
         refine cond_F hf Z ?_
         refine wp_exit ?_
         refine hX145 4 _ _ ?_
         refine hX144 4 _ _ ?_
         refine hX140 _ _ ?_
         have e138 := some_eq H; subst e138
         exact hJ138 _ _ ⟨hf.sub ⟨Z, Z, trivial⟩, hs⟩
     ·
      obtain ⟨hf, hs⟩ := hJ
      replace H := HO138
      clear HO138
      refine bnd H (fun s153 hs153 H => ?_)
      refine seq_reg (fun K156 hK156 => ?_)
      refine stq hf Z Z Z (ex_fieldAddrB fa_58_0 Z hf Z) fun a hf => stq hf Z Z Z (ex_load sc_24 hf Z (bx_cell (hs.get (i := 0) Z) _ Z)) fun a hf => ?_
      refine stepF hf Z Z Z (ex_call cf_21 hf Z) (iospace_Bus_TakeTrace.calls k x21.1 x21.2.1 x21.2.2.1 x138 x21.2.2.2.2.1 x21.2.2.2.2.2.1 b4 v22 G23 v24 G25 v26 G27 v28 G29 v30 (hs.enter (.k (.c (.c (.c (.c (.c (.c (.c (.c (.c (.c sN)))))))))))) (Sr.nil _ _) hs153) (fun v w hR a hf => ?_)
      obtain ⟨v154, v155, rfl, hs'⟩ := hR
      replace hs := hs.step (.k (.c (.c (.c (.c (.c (.c (.c (.c (.c (.c sN))))))))))) hs'
      clear hs'
      refine hK156 _ _ ?_
      refine seq_reg (fun K158 hK158 => ?_)
      refine stepV hf Z Z Z (er_allocS (S := [(List.map (Value.int .u8) (List.replicate 8 0), 8)]) hs ti_65 Z (by simp [lens])) (fun v w hR a hf => ?_)
      obtain ⟨b157, rfl, hs⟩ := hR
      refine hK158 _ _ ?_
      refine bnd H (fun x159 H159 HO159 => ?_)
      clear H
      refine seq_cut (fun a w => Fr a 186 [(5, .pointer (some ⟨b15, 0, none⟩)), (8, .pointer (some ⟨b99, 0, none⟩)), (11, .pointer (some ⟨b157, 0, none⟩))] ∧ St M w0 w [bx b15 58 [.pointer (some ⟨b4, 0, none⟩), .pointer (some ⟨b14, 0, none⟩)], bxs b4 71 [([v22], 1), ([v24], 1), ([v26], 1), (List.map Value.bool x138, 256), ([v28], 1), ([v154], 1)], osl Km v22 (ids Fm G23), nds Fm G23 x21.1, osl Km v24 (ids Fm G25), nds Fm G25 x21.2.1, osl Km v26 (ids Fm G27), nds Fm G27 x21.2.2.1, osl Kf v28 (ids Ff G29), nds Ff G29 x21.2.2.2.2.1, osl Kt v154 s153.1, bxs b14 56 [([v31], 1), (List.map Value.bool x21.2.2.2.2.2.2.2.1, 256), ([v33], 1), ([v34], 1)], osl KR v31 (List.zip G32 x21.2.2.2.2.2.2.1), ndv FR G32 x21.2.2.2.2.2.2.1, osl KF v33 x21.2.2.2.2.2.2.2.2.1, osl Kt v34 x21.2.2.2.2.2.2.2.2.2, bx b99 37 [.int .i64 s94, .int .u64 (IntKind.u64.wrap (s91.Addr - (Int.tmod s91.Addr (IntKind.u64.wrap (gd 0 ([1, 2, 4, 8] : List Int) s96))))), .int .i64 (gd 0 ([1, 2, 4, 8] : List Int) s96), .bool s91.Write, .int .u64 s91.Value], bxs b157 65 [(List.map (Value.int .u8) x159, 8)]]) (fun Q159 hJ159 hR159 hX159 => ?_) (fun a w hJ => ?_)
      ·
       replace H := H159
       refine seq_reg (fun K160 hK160 => ?_)
       refine stq hf Z Z Z (ex_assign hf Z) fun a hf => ?_
       refine hK160 _ _ ?_
       refine block_k (fun Q161 hN161 hR161 hX161 hY161 => ?_)
       refine loop_k (fun n a w => ∃ (y162 : (List Int)) (y163 : Int), Fr a 186 [(5, .pointer (some ⟨b15, 0, none⟩)), (8, .pointer (some ⟨b99, 0, none⟩)), (11, .pointer (some ⟨b157, 0, none⟩)), (12, .int .i64 y163)] ∧ St M w0 w [bx b15 58 [.pointer (some ⟨b4, 0, none⟩), .pointer (some ⟨b14, 0, none⟩)], bxs b4 71 [([v22], 1), ([v24], 1), ([v26], 1), (List.map Value.bool x138, 256), ([v28], 1), ([v154], 1)], osl Km v22 (ids Fm G23), nds Fm G23 x21.1, osl Km v24 (ids Fm G25), nds Fm G25 x21.2.1, osl Km v26 (ids Fm G27), nds Fm G27 x21.2.2.1, osl Kf v28 (ids Ff G29), nds Ff G29 x21.2.2.2.2.1, osl Kt v154 s153.1, bxs b14 56 [([v31], 1), (List.map Value.bool x21.2.2.2.2.2.2.2.1, 256), ([v33], 1), ([v34], 1)], osl KR v31 (List.zip G32 x21.2.2.2.2.2.2.1), ndv FR G32 x21.2.2.2.2.2.2.1, osl KF v33 x21.2.2.2.2.2.2.2.2.1, osl Kt v34 x21.2.2.2.2.2.2.2.2.2, bx b99 37 [.int .i64 s94, .int .u64 (IntKind.u64.wrap (s91.Addr - (Int.tmod s91.Addr (IntKind.u64.wrap (gd 0 ([1, 2, 4, 8] : List Int) s96))))), .int .i64 (gd 0 ([1, 2, 4, 8] : List Int) s96), .bool s91.Write, .int .u64 s91.Value], bxs b157 65 [(List.map (Value.int .u8) y162, 8)]] ∧ law09_IospaceDeadAccesses.l4 n s96 x21 x138 s153 s94 s91 y162 y163 = some x159) k ?_ (fun n165 a w hI Q165 hL165 hR165 hX165 => ?_)
       ·
        replace hs := hs.keep (.k (.k (.k (.k (.k (.k (.k (.k (.k (.k (.k (.d sN))))))))))))
        replace hs := hs.p17.p17.p17.p17.p17.p17.p8.p16.p16.p16.p16.p16.p16.p16.p16.p16.p17
        exact ⟨(List.replicate 8 0), 0, hf.sub ⟨Z, Z, Z, Z, trivial⟩, hs, H⟩
       ·
        obtain ⟨y162, y163, hf, hs, H⟩ := hI
        cases n165 with
        | zero => exact absurd H (by rw [law09_IospaceDeadAccesses.l4.eq_1]; intro h; cases h)
        | succ k165 =>
         replace H := (law09_IospaceDeadAccesses.l4.eq_2 ..).symm.trans H
         refine seq_n (fun Q166 hN166 hR166 hX166 => ?_)
         refine seq_reg (fun K167 hK167 => ?_)
         refine stq hf Z Z Z (ex_move hf Z) fun a hf => stq hf Z Z Z (ex_fieldAddrB fa_37_2 Z hf Z) fun a hf => stq hf Z Z Z (ex_load sc_3 hf Z (bx_cell (hs.get (i := 16) Z) _ Z)) fun a hf => stq hf Z Z Z (ex_lss hf Z Z) fun a hf => ?_
         refine hK167 _ _ ?_
         refine itt H (fun hc168 H => ?_) (fun hc168 H => ?_)
         ·
          replace hf := hf.castB (t := 93) Z (dec_t hc168)
          refine cond_T hf Z ?_
          refine wp_skip ?_
          refine hN166 _ _ ?_
          refine seq_n (fun Q169 hN169 hR169 hX169 => ?_)
          refine block_k (fun Q170 hN170 hR170 hX170 hY170 => ?_)
          refine bnd H (fun s171 hs171 H => ?_)
          refine ck_some H (fun hc172 H => ?_)
          refine region_k (fun K173 hK173 => ?_)
          refine stq hf Z Z Z (ex_move hf Z) fun a hf => stq hf Z Z Z (ex_fieldAddrB fa_58_0 Z hf Z) fun a hf => stq hf Z Z Z (ex_load sc_24 hf Z (bx_cell (hs.get (i := 0) Z) _ Z)) fun a hf => stq hf Z Z Z (ex_fieldAddrB fa_37_0 Z hf Z) fun a hf => stq hf Z Z Z (ex_load sc_3 hf Z (bx_cell (hs.get (i := 16) Z) _ Z)) fun a hf => stq hf Z Z Z (ex_fieldAddrB fa_37_1 Z hf Z) fun a hf => stq hf Z Z Z (ex_load sc_22 hf Z (bx_cell (hs.get (i := 16) Z) _ Z)) fun a hf => stq hf Z Z Z (ex_move hf Z) fun a hf => stq hf Z Z Z (ex_conv Try.underlying3 Try.underlying22 hf Z) fun a hf => stq hf Z Z Z (ex_add hf Z Z) fun a hf => ?_
          refine stepF hf Z Z Z (ex_call cf_17 hf Z) (iospace_Bus_Peek.calls k165 x21.1 x21.2.1 x21.2.2.1 x138 x21.2.2.2.2.1 s153.1 s94 (IntKind.u64.wrap ((IntKind.u64.wrap (s91.Addr - (Int.tmod s91.Addr (IntKind.u64.wrap (gd 0 ([1, 2, 4, 8] : List Int) s96))))) + (IntKind.u64.wrap y163))) b4 v22 G23 v24 G25 v26 G27 v28 G29 v154 (hs.enter sN) (Sr.own hs sN (i := 1) Z (fun _ h => h) (fun _ h => h) (Sr.own hs sN (i := 2) Z osl_rsl (fun _ h => h.1) (Sr.own hs sN (i := 3) Z (fun _ h => h) (fun _ h => h) (Sr.own hs sN (i := 4) Z osl_rsl (fun _ h => h.1) (Sr.own hs sN (i := 5) Z (fun _ h => h) (fun _ h => h) (Sr.own hs sN (i := 6) Z osl_rsl (fun _ h => h.1) (Sr.own hs sN (i := 7) Z (fun _ h => h) (fun _ h => h) (Sr.own hs sN (i := 8) Z osl_rsl (fun _ h => h.1) (Sr.own hs sN (i := 9) Z (fun _ h => h) (fun _ h => h) (Sr.own hs sN (i := 10) Z osl_rsl (fun _ h => h.1) (Sr.nil _ _))))))))))) hs171) (fun v w hR a hf => ?_)
          obtain ⟨rfl, hs'⟩ := hR
          replace hs := hs.step sN hs'
          clear hs'
          refine stq hf Z Z Z (ex_move hf Z) fun a hf => stq hf Z Z Z (ex_extract hf Z Z) fun a hf => stq hf Z Z Z (ex_extract hf Z Z) fun a hf => stq hf Z Z Z (ex_indexAddrA ia_65 Z hc172.1 hc172.2 hf Z Z) fun a hf => ?_
          refine stepS hf Z Z (er_storeS (f := (Value.int .u8)) (xs := y162) (u := s171.1) (i := 0) hs (.k (.k (.k (.k (.k (.k (.k (.k (.k (.k (.k (.k (.k (.k (.k (.k (.k (.c .nil)))))))))))))))))) hf Z Z Z sz_5 Z Z hc172.1 hc172.2) (fun w hs => ?_)
          refine hK173 _ _ ?_
          refine hN170 _ _ ?_
          refine hN169 _ _ ?_
          refine region_k (fun K174 hK174 => ?_)
          refine stq hf Z Z Z (ex_move hf Z) fun a hf => stq hf Z Z Z (ex_add hf Z Z) fun a hf => stq hf Z Z Z (ex_assign hf Z) fun a hf => ?_
          refine hK174 _ _ ?_
          replace hs := hs.p17.p17.p17.p17.p17.p17.p17.p17.p17.p17.p17.p17.p17.p17.p17.p17.p17
          exact hL165 k165 _ _ (Nat.lt_succ_self _) ⟨(y162.set y163.toNat s171.1), (IntKind.i64.wrap (y163 + 1)), hf.sub ⟨Z, Z, Z, Z, trivial⟩, hs, H⟩
         ·
          replace hf := hf.castB (t := 93) Z (dec_f hc168)
          refine cond_F hf Z ?_
          refine wp_exit ?_
          refine hX166 6 _ _ ?_
          refine hX165 6 _ _ ?_
          refine hX161 _ _ ?_
          have e159 := some_eq H; subst e159
          exact hJ159 _ _ ⟨hf.sub ⟨Z, Z, Z, trivial⟩, hs⟩
      ·
       obtain ⟨hf, hs⟩ := hJ
       replace H := HO159
       clear HO159
       refine bnd H (fun s175 hs175 H => ?_)
       refine seq_reg (fun K179 hK179 => ?_)
       refine stq hf Z Z Z (ex_fieldAddrB fa_58_0 Z hf Z) fun a hf => stq hf Z Z Z (ex_load sc_24 hf Z (bx_cell (hs.get (i := 0) Z) _ Z)) fun a hf => stq hf Z Z Z (ex_loadA (cs := [.int .i64 s94, .int .u64 (IntKind.u64.wrap (s91.Addr - (Int.tmod s91.Addr (IntKind.u64.wrap (gd 0 ([1, 2, 4, 8] : List Int) s96))))), .int .i64 (gd 0 ([1, 2, 4, 8] : List Int) s96), .bool s91.Write, .int .u64 s91.Value]) ag_37 hf Z (bx_cells (hs.get (i := 16) Z) Z)) fun a hf => ?_
       refine stepF hf Z Z Z (ex_call cf_13 hf Z) (iospace_Bus_Access.calls k x21.1 x21.2.1 x21.2.2.1 x138 x21.2.2.2.2.1 s153.1 (⟨s94, (IntKind.u64.wrap (s91.Addr - (Int.tmod s91.Addr (IntKind.u64.wrap (gd 0 ([1, 2, 4, 8] : List Int) s96))))), (gd 0 ([1, 2, 4, 8] : List Int) s96), s91.Write, s91.Value⟩ : Access) b4 v22 G23 v24 G25 v26 G27 v28 G29 v154 (hs.enter (.k (.c (.c (.c (.c (.c (.c (.c (.c (.c (.c sN)))))))))))) (Sr.nil _ _) hs175) (fun v w hR a hf => ?_)
       obtain ⟨v176, b177, v178, rfl, hs'⟩ := hR
       replace hs := hs.step (.k (.c (.c (.c (.c (.c (.c (.c (.c (.c (.c sN))))))))))) hs'
       clear hs'
       refine stq hf Z Z Z (ex_move hf Z) fun a hf => stq hf Z Z Z (ex_extract hf Z Z) fun a hf => stq hf Z Z Z (ex_extract hf Z Z) fun a hf => stq hf Z Z Z (ex_assign hf Z) fun a hf => stq hf Z Z Z (ex_assign hf Z) fun a hf => ?_
       refine hK179 _ _ ?_
       refine bnd H (fun s180 hs180 H => ?_)
       refine seq_reg (fun K183 hK183 => ?_)
       refine stq hf Z Z Z (ex_fieldAddrB fa_58_0 Z hf Z) fun a hf => stq hf Z Z Z (ex_load sc_24 hf Z (bx_cell (hs.get (i := 10) Z) _ Z)) fun a hf => ?_
       replace hs := hs.p3.p3.p3.p9.p9.p9.p9.p9.p9.p9
       refine stepF hf Z Z Z (ex_call cf_21 hf Z) (iospace_Bus_TakeTrace.calls k s175.2.2.1 s175.2.2.2.1 s175.2.2.2.2.1 x138 s175.1 s175.2.1 b4 v22 G23 v24 G25 v26 G27 v176 b177 v178 (hs.enter (.c (.c (.c (.c (.c (.c (.c (.c (.c (.c sN))))))))))) (Sr.nil _ _) hs180) (fun v w hR a hf => ?_)
       obtain ⟨v181, v182, rfl, hs'⟩ := hR
       replace hs := hs.step (.c (.c (.c (.c (.c (.c (.c (.c (.c (.c sN)))))))))) hs'
       clear hs'
       refine stq hf Z Z Z (ex_assign hf Z) fun a hf => ?_
       refine hK183 _ _ ?_
       refine bnd H (fun x184 H184 HO184 => ?_)
       clear H
       refine seq_cut (fun a w => ∃ (x184s : Unit), x184 = .go x184s ∧ Fr a 186 [(8, .pointer (some ⟨b99, 0, none⟩)), (13, .int .u64 s175.2.2.2.2.2.1), (14, .int .i64 s175.2.2.2.2.2.2), (15, v182)] ∧ St M w0 w [bx b99 37 [.int .i64 s94, .int .u64 (IntKind.u64.wrap (s91.Addr - (Int.tmod s91.Addr (IntKind.u64.wrap (gd 0 ([1, 2, 4, 8] : List Int) s96))))), .int .i64 (gd 0 ([1, 2, 4, 8] : List Int) s96), .bool s91.Write, .int .u64 s91.Value], osl Kt v182 s180.2]) (fun Q184 hJ184 hR184 hX184 => ?_) (fun a w hJ => ?_)
       ·
        replace H := H184
        refine seq_reg (fun K185 hK185 => ?_)
        refine stq hf Z Z Z (ex_assign hf Z) fun a hf => ?_
        refine hK185 _ _ ?_
        refine block_k (fun Q186 hN186 hR186 hX186 hY186 => ?_)
        refine loop_k (fun n a w => ∃ (y187 : Int), Fr a 186 [(5, .pointer (some ⟨b15, 0, none⟩)), (8, .pointer (some ⟨b99, 0, none⟩)), (11, .pointer (some ⟨b157, 0, none⟩)), (13, .int .u64 s175.2.2.2.2.2.1), (14, .int .i64 s175.2.2.2.2.2.2), (15, v182), (16, .int .i64 y187)] ∧ St M w0 w [bx b15 58 [.pointer (some ⟨b4, 0, none⟩), .pointer (some ⟨b14, 0, none⟩)], bxs b4 71 [([v22], 1), ([v24], 1), ([v26], 1), (List.map Value.bool x138, 256), ([v176], 1), ([v181], 1)], osl Km v22 (ids Fm G23), nds Fm G23 s175.2.2.1, osl Km v24 (ids Fm G25), nds Fm G25 s175.2.2.2.1, osl Km v26 (ids Fm G27), nds Fm G27 s175.2.2.2.2.1, osl Kf v176 (ids Ff b177), nds Ff b177 s175.1, osl Kt v181 s180.1, bxs b14 56 [([v31], 1), (List.map Value.bool x21.2.2.2.2.2.2.2.1, 256), ([v33], 1), ([v34], 1)], osl KR v31 (List.zip G32 x21.2.2.2.2.2.2.1), ndv FR G32 x21.2.2.2.2.2.2.1, osl KF v33 x21.2.2.2.2.2.2.2.2.1, osl Kt v34 x21.2.2.2.2.2.2.2.2.2, bx b99 37 [.int .i64 s94, .int .u64 (IntKind.u64.wrap (s91.Addr - (Int.tmod s91.Addr (IntKind.u64.wrap (gd 0 ([1, 2, 4, 8] : List Int) s96))))), .int .i64 (gd 0 ([1, 2, 4, 8] : List Int) s96), .bool s91.Write, .int .u64 s91.Value], bxs b157 65 [(List.map (Value.int .u8) x159, 8)], osl Kt v182 s180.2] ∧ law09_IospaceDeadAccesses.l5 n s96 s175 x138 s180 s94 s91 x159 y187 = some x184) k ?_ (fun n189 a w hI Q189 hL189 hR189 hX189 => ?_)
        ·
         replace hs := hs.p10.p18.p18.p18.p18.p18.p18.p18.p9.p17.p17.p17.p17.p17.p17.p17.p17.p17.p18
         exact ⟨0, hf.sub ⟨Z, Z, Z, Z, Z, Z, Z, trivial⟩, hs, H⟩
        ·
         obtain ⟨y187, hf, hs, H⟩ := hI
         cases n189 with
         | zero => exact absurd H (by rw [law09_IospaceDeadAccesses.l5.eq_1]; intro h; cases h)
         | succ k189 =>
          replace H := (law09_IospaceDeadAccesses.l5.eq_2 ..).symm.trans H
          refine seq_n (fun Q190 hN190 hR190 hX190 => ?_)
          refine seq_reg (fun K191 hK191 => ?_)
          refine stq hf Z Z Z (ex_move hf Z) fun a hf => stq hf Z Z Z (ex_fieldAddrB fa_37_2 Z hf Z) fun a hf => stq hf Z Z Z (ex_load sc_3 hf Z (bx_cell (hs.get (i := 16) Z) _ Z)) fun a hf => stq hf Z Z Z (ex_lss hf Z Z) fun a hf => ?_
          refine hK191 _ _ ?_
          refine itt H (fun hc192 H => ?_) (fun hc192 H => ?_)
          ·
           replace hf := hf.castB (t := 124) Z (dec_t hc192)
           refine cond_T hf Z ?_
           refine wp_skip ?_
           refine hN190 _ _ ?_
           refine seq_n (fun Q193 hN193 hR193 hX193 => ?_)
           refine block_k (fun Q194 hN194 hR194 hX194 hY194 => ?_)
           refine bnd H (fun s195 hs195 H => ?_)
           refine seq_reg (fun K196 hK196 => ?_)
           refine stq hf Z Z Z (ex_fieldAddrB fa_58_0 Z hf Z) fun a hf => stq hf Z Z Z (ex_load sc_24 hf Z (bx_cell (hs.get (i := 0) Z) _ Z)) fun a hf => stq hf Z Z Z (ex_fieldAddrB fa_37_0 Z hf Z) fun a hf => stq hf Z Z Z (ex_load sc_3 hf Z (bx_cell (hs.get (i := 16) Z) _ Z)) fun a hf => stq hf Z Z Z (ex_fieldAddrB fa_37_1 Z hf Z) fun a hf => stq hf Z Z Z (ex_load sc_22 hf Z (bx_cell (hs.get (i := 16) Z) _ Z)) fun a hf => stq hf Z Z Z (ex_move hf Z) fun a hf => stq hf Z Z Z (ex_conv Try.underlying3 Try.underlying22 hf Z) fun a hf => stq hf Z Z Z (ex_add hf Z Z) fun a hf => ?_
           refine stepF hf Z Z Z (ex_call cf_17 hf Z) (iospace_Bus_Peek.calls k189 s175.2.2.1 s175.2.2.2.1 s175.2.2.2.2.1 x138 s175.1 s180.1 s94 (IntKind.u64.wrap ((IntKind.u64.wrap (s91.Addr - (Int.tmod s91.Addr (IntKind.u64.wrap (gd 0 ([1, 2, 4, 8] : List Int) s96))))) + (IntKind.u64.wrap y187))) b4 v22 G23 v24 G25 v26 G27 v176 b177 v181 (hs.enter sN) (Sr.own hs sN (i := 1) Z (fun _ h => h) (fun _ h => h) (Sr.own hs sN (i := 2) Z osl_rsl (fun _ h => h.1) (Sr.own hs sN (i := 3) Z (fun _ h => h) (fun _ h => h) (Sr.own hs sN (i := 4) Z osl_rsl (fun _ h => h.1) (Sr.own hs sN (i := 5) Z (fun _ h => h) (fun _ h => h) (Sr.own hs sN (i := 6) Z osl_rsl (fun _ h => h.1) (Sr.own hs sN (i := 7) Z (fun _ h => h) (fun _ h => h) (Sr.own hs sN (i := 8) Z osl_rsl (fun _ h => h.1) (Sr.own hs sN (i := 9) Z (fun _ h => h) (fun _ h => h) (Sr.own hs sN (i := 10) Z osl_rsl (fun _ h => h.1) (Sr.nil _ _))))))))))) hs195) (fun v w hR a hf => ?_)
           obtain ⟨rfl, hs'⟩ := hR
           replace hs := hs.step sN hs'
           clear hs'
           refine stq hf Z Z Z (ex_move hf Z) fun a hf => stq hf Z Z Z (ex_extract hf Z Z) fun a hf => stq hf Z Z Z (ex_extract hf Z Z) fun a hf => stq hf Z Z Z (ex_assign hf Z) fun a hf => stq hf Z Z Z (ex_assign hf Z) fun a hf => ?_
           refine hK196 _ _ ?_
           refine ck_some H (fun hc197 H => ?_)
           refine seq_reg (fun K198 hK198 => ?_)
           refine stq hf Z Z Z (ex_move hf Z) fun a hf => stq hf Z Z Z (ex_move hf Z) fun a hf => stq hf Z Z Z (ex_indexAddrA ia_65 Z hc197.1 hc197.2 hf Z Z) fun a hf => stq hf Z Z Z (ex_load sc_5 hf Z (sb_cell (f := (Value.int .u8)) (xs := x159) (i := 0) (z := 0) (hs.get (i := 17) Z) Z Z hc197.1 hc197.2)) fun a hf => stq hf Z Z Z (ex_neq hf Z Z) fun a hf => ?_
           refine hK198 _ _ ?_
           refine itt H (fun hc199 H => ?_) (fun hc199 H => ?_)
           ·
            replace hf := hf.castB (t := 144) Z (ndec_f hc199)
            refine cond_F hf Z ?_
            refine wp_skip ?_
            refine hN194 _ _ ?_
            refine hN193 _ _ ?_
            refine region_k (fun K200 hK200 => ?_)
            refine stq hf Z Z Z (ex_move hf Z) fun a hf => stq hf Z Z Z (ex_add hf Z Z) fun a hf => stq hf Z Z Z (ex_assign hf Z) fun a hf => ?_
            refine hK200 _ _ ?_
            exact hL189 k189 _ _ (Nat.lt_succ_self _) ⟨(IntKind.i64.wrap (y187 + 1)), hf.sub ⟨Z, Z, Z, Z, Z, Z, Z, trivial⟩, hs, H⟩
           ·
            replace hf := hf.castB (t := 144) Z (ndec_t hc199)
            refine cond_T hf Z ?_
            refine seq_reg (fun K201 hK201 => ?_)
            refine stq hf Z Z Z (ex_assign hf Z) fun a hf => ?_
            refine hK201 _ _ ?_
            refine wp_ret ?_
            refine hR194 _ _ ?_
            refine hR193 _ _ ?_
            refine hR189 _ _ ?_
            refine hR186 _ _ ?_
            have e184 := some_eq H; subst e184; replace H := el_rt HO184
            refine hR184 _ _ ?_
            have eR := some_eq H; subst eR
            replace hs := hs.keep (.d (.d (.d (.d (.d (.d (.d (.d (.d (.d (.d (.d (.d (.d (.d (.d (.d (.d (.d .nil)))))))))))))))))))
            exact ret1 Try.results7 hf Z ⟨_, Z, ⟨Z, hs⟩⟩
          ·
           replace hf := hf.castB (t := 124) Z (dec_f hc192)
           refine cond_F hf Z ?_
           refine wp_exit ?_
           refine hX190 8 _ _ ?_
           refine hX189 8 _ _ ?_
           refine hX186 _ _ ?_
           replace hs := hs.keep (.d (.d (.d (.d (.d (.d (.d (.d (.d (.d (.d (.d (.d (.d (.d (.d (.k (.d sN))))))))))))))))))
           have e184 := some_eq H; subst e184
           exact hJ184 _ _ ⟨_, Z, hf.sub ⟨Z, Z, Z, Z, trivial⟩, hs⟩
       ·
        obtain ⟨x184s, rfl, hf, hs⟩ := hJ
        replace H := el_go HO184
        clear HO184
        refine itt H (fun hc202 H => ?_) (fun hc202 H => ?_)
        ·
         refine itt H (fun hc203 H => ?_) (fun hc203 H => ?_)
         ·
          refine itt H (fun hc204 H => ?_) (fun hc204 H => ?_)
          ·
           refine itt H (fun hc205 H => ?_) (fun hc205 H => ?_)
           ·
            refine ck_some H (fun hc206 H => ?_)
            refine itt H (fun hc207 H => ?_) (fun hc207 H => ?_)
            ·
             refine seq_reg (fun K208 hK208 => ?_)
             refine stq hf Z Z Z (ex_move hf Z) fun a hf => stq hf Z Z Z (ex_eql hf Z Z) fun a hf => stq hf Z Z Z (ex_move hf Z) fun a hf => ?_
             replace hf := hf.castB (t := 146) Z (dec_t hc202)
             replace hf := hf.castB (t := 147) Z (dec_t hc202)
             refine stq hf Z Z Z (ex_fieldAddrB fa_37_3 Z hf Z) fun a hf => stq hf Z Z Z (ex_load sc_4 hf Z (bx_cell (hs.get (i := 0) Z) _ Z)) fun a hf => stq hf Z Z Z (ex_move hf Z) fun a hf => ?_
             replace hf := hf.castB (t := 149) Z hc203
             replace hf := hf.castB (t := 150) Z hc203
             refine stq hf Z Z Z (ex_move hf Z) fun a hf => stq hf Z Z Z (ex_eql hf Z Z) fun a hf => stq hf Z Z Z (ex_pickT hf Z Z) fun a hf => stq hf Z Z Z (ex_move hf Z) fun a hf => ?_
             replace hf := hf.castB (t := 152) Z (dec_t hc204)
             replace hf := hf.castB (t := 153) Z (dec_t hc204)
             replace hf := hf.castB (t := 154) Z (dec_t hc204)
             refine stepN hf Z Z Z fun a hf => stepN hf Z Z Z fun a hf => stepN hf Z Z Z fun a hf => stepN hf Z Z Z fun a hf => stepN hf Z Z Z fun a hf => stepN hf Z Z Z fun a hf => stepN hf Z Z Z fun a hf => stepN hf Z Z Z fun a hf => stepN hf Z Z Z fun a hf => stepN hf Z Z Z fun a hf => stq hf Z Z Z (ex_pickT hf Z Z) fun a hf => stq hf Z Z Z (ex_pickT hf Z Z) fun a hf => stq hf Z Z Z (ex_move hf Z) fun a hf => stq hf Z Z Z (ex_move hf Z) fun a hf => stq hf Z Z Z (ex_lenS Try.underlying54 (rsl_isSl (osl_rsl _ (hs.get (i := 1) Z))) hf Z) fun a hf => stq hf Z Z Z (ex_eql hf Z Z) fun a hf => stq hf Z Z Z (ex_pickT hf Z Z) fun a hf => stq hf Z Z Z (ex_move hf Z) fun a hf => ?_
             replace hf := hf.castB (t := 170) Z (dec_t hc205)
             replace hf := hf.castB (t := 171) Z (dec_t hc205)
             replace hf := hf.castB (t := 172) Z (dec_t hc205)
             refine stq hf Z Z Z (ex_move hf Z) fun a hf => stq hf Z Z Z (ex_indexAddr sa_54 (rsl_isSl (osl_rsl _ (hs.get (i := 1) Z))) hc206.1 hc206.2 hf Z Z) fun a hf => stq hf Z Z Z (ex_fieldAddrS fa_63_2 Z hf Z) fun a hf => stq hf Z Z Z (ex_load sc_4 hf Z (el_cell (K := Kt) (f := 6) (rsl_rd (osl_rsl _ (hs.get (i := 1) Z))) hc206.1 hc206.2 Z)) fun a hf => stq hf Z Z Z (ex_not hf Z) fun a hf => stq hf Z Z Z (ex_pickT hf Z Z) fun a hf => stq hf Z Z Z (ex_move hf Z) fun a hf => ?_
             replace hf := hf.castB (t := 176) Z hc207
             replace hf := hf.castB (t := 177) Z (nbool_f hc207)
             replace hf := hf.castB (t := 178) Z (nbool_f hc207)
             replace hf := hf.castB (t := 179) Z (nbool_f hc207)
             refine stepN hf Z Z Z fun a hf => stepN hf Z Z Z fun a hf => stepN hf Z Z Z fun a hf => stepN hf Z Z Z fun a hf => stepN hf Z Z Z fun a hf => stq hf Z Z Z (ex_pickF hf Z Z) fun a hf => stq hf Z Z Z (ex_assign hf Z) fun a hf => ?_
             refine hK208 _ _ ?_
             refine wp_ret ?_
             have eR := some_eq H; subst eR
             replace hs := hs.keep (.d (.d .nil))
             exact ret1 Try.results7 hf Z ⟨_, Z, ⟨Z, hs⟩⟩
            ·
             refine seq_reg (fun K209 hK209 => ?_)
             refine stq hf Z Z Z (ex_move hf Z) fun a hf => stq hf Z Z Z (ex_eql hf Z Z) fun a hf => stq hf Z Z Z (ex_move hf Z) fun a hf => ?_
             replace hf := hf.castB (t := 146) Z (dec_t hc202)
             replace hf := hf.castB (t := 147) Z (dec_t hc202)
             refine stq hf Z Z Z (ex_fieldAddrB fa_37_3 Z hf Z) fun a hf => stq hf Z Z Z (ex_load sc_4 hf Z (bx_cell (hs.get (i := 0) Z) _ Z)) fun a hf => stq hf Z Z Z (ex_move hf Z) fun a hf => ?_
             replace hf := hf.castB (t := 149) Z hc203
             replace hf := hf.castB (t := 150) Z hc203
             refine stq hf Z Z Z (ex_move hf Z) fun a hf => stq hf Z Z Z (ex_eql hf Z Z) fun a hf => stq hf Z Z Z (ex_pickT hf Z Z) fun a hf => stq hf Z Z Z (ex_move hf Z) fun a hf => ?_
             replace hf := hf.castB (t := 152) Z (dec_t hc204)
             replace hf := hf.castB (t := 153) Z (dec_t hc204)
             replace hf := hf.castB (t := 154) Z (dec_t hc204)
             refine stepN hf Z Z Z fun a hf => stepN hf Z Z Z fun a hf => stepN hf Z Z Z fun a hf => stepN hf Z Z Z fun a hf => stepN hf Z Z Z fun a hf => stepN hf Z Z Z fun a hf => stepN hf Z Z Z fun a hf => stepN hf Z Z Z fun a hf => stepN hf Z Z Z fun a hf => stepN hf Z Z Z fun a hf => stq hf Z Z Z (ex_pickT hf Z Z) fun a hf => stq hf Z Z Z (ex_pickT hf Z Z) fun a hf => stq hf Z Z Z (ex_move hf Z) fun a hf => stq hf Z Z Z (ex_move hf Z) fun a hf => stq hf Z Z Z (ex_lenS Try.underlying54 (rsl_isSl (osl_rsl _ (hs.get (i := 1) Z))) hf Z) fun a hf => stq hf Z Z Z (ex_eql hf Z Z) fun a hf => stq hf Z Z Z (ex_pickT hf Z Z) fun a hf => stq hf Z Z Z (ex_move hf Z) fun a hf => ?_
             replace hf := hf.castB (t := 170) Z (dec_t hc205)
             replace hf := hf.castB (t := 171) Z (dec_t hc205)
             replace hf := hf.castB (t := 172) Z (dec_t hc205)
             refine stq hf Z Z Z (ex_move hf Z) fun a hf => stq hf Z Z Z (ex_indexAddr sa_54 (rsl_isSl (osl_rsl _ (hs.get (i := 1) Z))) hc206.1 hc206.2 hf Z Z) fun a hf => stq hf Z Z Z (ex_fieldAddrS fa_63_2 Z hf Z) fun a hf => stq hf Z Z Z (ex_load sc_4 hf Z (el_cell (K := Kt) (f := 6) (rsl_rd (osl_rsl _ (hs.get (i := 1) Z))) hc206.1 hc206.2 Z)) fun a hf => stq hf Z Z Z (ex_not hf Z) fun a hf => stq hf Z Z Z (ex_pickT hf Z Z) fun a hf => stq hf Z Z Z (ex_move hf Z) fun a hf => ?_
             replace hf := hf.castB (t := 176) Z (bool_f hc207)
             replace hf := hf.castB (t := 177) Z (nbool_t hc207)
             replace hf := hf.castB (t := 178) Z (nbool_t hc207)
             replace hf := hf.castB (t := 179) Z (nbool_t hc207)
             refine stq hf Z Z Z (ex_move hf Z) fun a hf => stq hf Z Z Z (ex_indexAddr sa_54 (rsl_isSl (osl_rsl _ (hs.get (i := 1) Z))) hc206.1 hc206.2 hf Z Z) fun a hf => stq hf Z Z Z (ex_fieldAddrS fa_63_3 Z hf Z) fun a hf => stq hf Z Z Z (ex_load sc_4 hf Z (el_cell (K := Kt) (f := 7) (rsl_rd (osl_rsl _ (hs.get (i := 1) Z))) hc206.1 hc206.2 Z)) fun a hf => stq hf Z Z Z (ex_not hf Z) fun a hf => stq hf Z Z Z (ex_pickT hf Z Z) fun a hf => stq hf Z Z Z (ex_assign hf Z) fun a hf => ?_
             refine hK209 _ _ ?_
             refine wp_ret ?_
             have eR := some_eq H; subst eR
             replace hs := hs.keep (.d (.d .nil))
             exact ret1 Try.results7 hf Z ⟨_, Z, ⟨Z, hs⟩⟩
           ·
            refine seq_reg (fun K210 hK210 => ?_)
            refine stq hf Z Z Z (ex_move hf Z) fun a hf => stq hf Z Z Z (ex_eql hf Z Z) fun a hf => stq hf Z Z Z (ex_move hf Z) fun a hf => ?_
            replace hf := hf.castB (t := 146) Z (dec_t hc202)
            replace hf := hf.castB (t := 147) Z (dec_t hc202)
            refine stq hf Z Z Z (ex_fieldAddrB fa_37_3 Z hf Z) fun a hf => stq hf Z Z Z (ex_load sc_4 hf Z (bx_cell (hs.get (i := 0) Z) _ Z)) fun a hf => stq hf Z Z Z (ex_move hf Z) fun a hf => ?_
            replace hf := hf.castB (t := 149) Z hc203
            replace hf := hf.castB (t := 150) Z hc203
            refine stq hf Z Z Z (ex_move hf Z) fun a hf => stq hf Z Z Z (ex_eql hf Z Z) fun a hf => stq hf Z Z Z (ex_pickT hf Z Z) fun a hf => stq hf Z Z Z (ex_move hf Z) fun a hf => ?_
            replace hf := hf.castB (t := 152) Z (dec_t hc204)
            replace hf := hf.castB (t := 153) Z (dec_t hc204)
            replace hf := hf.castB (t := 154) Z (dec_t hc204)
            refine stepN hf Z Z Z fun a hf => stepN hf Z Z Z fun a hf => stepN hf Z Z Z fun a hf => stepN hf Z Z Z fun a hf => stepN hf Z Z Z fun a hf => stepN hf Z Z Z fun a hf => stepN hf Z Z Z fun a hf => stepN hf Z Z Z fun a hf => stepN hf Z Z Z fun a hf => stepN hf Z Z Z fun a hf => stq hf Z Z Z (ex_pickT hf Z Z) fun a hf => stq hf Z Z Z (ex_pickT hf Z Z) fun a hf => stq hf Z Z Z (ex_move hf Z) fun a hf => stq hf Z Z Z (ex_move hf Z) fun a hf => stq hf Z Z Z (ex_lenS Try.underlying54 (rsl_isSl (osl_rsl _ (hs.get (i := 1) Z))) hf Z) fun a hf => stq hf Z Z Z (ex_eql hf Z Z) fun a hf => stq hf Z Z Z (ex_pickT hf Z Z) fun a hf => stq hf Z Z Z (ex_move hf Z) fun a hf => ?_
            replace hf := hf.castB (t := 170) Z (dec_f hc205)
            replace hf := hf.castB (t := 171) Z (dec_f hc205)
            replace hf := hf.castB (t := 172) Z (dec_f hc205)
            refine stepN hf Z Z Z fun a hf => stepN hf Z Z Z fun a hf => stepN hf Z Z Z fun a hf => stepN hf Z Z Z fun a hf => stepN hf Z Z Z fun a hf => stq hf Z Z Z (ex_pickF hf Z Z) fun a hf => stq hf Z Z Z (ex_move hf Z) fun a hf => stepN hf Z Z Z fun a hf => stepN hf Z Z Z fun a hf => stepN hf Z Z Z fun a hf => stepN hf Z Z Z fun a hf => stepN hf Z Z Z fun a hf => stq hf Z Z Z (ex_pickF hf Z Z) fun a hf => stq hf Z Z Z (ex_assign hf Z) fun a hf => ?_
            refine hK210 _ _ ?_
            refine wp_ret ?_
            have eR := some_eq H; subst eR
            replace hs := hs.keep (.d (.d .nil))
            exact ret1 Try.results7 hf Z ⟨_, Z, ⟨Z, hs⟩⟩
          ·
           refine seq_reg (fun K211 hK211 => ?_)
           refine stq hf Z Z Z (ex_move hf Z) fun a hf => stq hf Z Z Z (ex_eql hf Z Z) fun a hf => stq hf Z Z Z (ex_move hf Z) fun a hf => ?_
           replace hf := hf.castB (t := 146) Z (dec_t hc202)
           replace hf := hf.castB (t := 147) Z (dec_t hc202)
           refine stq hf Z Z Z (ex_fieldAddrB fa_37_3 Z hf Z) fun a hf => stq hf Z Z Z (ex_load sc_4 hf Z (bx_cell (hs.get (i := 0) Z) _ Z)) fun a hf => stq hf Z Z Z (ex_move hf Z) fun a hf => ?_
           replace hf := hf.castB (t := 149) Z hc203
           replace hf := hf.castB (t := 150) Z hc203
           refine stq hf Z Z Z (ex_move hf Z) fun a hf => stq hf Z Z Z (ex_eql hf Z Z) fun a hf => stq hf Z Z Z (ex_pickT hf Z Z) fun a hf => stq hf Z Z Z (ex_move hf Z) fun a hf => ?_
           replace hf := hf.castB (t := 152) Z (dec_f hc204)
           replace hf := hf.castB (t := 153) Z (dec_f hc204)
           replace hf := hf.castB (t := 154) Z (dec_f hc204)
           refine stq hf Z Z Z (ex_fieldAddrB fa_37_3 Z hf Z) fun a hf => stq hf Z Z Z (ex_castB (ex_load sc_4 hf Z (bx_cell (hs.get (i := 0) Z) _ Z)) hc203) fun a hf => stq hf Z Z Z (ex_not hf Z) fun a hf => stq hf Z Z Z (ex_move hf Z) fun a hf => stepN hf Z Z Z fun a hf => stepN hf Z Z Z fun a hf => stepN hf Z Z Z fun a hf => stepN hf Z Z Z fun a hf => stepN hf Z Z Z fun a hf => stq hf Z Z Z (ex_pickF hf Z Z) fun a hf => stq hf Z Z Z (ex_pickF hf Z Z) fun a hf => stq hf Z Z Z (ex_pickT hf Z Z) fun a hf => stq hf Z Z Z (ex_move hf Z) fun a hf => stepN hf Z Z Z fun a hf => stepN hf Z Z Z fun a hf => stepN hf Z Z Z fun a hf => stq hf Z Z Z (ex_pickF hf Z Z) fun a hf => stq hf Z Z Z (ex_move hf Z) fun a hf => stepN hf Z Z Z fun a hf => stepN hf Z Z Z fun a hf => stepN hf Z Z Z fun a hf => stepN hf Z Z Z fun a hf => stepN hf Z Z Z fun a hf => stq hf Z Z Z (ex_pickF hf Z Z) fun a hf => stq hf Z Z Z (ex_move hf Z) fun a hf => stepN hf Z Z Z fun a hf => stepN hf Z Z Z fun a hf => stepN hf Z Z Z fun a hf => stepN hf Z Z Z fun a hf => stepN hf Z Z Z fun a hf => stq hf Z Z Z (ex_pickF hf Z Z) fun a hf => stq hf Z Z Z (ex_assign hf Z) fun a hf => ?_
           refine hK211 _ _ ?_
           refine wp_ret ?_
           have eR := some_eq H; subst eR
           replace hs := hs.keep (.d (.d .nil))
           exact ret1 Try.results7 hf Z ⟨_, Z, ⟨Z, hs⟩⟩
         ·
          refine bnd H (fun s212 hs212 H => ?_)
          refine itt H (fun hc213 H => ?_) (fun hc213 H => ?_)
          ·
           refine itt H (fun hc214 H => ?_) (fun hc214 H => ?_)
           ·
            refine ck_some H (fun hc215 H => ?_)
            refine itt H (fun hc216 H => ?_) (fun hc216 H => ?_)
            ·
             refine seq_reg (fun K217 hK217 => ?_)
             refine stq hf Z Z Z (ex_move hf Z) fun a hf => stq hf Z Z Z (ex_eql hf Z Z) fun a hf => stq hf Z Z Z (ex_move hf Z) fun a hf => ?_
             replace hf := hf.castB (t := 146) Z (dec_t hc202)
             replace hf := hf.castB (t := 147) Z (dec_t hc202)
             refine stq hf Z Z Z (ex_fieldAddrB fa_37_3 Z hf Z) fun a hf => stq hf Z Z Z (ex_load sc_4 hf Z (bx_cell (hs.get (i := 0) Z) _ Z)) fun a hf => stq hf Z Z Z (ex_move hf Z) fun a hf => ?_
             replace hf := hf.castB (t := 149) Z (bool_f hc203)
             replace hf := hf.castB (t := 150) Z (bool_f hc203)
             refine stepN hf Z Z Z fun a hf => stepN hf Z Z Z fun a hf => stq hf Z Z Z (ex_pickF hf Z Z) fun a hf => stq hf Z Z Z (ex_move hf Z) fun a hf => stq hf Z Z Z (ex_fieldAddrB fa_37_3 Z hf Z) fun a hf => stq hf Z Z Z (ex_castB (ex_load sc_4 hf Z (bx_cell (hs.get (i := 0) Z) _ Z)) (bool_f hc203)) fun a hf => stq hf Z Z Z (ex_not hf Z) fun a hf => stq hf Z Z Z (ex_move hf Z) fun a hf => stq hf Z Z Z (ex_move hf Z) fun a hf => stq hf Z Z Z (ex_fieldAddrB fa_37_2 Z hf Z) fun a hf => stq hf Z Z Z (ex_load sc_3 hf Z (bx_cell (hs.get (i := 0) Z) _ Z)) fun a hf => ?_
             refine stepF hf Z Z Z (ex_call cf_14 hf Z) (ref09_Ones.calls k (gd 0 ([1, 2, 4, 8] : List Int) s96) (hs.enter sN) (Sr.nil _ _) hs212) (fun v w hR a hf => ?_)
             obtain ⟨rfl, hs'⟩ := hR
             replace hs := hs.step sN hs'
             clear hs'
             refine stq hf Z Z Z (ex_eql hf Z Z) fun a hf => stq hf Z Z Z (ex_pickT hf Z Z) fun a hf => stq hf Z Z Z (ex_pickF hf Z Z) fun a hf => stq hf Z Z Z (ex_pickT hf Z Z) fun a hf => stq hf Z Z Z (ex_move hf Z) fun a hf => ?_
             replace hf := hf.castB (t := 163) Z (dec_t hc213)
             replace hf := hf.castB (t := 164) Z (dec_t hc213)
             replace hf := hf.castB (t := 165) Z (dec_t hc213)
             replace hf := hf.castB (t := 166) Z (dec_t hc213)
             replace hf := hf.castB (t := 167) Z (dec_t hc213)
             refine stq hf Z Z Z (ex_move hf Z) fun a hf => stq hf Z Z Z (ex_lenS Try.underlying54 (rsl_isSl (osl_rsl _ (hs.get (i := 1) Z))) hf Z) fun a hf => stq hf Z Z Z (ex_eql hf Z Z) fun a hf => stq hf Z Z Z (ex_pickT hf Z Z) fun a hf => stq hf Z Z Z (ex_move hf Z) fun a hf => ?_
             replace hf := hf.castB (t := 170) Z (dec_t hc214)
             replace hf := hf.castB (t := 171) Z (dec_t hc214)
             replace hf := hf.castB (t := 172) Z (dec_t hc214)
             refine stq hf Z Z Z (ex_move hf Z) fun a hf => stq hf Z Z Z (ex_indexAddr sa_54 (rsl_isSl (osl_rsl _ (hs.get (i := 1) Z))) hc215.1 hc215.2 hf Z Z) fun a hf => stq hf Z Z Z (ex_fieldAddrS fa_63_2 Z hf Z) fun a hf => stq hf Z Z Z (ex_load sc_4 hf Z (el_cell (K := Kt) (f := 6) (rsl_rd (osl_rsl _ (hs.get (i := 1) Z))) hc215.1 hc215.2 Z)) fun a hf => stq hf Z Z Z (ex_not hf Z) fun a hf => stq hf Z Z Z (ex_pickT hf Z Z) fun a hf => stq hf Z Z Z (ex_move hf Z) fun a hf => ?_
             replace hf := hf.castB (t := 176) Z hc216
             replace hf := hf.castB (t := 177) Z (nbool_f hc216)
             replace hf := hf.castB (t := 178) Z (nbool_f hc216)
             replace hf := hf.castB (t := 179) Z (nbool_f hc216)
             refine stepN hf Z Z Z fun a hf => stepN hf Z Z Z fun a hf => stepN hf Z Z Z fun a hf => stepN hf Z Z Z fun a hf => stepN hf Z Z Z fun a hf => stq hf Z Z Z (ex_pickF hf Z Z) fun a hf => stq hf Z Z Z (ex_assign hf Z) fun a hf => ?_
             refine hK217 _ _ ?_
             refine wp_ret ?_
             have eR := some_eq H; subst eR
             replace hs := hs.keep (.d (.d .nil))
             exact ret1 Try.results7 hf Z ⟨_, Z, ⟨Z, hs⟩⟩
            ·
             refine seq_reg (fun K218 hK218 => ?_)
             refine stq hf Z Z Z (ex_move hf Z) fun a hf => stq hf Z Z Z (ex_eql hf Z Z) fun a hf => stq hf Z Z Z (ex_move hf Z) fun a hf => ?_
             replace hf := hf.castB (t := 146) Z (dec_t hc202)
             replace hf := hf.castB (t := 147) Z (dec_t hc202)
             refine stq hf Z Z Z (ex_fieldAddrB fa_37_3 Z hf Z) fun a hf => stq hf Z Z Z (ex_load sc_4 hf Z (bx_cell (hs.get (i := 0) Z) _ Z)) fun a hf => stq hf Z Z Z (ex_move hf Z) fun a hf => ?_
             replace hf := hf.castB (t := 149) Z (bool_f hc203)
             replace hf := hf.castB (t := 150) Z (bool_f hc203)
             refine stepN hf Z Z Z fun a hf => stepN hf Z Z Z fun a hf => stq hf Z Z Z (ex_pickF hf Z Z) fun a hf => stq hf Z Z Z (ex_move hf Z) fun a hf => stq hf Z Z Z (ex_fieldAddrB fa_37_3 Z hf Z) fun a hf => stq hf Z Z Z (ex_castB (ex_load sc_4 hf Z (bx_cell (hs.get (i := 0) Z) _ Z)) (bool_f hc203)) fun a hf => stq hf Z Z Z (ex_not hf Z) fun a hf => stq hf Z Z Z (ex_move hf Z) fun a hf => stq hf Z Z Z (ex_move hf Z) fun a hf => stq hf Z Z Z (ex_fieldAddrB fa_37_2 Z hf Z) fun a hf => stq hf Z Z Z (ex_load sc_3 hf Z (bx_cell (hs.get (i := 0) Z) _ Z)) fun a hf => ?_
             refine stepF hf Z Z Z (ex_call cf_14 hf Z) (ref09_Ones.calls k (gd 0 ([1, 2, 4, 8] : List Int) s96) (hs.enter sN) (Sr.nil _ _) hs212) (fun v w hR a hf => ?_)
             obtain ⟨rfl, hs'⟩ := hR
             replace hs := hs.step sN hs'
             clear hs'
             refine stq hf Z Z Z (ex_eql hf Z Z) fun a hf => stq hf Z Z Z (ex_pickT hf Z Z) fun a hf => stq hf Z Z Z (ex_pickF hf Z Z) fun a hf => stq hf Z Z Z (ex_pickT hf Z Z) fun a hf => stq hf Z Z Z (ex_move hf Z) fun a hf => ?_
             replace hf := hf.castB (t := 163) Z (dec_t hc213)
             replace hf := hf.castB (t := 164) Z (dec_t hc213)
             replace hf := hf.castB (t := 165) Z (dec_t hc213)
             replace hf := hf.castB (t := 166) Z (dec_t hc213)
             replace hf := hf.castB (t := 167) Z (dec_t hc213)
             refine stq hf Z Z Z (ex_move hf Z) fun a hf => stq hf Z Z Z (ex_lenS Try.underlying54 (rsl_isSl (osl_rsl _ (hs.get (i := 1) Z))) hf Z) fun a hf => stq hf Z Z Z (ex_eql hf Z Z) fun a hf => stq hf Z Z Z (ex_pickT hf Z Z) fun a hf => stq hf Z Z Z (ex_move hf Z) fun a hf => ?_
             replace hf := hf.castB (t := 170) Z (dec_t hc214)
             replace hf := hf.castB (t := 171) Z (dec_t hc214)
             replace hf := hf.castB (t := 172) Z (dec_t hc214)
             refine stq hf Z Z Z (ex_move hf Z) fun a hf => stq hf Z Z Z (ex_indexAddr sa_54 (rsl_isSl (osl_rsl _ (hs.get (i := 1) Z))) hc215.1 hc215.2 hf Z Z) fun a hf => stq hf Z Z Z (ex_fieldAddrS fa_63_2 Z hf Z) fun a hf => stq hf Z Z Z (ex_load sc_4 hf Z (el_cell (K := Kt) (f := 6) (rsl_rd (osl_rsl _ (hs.get (i := 1) Z))) hc215.1 hc215.2 Z)) fun a hf => stq hf Z Z Z (ex_not hf Z) fun a hf => stq hf Z Z Z (ex_pickT hf Z Z) fun a hf => stq hf Z Z Z (ex_move hf Z) fun a hf => ?_
             replace hf := hf.castB (t := 176) Z (bool_f hc216)
             replace hf := hf.castB (t := 177) Z (nbool_t hc216)
             replace hf := hf.castB (t := 178) Z (nbool_t hc216)
             replace hf := hf.castB (t := 179) Z (nbool_t hc216)
             refine stq hf Z Z Z (ex_move hf Z) fun a hf => stq hf Z Z Z (ex_indexAddr sa_54 (rsl_isSl (osl_rsl _ (hs.get (i := 1) Z))) hc215.1 hc215.2 hf Z Z) fun a hf => stq hf Z Z Z (ex_fieldAddrS fa_63_3 Z hf Z) fun a hf => stq hf Z Z Z (ex_load sc_4 hf Z (el_cell (K := Kt) (f := 7) (rsl_rd (osl_rsl _ (hs.get (i := 1) Z))) hc215.1 hc215.2 Z)) fun a hf => stq hf Z Z Z (ex_not hf Z) fun a hf => stq hf Z Z Z (ex_pickT hf Z Z) fun a hf => stq hf Z Z Z (ex_assign hf Z) fun a hf => ?_
             refine hK218 _ _ ?_
             refine wp_ret ?_
             have eR := some_eq H; subst eR
             replace hs := hs.keep (.d (.d .nil))
             exact ret1 Try.results7 hf Z ⟨_, Z, ⟨Z, hs⟩⟩
           ·
            refine seq_reg (fun K219 hK219 => ?_)
            refine stq hf Z Z Z (ex_move hf Z) fun a hf => stq hf Z Z Z (ex_eql hf Z Z) fun a hf => stq hf Z Z Z (ex_move hf Z) fun a hf => ?_
            replace hf := hf.castB (t := 146) Z (dec_t hc202)
            replace hf := hf.castB (t := 147) Z (dec_t hc202)
            refine stq hf Z Z Z (ex_fieldAddrB fa_37_3 Z hf Z) fun a hf => stq hf Z Z Z (ex_load sc_4 hf Z (bx_cell (hs.get (i := 0) Z) _ Z)) fun a hf => stq hf Z Z Z (ex_move hf Z) fun a hf => ?_
            replace hf := hf.castB (t := 149) Z (bool_f hc203)
            replace hf := hf.castB (t := 150) Z (bool_f hc203)
            refine stepN hf Z Z Z fun a hf => stepN hf Z Z Z fun a hf => stq hf Z Z Z (ex_pickF hf Z Z) fun a hf => stq hf Z Z Z (ex_move hf Z) fun a hf => stq hf Z Z Z (ex_fieldAddrB fa_37_3 Z hf Z) fun a hf => stq hf Z Z Z (ex_castB (ex_load sc_4 hf Z (bx_cell (hs.get (i := 0) Z) _ Z)) (bool_f hc203)) fun a hf => stq hf Z Z Z (ex_not hf Z) fun a hf => stq hf Z Z Z (ex_move hf Z) fun a hf => stq hf Z Z Z (ex_move hf Z) fun a hf => stq hf Z Z Z (ex_fieldAddrB fa_37_2 Z hf Z) fun a hf => stq hf Z Z Z (ex_load sc_3 hf Z (bx_cell (hs.get (i := 0) Z) _ Z)) fun a hf => ?_
            refine stepF hf Z Z Z (ex_call cf_14 hf Z) (ref09_Ones.calls k (gd 0 ([1, 2, 4, 8] : List Int) s96) (hs.enter sN) (Sr.nil _ _) hs212) (fun v w hR a hf => ?_)
            obtain ⟨rfl, hs'⟩ := hR
            replace hs := hs.step sN hs'
            clear hs'
            refine stq hf Z Z Z (ex_eql hf Z Z) fun a hf => stq hf Z Z Z (ex_pickT hf Z Z) fun a hf => stq hf Z Z Z (ex_pickF hf Z Z) fun a hf => stq hf Z Z Z (ex_pickT hf Z Z) fun a hf => stq hf Z Z Z (ex_move hf Z) fun a hf => ?_
            replace hf := hf.castB (t := 163) Z (dec_t hc213)
            replace hf := hf.castB (t := 164) Z (dec_t hc213)
            replace hf := hf.castB (t := 165) Z (dec_t hc213)
            replace hf := hf.castB (t := 166) Z (dec_t hc213)
            replace hf := hf.castB (t := 167) Z (dec_t hc213)
            refine stq hf Z Z Z (ex_move hf Z) fun a hf => stq hf Z Z Z (ex_lenS Try.underlying54 (rsl_isSl (osl_rsl _ (hs.get (i := 1) Z))) hf Z) fun a hf => stq hf Z Z Z (ex_eql hf Z Z) fun a hf => stq hf Z Z Z (ex_pickT hf Z Z) fun a hf => stq hf Z Z Z (ex_move hf Z) fun a hf => ?_
            replace hf := hf.castB (t := 170) Z (dec_f hc214)
            replace hf := hf.castB (t := 171) Z (dec_f hc214)
            replace hf := hf.castB (t := 172) Z (dec_f hc214)
            refine stepN hf Z Z Z fun a hf => stepN hf Z Z Z fun a hf => stepN hf Z Z Z fun a hf => stepN hf Z Z Z fun a hf => stepN hf Z Z Z fun a hf => stq hf Z Z Z (ex_pickF hf Z Z) fun a hf => stq hf Z Z Z (ex_move hf Z) fun a hf => stepN hf Z Z Z fun a hf => stepN hf Z Z Z fun a hf => stepN hf Z Z Z fun a hf => stepN hf Z Z Z fun a hf => stepN hf Z Z Z fun a hf => stq hf Z Z Z (ex_pickF hf Z Z) fun a hf => stq hf Z Z Z (ex_assign hf Z) fun a hf => ?_
            refine hK219 _ _ ?_
            refine wp_ret ?_
            have eR := some_eq H; subst eR
            replace hs := hs.keep (.d (.d .nil))
            exact ret1 Try.results7 hf Z ⟨_, Z, ⟨Z, hs⟩⟩
          ·
           refine seq_reg (fun K220 hK220 => ?_)
           refine stq hf Z Z Z (ex_move hf Z) fun a hf => stq hf Z Z Z (ex_eql hf Z Z) fun a hf => stq hf Z Z Z (ex_move hf Z) fun a hf => ?_
           replace hf := hf.castB (t := 146) Z (dec_t hc202)
           replace hf := hf.castB (t := 147) Z (dec_t hc202)
           refine stq hf Z Z Z (ex_fieldAddrB fa_37_3 Z hf Z) fun a hf => stq hf Z Z Z (ex_load sc_4 hf Z (bx_cell (hs.get (i := 0) Z) _ Z)) fun a hf => stq hf Z Z Z (ex_move hf Z) fun a hf => ?_
           replace hf := hf.castB (t := 149) Z (bool_f hc203)
           replace hf := hf.castB (t := 150) Z (bool_f hc203)
           refine stepN hf Z Z Z fun a hf => stepN hf Z Z Z fun a hf => stq hf Z Z Z (ex_pickF hf Z Z) fun a hf => stq hf Z Z Z (ex_move hf Z) fun a hf => stq hf Z Z Z (ex_fieldAddrB fa_37_3 Z hf Z) fun a hf => stq hf Z Z Z (ex_castB (ex_load sc_4 hf Z (bx_cell (hs.get (i := 0) Z) _ Z)) (bool_f hc203)) fun a hf => stq hf Z Z Z (ex_not hf Z) fun a hf => stq hf Z Z Z (ex_move hf Z) fun a hf => stq hf Z Z Z (ex_move hf Z) fun a hf => stq hf Z Z Z (ex_fieldAddrB fa_37_2 Z hf Z) fun a hf => stq hf Z Z Z (ex_load sc_3 hf Z (bx_cell (hs.get (i := 0) Z) _ Z)) fun a hf => ?_
           refine stepF hf Z Z Z (ex_call cf_14 hf Z) (ref09_Ones.calls k (gd 0 ([1, 2, 4, 8] : List Int) s96) (hs.enter sN) (Sr.nil _ _) hs212) (fun v w hR a hf => ?_)
           obtain ⟨rfl, hs'⟩ := hR
           replace hs := hs.step sN hs'
           clear hs'
           refine stq hf Z Z Z (ex_eql hf Z Z) fun a hf => stq hf Z Z Z (ex_pickT hf Z Z) fun a hf => stq hf Z Z Z (ex_pickF hf Z Z) fun a hf => stq hf Z Z Z (ex_pickT hf Z Z) fun a hf => stq hf Z Z Z (ex_move hf Z) fun a hf => ?_
           replace hf := hf.castB (t := 163) Z (dec_f hc213)
           replace hf := hf.castB (t := 164) Z (dec_f hc213)
           replace hf := hf.castB (t := 165) Z (dec_f hc213)
           replace hf := hf.castB (t := 166) Z (dec_f hc213)
           replace hf := hf.castB (t := 167) Z (dec_f hc213)
           refine stepN hf Z Z Z fun a hf => stepN hf Z Z Z fun a hf => stepN hf Z Z Z fun a hf => stq hf Z Z Z (ex_pickF hf Z Z) fun a hf => stq hf Z Z Z (ex_move hf Z) fun a hf => stepN hf Z Z Z fun a hf => stepN hf Z Z Z fun a hf => stepN hf Z Z Z fun a hf => stepN hf Z Z Z fun a hf => stepN hf Z Z Z fun a hf => stq hf Z Z Z (ex_pickF hf Z Z) fun a hf => stq hf Z Z Z (ex_move hf Z) fun a hf => stepN hf Z Z Z fun a hf => stepN hf Z Z Z fun a hf => stepN hf Z Z Z fun a hf => stepN hf Z Z Z fun a hf => stepN hf Z Z Z fun a hf => stq hf Z Z Z (ex_pickF hf Z Z) fun a hf => stq hf Z Z Z (ex_assign hf Z) fun a hf => ?_
           refine hK220 _ _ ?_
           refine wp_ret ?_
           have eR := some_eq H; subst eR
           replace hs := hs.keep (.d (.d .nil))
           exact ret1 Try.results7 hf Z ⟨_, Z, ⟨Z, hs⟩⟩
        ·
         refine seq_reg (fun K221 hK221 => ?_)
         refine stq hf Z Z Z (ex_move hf Z) fun a hf => stq hf Z Z Z (ex_eql hf Z Z) fun a hf => stq hf Z Z Z (ex_move hf Z) fun a hf => ?_
         replace hf := hf.castB (t := 146) Z (dec_f hc202)
         replace hf := hf.castB (t := 147) Z (dec_f hc202)
         refine stepN hf Z Z Z fun a hf => stepN hf Z Z Z fun a hf => stepN hf Z Z Z fun a hf => stepN hf Z Z Z fun a hf => stepN hf Z Z Z fun a hf => stepN hf Z Z Z fun a hf => stepN hf Z Z Z fun a hf => stepN hf Z Z Z fun a hf => stepN hf Z Z Z fun a hf => stepN hf Z Z Z fun a hf => stepN hf Z Z Z fun a hf => stepN hf Z Z Z fun a hf => stepN hf Z Z Z fun a hf => stepN hf Z Z Z fun a hf => stepN hf Z Z Z fun a hf => stepN hf Z Z Z fun a hf => stepN hf Z Z Z fun a hf => stepN hf Z Z Z fun a hf => stq hf Z Z Z (ex_pickF hf Z Z) fun a hf => stq hf Z Z Z (ex_move hf Z) fun a hf => stepN hf Z Z Z fun a hf => stepN hf Z Z Z fun a hf => stepN hf Z Z Z fun a hf => stq hf Z Z Z (ex_pickF hf Z Z) fun a hf => stq hf Z Z Z (ex_move hf Z) fun a hf => stepN hf Z Z Z fun a hf => stepN hf Z Z Z fun a hf => stepN hf Z Z Z fun a hf => stepN hf Z Z Z fun a hf => stepN hf Z Z Z fun a hf => stq hf Z Z Z (ex_pickF hf Z Z) fun a hf => stq hf Z Z Z (ex_move hf Z) fun a hf => stepN hf Z Z Z fun a hf => stepN hf Z Z Z fun a hf => stepN hf Z Z Z fun a hf => stepN hf Z Z Z fun a hf => stepN hf Z Z Z fun a hf => stq hf Z Z Z (ex_pickF hf Z Z) fun a hf => stq hf Z Z Z (ex_assign hf Z) fun a hf => ?_
         refine hK221 _ _ ?_
         refine wp_ret ?_
         have eR := some_eq H; subst eR
         replace hs := hs.keep (.d (.d .nil))
         exact ret1 Try.results7 hf Z ⟨_, Z, ⟨Z, hs⟩⟩
 ·
  replace hf := hf.castB (t := 24) Z (nbool_t hc20)
  refine cond_T hf Z ?_
  refine seq_reg (fun K222 hK222 => ?_)
  refine stq hf Z Z Z (ex_assign hf Z) fun a hf => ?_
  refine hK222 _ _ ?_
  refine wp_ret ?_
  refine hR17 _ _ ?_
  have eR := some_eq H; subst eR
  replace hs := hs.keep (.d (.d (.d (.d (.d (.d (.d (.d (.d (.d (.d (.d (.d .nil)))))))))))))
  exact ret1 Try.results7 hf Z ⟨_, Z, ⟨Z, hs⟩⟩

end Go.Proofs.Ytigadacjaglfeaa.X
