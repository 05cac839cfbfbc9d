/- Each function of the machine comes to what its pure function says. -/
import Derived.Test.YtannodkbindlbaaFc3
import Derived.Test.YtannodkbindlbaaFb
namespace Go.Proofs.Ytannodkbindlbaa.X
open Go Go.RowKit Go.Sx
set_option linter.unusedVariables false

set_option maxHeartbeats 4000000 in
set_option maxRecDepth 100000 in
theorem law38_Some.calls {M : Nat → Prop} {w0 : World} (k : Nat) (a0 : (List HeatDomain)) (a1 : (List HeatLink)) (a2 : Int) (v0 : Value) (v1 : Value) {r : (List HeatDomain) × (List HeatLink) × Int} (hs : St M w0 w0 []) (hr : Sr M w0 [rsl K_api_HeatDomain v0 a0, rsl K_api_HeatLink v1 a1])
    (h : law38_Some.f k a0 a1 a2 = some r) : Calls Try.prog 13 #[v0, v1, .int .i64 a2] w0 fun e w => ∃ v, e = .returned v ∧ (∃ (g0 : Value) (g1 : Value), .agg #[g0, g1, .int .i64 r.2.2] = v ∧ St M w0 w [osl K_api_HeatDomain g0 r.1, osl K_api_HeatLink g1 r.2.1]) := by
  have H := (law38_Some.f.eq_1 ..).symm.trans h
  clear h
  refine enter Try.func13 rfl Try.ntmps13 rfl (fun a hf => ?_)
  refine seq_reg (fun K2 hK2 => ?_)
  refine stepV hf rfl rfl rfl (er_alloc hs ti_38 (cs := [(.slice none 0 0), (.slice none 0 0), .int .i64 0]) rfl) (fun v w hR a hf => ?_)
  obtain ⟨b1, rfl, hs⟩ := hR
  refine hK2 _ _ ?_
  refine seq_reg (fun K3 hK3 => ?_)
  refine stq hf rfl rfl rfl (ex_move hf rfl) (fun a hf => ?_)
  refine stq hf rfl rfl rfl (ex_lenS Try.underlying35 (rsl_isSl (hr.now hs (i := 0) rfl)) hf rfl) (fun a hf => ?_)
  refine stq hf rfl rfl rfl (ex_min hf rfl rfl) (fun a hf => ?_)
  refine stq hf rfl rfl rfl (ex_max hf rfl rfl) (fun a hf => ?_)
  refine stq hf rfl rfl rfl (ex_assign hf rfl) (fun a hf => ?_)
  refine hK3 _ _ ?_
  refine ck_some H (fun hc4 H => ?_)
  refine seq_reg (fun K7 hK7 => ?_)
  refine stq hf rfl rfl rfl (ex_move hf rfl) (fun a hf => ?_)
  refine stq hf rfl rfl rfl (ex_conv Try.underlying2 Try.underlying23 hf rfl) (fun a hf => ?_)
  refine stq hf rfl rfl rfl (ex_rem hf rfl rfl (by decide)) (fun a hf => ?_)
  refine stq hf rfl rfl rfl (ex_conv Try.underlying23 Try.underlying2 hf rfl) (fun a hf => ?_)
  refine stq hf rfl rfl rfl (ex_sub hf rfl rfl) (fun a hf => ?_)
  refine stq hf rfl rfl rfl (ex_move hf rfl) (fun a hf => ?_)
  refine stepV hf rfl rfl rfl (er_makeSlice (K := K_api_HeatDomain) hs Try.underlying35 ep_33 hc4.1 hc4.2 rfl hf rfl rfl) (fun v5 w hs a hf => ?_)
  refine stq hf rfl rfl rfl (ex_build (cs := [v5, (.slice none 0 0), .int .i64 (IntKind.i64.wrap ((IntKind.i64.wrap (Int.tmod (IntKind.u64.wrap a2) 201)) - 100))]) bt_38 hf rfl (.cons rfl (.cons (CL.one (IsSl.one (rsl_isSl (osl_rsl _ (hs.get (i := 0) rfl))))) .nil)) rfl) (fun a hf => ?_)
  refine stepV hf rfl rfl rfl (er_alloc hs ti_38 (cs := [(.slice none 0 0), (.slice none 0 0), .int .i64 0]) rfl) (fun v w hR a hf => ?_)
  obtain ⟨b6, rfl, hs⟩ := hR
  refine stepS hf rfl rfl (er_storeAB (vs := [v5, (.slice none 0 0), .int .i64 (IntKind.i64.wrap ((IntKind.i64.wrap (Int.tmod (IntKind.u64.wrap a2) 201)) - 100))]) (cs' := [v5, (.slice none 0 0), .int .i64 (IntKind.i64.wrap ((IntKind.i64.wrap (Int.tmod (IntKind.u64.wrap a2) 201)) - 100))]) hs (.c (.k (.k .nil))) sz_38 hf rfl rfl (all1 (IsSl.one (rsl_isSl (osl_rsl _ (hs.get (i := 1) rfl)))) (all1 (IsSl.one isl_nil) (all1 rfl (all1_nil)))) rfl rfl) (fun w hs => ?_)
  refine hK7 _ _ ?_
  refine bnd H (fun x8 H8 HO8 => ?_)
  clear H
  refine seq_cut (fun a w => Fr a 196 [(1, v1), (6, .pointer (some ⟨b1, 0, none⟩)), (7, .int .i64 (mx 1 (mn (a0.length : Int) 5))), (8, .pointer (some ⟨b6, 0, none⟩))] ∧ St M w0 w [bx b1 38 [(.slice none 0 0), (.slice none 0 0), .int .i64 0], bx b6 38 [v5, (.slice none 0 0), .int .i64 (IntKind.i64.wrap ((IntKind.i64.wrap (Int.tmod (IntKind.u64.wrap a2) 201)) - 100))], osl K_api_HeatDomain v5 x8]) (fun Q8 hJ8 hR8 hX8 => ?_) (fun a w hJ => ?_)
  · replace H := H8
    refine seq_reg (fun K9 hK9 => ?_)
    refine stq hf rfl rfl rfl (ex_assign hf rfl) (fun a hf => ?_)
    refine hK9 _ _ ?_
    refine block_k (fun Q10 hN10 hR10 hX10 hY10 => ?_)
    refine loop_k (fun n a w => ∃ (y11 : (List HeatDomain)) (y12 : Int), Fr a 196 [(0, v0), (1, v1), (6, .pointer (some ⟨b1, 0, none⟩)), (7, .int .i64 (mx 1 (mn (a0.length : Int) 5))), (8, .pointer (some ⟨b6, 0, none⟩)), (9, .int .i64 y12)] ∧ St M w0 w [bx b1 38 [(.slice none 0 0), (.slice none 0 0), .int .i64 0], bx b6 38 [v5, (.slice none 0 0), .int .i64 (IntKind.i64.wrap ((IntKind.i64.wrap (Int.tmod (IntKind.u64.wrap a2) 201)) - 100))], osl K_api_HeatDomain v5 y11] ∧ law38_Some.l1 n a0 y11 y12 = some x8) k ?_ (fun n14 a w hI Q14 hL14 hR14 hX14 => ?_)
    · -- at the start
      replace hs := hs.pick (.k (.c (.k .nil)))
      replace hs := hs.pick (.k (.c (.k .nil)))
      replace hs := hs.pick (.k (.k (.c .nil)))
      exact ⟨(List.replicate (mx 1 (mn (a0.length : Int) 5)).toNat HeatDomain.zero), 0, hf.sub ⟨rfl, rfl, rfl, rfl, rfl, rfl, trivial⟩, hs, H⟩
    · obtain ⟨y11, y12, hf, hs, H⟩ := hI
      cases n14 with
      | zero => exact absurd H (by rw [law38_Some.l1.eq_1]; intro h; cases h)
      | succ k14 =>
        replace H := (law38_Some.l1.eq_2 ..).symm.trans H
        refine seq_n (fun Q15 hN15 hR15 hX15 => ?_)
        refine seq_reg (fun K16 hK16 => ?_)
        refine stq hf rfl rfl rfl (ex_move hf rfl) (fun a hf => ?_)
        refine stq hf rfl rfl rfl (ex_move hf rfl) (fun a hf => ?_)
        refine stq hf rfl rfl rfl (ex_lss hf rfl rfl) (fun a hf => ?_)
        refine hK16 _ _ ?_
        refine itt H (fun hc17 H => ?_) (fun hc17 H => ?_)
        · -- y12 < (mx 1 (mn (a0.length : Int) 5))
          replace hf := hf.castB (t := 29) rfl (dec_t hc17)
          refine cond_T hf rfl ?_
          refine wp_skip ?_
          refine hN15 _ _ ?_
          refine bnd H (fun x18 H18 HO18 => ?_)
          clear H
          refine seq_cut (fun a w => Fr a 196 [(0, v0), (1, v1), (6, .pointer (some ⟨b1, 0, none⟩)), (7, .int .i64 (mx 1 (mn (a0.length : Int) 5))), (8, .pointer (some ⟨b6, 0, none⟩)), (9, .int .i64 y12)] ∧ St M w0 w [bx b1 38 [(.slice none 0 0), (.slice none 0 0), .int .i64 0], bx b6 38 [v5, (.slice none 0 0), .int .i64 (IntKind.i64.wrap ((IntKind.i64.wrap (Int.tmod (IntKind.u64.wrap a2) 201)) - 100))], osl K_api_HeatDomain v5 x18]) (fun Q18 hJ18 hR18 hX18 => ?_) (fun a w hJ => ?_)
          · replace H := H18
            refine block_k (fun Q19 hN19 hR19 hX19 hY19 => ?_)
            refine ck_some H (fun hc20 H => ?_)
            refine seq_reg (fun K21 hK21 => ?_)
            refine stq hf rfl rfl rfl (ex_fieldAddrB fa_38_0 rfl hf rfl) (fun a hf => ?_)
            refine stq hf rfl rfl rfl (ex_load sc_35 hf rfl (bx_cell (hs.get (i := 1) rfl) _ rfl)) (fun a hf => ?_)
            refine stq hf rfl rfl rfl (ex_move hf rfl) (fun a hf => ?_)
            refine stq hf rfl rfl rfl (ex_build (cs := [.int .i64 1, .int .i64 1]) bt_33 hf rfl (.cons rfl (.cons rfl .nil)) rfl) (fun a hf => ?_)
            refine stq hf rfl rfl rfl (ex_indexAddr sa_35 (rsl_isSl (osl_rsl _ (hs.get (i := 2) rfl))) hc20.1 hc20.2 hf rfl rfl) (fun a hf => ?_)
            refine stepS hf rfl rfl (er_storeX (K := K_api_HeatDomain) (x' := (⟨1, 1⟩ : HeatDomain)) (vs := [.int .i64 1, .int .i64 1]) hs (.k (.k (.c .nil))) hc20.1 hc20.2 hf rfl rfl sz_33 rfl) (fun w hs => ?_)
            refine hK21 _ _ ?_
            refine seq_reg (fun K22 hK22 => ?_)
            refine stq hf rfl rfl rfl (ex_move hf rfl) (fun a hf => ?_)
            refine stq hf rfl rfl rfl (ex_move hf rfl) (fun a hf => ?_)
            refine stq hf rfl rfl rfl (ex_lenS Try.underlying35 (rsl_isSl (hr.now hs (i := 0) rfl)) hf rfl) (fun a hf => ?_)
            refine stq hf rfl rfl rfl (ex_lss hf rfl rfl) (fun a hf => ?_)
            refine hK22 _ _ ?_
            refine itt H (fun hc23 H => ?_) (fun hc23 H => ?_)
            · -- y12 < (a0.length : Int)
              replace hf := hf.castB (t := 40) rfl (dec_t hc23)
              refine cond_T hf rfl ?_
              refine seq_n (fun Q24 hN24 hR24 hX24 => ?_)
              refine ck_some H (fun hc25 H => ?_)
              refine ck_some H (fun hc26 H => ?_)
              refine region_d fol 12 [(0, v0), (1, v1), (6, .pointer (some ⟨b1, 0, none⟩)), (7, .int .i64 (mx 1 (mn (a0.length : Int) 5))), (8, .pointer (some ⟨b6, 0, none⟩)), (9, .int .i64 y12)] [(0, .pointer (some ⟨b6, 0, none⟩)), (1, v5), (2, .int .i64 y12), (3, v0), (4, .int .i64 y12), (5, .pointer (some (sla v0 (y12.toNat * 2)))), (6, .pointer (some (sla v0 (y12.toNat * 2 + 1)))), (7, .int .i64 ((gd HeatDomain.zero a0 y12).Ambient)), (8, .int .u64 (IntKind.u64.wrap ((gd HeatDomain.zero a0 y12).Ambient))), (9, .int .u64 (Int.tmod (IntKind.u64.wrap ((gd HeatDomain.zero a0 y12).Ambient)) 6)), (10, .int .i64 (IntKind.i64.wrap (Int.tmod (IntKind.u64.wrap ((gd HeatDomain.zero a0 y12).Ambient)) 6))), (11, .int .i64 (IntKind.i64.wrap (1 + (IntKind.i64.wrap (Int.tmod (IntKind.u64.wrap ((gd HeatDomain.zero a0 y12).Ambient)) 6)))))] [] (fun w => (bx b6 38 [v5, (.slice none 0 0), .int .i64 (IntKind.i64.wrap ((IntKind.i64.wrap (Int.tmod (IntKind.u64.wrap a2) 201)) - 100))]).ok w ∧ (rsl K_api_HeatDomain v0 a0).ok w ∧ True) (fun w => St M w0 w [osl K_api_HeatDomain v5 (y11.set y12.toNat (⟨1, 1⟩ : HeatDomain)), bx b1 38 [(.slice none 0 0), (.slice none 0 0), .int .i64 0], bx b6 38 [v5, (.slice none 0 0), .int .i64 (IntKind.i64.wrap ((IntKind.i64.wrap (Int.tmod (IntKind.u64.wrap a2) 201)) - 100))]]) hf ⟨rfl, rfl, rfl, rfl, rfl, rfl, trivial⟩ (by kernel_rfl) (by kernel_rfl) rfl (by decide) ⟨hs.drew.get (i := 2) rfl, hr.now hs.drew (i := 0) rfl, trivial⟩ hs.drew (.cons (⟨_, _, rfl, rfl, rfl, rfl, fun a w hR hf => .inl ⟨wanted_yes hf rfl, ex_fieldAddrB fa_38_0 rfl hf rfl⟩⟩) (.cons (⟨_, _, rfl, rfl, rfl, rfl, fun a w hR hf => .inl ⟨wanted_yes hf rfl, ex_load sc_35 hf rfl (bx_cell (hR.1) _ rfl)⟩⟩) (.cons (⟨_, _, rfl, rfl, rfl, rfl, fun a w hR hf => .inl ⟨wanted_yes hf rfl, ex_move hf rfl⟩⟩) (.cons (⟨_, _, rfl, rfl, rfl, rfl, fun a w hR hf => .inl ⟨wanted_yes hf rfl, ex_move hf rfl⟩⟩) (.cons (⟨_, _, rfl, rfl, rfl, rfl, fun a w hR hf => .inl ⟨wanted_yes hf rfl, ex_move hf rfl⟩⟩) (.cons (⟨_, _, rfl, rfl, rfl, rfl, fun a w hR hf => .inl ⟨wanted_yes hf rfl, ex_indexAddr sa_35 (rsl_isSl hR.2.1) hc25.1 hc25.2 hf rfl rfl⟩⟩) (.cons (⟨_, _, rfl, rfl, rfl, rfl, fun a w hR hf => .inl ⟨wanted_yes hf rfl, ex_fieldAddrS fa_33_1 rfl hf rfl⟩⟩) (.cons (⟨_, _, rfl, rfl, rfl, rfl, fun a w hR hf => .inl ⟨wanted_yes hf rfl, ex_load sc_2 hf rfl (el_cell (K := K_api_HeatDomain) (f := 1) (rsl_rd hR.2.1) hc25.1 hc25.2 rfl)⟩⟩) (.cons (⟨_, _, rfl, rfl, rfl, rfl, fun a w hR hf => .inl ⟨wanted_yes hf rfl, ex_conv Try.underlying2 Try.underlying23 hf rfl⟩⟩) (.cons (⟨_, _, rfl, rfl, rfl, rfl, fun a w hR hf => .inl ⟨wanted_yes hf rfl, ex_rem hf rfl rfl (by decide)⟩⟩) (.cons (⟨_, _, rfl, rfl, rfl, rfl, fun a w hR hf => .inl ⟨wanted_yes hf rfl, ex_conv Try.underlying23 Try.underlying2 hf rfl⟩⟩) (.cons (⟨_, _, rfl, rfl, rfl, rfl, fun a w hR hf => .inl ⟨wanted_yes hf rfl, ex_add hf rfl rfl⟩⟩) (.nil))))))))))))) (fun K27 hK27 => ?_)
              refine RW.zero (by kernel_rfl) (by kernel_rfl) [(0, v0), (1, v1), (6, .pointer (some ⟨b1, 0, none⟩)), (7, .int .i64 (mx 1 (mn (a0.length : Int) 5))), (8, .pointer (some ⟨b6, 0, none⟩)), (9, .int .i64 y12), (42, v5), (43, .int .i64 y12), (52, .int .i64 (IntKind.i64.wrap (1 + (IntKind.i64.wrap (Int.tmod (IntKind.u64.wrap ((gd HeatDomain.zero a0 y12).Ambient)) 6)))))] ⟨rfl, rfl, rfl, rfl, rfl, rfl, rfl, rfl, rfl, trivial⟩ (fun a w hR hs hf => ?_)
              refine stq hf rfl rfl rfl (ex_indexAddr sa_35 (rsl_isSl (osl_rsl _ (hs.get (i := 0) rfl))) hc26.1 hc26.2 hf rfl rfl) (fun a hf => ?_)
              refine stq hf rfl rfl rfl (ex_fieldAddrS fa_33_1 rfl hf rfl) (fun a hf => ?_)
              refine stepS hf rfl rfl (er_storeE (K := K_api_HeatDomain) (f := 1) (x' := (⟨((gd HeatDomain.zero (y11.set y12.toNat (⟨1, 1⟩ : HeatDomain)) y12).Capacity), (IntKind.i64.wrap (1 + (IntKind.i64.wrap (Int.tmod (IntKind.u64.wrap ((gd HeatDomain.zero a0 y12).Ambient)) 6))))⟩ : HeatDomain)) hs (.c (.k (.k .nil))) hc26.1 hc26.2 hf rfl rfl rfl sz_2 rfl rfl) (fun w hs => ?_)
              refine hK27 _ _ ?_
              refine hN24 _ _ ?_
              refine ck_some H (fun hc28 H => ?_)
              refine region_d fol 18 [(0, v0), (1, v1), (6, .pointer (some ⟨b1, 0, none⟩)), (7, .int .i64 (mx 1 (mn (a0.length : Int) 5))), (8, .pointer (some ⟨b6, 0, none⟩)), (9, .int .i64 y12)] [(0, .pointer (some ⟨b6, 0, none⟩)), (1, v5), (2, .int .i64 y12), (3, .pointer (some ⟨b6, 0, none⟩)), (4, v5), (5, .int .i64 y12), (6, .pointer (some (sla v5 (y12.toNat * 2)))), (7, .pointer (some (sla v5 (y12.toNat * 2 + 1)))), (8, .int .i64 ((gd HeatDomain.zero ((y11.set y12.toNat (⟨1, 1⟩ : HeatDomain)).set y12.toNat (⟨((gd HeatDomain.zero (y11.set y12.toNat (⟨1, 1⟩ : HeatDomain)) y12).Capacity), (IntKind.i64.wrap (1 + (IntKind.i64.wrap (Int.tmod (IntKind.u64.wrap ((gd HeatDomain.zero a0 y12).Ambient)) 6))))⟩ : HeatDomain)) y12).Ambient)), (9, v0), (10, .int .i64 y12), (11, .pointer (some (sla v0 (y12.toNat * 2)))), (12, .pointer (some (sla v0 (y12.toNat * 2 + 0)))), (13, .int .i64 ((gd HeatDomain.zero a0 y12).Capacity)), (14, .int .u64 (IntKind.u64.wrap ((gd HeatDomain.zero a0 y12).Capacity))), (15, .int .u64 (Int.tmod (IntKind.u64.wrap ((gd HeatDomain.zero a0 y12).Capacity)) 8)), (16, .int .i64 (IntKind.i64.wrap (Int.tmod (IntKind.u64.wrap ((gd HeatDomain.zero a0 y12).Capacity)) 8))), (17, .int .i64 (IntKind.i64.wrap (((gd HeatDomain.zero ((y11.set y12.toNat (⟨1, 1⟩ : HeatDomain)).set y12.toNat (⟨((gd HeatDomain.zero (y11.set y12.toNat (⟨1, 1⟩ : HeatDomain)) y12).Capacity), (IntKind.i64.wrap (1 + (IntKind.i64.wrap (Int.tmod (IntKind.u64.wrap ((gd HeatDomain.zero a0 y12).Ambient)) 6))))⟩ : HeatDomain)) y12).Ambient) + (IntKind.i64.wrap (Int.tmod (IntKind.u64.wrap ((gd HeatDomain.zero a0 y12).Capacity)) 8)))))] [] (fun w => (bx b6 38 [v5, (.slice none 0 0), .int .i64 (IntKind.i64.wrap ((IntKind.i64.wrap (Int.tmod (IntKind.u64.wrap a2) 201)) - 100))]).ok w ∧ (osl K_api_HeatDomain v5 ((y11.set y12.toNat (⟨1, 1⟩ : HeatDomain)).set y12.toNat (⟨((gd HeatDomain.zero (y11.set y12.toNat (⟨1, 1⟩ : HeatDomain)) y12).Capacity), (IntKind.i64.wrap (1 + (IntKind.i64.wrap (Int.tmod (IntKind.u64.wrap ((gd HeatDomain.zero a0 y12).Ambient)) 6))))⟩ : HeatDomain))).ok w ∧ (rsl K_api_HeatDomain v0 a0).ok w ∧ True) (fun w => St M w0 w [osl K_api_HeatDomain v5 ((y11.set y12.toNat (⟨1, 1⟩ : HeatDomain)).set y12.toNat (⟨((gd HeatDomain.zero (y11.set y12.toNat (⟨1, 1⟩ : HeatDomain)) y12).Capacity), (IntKind.i64.wrap (1 + (IntKind.i64.wrap (Int.tmod (IntKind.u64.wrap ((gd HeatDomain.zero a0 y12).Ambient)) 6))))⟩ : HeatDomain)), bx b1 38 [(.slice none 0 0), (.slice none 0 0), .int .i64 0], bx b6 38 [v5, (.slice none 0 0), .int .i64 (IntKind.i64.wrap ((IntKind.i64.wrap (Int.tmod (IntKind.u64.wrap a2) 201)) - 100))]]) hf ⟨rfl, rfl, rfl, rfl, rfl, rfl, trivial⟩ (by kernel_rfl) (by kernel_rfl) rfl (by decide) ⟨hs.drew.get (i := 2) rfl, hs.drew.get (i := 0) rfl, hr.now hs.drew (i := 0) rfl, trivial⟩ hs.drew (.cons (⟨_, _, rfl, rfl, rfl, rfl, fun a w hR hf => .inl ⟨wanted_yes hf rfl, ex_fieldAddrB fa_38_0 rfl hf rfl⟩⟩) (.cons (⟨_, _, rfl, rfl, rfl, rfl, fun a w hR hf => .inl ⟨wanted_yes hf rfl, ex_load sc_35 hf rfl (bx_cell (hR.1) _ rfl)⟩⟩) (.cons (⟨_, _, rfl, rfl, rfl, rfl, fun a w hR hf => .inl ⟨wanted_yes hf rfl, ex_move hf rfl⟩⟩) (.cons (⟨_, _, rfl, rfl, rfl, rfl, fun a w hR hf => .inl ⟨wanted_yes hf rfl, ex_fieldAddrB fa_38_0 rfl hf rfl⟩⟩) (.cons (⟨_, _, rfl, rfl, rfl, rfl, fun a w hR hf => .inl ⟨wanted_yes hf rfl, ex_load sc_35 hf rfl (bx_cell (hR.1) _ rfl)⟩⟩) (.cons (⟨_, _, rfl, rfl, rfl, rfl, fun a w hR hf => .inl ⟨wanted_yes hf rfl, ex_move hf rfl⟩⟩) (.cons (⟨_, _, rfl, rfl, rfl, rfl, fun a w hR hf => .inl ⟨wanted_yes hf rfl, ex_indexAddr sa_35 (rsl_isSl (osl_rsl _ hR.2.1)) hc28.1 hc28.2 hf rfl rfl⟩⟩) (.cons (⟨_, _, rfl, rfl, rfl, rfl, fun a w hR hf => .inl ⟨wanted_yes hf rfl, ex_fieldAddrS fa_33_1 rfl hf rfl⟩⟩) (.cons (⟨_, _, rfl, rfl, rfl, rfl, fun a w hR hf => .inl ⟨wanted_yes hf rfl, ex_load sc_2 hf rfl (el_cell (K := K_api_HeatDomain) (f := 1) (rsl_rd (osl_rsl _ hR.2.1)) hc28.1 hc28.2 rfl)⟩⟩) (.cons (⟨_, _, rfl, rfl, rfl, rfl, fun a w hR hf => .inl ⟨wanted_yes hf rfl, ex_move hf rfl⟩⟩) (.cons (⟨_, _, rfl, rfl, rfl, rfl, fun a w hR hf => .inl ⟨wanted_yes hf rfl, ex_move hf rfl⟩⟩) (.cons (⟨_, _, rfl, rfl, rfl, rfl, fun a w hR hf => .inl ⟨wanted_yes hf rfl, ex_indexAddr sa_35 (rsl_isSl hR.2.2.1) hc25.1 hc25.2 hf rfl rfl⟩⟩) (.cons (⟨_, _, rfl, rfl, rfl, rfl, fun a w hR hf => .inl ⟨wanted_yes hf rfl, ex_fieldAddrS fa_33_0 rfl hf rfl⟩⟩) (.cons (⟨_, _, rfl, rfl, rfl, rfl, fun a w hR hf => .inl ⟨wanted_yes hf rfl, ex_load sc_2 hf rfl (el_cell (K := K_api_HeatDomain) (f := 0) (rsl_rd hR.2.2.1) hc25.1 hc25.2 rfl)⟩⟩) (.cons (⟨_, _, rfl, rfl, rfl, rfl, fun a w hR hf => .inl ⟨wanted_yes hf rfl, ex_conv Try.underlying2 Try.underlying23 hf rfl⟩⟩) (.cons (⟨_, _, rfl, rfl, rfl, rfl, fun a w hR hf => .inl ⟨wanted_yes hf rfl, ex_rem hf rfl rfl (by decide)⟩⟩) (.cons (⟨_, _, rfl, rfl, rfl, rfl, fun a w hR hf => .inl ⟨wanted_yes hf rfl, ex_conv Try.underlying23 Try.underlying2 hf rfl⟩⟩) (.cons (⟨_, _, rfl, rfl, rfl, rfl, fun a w hR hf => .inl ⟨wanted_yes hf rfl, ex_add hf rfl rfl⟩⟩) (.nil))))))))))))))))))) (fun K29 hK29 => ?_)
              refine RW.zero (by kernel_rfl) (by kernel_rfl) [(0, v0), (1, v1), (6, .pointer (some ⟨b1, 0, none⟩)), (7, .int .i64 (mx 1 (mn (a0.length : Int) 5))), (8, .pointer (some ⟨b6, 0, none⟩)), (9, .int .i64 y12), (56, v5), (57, .int .i64 y12), (72, .int .i64 (IntKind.i64.wrap (((gd HeatDomain.zero ((y11.set y12.toNat (⟨1, 1⟩ : HeatDomain)).set y12.toNat (⟨((gd HeatDomain.zero (y11.set y12.toNat (⟨1, 1⟩ : HeatDomain)) y12).Capacity), (IntKind.i64.wrap (1 + (IntKind.i64.wrap (Int.tmod (IntKind.u64.wrap ((gd HeatDomain.zero a0 y12).Ambient)) 6))))⟩ : HeatDomain)) y12).Ambient) + (IntKind.i64.wrap (Int.tmod (IntKind.u64.wrap ((gd HeatDomain.zero a0 y12).Capacity)) 8)))))] ⟨rfl, rfl, rfl, rfl, rfl, rfl, rfl, rfl, rfl, trivial⟩ (fun a w hR hs hf => ?_)
              refine stq hf rfl rfl rfl (ex_indexAddr sa_35 (rsl_isSl (osl_rsl _ (hs.get (i := 0) rfl))) hc28.1 hc28.2 hf rfl rfl) (fun a hf => ?_)
              refine stq hf rfl rfl rfl (ex_fieldAddrS fa_33_0 rfl hf rfl) (fun a hf => ?_)
              refine stepS hf rfl rfl (er_storeE (K := K_api_HeatDomain) (f := 0) (x' := (⟨(IntKind.i64.wrap (((gd HeatDomain.zero ((y11.set y12.toNat (⟨1, 1⟩ : HeatDomain)).set y12.toNat (⟨((gd HeatDomain.zero (y11.set y12.toNat (⟨1, 1⟩ : HeatDomain)) y12).Capacity), (IntKind.i64.wrap (1 + (IntKind.i64.wrap (Int.tmod (IntKind.u64.wrap ((gd HeatDomain.zero a0 y12).Ambient)) 6))))⟩ : HeatDomain)) y12).Ambient) + (IntKind.i64.wrap (Int.tmod (IntKind.u64.wrap ((gd HeatDomain.zero a0 y12).Capacity)) 8)))), ((gd HeatDomain.zero ((y11.set y12.toNat (⟨1, 1⟩ : HeatDomain)).set y12.toNat (⟨((gd HeatDomain.zero (y11.set y12.toNat (⟨1, 1⟩ : HeatDomain)) y12).Capacity), (IntKind.i64.wrap (1 + (IntKind.i64.wrap (Int.tmod (IntKind.u64.wrap ((gd HeatDomain.zero a0 y12).Ambient)) 6))))⟩ : HeatDomain)) y12).Ambient)⟩ : HeatDomain)) hs (.c (.k (.k .nil))) hc28.1 hc28.2 hf rfl rfl rfl sz_2 rfl rfl) (fun w hs => ?_)
              refine hK29 _ _ ?_
              refine hN19 _ _ ?_
              replace hs := hs.pick (.k (.k (.c .nil)))
              replace hs := hs.pick (.k (.k (.c .nil)))
              have e18 := some_eq H; subst e18
              exact hJ18 _ _ ⟨hf.sub ⟨rfl, rfl, rfl, rfl, rfl, rfl, trivial⟩, hs⟩
            · -- not y12 < (a0.length : Int)
              replace hf := hf.castB (t := 40) rfl (dec_f hc23)
              refine cond_F hf rfl ?_
              refine wp_skip ?_
              refine hN19 _ _ ?_
              replace hs := hs.pick (.k (.k (.c .nil)))
              replace hs := hs.pick (.k (.k (.c .nil)))
              have e18 := some_eq H; subst e18
              exact hJ18 _ _ ⟨hf.sub ⟨rfl, rfl, rfl, rfl, rfl, rfl, trivial⟩, hs⟩
          · obtain ⟨hf, hs⟩ := hJ
            replace H := HO18
            clear HO18
            refine region_k (fun K30 hK30 => ?_)
            refine stq hf rfl rfl rfl (ex_move hf rfl) (fun a hf => ?_)
            refine stq hf rfl rfl rfl (ex_add hf rfl rfl) (fun a hf => ?_)
            refine stq hf rfl rfl rfl (ex_assign hf rfl) (fun a hf => ?_)
            refine hK30 _ _ ?_
            exact hL14 k14 _ _ (Nat.lt_succ_self _) ⟨x18, (IntKind.i64.wrap (y12 + 1)), hf.sub ⟨rfl, rfl, rfl, rfl, rfl, rfl, trivial⟩, hs, H⟩
        · -- not y12 < (mx 1 (mn (a0.length : Int) 5))
          replace hf := hf.castB (t := 29) rfl (dec_f hc17)
          refine cond_F hf rfl ?_
          refine wp_exit ?_
          refine hX15 0 _ _ ?_
          refine hX14 0 _ _ ?_
          refine hX10 _ _ ?_
          have e8 := some_eq H; subst e8
          exact hJ8 _ _ ⟨hf.sub ⟨rfl, rfl, rfl, rfl, trivial⟩, hs⟩
  · obtain ⟨hf, hs⟩ := hJ
    replace H := HO8
    clear HO8
    refine bnd H (fun x31 H31 HO31 => ?_)
    clear H
    refine seq_cut (fun a w => ∃ (v32 : Value), Fr a 196 [(6, .pointer (some ⟨b1, 0, none⟩)), (8, .pointer (some ⟨b6, 0, none⟩))] ∧ St M w0 w [bx b1 38 [(.slice none 0 0), (.slice none 0 0), .int .i64 0], bx b6 38 [v5, v32, .int .i64 (IntKind.i64.wrap ((IntKind.i64.wrap (Int.tmod (IntKind.u64.wrap a2) 201)) - 100))], osl K_api_HeatDomain v5 x31.1, osl K_api_HeatLink v32 x31.2]) (fun Q31 hJ31 hR31 hX31 => ?_) (fun a w hJ => ?_)
    · replace H := H31
      refine seq_reg (fun K33 hK33 => ?_)
      refine stq hf rfl rfl rfl (ex_assign hf rfl) (fun a hf => ?_)
      refine hK33 _ _ ?_
      refine block_k (fun Q34 hN34 hR34 hX34 hY34 => ?_)
      refine loop_k (fun n a w => ∃ (y36 : (List HeatDomain)) (y37 : (List HeatLink)) (y38 : Int) (v35 : Value), Fr a 196 [(1, v1), (6, .pointer (some ⟨b1, 0, none⟩)), (7, .int .i64 (mx 1 (mn (a0.length : Int) 5))), (8, .pointer (some ⟨b6, 0, none⟩)), (10, .int .i64 y38)] ∧ St M w0 w [bx b1 38 [(.slice none 0 0), (.slice none 0 0), .int .i64 0], bx b6 38 [v5, v35, .int .i64 (IntKind.i64.wrap ((IntKind.i64.wrap (Int.tmod (IntKind.u64.wrap a2) 201)) - 100))], osl K_api_HeatDomain v5 y36, osl K_api_HeatLink v35 y37] ∧ law38_Some.l2 n a1 a0 y36 y37 y38 = some x31) k ?_ (fun n40 a w hI Q40 hL40 hR40 hX40 => ?_)
      · -- at the start
        replace hs := hs.nilS K_api_HeatLink
        replace hs := hs.pick (.k (.k (.k (.c .nil))))
        replace hs := hs.pick (.k (.k (.k (.c .nil))))
        replace hs := hs.pick (.k (.k (.k (.c .nil))))
        exact ⟨x8, [], 0, (.slice none 0 0), hf.sub ⟨rfl, rfl, rfl, rfl, rfl, trivial⟩, hs, H⟩
      · obtain ⟨y36, y37, y38, v35, hf, hs, H⟩ := hI
        cases n40 with
        | zero => exact absurd H (by rw [law38_Some.l2.eq_1]; intro h; cases h)
        | succ k40 =>
          replace H := (law38_Some.l2.eq_2 ..).symm.trans H
          refine seq_n (fun Q41 hN41 hR41 hX41 => ?_)
          refine bnd H (fun x42 H42 HO42 => ?_)
          clear H
          refine seq_cut (fun a w => Fr a 196 [(1, v1), (6, .pointer (some ⟨b1, 0, none⟩)), (7, .int .i64 (mx 1 (mn (a0.length : Int) 5))), (8, .pointer (some ⟨b6, 0, none⟩)), (10, .int .i64 y38), (82, .bool x42)] ∧ St M w0 w [bx b1 38 [(.slice none 0 0), (.slice none 0 0), .int .i64 0], bx b6 38 [v5, v35, .int .i64 (IntKind.i64.wrap ((IntKind.i64.wrap (Int.tmod (IntKind.u64.wrap a2) 201)) - 100))], osl K_api_HeatDomain v5 y36, osl K_api_HeatLink v35 y37]) (fun Q42 hJ42 hR42 hX42 => ?_) (fun a w hJ => ?_)
          · replace H := H42
            refine itt H (fun hc43 H => ?_) (fun hc43 H => ?_)
            · -- y38 < (a1.length : Int)
              refine region_k (fun K44 hK44 => ?_)
              refine stq hf rfl rfl rfl (ex_move hf rfl) (fun a hf => ?_)
              refine stq hf rfl rfl rfl (ex_move hf rfl) (fun a hf => ?_)
              refine stq hf rfl rfl rfl (ex_lenS Try.underlying36 (rsl_isSl (hr.now hs (i := 1) rfl)) hf rfl) (fun a hf => ?_)
              refine stq hf rfl rfl rfl (ex_lss hf rfl rfl) (fun a hf => ?_)
              refine stq hf rfl rfl rfl (ex_move hf rfl) (fun a hf => ?_)
              replace hf := hf.castB (t := 78) rfl (dec_t hc43)
              replace hf := hf.castB (t := 79) rfl (dec_t hc43)
              refine stq hf rfl rfl rfl (ex_move hf rfl) (fun a hf => ?_)
              refine stq hf rfl rfl rfl (ex_lss hf rfl rfl) (fun a hf => ?_)
              refine stq hf rfl rfl rfl (ex_pickT hf rfl rfl) (fun a hf => ?_)
              refine hK44 _ _ ?_
              have e42 := some_eq H; subst e42
              exact hJ42 _ _ ⟨hf.sub ⟨rfl, rfl, rfl, rfl, rfl, rfl, trivial⟩, hs⟩
            · -- not y38 < (a1.length : Int)
              refine region_k (fun K45 hK45 => ?_)
              refine stq hf rfl rfl rfl (ex_move hf rfl) (fun a hf => ?_)
              refine stq hf rfl rfl rfl (ex_move hf rfl) (fun a hf => ?_)
              refine stq hf rfl rfl rfl (ex_lenS Try.underlying36 (rsl_isSl (hr.now hs (i := 1) rfl)) hf rfl) (fun a hf => ?_)
              refine stq hf rfl rfl rfl (ex_lss hf rfl rfl) (fun a hf => ?_)
              refine stq hf rfl rfl rfl (ex_move hf rfl) (fun a hf => ?_)
              replace hf := hf.castB (t := 78) rfl (dec_f hc43)
              replace hf := hf.castB (t := 79) rfl (dec_f hc43)
              refine stepN hf rfl rfl rfl (fun a hf => ?_)
              refine stepN hf rfl rfl rfl (fun a hf => ?_)
              refine stq hf rfl rfl rfl (ex_pickF hf rfl rfl) (fun a hf => ?_)
              refine hK45 _ _ ?_
              have e42 := some_eq H; subst e42
              exact hJ42 _ _ ⟨hf.sub ⟨rfl, rfl, rfl, rfl, rfl, rfl, trivial⟩, hs⟩
          · obtain ⟨hf, hs⟩ := hJ
            replace H := HO42
            clear HO42
            refine itt H (fun hc46 H => ?_) (fun hc46 H => ?_)
            · -- x42 = true
              replace hf := hf.castB (t := 82) rfl hc46
              refine cond_T hf rfl ?_
              refine wp_skip ?_
              refine hN41 _ _ ?_
              refine bnd H (fun x47 H47 HO47 => ?_)
              clear H
              refine seq_cut (fun a w => ∃ (v48 : Value), Fr a 196 [(1, v1), (6, .pointer (some ⟨b1, 0, none⟩)), (7, .int .i64 (mx 1 (mn (a0.length : Int) 5))), (8, .pointer (some ⟨b6, 0, none⟩)), (10, .int .i64 y38)] ∧ St M w0 w [bx b1 38 [(.slice none 0 0), (.slice none 0 0), .int .i64 0], bx b6 38 [v5, v48, .int .i64 (IntKind.i64.wrap ((IntKind.i64.wrap (Int.tmod (IntKind.u64.wrap a2) 201)) - 100))], osl K_api_HeatDomain v5 x47.1, osl K_api_HeatLink v48 x47.2]) (fun Q47 hJ47 hR47 hX47 => ?_) (fun a w hJ => ?_)
              · replace H := H47
                refine block_k (fun Q49 hN49 hR49 hX49 hY49 => ?_)
                refine seq_n (fun Q50 hN50 hR50 hX50 => ?_)
                refine ck_some H (fun hc51 H => ?_)
                refine bnd H (fun s52 hs52 H => ?_)
                refine bnd H (fun s53 hs53 H => ?_)
                refine wp_cut (fun a w => ∃ (b55 : Nat), Fr a 196 [(1, v1), (6, .pointer (some ⟨b1, 0, none⟩)), (7, .int .i64 (mx 1 (mn (a0.length : Int) 5))), (8, .pointer (some ⟨b6, 0, none⟩)), (10, .int .i64 y38), (11, .pointer (some ⟨b55, 0, none⟩))] ∧ St M w0 w [bx b1 38 [(.slice none 0 0), (.slice none 0 0), .int .i64 0], bx b6 38 [v5, v35, .int .i64 (IntKind.i64.wrap ((IntKind.i64.wrap (Int.tmod (IntKind.u64.wrap a2) 201)) - 100))], osl K_api_HeatDomain v5 y36, osl K_api_HeatLink v35 y37, bx b55 84 [.int .i64 s52, .int .i64 s53, .int .i64 (IntKind.i64.wrap (1 + (IntKind.i64.wrap (Int.tmod (IntKind.u64.wrap ((gd HeatLink.zero a1 y38).Conductance)) 5))))]]) (fun Q56 hJ56 => ?_) (fun a w hJ => ?_)
                · -- in each order
                  refine region_d fol 25 [(1, v1), (6, .pointer (some ⟨b1, 0, none⟩)), (7, .int .i64 (mx 1 (mn (a0.length : Int) 5))), (8, .pointer (some ⟨b6, 0, none⟩)), (10, .int .i64 y38)] [(0, v1), (1, .int .i64 y38), (2, .pointer (some (sla v1 (y38.toNat * 3)))), (3, .pointer (some (sla v1 (y38.toNat * 3 + 0)))), (4, .int .i64 ((gd HeatLink.zero a1 y38).A)), (5, .int .i64 (mx 1 (mn (a0.length : Int) 5))), (7, v1), (8, .int .i64 y38), (9, .pointer (some (sla v1 (y38.toNat * 3)))), (10, .pointer (some (sla v1 (y38.toNat * 3 + 1)))), (11, .int .i64 ((gd HeatLink.zero a1 y38).B)), (12, .int .i64 (mx 1 (mn (a0.length : Int) 5))), (14, v1), (15, .int .i64 y38), (16, .pointer (some (sla v1 (y38.toNat * 3)))), (17, .pointer (some (sla v1 (y38.toNat * 3 + 2)))), (18, .int .i64 ((gd HeatLink.zero a1 y38).Conductance)), (19, .int .u64 (IntKind.u64.wrap ((gd HeatLink.zero a1 y38).Conductance))), (20, .int .u64 (Int.tmod (IntKind.u64.wrap ((gd HeatLink.zero a1 y38).Conductance)) 5)), (21, .int .i64 (IntKind.i64.wrap (Int.tmod (IntKind.u64.wrap ((gd HeatLink.zero a1 y38).Conductance)) 5))), (22, .int .i64 (IntKind.i64.wrap (1 + (IntKind.i64.wrap (Int.tmod (IntKind.u64.wrap ((gd HeatLink.zero a1 y38).Conductance)) 5)))))] [6, 13, 24] (fun w => (rsl K_api_HeatLink v1 a1).ok w ∧ True) (fun w => St M w0 w [bx b1 38 [(.slice none 0 0), (.slice none 0 0), .int .i64 0], bx b6 38 [v5, v35, .int .i64 (IntKind.i64.wrap ((IntKind.i64.wrap (Int.tmod (IntKind.u64.wrap a2) 201)) - 100))], osl K_api_HeatDomain v5 y36, osl K_api_HeatLink v35 y37]) hf ⟨rfl, rfl, rfl, rfl, rfl, trivial⟩ (by kernel_rfl) (by kernel_rfl) rfl (by decide) ⟨hr.now hs.drew (i := 1) rfl, trivial⟩ hs.drew (.cons (⟨_, _, rfl, rfl, rfl, rfl, fun a w hR hf => .inl ⟨wanted_yes hf rfl, ex_move hf rfl⟩⟩) (.cons (⟨_, _, rfl, rfl, rfl, rfl, fun a w hR hf => .inl ⟨wanted_yes hf rfl, ex_move hf rfl⟩⟩) (.cons (⟨_, _, rfl, rfl, rfl, rfl, fun a w hR hf => .inl ⟨wanted_yes hf rfl, ex_indexAddr sa_36 (rsl_isSl hR.1) hc51.1 hc51.2 hf rfl rfl⟩⟩) (.cons (⟨_, _, rfl, rfl, rfl, rfl, fun a w hR hf => .inl ⟨wanted_yes hf rfl, ex_fieldAddrS fa_84_0 rfl hf rfl⟩⟩) (.cons (⟨_, _, rfl, rfl, rfl, rfl, fun a w hR hf => .inl ⟨wanted_yes hf rfl, ex_load sc_3 hf rfl (el_cell (K := K_api_HeatLink) (f := 0) (rsl_rd hR.1) hc51.1 hc51.2 rfl)⟩⟩) (.cons (⟨_, _, rfl, rfl, rfl, rfl, fun a w hR hf => .inl ⟨wanted_yes hf rfl, ex_move hf rfl⟩⟩) (.cons (⟨_, _, rfl, rfl, rfl, rfl, fun a w hR hf => .inl ⟨wanted_yes hf rfl, ex_move hf rfl⟩⟩) (.cons (⟨_, _, rfl, rfl, rfl, rfl, fun a w hR hf => .inl ⟨wanted_yes hf rfl, ex_move hf rfl⟩⟩) (.cons (⟨_, _, rfl, rfl, rfl, rfl, fun a w hR hf => .inl ⟨wanted_yes hf rfl, ex_indexAddr sa_36 (rsl_isSl hR.1) hc51.1 hc51.2 hf rfl rfl⟩⟩) (.cons (⟨_, _, rfl, rfl, rfl, rfl, fun a w hR hf => .inl ⟨wanted_yes hf rfl, ex_fieldAddrS fa_84_1 rfl hf rfl⟩⟩) (.cons (⟨_, _, rfl, rfl, rfl, rfl, fun a w hR hf => .inl ⟨wanted_yes hf rfl, ex_load sc_3 hf rfl (el_cell (K := K_api_HeatLink) (f := 1) (rsl_rd hR.1) hc51.1 hc51.2 rfl)⟩⟩) (.cons (⟨_, _, rfl, rfl, rfl, rfl, fun a w hR hf => .inl ⟨wanted_yes hf rfl, ex_move hf rfl⟩⟩) (.cons (⟨_, _, rfl, rfl, rfl, rfl, fun a w hR hf => .inl ⟨wanted_yes hf rfl, ex_move hf rfl⟩⟩) (.cons (⟨_, _, rfl, rfl, rfl, rfl, fun a w hR hf => .inl ⟨wanted_yes hf rfl, ex_move hf rfl⟩⟩) (.cons (⟨_, _, rfl, rfl, rfl, rfl, fun a w hR hf => .inl ⟨wanted_yes hf rfl, ex_indexAddr sa_36 (rsl_isSl hR.1) hc51.1 hc51.2 hf rfl rfl⟩⟩) (.cons (⟨_, _, rfl, rfl, rfl, rfl, fun a w hR hf => .inl ⟨wanted_yes hf rfl, ex_fieldAddrS fa_84_2 rfl hf rfl⟩⟩) (.cons (⟨_, _, rfl, rfl, rfl, rfl, fun a w hR hf => .inl ⟨wanted_yes hf rfl, ex_load sc_2 hf rfl (el_cell (K := K_api_HeatLink) (f := 2) (rsl_rd hR.1) hc51.1 hc51.2 rfl)⟩⟩) (.cons (⟨_, _, rfl, rfl, rfl, rfl, fun a w hR hf => .inl ⟨wanted_yes hf rfl, ex_conv Try.underlying2 Try.underlying23 hf rfl⟩⟩) (.cons (⟨_, _, rfl, rfl, rfl, rfl, fun a w hR hf => .inl ⟨wanted_yes hf rfl, ex_rem hf rfl rfl (by decide)⟩⟩) (.cons (⟨_, _, rfl, rfl, rfl, rfl, fun a w hR hf => .inl ⟨wanted_yes hf rfl, ex_conv Try.underlying23 Try.underlying2 hf rfl⟩⟩) (.cons (⟨_, _, rfl, rfl, rfl, rfl, fun a w hR hf => .inl ⟨wanted_yes hf rfl, ex_add hf rfl rfl⟩⟩) (.nil)))))))))))))))))))))) (fun K57 hK57 => ?_)
                  refine RW.fork [6, 24] (by kernel_rfl) (by kernel_rfl) ⟨?_, ?_, trivial⟩
                  · -- first 6
                    refine RWe.mk 6 rfl (fun d hd => by cases hd; rfl) [(89, .int .i64 ((gd HeatLink.zero a1 y38).A)), (90, .int .i64 (mx 1 (mn (a0.length : Int) 5)))] ⟨rfl, rfl, trivial⟩ (fun a w hR hs hf => ⟨wanted_yes hf rfl, ?_⟩)
                    refine estep_f (ex_call cf_18 hf rfl) (help_Mod.calls k40 ((gd HeatLink.zero a1 y38).A) (mx 1 (mn (a0.length : Int) 5)) (hs.enter (.k (.k (.k (.k .nil))))) (Sr.nil _ _) hs52) (fun v w hR => ?_)
                    obtain ⟨rfl, hs'⟩ := hR
                    replace hs := hs.step (.k (.k (.k (.k .nil)))) hs'
                    clear hs'
                    refine ⟨[], [(6, .int .i64 s52), (0, v1), (1, .int .i64 y38), (2, .pointer (some (sla v1 (y38.toNat * 3)))), (3, .pointer (some (sla v1 (y38.toNat * 3 + 0)))), (4, .int .i64 ((gd HeatLink.zero a1 y38).A)), (5, .int .i64 (mx 1 (mn (a0.length : Int) 5))), (7, v1), (8, .int .i64 y38), (9, .pointer (some (sla v1 (y38.toNat * 3)))), (10, .pointer (some (sla v1 (y38.toNat * 3 + 1)))), (11, .int .i64 ((gd HeatLink.zero a1 y38).B)), (12, .int .i64 (mx 1 (mn (a0.length : Int) 5))), (14, v1), (15, .int .i64 y38), (16, .pointer (some (sla v1 (y38.toNat * 3)))), (17, .pointer (some (sla v1 (y38.toNat * 3 + 2)))), (18, .int .i64 ((gd HeatLink.zero a1 y38).Conductance)), (19, .int .u64 (IntKind.u64.wrap ((gd HeatLink.zero a1 y38).Conductance))), (20, .int .u64 (Int.tmod (IntKind.u64.wrap ((gd HeatLink.zero a1 y38).Conductance)) 5)), (21, .int .i64 (IntKind.i64.wrap (Int.tmod (IntKind.u64.wrap ((gd HeatLink.zero a1 y38).Conductance)) 5))), (22, .int .i64 (IntKind.i64.wrap (1 + (IntKind.i64.wrap (Int.tmod (IntKind.u64.wrap ((gd HeatLink.zero a1 y38).Conductance)) 5)))))], [13, 24], (fun _ => True), (fun w => St M w0 w [bx b1 38 [(.slice none 0 0), (.slice none 0 0), .int .i64 0], bx b6 38 [v5, v35, .int .i64 (IntKind.i64.wrap ((IntKind.i64.wrap (Int.tmod (IntKind.u64.wrap a2) 201)) - 100))], osl K_api_HeatDomain v5 y36, osl K_api_HeatLink v35 y37]), rfl, rfl, ⟨hr.now hs (i := 1) rfl, trivial⟩, trivial, hs, (by kernel_rfl), .nil, ?_⟩
                    refine RW.fork [13, 24] (by kernel_rfl) (by kernel_rfl) ⟨?_, ?_, trivial⟩
                    · -- first 13
                      refine RWe.mk 13 rfl (fun d hd => by cases hd; rfl) [(96, .int .i64 ((gd HeatLink.zero a1 y38).B)), (97, .int .i64 (mx 1 (mn (a0.length : Int) 5)))] ⟨rfl, rfl, trivial⟩ (fun a w hR hs hf => ⟨wanted_yes hf rfl, ?_⟩)
                      refine estep_f (ex_call cf_18 hf rfl) (help_Mod.calls k40 ((gd HeatLink.zero a1 y38).B) (mx 1 (mn (a0.length : Int) 5)) (hs.enter (.k (.k (.k (.k .nil))))) (Sr.nil _ _) hs53) (fun v w hR => ?_)
                      obtain ⟨rfl, hs'⟩ := hR
                      replace hs := hs.step (.k (.k (.k (.k .nil)))) hs'
                      clear hs'
                      refine ⟨[(23, .agg #[.int .i64 s52, .int .i64 s53, .int .i64 (IntKind.i64.wrap (1 + (IntKind.i64.wrap (Int.tmod (IntKind.u64.wrap ((gd HeatLink.zero a1 y38).Conductance)) 5))))])], [(23, .agg #[.int .i64 s52, .int .i64 s53, .int .i64 (IntKind.i64.wrap (1 + (IntKind.i64.wrap (Int.tmod (IntKind.u64.wrap ((gd HeatLink.zero a1 y38).Conductance)) 5))))]), (13, .int .i64 s53), (6, .int .i64 s52), (0, v1), (1, .int .i64 y38), (2, .pointer (some (sla v1 (y38.toNat * 3)))), (3, .pointer (some (sla v1 (y38.toNat * 3 + 0)))), (4, .int .i64 ((gd HeatLink.zero a1 y38).A)), (5, .int .i64 (mx 1 (mn (a0.length : Int) 5))), (7, v1), (8, .int .i64 y38), (9, .pointer (some (sla v1 (y38.toNat * 3)))), (10, .pointer (some (sla v1 (y38.toNat * 3 + 1)))), (11, .int .i64 ((gd HeatLink.zero a1 y38).B)), (12, .int .i64 (mx 1 (mn (a0.length : Int) 5))), (14, v1), (15, .int .i64 y38), (16, .pointer (some (sla v1 (y38.toNat * 3)))), (17, .pointer (some (sla v1 (y38.toNat * 3 + 2)))), (18, .int .i64 ((gd HeatLink.zero a1 y38).Conductance)), (19, .int .u64 (IntKind.u64.wrap ((gd HeatLink.zero a1 y38).Conductance))), (20, .int .u64 (Int.tmod (IntKind.u64.wrap ((gd HeatLink.zero a1 y38).Conductance)) 5)), (21, .int .i64 (IntKind.i64.wrap (Int.tmod (IntKind.u64.wrap ((gd HeatLink.zero a1 y38).Conductance)) 5))), (22, .int .i64 (IntKind.i64.wrap (1 + (IntKind.i64.wrap (Int.tmod (IntKind.u64.wrap ((gd HeatLink.zero a1 y38).Conductance)) 5)))))], [24], (fun _ => True), (fun w => St M w0 w [bx b1 38 [(.slice none 0 0), (.slice none 0 0), .int .i64 0], bx b6 38 [v5, v35, .int .i64 (IntKind.i64.wrap ((IntKind.i64.wrap (Int.tmod (IntKind.u64.wrap a2) 201)) - 100))], osl K_api_HeatDomain v5 y36, osl K_api_HeatLink v35 y37]), rfl, rfl, ⟨⟨hr.now hs (i := 1) rfl, trivial⟩, trivial⟩, trivial, hs, (by kernel_rfl), .cons (⟨_, _, rfl, rfl, rfl, rfl, fun a w hR hf => .inl ⟨wanted_yes hf rfl, ex_build (cs := [.int .i64 s52, .int .i64 s53, .int .i64 (IntKind.i64.wrap (1 + (IntKind.i64.wrap (Int.tmod (IntKind.u64.wrap ((gd HeatLink.zero a1 y38).Conductance)) 5))))]) bt_84 hf rfl (.cons rfl (.cons rfl (.cons rfl .nil))) rfl⟩⟩) (.nil), ?_⟩
                      refine RW.one 24 (by kernel_rfl) (by kernel_rfl) rfl (fun d hd => by cases hd; rfl) [] trivial (fun a w hR hs hf => ⟨wanted_yes hf rfl, ?_⟩)
                      refine estep_v (er_alloc hs ti_84 (cs := [.int .i64 0, .int .i64 0, .int .i64 0]) rfl) (fun v w hR => ?_)
                      obtain ⟨b58, rfl, hs⟩ := hR
                      refine ⟨[], [(24, .pointer (some ⟨b58, 0, none⟩)), (23, .agg #[.int .i64 s52, .int .i64 s53, .int .i64 (IntKind.i64.wrap (1 + (IntKind.i64.wrap (Int.tmod (IntKind.u64.wrap ((gd HeatLink.zero a1 y38).Conductance)) 5))))]), (13, .int .i64 s53), (6, .int .i64 s52), (0, v1), (1, .int .i64 y38), (2, .pointer (some (sla v1 (y38.toNat * 3)))), (3, .pointer (some (sla v1 (y38.toNat * 3 + 0)))), (4, .int .i64 ((gd HeatLink.zero a1 y38).A)), (5, .int .i64 (mx 1 (mn (a0.length : Int) 5))), (7, v1), (8, .int .i64 y38), (9, .pointer (some (sla v1 (y38.toNat * 3)))), (10, .pointer (some (sla v1 (y38.toNat * 3 + 1)))), (11, .int .i64 ((gd HeatLink.zero a1 y38).B)), (12, .int .i64 (mx 1 (mn (a0.length : Int) 5))), (14, v1), (15, .int .i64 y38), (16, .pointer (some (sla v1 (y38.toNat * 3)))), (17, .pointer (some (sla v1 (y38.toNat * 3 + 2)))), (18, .int .i64 ((gd HeatLink.zero a1 y38).Conductance)), (19, .int .u64 (IntKind.u64.wrap ((gd HeatLink.zero a1 y38).Conductance))), (20, .int .u64 (Int.tmod (IntKind.u64.wrap ((gd HeatLink.zero a1 y38).Conductance)) 5)), (21, .int .i64 (IntKind.i64.wrap (Int.tmod (IntKind.u64.wrap ((gd HeatLink.zero a1 y38).Conductance)) 5))), (22, .int .i64 (IntKind.i64.wrap (1 + (IntKind.i64.wrap (Int.tmod (IntKind.u64.wrap ((gd HeatLink.zero a1 y38).Conductance)) 5)))))], [], (fun _ => True), (fun w => St M w0 w [bx b58 84 [.int .i64 0, .int .i64 0, .int .i64 0], bx b1 38 [(.slice none 0 0), (.slice none 0 0), .int .i64 0], bx b6 38 [v5, v35, .int .i64 (IntKind.i64.wrap ((IntKind.i64.wrap (Int.tmod (IntKind.u64.wrap a2) 201)) - 100))], osl K_api_HeatDomain v5 y36, osl K_api_HeatLink v35 y37]), rfl, rfl, ⟨⟨⟨hr.now hs (i := 1) rfl, trivial⟩, trivial⟩, trivial⟩, trivial, hs, (by kernel_rfl), .nil, ?_⟩
                      refine RW.zero (by kernel_rfl) (by kernel_rfl) [(1, v1), (6, .pointer (some ⟨b1, 0, none⟩)), (7, .int .i64 (mx 1 (mn (a0.length : Int) 5))), (8, .pointer (some ⟨b6, 0, none⟩)), (10, .int .i64 y38), (11, .pointer (some ⟨b58, 0, none⟩)), (108, .agg #[.int .i64 s52, .int .i64 s53, .int .i64 (IntKind.i64.wrap (1 + (IntKind.i64.wrap (Int.tmod (IntKind.u64.wrap ((gd HeatLink.zero a1 y38).Conductance)) 5))))])] ⟨rfl, rfl, rfl, rfl, rfl, rfl, rfl, trivial⟩ (fun a w hR hs hf => ?_)
                      refine stepS hf rfl rfl (er_storeAB (vs := [.int .i64 s52, .int .i64 s53, .int .i64 (IntKind.i64.wrap (1 + (IntKind.i64.wrap (Int.tmod (IntKind.u64.wrap ((gd HeatLink.zero a1 y38).Conductance)) 5))))]) (cs' := [.int .i64 s52, .int .i64 s53, .int .i64 (IntKind.i64.wrap (1 + (IntKind.i64.wrap (Int.tmod (IntKind.u64.wrap ((gd HeatLink.zero a1 y38).Conductance)) 5))))]) hs (.c (.k (.k (.k (.k .nil))))) sz_84 hf rfl rfl (all1 rfl (all1 rfl (all1 rfl (all1_nil)))) rfl rfl) (fun w hs => ?_)
                      refine hK57 _ _ ?_
                      replace hs := hs.pick (.k (.k (.k (.k (.c .nil)))))
                      replace hs := hs.pick (.k (.k (.k (.k (.c .nil)))))
                      replace hs := hs.pick (.k (.k (.k (.k (.c .nil)))))
                      replace hs := hs.pick (.k (.k (.k (.k (.c .nil)))))
                      exact hJ56 _ _ ⟨b58, hf.sub ⟨rfl, rfl, rfl, rfl, rfl, rfl, trivial⟩, hs⟩
                    · -- first 24
                      refine RWe.mk 24 rfl (fun d hd => by cases hd; rfl) [] trivial (fun a w hR hs hf => ⟨wanted_yes hf rfl, ?_⟩)
                      refine estep_v (er_alloc hs ti_84 (cs := [.int .i64 0, .int .i64 0, .int .i64 0]) rfl) (fun v w hR => ?_)
                      obtain ⟨b59, rfl, hs⟩ := hR
                      refine ⟨[], [(24, .pointer (some ⟨b59, 0, none⟩)), (6, .int .i64 s52), (0, v1), (1, .int .i64 y38), (2, .pointer (some (sla v1 (y38.toNat * 3)))), (3, .pointer (some (sla v1 (y38.toNat * 3 + 0)))), (4, .int .i64 ((gd HeatLink.zero a1 y38).A)), (5, .int .i64 (mx 1 (mn (a0.length : Int) 5))), (7, v1), (8, .int .i64 y38), (9, .pointer (some (sla v1 (y38.toNat * 3)))), (10, .pointer (some (sla v1 (y38.toNat * 3 + 1)))), (11, .int .i64 ((gd HeatLink.zero a1 y38).B)), (12, .int .i64 (mx 1 (mn (a0.length : Int) 5))), (14, v1), (15, .int .i64 y38), (16, .pointer (some (sla v1 (y38.toNat * 3)))), (17, .pointer (some (sla v1 (y38.toNat * 3 + 2)))), (18, .int .i64 ((gd HeatLink.zero a1 y38).Conductance)), (19, .int .u64 (IntKind.u64.wrap ((gd HeatLink.zero a1 y38).Conductance))), (20, .int .u64 (Int.tmod (IntKind.u64.wrap ((gd HeatLink.zero a1 y38).Conductance)) 5)), (21, .int .i64 (IntKind.i64.wrap (Int.tmod (IntKind.u64.wrap ((gd HeatLink.zero a1 y38).Conductance)) 5))), (22, .int .i64 (IntKind.i64.wrap (1 + (IntKind.i64.wrap (Int.tmod (IntKind.u64.wrap ((gd HeatLink.zero a1 y38).Conductance)) 5)))))], [13], (fun _ => True), (fun w => St M w0 w [bx b59 84 [.int .i64 0, .int .i64 0, .int .i64 0], bx b1 38 [(.slice none 0 0), (.slice none 0 0), .int .i64 0], bx b6 38 [v5, v35, .int .i64 (IntKind.i64.wrap ((IntKind.i64.wrap (Int.tmod (IntKind.u64.wrap a2) 201)) - 100))], osl K_api_HeatDomain v5 y36, osl K_api_HeatLink v35 y37]), rfl, rfl, ⟨⟨hr.now hs (i := 1) rfl, trivial⟩, trivial⟩, trivial, hs, (by kernel_rfl), .nil, ?_⟩
                      refine RW.one 13 (by kernel_rfl) (by kernel_rfl) rfl (fun d hd => by cases hd; rfl) [(96, .int .i64 ((gd HeatLink.zero a1 y38).B)), (97, .int .i64 (mx 1 (mn (a0.length : Int) 5)))] ⟨rfl, rfl, trivial⟩ (fun a w hR hs hf => ⟨wanted_yes hf rfl, ?_⟩)
                      refine estep_f (ex_call cf_18 hf rfl) (help_Mod.calls k40 ((gd HeatLink.zero a1 y38).B) (mx 1 (mn (a0.length : Int) 5)) (hs.enter (.k (.k (.k (.k (.k .nil)))))) (Sr.nil _ _) hs53) (fun v w hR => ?_)
                      obtain ⟨rfl, hs'⟩ := hR
                      replace hs := hs.step (.k (.k (.k (.k (.k .nil))))) hs'
                      clear hs'
                      refine ⟨[(23, .agg #[.int .i64 s52, .int .i64 s53, .int .i64 (IntKind.i64.wrap (1 + (IntKind.i64.wrap (Int.tmod (IntKind.u64.wrap ((gd HeatLink.zero a1 y38).Conductance)) 5))))])], [(23, .agg #[.int .i64 s52, .int .i64 s53, .int .i64 (IntKind.i64.wrap (1 + (IntKind.i64.wrap (Int.tmod (IntKind.u64.wrap ((gd HeatLink.zero a1 y38).Conductance)) 5))))]), (13, .int .i64 s53), (24, .pointer (some ⟨b59, 0, none⟩)), (6, .int .i64 s52), (0, v1), (1, .int .i64 y38), (2, .pointer (some (sla v1 (y38.toNat * 3)))), (3, .pointer (some (sla v1 (y38.toNat * 3 + 0)))), (4, .int .i64 ((gd HeatLink.zero a1 y38).A)), (5, .int .i64 (mx 1 (mn (a0.length : Int) 5))), (7, v1), (8, .int .i64 y38), (9, .pointer (some (sla v1 (y38.toNat * 3)))), (10, .pointer (some (sla v1 (y38.toNat * 3 + 1)))), (11, .int .i64 ((gd HeatLink.zero a1 y38).B)), (12, .int .i64 (mx 1 (mn (a0.length : Int) 5))), (14, v1), (15, .int .i64 y38), (16, .pointer (some (sla v1 (y38.toNat * 3)))), (17, .pointer (some (sla v1 (y38.toNat * 3 + 2)))), (18, .int .i64 ((gd HeatLink.zero a1 y38).Conductance)), (19, .int .u64 (IntKind.u64.wrap ((gd HeatLink.zero a1 y38).Conductance))), (20, .int .u64 (Int.tmod (IntKind.u64.wrap ((gd HeatLink.zero a1 y38).Conductance)) 5)), (21, .int .i64 (IntKind.i64.wrap (Int.tmod (IntKind.u64.wrap ((gd HeatLink.zero a1 y38).Conductance)) 5))), (22, .int .i64 (IntKind.i64.wrap (1 + (IntKind.i64.wrap (Int.tmod (IntKind.u64.wrap ((gd HeatLink.zero a1 y38).Conductance)) 5)))))], [], (fun _ => True), (fun w => St M w0 w [bx b59 84 [.int .i64 0, .int .i64 0, .int .i64 0], bx b1 38 [(.slice none 0 0), (.slice none 0 0), .int .i64 0], bx b6 38 [v5, v35, .int .i64 (IntKind.i64.wrap ((IntKind.i64.wrap (Int.tmod (IntKind.u64.wrap a2) 201)) - 100))], osl K_api_HeatDomain v5 y36, osl K_api_HeatLink v35 y37]), rfl, rfl, ⟨⟨⟨hr.now hs (i := 1) rfl, trivial⟩, trivial⟩, trivial⟩, trivial, hs, (by kernel_rfl), .cons (⟨_, _, rfl, rfl, rfl, rfl, fun a w hR hf => .inl ⟨wanted_yes hf rfl, ex_build (cs := [.int .i64 s52, .int .i64 s53, .int .i64 (IntKind.i64.wrap (1 + (IntKind.i64.wrap (Int.tmod (IntKind.u64.wrap ((gd HeatLink.zero a1 y38).Conductance)) 5))))]) bt_84 hf rfl (.cons rfl (.cons rfl (.cons rfl .nil))) rfl⟩⟩) (.nil), ?_⟩
                      refine RW.zero (by kernel_rfl) (by kernel_rfl) [(1, v1), (6, .pointer (some ⟨b1, 0, none⟩)), (7, .int .i64 (mx 1 (mn (a0.length : Int) 5))), (8, .pointer (some ⟨b6, 0, none⟩)), (10, .int .i64 y38), (11, .pointer (some ⟨b59, 0, none⟩)), (108, .agg #[.int .i64 s52, .int .i64 s53, .int .i64 (IntKind.i64.wrap (1 + (IntKind.i64.wrap (Int.tmod (IntKind.u64.wrap ((gd HeatLink.zero a1 y38).Conductance)) 5))))])] ⟨rfl, rfl, rfl, rfl, rfl, rfl, rfl, trivial⟩ (fun a w hR hs hf => ?_)
                      refine stepS hf rfl rfl (er_storeAB (vs := [.int .i64 s52, .int .i64 s53, .int .i64 (IntKind.i64.wrap (1 + (IntKind.i64.wrap (Int.tmod (IntKind.u64.wrap ((gd HeatLink.zero a1 y38).Conductance)) 5))))]) (cs' := [.int .i64 s52, .int .i64 s53, .int .i64 (IntKind.i64.wrap (1 + (IntKind.i64.wrap (Int.tmod (IntKind.u64.wrap ((gd HeatLink.zero a1 y38).Conductance)) 5))))]) hs (.c (.k (.k (.k (.k .nil))))) sz_84 hf rfl rfl (all1 rfl (all1 rfl (all1 rfl (all1_nil)))) rfl rfl) (fun w hs => ?_)
                      refine hK57 _ _ ?_
                      replace hs := hs.pick (.k (.k (.k (.k (.c .nil)))))
                      replace hs := hs.pick (.k (.k (.k (.k (.c .nil)))))
                      replace hs := hs.pick (.k (.k (.k (.k (.c .nil)))))
                      replace hs := hs.pick (.k (.k (.k (.k (.c .nil)))))
                      exact hJ56 _ _ ⟨b59, hf.sub ⟨rfl, rfl, rfl, rfl, rfl, rfl, trivial⟩, hs⟩
                  · -- first 24
                    refine RWe.mk 24 rfl (fun d hd => by cases hd; rfl) [] trivial (fun a w hR hs hf => ⟨wanted_yes hf rfl, ?_⟩)
                    refine estep_v (er_alloc hs ti_84 (cs := [.int .i64 0, .int .i64 0, .int .i64 0]) rfl) (fun v w hR => ?_)
                    obtain ⟨b60, rfl, hs⟩ := hR
                    refine ⟨[], [(24, .pointer (some ⟨b60, 0, none⟩)), (0, v1), (1, .int .i64 y38), (2, .pointer (some (sla v1 (y38.toNat * 3)))), (3, .pointer (some (sla v1 (y38.toNat * 3 + 0)))), (4, .int .i64 ((gd HeatLink.zero a1 y38).A)), (5, .int .i64 (mx 1 (mn (a0.length : Int) 5))), (7, v1), (8, .int .i64 y38), (9, .pointer (some (sla v1 (y38.toNat * 3)))), (10, .pointer (some (sla v1 (y38.toNat * 3 + 1)))), (11, .int .i64 ((gd HeatLink.zero a1 y38).B)), (12, .int .i64 (mx 1 (mn (a0.length : Int) 5))), (14, v1), (15, .int .i64 y38), (16, .pointer (some (sla v1 (y38.toNat * 3)))), (17, .pointer (some (sla v1 (y38.toNat * 3 + 2)))), (18, .int .i64 ((gd HeatLink.zero a1 y38).Conductance)), (19, .int .u64 (IntKind.u64.wrap ((gd HeatLink.zero a1 y38).Conductance))), (20, .int .u64 (Int.tmod (IntKind.u64.wrap ((gd HeatLink.zero a1 y38).Conductance)) 5)), (21, .int .i64 (IntKind.i64.wrap (Int.tmod (IntKind.u64.wrap ((gd HeatLink.zero a1 y38).Conductance)) 5))), (22, .int .i64 (IntKind.i64.wrap (1 + (IntKind.i64.wrap (Int.tmod (IntKind.u64.wrap ((gd HeatLink.zero a1 y38).Conductance)) 5)))))], [6, 13], (fun _ => True), (fun w => St M w0 w [bx b60 84 [.int .i64 0, .int .i64 0, .int .i64 0], bx b1 38 [(.slice none 0 0), (.slice none 0 0), .int .i64 0], bx b6 38 [v5, v35, .int .i64 (IntKind.i64.wrap ((IntKind.i64.wrap (Int.tmod (IntKind.u64.wrap a2) 201)) - 100))], osl K_api_HeatDomain v5 y36, osl K_api_HeatLink v35 y37]), rfl, rfl, ⟨hr.now hs (i := 1) rfl, trivial⟩, trivial, hs, (by kernel_rfl), .nil, ?_⟩
                    refine RW.one 6 (by kernel_rfl) (by kernel_rfl) rfl (fun d hd => by cases hd; rfl) [(89, .int .i64 ((gd HeatLink.zero a1 y38).A)), (90, .int .i64 (mx 1 (mn (a0.length : Int) 5)))] ⟨rfl, rfl, trivial⟩ (fun a w hR hs hf => ⟨wanted_yes hf rfl, ?_⟩)
                    refine estep_f (ex_call cf_18 hf rfl) (help_Mod.calls k40 ((gd HeatLink.zero a1 y38).A) (mx 1 (mn (a0.length : Int) 5)) (hs.enter (.k (.k (.k (.k (.k .nil)))))) (Sr.nil _ _) hs52) (fun v w hR => ?_)
                    obtain ⟨rfl, hs'⟩ := hR
                    replace hs := hs.step (.k (.k (.k (.k (.k .nil))))) hs'
                    clear hs'
                    refine ⟨[], [(6, .int .i64 s52), (24, .pointer (some ⟨b60, 0, none⟩)), (0, v1), (1, .int .i64 y38), (2, .pointer (some (sla v1 (y38.toNat * 3)))), (3, .pointer (some (sla v1 (y38.toNat * 3 + 0)))), (4, .int .i64 ((gd HeatLink.zero a1 y38).A)), (5, .int .i64 (mx 1 (mn (a0.length : Int) 5))), (7, v1), (8, .int .i64 y38), (9, .pointer (some (sla v1 (y38.toNat * 3)))), (10, .pointer (some (sla v1 (y38.toNat * 3 + 1)))), (11, .int .i64 ((gd HeatLink.zero a1 y38).B)), (12, .int .i64 (mx 1 (mn (a0.length : Int) 5))), (14, v1), (15, .int .i64 y38), (16, .pointer (some (sla v1 (y38.toNat * 3)))), (17, .pointer (some (sla v1 (y38.toNat * 3 + 2)))), (18, .int .i64 ((gd HeatLink.zero a1 y38).Conductance)), (19, .int .u64 (IntKind.u64.wrap ((gd HeatLink.zero a1 y38).Conductance))), (20, .int .u64 (Int.tmod (IntKind.u64.wrap ((gd HeatLink.zero a1 y38).Conductance)) 5)), (21, .int .i64 (IntKind.i64.wrap (Int.tmod (IntKind.u64.wrap ((gd HeatLink.zero a1 y38).Conductance)) 5))), (22, .int .i64 (IntKind.i64.wrap (1 + (IntKind.i64.wrap (Int.tmod (IntKind.u64.wrap ((gd HeatLink.zero a1 y38).Conductance)) 5)))))], [13], (fun _ => True), (fun w => St M w0 w [bx b60 84 [.int .i64 0, .int .i64 0, .int .i64 0], bx b1 38 [(.slice none 0 0), (.slice none 0 0), .int .i64 0], bx b6 38 [v5, v35, .int .i64 (IntKind.i64.wrap ((IntKind.i64.wrap (Int.tmod (IntKind.u64.wrap a2) 201)) - 100))], osl K_api_HeatDomain v5 y36, osl K_api_HeatLink v35 y37]), rfl, rfl, ⟨⟨hr.now hs (i := 1) rfl, trivial⟩, trivial⟩, trivial, hs, (by kernel_rfl), .nil, ?_⟩
                    refine RW.one 13 (by kernel_rfl) (by kernel_rfl) rfl (fun d hd => by cases hd; rfl) [(96, .int .i64 ((gd HeatLink.zero a1 y38).B)), (97, .int .i64 (mx 1 (mn (a0.length : Int) 5)))] ⟨rfl, rfl, trivial⟩ (fun a w hR hs hf => ⟨wanted_yes hf rfl, ?_⟩)
                    refine estep_f (ex_call cf_18 hf rfl) (help_Mod.calls k40 ((gd HeatLink.zero a1 y38).B) (mx 1 (mn (a0.length : Int) 5)) (hs.enter (.k (.k (.k (.k (.k .nil)))))) (Sr.nil _ _) hs53) (fun v w hR => ?_)
                    obtain ⟨rfl, hs'⟩ := hR
                    replace hs := hs.step (.k (.k (.k (.k (.k .nil))))) hs'
                    clear hs'
                    refine ⟨[(23, .agg #[.int .i64 s52, .int .i64 s53, .int .i64 (IntKind.i64.wrap (1 + (IntKind.i64.wrap (Int.tmod (IntKind.u64.wrap ((gd HeatLink.zero a1 y38).Conductance)) 5))))])], [(23, .agg #[.int .i64 s52, .int .i64 s53, .int .i64 (IntKind.i64.wrap (1 + (IntKind.i64.wrap (Int.tmod (IntKind.u64.wrap ((gd HeatLink.zero a1 y38).Conductance)) 5))))]), (13, .int .i64 s53), (6, .int .i64 s52), (24, .pointer (some ⟨b60, 0, none⟩)), (0, v1), (1, .int .i64 y38), (2, .pointer (some (sla v1 (y38.toNat * 3)))), (3, .pointer (some (sla v1 (y38.toNat * 3 + 0)))), (4, .int .i64 ((gd HeatLink.zero a1 y38).A)), (5, .int .i64 (mx 1 (mn (a0.length : Int) 5))), (7, v1), (8, .int .i64 y38), (9, .pointer (some (sla v1 (y38.toNat * 3)))), (10, .pointer (some (sla v1 (y38.toNat * 3 + 1)))), (11, .int .i64 ((gd HeatLink.zero a1 y38).B)), (12, .int .i64 (mx 1 (mn (a0.length : Int) 5))), (14, v1), (15, .int .i64 y38), (16, .pointer (some (sla v1 (y38.toNat * 3)))), (17, .pointer (some (sla v1 (y38.toNat * 3 + 2)))), (18, .int .i64 ((gd HeatLink.zero a1 y38).Conductance)), (19, .int .u64 (IntKind.u64.wrap ((gd HeatLink.zero a1 y38).Conductance))), (20, .int .u64 (Int.tmod (IntKind.u64.wrap ((gd HeatLink.zero a1 y38).Conductance)) 5)), (21, .int .i64 (IntKind.i64.wrap (Int.tmod (IntKind.u64.wrap ((gd HeatLink.zero a1 y38).Conductance)) 5))), (22, .int .i64 (IntKind.i64.wrap (1 + (IntKind.i64.wrap (Int.tmod (IntKind.u64.wrap ((gd HeatLink.zero a1 y38).Conductance)) 5)))))], [], (fun _ => True), (fun w => St M w0 w [bx b60 84 [.int .i64 0, .int .i64 0, .int .i64 0], bx b1 38 [(.slice none 0 0), (.slice none 0 0), .int .i64 0], bx b6 38 [v5, v35, .int .i64 (IntKind.i64.wrap ((IntKind.i64.wrap (Int.tmod (IntKind.u64.wrap a2) 201)) - 100))], osl K_api_HeatDomain v5 y36, osl K_api_HeatLink v35 y37]), rfl, rfl, ⟨⟨⟨hr.now hs (i := 1) rfl, trivial⟩, trivial⟩, trivial⟩, trivial, hs, (by kernel_rfl), .cons (⟨_, _, rfl, rfl, rfl, rfl, fun a w hR hf => .inl ⟨wanted_yes hf rfl, ex_build (cs := [.int .i64 s52, .int .i64 s53, .int .i64 (IntKind.i64.wrap (1 + (IntKind.i64.wrap (Int.tmod (IntKind.u64.wrap ((gd HeatLink.zero a1 y38).Conductance)) 5))))]) bt_84 hf rfl (.cons rfl (.cons rfl (.cons rfl .nil))) rfl⟩⟩) (.nil), ?_⟩
                    refine RW.zero (by kernel_rfl) (by kernel_rfl) [(1, v1), (6, .pointer (some ⟨b1, 0, none⟩)), (7, .int .i64 (mx 1 (mn (a0.length : Int) 5))), (8, .pointer (some ⟨b6, 0, none⟩)), (10, .int .i64 y38), (11, .pointer (some ⟨b60, 0, none⟩)), (108, .agg #[.int .i64 s52, .int .i64 s53, .int .i64 (IntKind.i64.wrap (1 + (IntKind.i64.wrap (Int.tmod (IntKind.u64.wrap ((gd HeatLink.zero a1 y38).Conductance)) 5))))])] ⟨rfl, rfl, rfl, rfl, rfl, rfl, rfl, trivial⟩ (fun a w hR hs hf => ?_)
                    refine stepS hf rfl rfl (er_storeAB (vs := [.int .i64 s52, .int .i64 s53, .int .i64 (IntKind.i64.wrap (1 + (IntKind.i64.wrap (Int.tmod (IntKind.u64.wrap ((gd HeatLink.zero a1 y38).Conductance)) 5))))]) (cs' := [.int .i64 s52, .int .i64 s53, .int .i64 (IntKind.i64.wrap (1 + (IntKind.i64.wrap (Int.tmod (IntKind.u64.wrap ((gd HeatLink.zero a1 y38).Conductance)) 5))))]) hs (.c (.k (.k (.k (.k .nil))))) sz_84 hf rfl rfl (all1 rfl (all1 rfl (all1 rfl (all1_nil)))) rfl rfl) (fun w hs => ?_)
                    refine hK57 _ _ ?_
                    replace hs := hs.pick (.k (.k (.k (.k (.c .nil)))))
                    replace hs := hs.pick (.k (.k (.k (.k (.c .nil)))))
                    replace hs := hs.pick (.k (.k (.k (.k (.c .nil)))))
                    replace hs := hs.pick (.k (.k (.k (.k (.c .nil)))))
                    exact hJ56 _ _ ⟨b60, hf.sub ⟨rfl, rfl, rfl, rfl, rfl, rfl, trivial⟩, hs⟩
                · obtain ⟨b55, hf, hs⟩ := hJ
                  refine hN50 _ _ ?_
                  refine seq_reg (fun K61 hK61 => ?_)
                  refine stq hf rfl rfl rfl (ex_fieldAddrB fa_84_0 rfl hf rfl) (fun a hf => ?_)
                  refine stq hf rfl rfl rfl (ex_load sc_3 hf rfl (bx_cell (hs.get (i := 4) rfl) _ rfl)) (fun a hf => ?_)
                  refine stq hf rfl rfl rfl (ex_fieldAddrB fa_84_1 rfl hf rfl) (fun a hf => ?_)
                  refine stq hf rfl rfl rfl (ex_load sc_3 hf rfl (bx_cell (hs.get (i := 4) rfl) _ rfl)) (fun a hf => ?_)
                  refine stq hf rfl rfl rfl (ex_neq hf rfl rfl) (fun a hf => ?_)
                  refine stq hf rfl rfl rfl (ex_assign hf rfl) (fun a hf => ?_)
                  refine hK61 _ _ ?_
                  refine bnd H (fun x62 H62 HO62 => ?_)
                  clear H
                  refine seq_cut (fun a w => Fr a 196 [(1, v1), (6, .pointer (some ⟨b1, 0, none⟩)), (7, .int .i64 (mx 1 (mn (a0.length : Int) 5))), (8, .pointer (some ⟨b6, 0, none⟩)), (10, .int .i64 y38), (11, .pointer (some ⟨b55, 0, none⟩)), (12, .bool x62)] ∧ St M w0 w [bx b1 38 [(.slice none 0 0), (.slice none 0 0), .int .i64 0], bx b6 38 [v5, v35, .int .i64 (IntKind.i64.wrap ((IntKind.i64.wrap (Int.tmod (IntKind.u64.wrap a2) 201)) - 100))], osl K_api_HeatDomain v5 y36, osl K_api_HeatLink v35 y37, bx b55 84 [.int .i64 s52, .int .i64 s53, .int .i64 (IntKind.i64.wrap (1 + (IntKind.i64.wrap (Int.tmod (IntKind.u64.wrap ((gd HeatLink.zero a1 y38).Conductance)) 5))))]]) (fun Q62 hJ62 hR62 hX62 => ?_) (fun a w hJ => ?_)
                  · replace H := H62
                    refine seq_reg (fun K63 hK63 => ?_)
                    refine stq hf rfl rfl rfl (ex_assign hf rfl) (fun a hf => ?_)
                    refine hK63 _ _ ?_
                    refine block_k (fun Q64 hN64 hR64 hX64 hY64 => ?_)
                    refine loop_k (fun n a w => ∃ (y65 : Bool) (y66 : Int), Fr a 196 [(1, v1), (6, .pointer (some ⟨b1, 0, none⟩)), (7, .int .i64 (mx 1 (mn (a0.length : Int) 5))), (8, .pointer (some ⟨b6, 0, none⟩)), (10, .int .i64 y38), (11, .pointer (some ⟨b55, 0, none⟩)), (12, .bool y65), (13, .int .i64 y66)] ∧ St M w0 w [bx b1 38 [(.slice none 0 0), (.slice none 0 0), .int .i64 0], bx b6 38 [v5, v35, .int .i64 (IntKind.i64.wrap ((IntKind.i64.wrap (Int.tmod (IntKind.u64.wrap a2) 201)) - 100))], osl K_api_HeatDomain v5 y36, osl K_api_HeatLink v35 y37, bx b55 84 [.int .i64 s52, .int .i64 s53, .int .i64 (IntKind.i64.wrap (1 + (IntKind.i64.wrap (Int.tmod (IntKind.u64.wrap ((gd HeatLink.zero a1 y38).Conductance)) 5))))]] ∧ law38_Some.l3 n y37 s52 s53 y65 y66 = some x62) k40 ?_ (fun n68 a w hI Q68 hL68 hR68 hX68 => ?_)
                    · -- at the start
                      exact ⟨(!decide (s52 = s53)), 0, hf.sub ⟨rfl, rfl, rfl, rfl, rfl, rfl, rfl, rfl, trivial⟩, hs, H⟩
                    · obtain ⟨y65, y66, hf, hs, H⟩ := hI
                      cases n68 with
                      | zero => exact absurd H (by rw [law38_Some.l3.eq_1]; intro h; cases h)
                      | succ k68 =>
                        replace H := (law38_Some.l3.eq_2 ..).symm.trans H
                        refine seq_n (fun Q69 hN69 hR69 hX69 => ?_)
                        refine seq_reg (fun K70 hK70 => ?_)
                        refine stq hf rfl rfl rfl (ex_move hf rfl) (fun a hf => ?_)
                        refine stq hf rfl rfl rfl (ex_fieldAddrB fa_38_1 rfl hf rfl) (fun a hf => ?_)
                        refine stq hf rfl rfl rfl (ex_load sc_36 hf rfl (bx_cell (hs.get (i := 1) rfl) _ rfl)) (fun a hf => ?_)
                        refine stq hf rfl rfl rfl (ex_lenS Try.underlying36 (rsl_isSl (osl_rsl _ (hs.get (i := 3) rfl))) hf rfl) (fun a hf => ?_)
                        refine stq hf rfl rfl rfl (ex_lss hf rfl rfl) (fun a hf => ?_)
                        refine hK70 _ _ ?_
                        refine itt H (fun hc71 H => ?_) (fun hc71 H => ?_)
                        · -- y66 < (y37.length : Int)
                          replace hf := hf.castB (t := 118) rfl (dec_t hc71)
                          refine cond_T hf rfl ?_
                          refine wp_skip ?_
                          refine hN69 _ _ ?_
                          refine bnd H (fun x72 H72 HO72 => ?_)
                          clear H
                          refine seq_cut (fun a w => Fr a 196 [(1, v1), (6, .pointer (some ⟨b1, 0, none⟩)), (7, .int .i64 (mx 1 (mn (a0.length : Int) 5))), (8, .pointer (some ⟨b6, 0, none⟩)), (10, .int .i64 y38), (11, .pointer (some ⟨b55, 0, none⟩)), (12, .bool x72), (13, .int .i64 y66)] ∧ St M w0 w [bx b1 38 [(.slice none 0 0), (.slice none 0 0), .int .i64 0], bx b6 38 [v5, v35, .int .i64 (IntKind.i64.wrap ((IntKind.i64.wrap (Int.tmod (IntKind.u64.wrap a2) 201)) - 100))], osl K_api_HeatDomain v5 y36, osl K_api_HeatLink v35 y37, bx b55 84 [.int .i64 s52, .int .i64 s53, .int .i64 (IntKind.i64.wrap (1 + (IntKind.i64.wrap (Int.tmod (IntKind.u64.wrap ((gd HeatLink.zero a1 y38).Conductance)) 5))))]]) (fun Q72 hJ72 hR72 hX72 => ?_) (fun a w hJ => ?_)
                          · replace H := H72
                            refine block_k (fun Q73 hN73 hR73 hX73 hY73 => ?_)
                            refine ck_some H (fun hc74 H => ?_)
                            refine seq_reg (fun K76 hK76 => ?_)
                            refine stq hf rfl rfl rfl (ex_fieldAddrB fa_38_1 rfl hf rfl) (fun a hf => ?_)
                            refine stq hf rfl rfl rfl (ex_load sc_36 hf rfl (bx_cell (hs.get (i := 1) rfl) _ rfl)) (fun a hf => ?_)
                            refine stq hf rfl rfl rfl (ex_move hf rfl) (fun a hf => ?_)
                            refine stq hf rfl rfl rfl (ex_indexAddr sa_36 (rsl_isSl (osl_rsl _ (hs.get (i := 3) rfl))) hc74.1 hc74.2 hf rfl rfl) (fun a hf => ?_)
                            refine stq hf rfl rfl rfl (ex_loadA (cs := [.int .i64 ((gd HeatLink.zero y37 y66).A), .int .i64 ((gd HeatLink.zero y37 y66).B), .int .i64 ((gd HeatLink.zero y37 y66).Conductance)]) ag_84 hf rfl (el_cells (K := K_api_HeatLink) (rsl_rd (osl_rsl _ (hs.get (i := 3) rfl))) hc74.1 hc74.2 rfl)) (fun a hf => ?_)
                            refine stepV hf rfl rfl rfl (er_alloc hs ti_84 (cs := [.int .i64 0, .int .i64 0, .int .i64 0]) rfl) (fun v w hR a hf => ?_)
                            obtain ⟨b75, rfl, hs⟩ := hR
                            refine stepS hf rfl rfl (er_storeAB (vs := [.int .i64 ((gd HeatLink.zero y37 y66).A), .int .i64 ((gd HeatLink.zero y37 y66).B), .int .i64 ((gd HeatLink.zero y37 y66).Conductance)]) (cs' := [.int .i64 ((gd HeatLink.zero y37 y66).A), .int .i64 ((gd HeatLink.zero y37 y66).B), .int .i64 ((gd HeatLink.zero y37 y66).Conductance)]) hs (.c (.k (.k (.k (.k (.k .nil)))))) sz_84 hf rfl rfl (all1 rfl (all1 rfl (all1 rfl (all1_nil)))) rfl rfl) (fun w hs => ?_)
                            refine hK76 _ _ ?_
                            refine itt H (fun hc77 H => ?_) (fun hc77 H => ?_)
                            · -- y65 = true
                              refine itt H (fun hc78 H => ?_) (fun hc78 H => ?_)
                              · -- ((gd HeatLink.zero y37 y66).A) = s52
                                refine itt H (fun hc79 H => ?_) (fun hc79 H => ?_)
                                · -- ((gd HeatLink.zero y37 y66).B) = s53
                                  refine region_k (fun K80 hK80 => ?_)
                                  refine stq hf rfl rfl rfl (ex_move hf rfl) (fun a hf => ?_)
                                  refine stq hf rfl rfl rfl (ex_move hf rfl) (fun a hf => ?_)
                                  replace hf := hf.castB (t := 12) rfl hc77
                                  replace hf := hf.castB (t := 126) rfl hc77
                                  replace hf := hf.castB (t := 127) rfl hc77
                                  refine stq hf rfl rfl rfl (ex_fieldAddrB fa_84_0 rfl hf rfl) (fun a hf => ?_)
                                  refine stq hf rfl rfl rfl (ex_load sc_3 hf rfl (bx_cell (hs.get (i := 0) rfl) _ rfl)) (fun a hf => ?_)
                                  refine stq hf rfl rfl rfl (ex_fieldAddrB fa_84_0 rfl hf rfl) (fun a hf => ?_)
                                  refine stq hf rfl rfl rfl (ex_load sc_3 hf rfl (bx_cell (hs.get (i := 5) rfl) _ rfl)) (fun a hf => ?_)
                                  refine stq hf rfl rfl rfl (ex_eql hf rfl rfl) (fun a hf => ?_)
                                  refine stq hf rfl rfl rfl (ex_move hf rfl) (fun a hf => ?_)
                                  replace hf := hf.castB (t := 132) rfl (dec_t hc78)
                                  replace hf := hf.castB (t := 133) rfl (dec_t hc78)
                                  refine stq hf rfl rfl rfl (ex_fieldAddrB fa_84_1 rfl hf rfl) (fun a hf => ?_)
                                  refine stq hf rfl rfl rfl (ex_load sc_3 hf rfl (bx_cell (hs.get (i := 0) rfl) _ rfl)) (fun a hf => ?_)
                                  refine stq hf rfl rfl rfl (ex_fieldAddrB fa_84_1 rfl hf rfl) (fun a hf => ?_)
                                  refine stq hf rfl rfl rfl (ex_load sc_3 hf rfl (bx_cell (hs.get (i := 5) rfl) _ rfl)) (fun a hf => ?_)
                                  refine stq hf rfl rfl rfl (ex_eql hf rfl rfl) (fun a hf => ?_)
                                  refine stq hf rfl rfl rfl (ex_pickT hf rfl rfl) (fun a hf => ?_)
                                  refine stq hf rfl rfl rfl (ex_move hf rfl) (fun a hf => ?_)
                                  replace hf := hf.castB (t := 138) rfl (dec_t hc79)
                                  replace hf := hf.castB (t := 139) rfl (dec_t hc79)
                                  replace hf := hf.castB (t := 140) rfl (dec_t hc79)
                                  refine stepN hf rfl rfl rfl (fun a hf => ?_)
                                  refine stepN hf rfl rfl rfl (fun a hf => ?_)
                                  refine stepN hf rfl rfl rfl (fun a hf => ?_)
                                  refine stepN hf rfl rfl rfl (fun a hf => ?_)
                                  refine stepN hf rfl rfl rfl (fun a hf => ?_)
                                  refine stepN hf rfl rfl rfl (fun a hf => ?_)
                                  refine stepN hf rfl rfl rfl (fun a hf => ?_)
                                  refine stepN hf rfl rfl rfl (fun a hf => ?_)
                                  refine stepN hf rfl rfl rfl (fun a hf => ?_)
                                  refine stepN hf rfl rfl rfl (fun a hf => ?_)
                                  refine stepN hf rfl rfl rfl (fun a hf => ?_)
                                  refine stepN hf rfl rfl rfl (fun a hf => ?_)
                                  refine stq hf rfl rfl rfl (ex_pickT hf rfl rfl) (fun a hf => ?_)
                                  refine stq hf rfl rfl rfl (ex_not hf rfl) (fun a hf => ?_)
                                  refine stq hf rfl rfl rfl (ex_pickT hf rfl rfl) (fun a hf => ?_)
                                  refine stq hf rfl rfl rfl (ex_assign hf rfl) (fun a hf => ?_)
                                  refine hK80 _ _ ?_
                                  refine hN73 _ _ ?_
                                  replace hs := hs.keep (.d (.k (.k (.k (.k (.k .nil))))))
                                  have e72 := some_eq H; subst e72
                                  exact hJ72 _ _ ⟨hf.sub ⟨rfl, rfl, rfl, rfl, rfl, rfl, rfl, rfl, trivial⟩, hs⟩
                                · -- not ((gd HeatLink.zero y37 y66).B) = s53
                                  refine itt H (fun hc81 H => ?_) (fun hc81 H => ?_)
                                  · -- ((gd HeatLink.zero y37 y66).A) = s53
                                    refine region_k (fun K82 hK82 => ?_)
                                    refine stq hf rfl rfl rfl (ex_move hf rfl) (fun a hf => ?_)
                                    refine stq hf rfl rfl rfl (ex_move hf rfl) (fun a hf => ?_)
                                    replace hf := hf.castB (t := 12) rfl hc77
                                    replace hf := hf.castB (t := 126) rfl hc77
                                    replace hf := hf.castB (t := 127) rfl hc77
                                    refine stq hf rfl rfl rfl (ex_fieldAddrB fa_84_0 rfl hf rfl) (fun a hf => ?_)
                                    refine stq hf rfl rfl rfl (ex_load sc_3 hf rfl (bx_cell (hs.get (i := 0) rfl) _ rfl)) (fun a hf => ?_)
                                    refine stq hf rfl rfl rfl (ex_fieldAddrB fa_84_0 rfl hf rfl) (fun a hf => ?_)
                                    refine stq hf rfl rfl rfl (ex_load sc_3 hf rfl (bx_cell (hs.get (i := 5) rfl) _ rfl)) (fun a hf => ?_)
                                    refine stq hf rfl rfl rfl (ex_eql hf rfl rfl) (fun a hf => ?_)
                                    refine stq hf rfl rfl rfl (ex_move hf rfl) (fun a hf => ?_)
                                    replace hf := hf.castB (t := 132) rfl (dec_t hc78)
                                    replace hf := hf.castB (t := 133) rfl (dec_t hc78)
                                    refine stq hf rfl rfl rfl (ex_fieldAddrB fa_84_1 rfl hf rfl) (fun a hf => ?_)
                                    refine stq hf rfl rfl rfl (ex_load sc_3 hf rfl (bx_cell (hs.get (i := 0) rfl) _ rfl)) (fun a hf => ?_)
                                    refine stq hf rfl rfl rfl (ex_fieldAddrB fa_84_1 rfl hf rfl) (fun a hf => ?_)
                                    refine stq hf rfl rfl rfl (ex_load sc_3 hf rfl (bx_cell (hs.get (i := 5) rfl) _ rfl)) (fun a hf => ?_)
                                    refine stq hf rfl rfl rfl (ex_eql hf rfl rfl) (fun a hf => ?_)
                                    refine stq hf rfl rfl rfl (ex_pickT hf rfl rfl) (fun a hf => ?_)
                                    refine stq hf rfl rfl rfl (ex_move hf rfl) (fun a hf => ?_)
                                    replace hf := hf.castB (t := 138) rfl (dec_f hc79)
                                    replace hf := hf.castB (t := 139) rfl (dec_f hc79)
                                    replace hf := hf.castB (t := 140) rfl (dec_f hc79)
                                    refine stq hf rfl rfl rfl (ex_fieldAddrB fa_84_0 rfl hf rfl) (fun a hf => ?_)
                                    refine stq hf rfl rfl rfl (ex_load sc_3 hf rfl (bx_cell (hs.get (i := 0) rfl) _ rfl)) (fun a hf => ?_)
                                    refine stq hf rfl rfl rfl (ex_fieldAddrB fa_84_1 rfl hf rfl) (fun a hf => ?_)
                                    refine stq hf rfl rfl rfl (ex_load sc_3 hf rfl (bx_cell (hs.get (i := 5) rfl) _ rfl)) (fun a hf => ?_)
                                    refine stq hf rfl rfl rfl (ex_eql hf rfl rfl) (fun a hf => ?_)
                                    refine stq hf rfl rfl rfl (ex_move hf rfl) (fun a hf => ?_)
                                    replace hf := hf.castB (t := 145) rfl (dec_t hc81)
                                    replace hf := hf.castB (t := 146) rfl (dec_t hc81)
                                    refine stq hf rfl rfl rfl (ex_fieldAddrB fa_84_1 rfl hf rfl) (fun a hf => ?_)
                                    refine stq hf rfl rfl rfl (ex_load sc_3 hf rfl (bx_cell (hs.get (i := 0) rfl) _ rfl)) (fun a hf => ?_)
                                    refine stq hf rfl rfl rfl (ex_fieldAddrB fa_84_0 rfl hf rfl) (fun a hf => ?_)
                                    refine stq hf rfl rfl rfl (ex_load sc_3 hf rfl (bx_cell (hs.get (i := 5) rfl) _ rfl)) (fun a hf => ?_)
                                    refine stq hf rfl rfl rfl (ex_eql hf rfl rfl) (fun a hf => ?_)
                                    refine stq hf rfl rfl rfl (ex_pickT hf rfl rfl) (fun a hf => ?_)
                                    refine stq hf rfl rfl rfl (ex_pickF hf rfl rfl) (fun a hf => ?_)
                                    refine stq hf rfl rfl rfl (ex_not hf rfl) (fun a hf => ?_)
                                    refine stq hf rfl rfl rfl (ex_pickT hf rfl rfl) (fun a hf => ?_)
                                    refine stq hf rfl rfl rfl (ex_assign hf rfl) (fun a hf => ?_)
                                    refine hK82 _ _ ?_
                                    refine hN73 _ _ ?_
                                    replace hs := hs.keep (.d (.k (.k (.k (.k (.k .nil))))))
                                    have e72 := some_eq H; subst e72
                                    exact hJ72 _ _ ⟨hf.sub ⟨rfl, rfl, rfl, rfl, rfl, rfl, rfl, rfl, trivial⟩, hs⟩
                                  · -- not ((gd HeatLink.zero y37 y66).A) = s53
                                    refine region_k (fun K83 hK83 => ?_)
                                    refine stq hf rfl rfl rfl (ex_move hf rfl) (fun a hf => ?_)
                                    refine stq hf rfl rfl rfl (ex_move hf rfl) (fun a hf => ?_)
                                    replace hf := hf.castB (t := 12) rfl hc77
                                    replace hf := hf.castB (t := 126) rfl hc77
                                    replace hf := hf.castB (t := 127) rfl hc77
                                    refine stq hf rfl rfl rfl (ex_fieldAddrB fa_84_0 rfl hf rfl) (fun a hf => ?_)
                                    refine stq hf rfl rfl rfl (ex_load sc_3 hf rfl (bx_cell (hs.get (i := 0) rfl) _ rfl)) (fun a hf => ?_)
                                    refine stq hf rfl rfl rfl (ex_fieldAddrB fa_84_0 rfl hf rfl) (fun a hf => ?_)
                                    refine stq hf rfl rfl rfl (ex_load sc_3 hf rfl (bx_cell (hs.get (i := 5) rfl) _ rfl)) (fun a hf => ?_)
                                    refine stq hf rfl rfl rfl (ex_eql hf rfl rfl) (fun a hf => ?_)
                                    refine stq hf rfl rfl rfl (ex_move hf rfl) (fun a hf => ?_)
                                    replace hf := hf.castB (t := 132) rfl (dec_t hc78)
                                    replace hf := hf.castB (t := 133) rfl (dec_t hc78)
                                    refine stq hf rfl rfl rfl (ex_fieldAddrB fa_84_1 rfl hf rfl) (fun a hf => ?_)
                                    refine stq hf rfl rfl rfl (ex_load sc_3 hf rfl (bx_cell (hs.get (i := 0) rfl) _ rfl)) (fun a hf => ?_)
                                    refine stq hf rfl rfl rfl (ex_fieldAddrB fa_84_1 rfl hf rfl) (fun a hf => ?_)
                                    refine stq hf rfl rfl rfl (ex_load sc_3 hf rfl (bx_cell (hs.get (i := 5) rfl) _ rfl)) (fun a hf => ?_)
                                    refine stq hf rfl rfl rfl (ex_eql hf rfl rfl) (fun a hf => ?_)
                                    refine stq hf rfl rfl rfl (ex_pickT hf rfl rfl) (fun a hf => ?_)
                                    refine stq hf rfl rfl rfl (ex_move hf rfl) (fun a hf => ?_)
                                    replace hf := hf.castB (t := 138) rfl (dec_f hc79)
                                    replace hf := hf.castB (t := 139) rfl (dec_f hc79)
                                    replace hf := hf.castB (t := 140) rfl (dec_f hc79)
                                    refine stq hf rfl rfl rfl (ex_fieldAddrB fa_84_0 rfl hf rfl) (fun a hf => ?_)
                                    refine stq hf rfl rfl rfl (ex_load sc_3 hf rfl (bx_cell (hs.get (i := 0) rfl) _ rfl)) (fun a hf => ?_)
                                    refine stq hf rfl rfl rfl (ex_fieldAddrB fa_84_1 rfl hf rfl) (fun a hf => ?_)
                                    refine stq hf rfl rfl rfl (ex_load sc_3 hf rfl (bx_cell (hs.get (i := 5) rfl) _ rfl)) (fun a hf => ?_)
                                    refine stq hf rfl rfl rfl (ex_eql hf rfl rfl) (fun a hf => ?_)
                                    refine stq hf rfl rfl rfl (ex_move hf rfl) (fun a hf => ?_)
                                    replace hf := hf.castB (t := 145) rfl (dec_f hc81)
                                    replace hf := hf.castB (t := 146) rfl (dec_f hc81)
                                    refine stepN hf rfl rfl rfl (fun a hf => ?_)
                                    refine stepN hf rfl rfl rfl (fun a hf => ?_)
                                    refine stepN hf rfl rfl rfl (fun a hf => ?_)
                                    refine stepN hf rfl rfl rfl (fun a hf => ?_)
                                    refine stepN hf rfl rfl rfl (fun a hf => ?_)
                                    refine stq hf rfl rfl rfl (ex_pickF hf rfl rfl) (fun a hf => ?_)
                                    refine stq hf rfl rfl rfl (ex_pickF hf rfl rfl) (fun a hf => ?_)
                                    refine stq hf rfl rfl rfl (ex_not hf rfl) (fun a hf => ?_)
                                    refine stq hf rfl rfl rfl (ex_pickT hf rfl rfl) (fun a hf => ?_)
                                    refine stq hf rfl rfl rfl (ex_assign hf rfl) (fun a hf => ?_)
                                    refine hK83 _ _ ?_
                                    refine hN73 _ _ ?_
                                    replace hs := hs.keep (.d (.k (.k (.k (.k (.k .nil))))))
                                    have e72 := some_eq H; subst e72
                                    exact hJ72 _ _ ⟨hf.sub ⟨rfl, rfl, rfl, rfl, rfl, rfl, rfl, rfl, trivial⟩, hs⟩
                              · -- not ((gd HeatLink.zero y37 y66).A) = s52
                                refine itt H (fun hc84 H => ?_) (fun hc84 H => ?_)
                                · -- ((gd HeatLink.zero y37 y66).A) = s53
                                  refine region_k (fun K85 hK85 => ?_)
                                  refine stq hf rfl rfl rfl (ex_move hf rfl) (fun a hf => ?_)
                                  refine stq hf rfl rfl rfl (ex_move hf rfl) (fun a hf => ?_)
                                  replace hf := hf.castB (t := 12) rfl hc77
                                  replace hf := hf.castB (t := 126) rfl hc77
                                  replace hf := hf.castB (t := 127) rfl hc77
                                  refine stq hf rfl rfl rfl (ex_fieldAddrB fa_84_0 rfl hf rfl) (fun a hf => ?_)
                                  refine stq hf rfl rfl rfl (ex_load sc_3 hf rfl (bx_cell (hs.get (i := 0) rfl) _ rfl)) (fun a hf => ?_)
                                  refine stq hf rfl rfl rfl (ex_fieldAddrB fa_84_0 rfl hf rfl) (fun a hf => ?_)
                                  refine stq hf rfl rfl rfl (ex_load sc_3 hf rfl (bx_cell (hs.get (i := 5) rfl) _ rfl)) (fun a hf => ?_)
                                  refine stq hf rfl rfl rfl (ex_eql hf rfl rfl) (fun a hf => ?_)
                                  refine stq hf rfl rfl rfl (ex_move hf rfl) (fun a hf => ?_)
                                  replace hf := hf.castB (t := 132) rfl (dec_f hc78)
                                  replace hf := hf.castB (t := 133) rfl (dec_f hc78)
                                  refine stepN hf rfl rfl rfl (fun a hf => ?_)
                                  refine stepN hf rfl rfl rfl (fun a hf => ?_)
                                  refine stepN hf rfl rfl rfl (fun a hf => ?_)
                                  refine stepN hf rfl rfl rfl (fun a hf => ?_)
                                  refine stepN hf rfl rfl rfl (fun a hf => ?_)
                                  refine stq hf rfl rfl rfl (ex_pickF hf rfl rfl) (fun a hf => ?_)
                                  refine stq hf rfl rfl rfl (ex_move hf rfl) (fun a hf => ?_)
                                  refine stq hf rfl rfl rfl (ex_fieldAddrB fa_84_0 rfl hf rfl) (fun a hf => ?_)
                                  refine stq hf rfl rfl rfl (ex_load sc_3 hf rfl (bx_cell (hs.get (i := 0) rfl) _ rfl)) (fun a hf => ?_)
                                  refine stq hf rfl rfl rfl (ex_fieldAddrB fa_84_1 rfl hf rfl) (fun a hf => ?_)
                                  refine stq hf rfl rfl rfl (ex_load sc_3 hf rfl (bx_cell (hs.get (i := 5) rfl) _ rfl)) (fun a hf => ?_)
                                  refine stq hf rfl rfl rfl (ex_eql hf rfl rfl) (fun a hf => ?_)
                                  refine stq hf rfl rfl rfl (ex_move hf rfl) (fun a hf => ?_)
                                  replace hf := hf.castB (t := 145) rfl (dec_t hc84)
                                  replace hf := hf.castB (t := 146) rfl (dec_t hc84)
                                  refine stq hf rfl rfl rfl (ex_fieldAddrB fa_84_1 rfl hf rfl) (fun a hf => ?_)
                                  refine stq hf rfl rfl rfl (ex_load sc_3 hf rfl (bx_cell (hs.get (i := 0) rfl) _ rfl)) (fun a hf => ?_)
                                  refine stq hf rfl rfl rfl (ex_fieldAddrB fa_84_0 rfl hf rfl) (fun a hf => ?_)
                                  refine stq hf rfl rfl rfl (ex_load sc_3 hf rfl (bx_cell (hs.get (i := 5) rfl) _ rfl)) (fun a hf => ?_)
                                  refine stq hf rfl rfl rfl (ex_eql hf rfl rfl) (fun a hf => ?_)
                                  refine stq hf rfl rfl rfl (ex_pickT hf rfl rfl) (fun a hf => ?_)
                                  refine stq hf rfl rfl rfl (ex_pickF hf rfl rfl) (fun a hf => ?_)
                                  refine stq hf rfl rfl rfl (ex_not hf rfl) (fun a hf => ?_)
                                  refine stq hf rfl rfl rfl (ex_pickT hf rfl rfl) (fun a hf => ?_)
                                  refine stq hf rfl rfl rfl (ex_assign hf rfl) (fun a hf => ?_)
                                  refine hK85 _ _ ?_
                                  refine hN73 _ _ ?_
                                  replace hs := hs.keep (.d (.k (.k (.k (.k (.k .nil))))))
                                  have e72 := some_eq H; subst e72
                                  exact hJ72 _ _ ⟨hf.sub ⟨rfl, rfl, rfl, rfl, rfl, rfl, rfl, rfl, trivial⟩, hs⟩
                                · -- not ((gd HeatLink.zero y37 y66).A) = s53
                                  refine region_k (fun K86 hK86 => ?_)
                                  refine stq hf rfl rfl rfl (ex_move hf rfl) (fun a hf => ?_)
                                  refine stq hf rfl rfl rfl (ex_move hf rfl) (fun a hf => ?_)
                                  replace hf := hf.castB (t := 12) rfl hc77
                                  replace hf := hf.castB (t := 126) rfl hc77
                                  replace hf := hf.castB (t := 127) rfl hc77
                                  refine stq hf rfl rfl rfl (ex_fieldAddrB fa_84_0 rfl hf rfl) (fun a hf => ?_)
                                  refine stq hf rfl rfl rfl (ex_load sc_3 hf rfl (bx_cell (hs.get (i := 0) rfl) _ rfl)) (fun a hf => ?_)
                                  refine stq hf rfl rfl rfl (ex_fieldAddrB fa_84_0 rfl hf rfl) (fun a hf => ?_)
                                  refine stq hf rfl rfl rfl (ex_load sc_3 hf rfl (bx_cell (hs.get (i := 5) rfl) _ rfl)) (fun a hf => ?_)
                                  refine stq hf rfl rfl rfl (ex_eql hf rfl rfl) (fun a hf => ?_)
                                  refine stq hf rfl rfl rfl (ex_move hf rfl) (fun a hf => ?_)
                                  replace hf := hf.castB (t := 132) rfl (dec_f hc78)
                                  replace hf := hf.castB (t := 133) rfl (dec_f hc78)
                                  refine stepN hf rfl rfl rfl (fun a hf => ?_)
                                  refine stepN hf rfl rfl rfl (fun a hf => ?_)
                                  refine stepN hf rfl rfl rfl (fun a hf => ?_)
                                  refine stepN hf rfl rfl rfl (fun a hf => ?_)
                                  refine stepN hf rfl rfl rfl (fun a hf => ?_)
                                  refine stq hf rfl rfl rfl (ex_pickF hf rfl rfl) (fun a hf => ?_)
                                  refine stq hf rfl rfl rfl (ex_move hf rfl) (fun a hf => ?_)
                                  refine stq hf rfl rfl rfl (ex_fieldAddrB fa_84_0 rfl hf rfl) (fun a hf => ?_)
                                  refine stq hf rfl rfl rfl (ex_load sc_3 hf rfl (bx_cell (hs.get (i := 0) rfl) _ rfl)) (fun a hf => ?_)
                                  refine stq hf rfl rfl rfl (ex_fieldAddrB fa_84_1 rfl hf rfl) (fun a hf => ?_)
                                  refine stq hf rfl rfl rfl (ex_load sc_3 hf rfl (bx_cell (hs.get (i := 5) rfl) _ rfl)) (fun a hf => ?_)
                                  refine stq hf rfl rfl rfl (ex_eql hf rfl rfl) (fun a hf => ?_)
                                  refine stq hf rfl rfl rfl (ex_move hf rfl) (fun a hf => ?_)
                                  replace hf := hf.castB (t := 145) rfl (dec_f hc84)
                                  replace hf := hf.castB (t := 146) rfl (dec_f hc84)
                                  refine stepN hf rfl rfl rfl (fun a hf => ?_)
                                  refine stepN hf rfl rfl rfl (fun a hf => ?_)
                                  refine stepN hf rfl rfl rfl (fun a hf => ?_)
                                  refine stepN hf rfl rfl rfl (fun a hf => ?_)
                                  refine stepN hf rfl rfl rfl (fun a hf => ?_)
                                  refine stq hf rfl rfl rfl (ex_pickF hf rfl rfl) (fun a hf => ?_)
                                  refine stq hf rfl rfl rfl (ex_pickF hf rfl rfl) (fun a hf => ?_)
                                  refine stq hf rfl rfl rfl (ex_not hf rfl) (fun a hf => ?_)
                                  refine stq hf rfl rfl rfl (ex_pickT hf rfl rfl) (fun a hf => ?_)
                                  refine stq hf rfl rfl rfl (ex_assign hf rfl) (fun a hf => ?_)
                                  refine hK86 _ _ ?_
                                  refine hN73 _ _ ?_
                                  replace hs := hs.keep (.d (.k (.k (.k (.k (.k .nil))))))
                                  have e72 := some_eq H; subst e72
                                  exact hJ72 _ _ ⟨hf.sub ⟨rfl, rfl, rfl, rfl, rfl, rfl, rfl, rfl, trivial⟩, hs⟩
                            · -- not y65 = true
                              refine region_k (fun K87 hK87 => ?_)
                              refine stq hf rfl rfl rfl (ex_move hf rfl) (fun a hf => ?_)
                              refine stq hf rfl rfl rfl (ex_move hf rfl) (fun a hf => ?_)
                              replace hf := hf.castB (t := 12) rfl (bool_f hc77)
                              replace hf := hf.castB (t := 126) rfl (bool_f hc77)
                              replace hf := hf.castB (t := 127) rfl (bool_f hc77)
                              refine stepN hf rfl rfl rfl (fun a hf => ?_)
                              refine stepN hf rfl rfl rfl (fun a hf => ?_)
                              refine stepN hf rfl rfl rfl (fun a hf => ?_)
                              refine stepN hf rfl rfl rfl (fun a hf => ?_)
                              refine stepN hf rfl rfl rfl (fun a hf => ?_)
                              refine stepN hf rfl rfl rfl (fun a hf => ?_)
                              refine stepN hf rfl rfl rfl (fun a hf => ?_)
                              refine stepN hf rfl rfl rfl (fun a hf => ?_)
                              refine stepN hf rfl rfl rfl (fun a hf => ?_)
                              refine stepN hf rfl rfl rfl (fun a hf => ?_)
                              refine stepN hf rfl rfl rfl (fun a hf => ?_)
                              refine stepN hf rfl rfl rfl (fun a hf => ?_)
                              refine stepN hf rfl rfl rfl (fun a hf => ?_)
                              refine stepN hf rfl rfl rfl (fun a hf => ?_)
                              refine stepN hf rfl rfl rfl (fun a hf => ?_)
                              refine stepN hf rfl rfl rfl (fun a hf => ?_)
                              refine stepN hf rfl rfl rfl (fun a hf => ?_)
                              refine stepN hf rfl rfl rfl (fun a hf => ?_)
                              refine stepN hf rfl rfl rfl (fun a hf => ?_)
                              refine stepN hf rfl rfl rfl (fun a hf => ?_)
                              refine stepN hf rfl rfl rfl (fun a hf => ?_)
                              refine stepN hf rfl rfl rfl (fun a hf => ?_)
                              refine stepN hf rfl rfl rfl (fun a hf => ?_)
                              refine stepN hf rfl rfl rfl (fun a hf => ?_)
                              refine stepN hf rfl rfl rfl (fun a hf => ?_)
                              refine stepN hf rfl rfl rfl (fun a hf => ?_)
                              refine stepN hf rfl rfl rfl (fun a hf => ?_)
                              refine stq hf rfl rfl rfl (ex_pickF hf rfl rfl) (fun a hf => ?_)
                              refine stq hf rfl rfl rfl (ex_assign hf rfl) (fun a hf => ?_)
                              refine hK87 _ _ ?_
                              refine hN73 _ _ ?_
                              replace hs := hs.keep (.d (.k (.k (.k (.k (.k .nil))))))
                              have e72 := some_eq H; subst e72
                              exact hJ72 _ _ ⟨hf.sub ⟨rfl, rfl, rfl, rfl, rfl, rfl, rfl, rfl, trivial⟩, hs⟩
                          · obtain ⟨hf, hs⟩ := hJ
                            replace H := HO72
                            clear HO72
                            refine region_k (fun K88 hK88 => ?_)
                            refine stq hf rfl rfl rfl (ex_move hf rfl) (fun a hf => ?_)
                            refine stq hf rfl rfl rfl (ex_add hf rfl rfl) (fun a hf => ?_)
                            refine stq hf rfl rfl rfl (ex_assign hf rfl) (fun a hf => ?_)
                            refine hK88 _ _ ?_
                            exact hL68 k68 _ _ (Nat.lt_succ_self _) ⟨x72, (IntKind.i64.wrap (y66 + 1)), hf.sub ⟨rfl, rfl, rfl, rfl, rfl, rfl, rfl, rfl, trivial⟩, hs, H⟩
                        · -- not y66 < (y37.length : Int)
                          replace hf := hf.castB (t := 118) rfl (dec_f hc71)
                          refine cond_F hf rfl ?_
                          refine wp_exit ?_
                          refine hX69 4 _ _ ?_
                          refine hX68 4 _ _ ?_
                          refine hX64 _ _ ?_
                          have e62 := some_eq H; subst e62
                          exact hJ62 _ _ ⟨hf.sub ⟨rfl, rfl, rfl, rfl, rfl, rfl, rfl, trivial⟩, hs⟩
                  · obtain ⟨hf, hs⟩ := hJ
                    replace H := HO62
                    clear HO62
                    refine seq_reg (fun K89 hK89 => ?_)
                    refine stq hf rfl rfl rfl (ex_move hf rfl) (fun a hf => ?_)
                    refine hK89 _ _ ?_
                    refine itt H (fun hc90 H => ?_) (fun hc90 H => ?_)
                    · -- x62 = true
                      replace hf := hf.castB (t := 12) rfl hc90
                      replace hf := hf.castB (t := 156) rfl hc90
                      refine cond_T hf rfl ?_
                      refine ck_some H (fun hc92 H => ?_)
                      refine seq_reg (fun K94 hK94 => ?_)
                      refine stq hf rfl rfl rfl (ex_fieldAddrB fa_38_1 rfl hf rfl) (fun a hf => ?_)
                      refine stq hf rfl rfl rfl (ex_load sc_36 hf rfl (bx_cell (hs.get (i := 1) rfl) _ rfl)) (fun a hf => ?_)
                      refine stq hf rfl rfl rfl (ex_loadA (cs := [.int .i64 s52, .int .i64 s53, .int .i64 (IntKind.i64.wrap (1 + (IntKind.i64.wrap (Int.tmod (IntKind.u64.wrap ((gd HeatLink.zero a1 y38).Conductance)) 5))))]) ag_84 hf rfl (bx_cells (hs.get (i := 4) rfl) rfl)) (fun a hf => ?_)
                      refine stepV hf rfl rfl rfl (er_buildSlice (K := K_api_HeatLink) (xs := [(⟨s52, s53, (IntKind.i64.wrap (1 + (IntKind.i64.wrap (Int.tmod (IntKind.u64.wrap ((gd HeatLink.zero a1 y38).Conductance)) 5))))⟩ : HeatLink)]) hs Try.underlying36 ep_84 rfl rfl hf rfl (.cons rfl .nil) rfl rfl) (fun v91 w hs a hf => ?_)
                      refine stepV hf rfl rfl rfl (er_append (K := K_api_HeatLink) hs (.k (.k (.k (.k (.c (.k .nil)))))) (osl_rsl _ (hs.get (i := 0) rfl)) rfl Try.underlying36 ep_84 hc92 rfl hf rfl rfl) (fun v93 w hs a hf => ?_)
                      refine stq hf rfl rfl rfl (ex_fieldAddrB fa_38_1 rfl hf rfl) (fun a hf => ?_)
                      refine stepS hf rfl rfl (er_storeB hs (.k (.k (.k (.c (.k (.k .nil)))))) hf rfl rfl (IsSl.one (rsl_isSl (osl_rsl _ (hs.get (i := 0) rfl)))) sz_36 rfl) (fun w hs => ?_)
                      refine hK94 _ _ ?_
                      refine seq_n (fun Q95 hN95 hR95 hX95 => ?_)
                      refine ck_some H (fun hc96 H => ?_)
                      refine region_d fol 14 [(1, v1), (6, .pointer (some ⟨b1, 0, none⟩)), (7, .int .i64 (mx 1 (mn (a0.length : Int) 5))), (8, .pointer (some ⟨b6, 0, none⟩)), (10, .int .i64 y38), (11, .pointer (some ⟨b55, 0, none⟩))] [(0, .pointer (some ⟨b6, 0, none⟩)), (1, v5), (2, .pointer (some ⟨b55, 0, none⟩)), (3, .int .i64 s52), (4, .pointer (some ⟨b6, 0, none⟩)), (5, v5), (6, .pointer (some ⟨b55, 0, none⟩)), (7, .int .i64 s52), (8, .pointer (some (sla v5 (s52.toNat * 2)))), (9, .pointer (some (sla v5 (s52.toNat * 2 + 0)))), (10, .int .i64 ((gd HeatDomain.zero y36 s52).Capacity)), (11, .pointer (some ⟨b55, 2, none⟩)), (12, .int .i64 (IntKind.i64.wrap (1 + (IntKind.i64.wrap (Int.tmod (IntKind.u64.wrap ((gd HeatLink.zero a1 y38).Conductance)) 5))))), (13, .int .i64 (IntKind.i64.wrap (((gd HeatDomain.zero y36 s52).Capacity) + (IntKind.i64.wrap (1 + (IntKind.i64.wrap (Int.tmod (IntKind.u64.wrap ((gd HeatLink.zero a1 y38).Conductance)) 5)))))))] [] (fun w => (bx b6 38 [v5, v93, .int .i64 (IntKind.i64.wrap ((IntKind.i64.wrap (Int.tmod (IntKind.u64.wrap a2) 201)) - 100))]).ok w ∧ (bx b55 84 [.int .i64 s52, .int .i64 s53, .int .i64 (IntKind.i64.wrap (1 + (IntKind.i64.wrap (Int.tmod (IntKind.u64.wrap ((gd HeatLink.zero a1 y38).Conductance)) 5))))]).ok w ∧ (osl K_api_HeatDomain v5 y36).ok w ∧ True) (fun w => St M w0 w [bx b6 38 [v5, v93, .int .i64 (IntKind.i64.wrap ((IntKind.i64.wrap (Int.tmod (IntKind.u64.wrap a2) 201)) - 100))], osl K_api_HeatLink v93 (y37 ++ [(⟨s52, s53, (IntKind.i64.wrap (1 + (IntKind.i64.wrap (Int.tmod (IntKind.u64.wrap ((gd HeatLink.zero a1 y38).Conductance)) 5))))⟩ : HeatLink)]), osl K_api_HeatLink v91 [(⟨s52, s53, (IntKind.i64.wrap (1 + (IntKind.i64.wrap (Int.tmod (IntKind.u64.wrap ((gd HeatLink.zero a1 y38).Conductance)) 5))))⟩ : HeatLink)], bx b1 38 [(.slice none 0 0), (.slice none 0 0), .int .i64 0], osl K_api_HeatDomain v5 y36, bx b55 84 [.int .i64 s52, .int .i64 s53, .int .i64 (IntKind.i64.wrap (1 + (IntKind.i64.wrap (Int.tmod (IntKind.u64.wrap ((gd HeatLink.zero a1 y38).Conductance)) 5))))]]) hf ⟨rfl, rfl, rfl, rfl, rfl, rfl, trivial⟩ (by kernel_rfl) (by kernel_rfl) rfl (by decide) ⟨hs.drew.get (i := 0) rfl, hs.drew.get (i := 5) rfl, hs.drew.get (i := 4) rfl, trivial⟩ hs.drew (.cons (⟨_, _, rfl, rfl, rfl, rfl, fun a w hR hf => .inl ⟨wanted_yes hf rfl, ex_fieldAddrB fa_38_0 rfl hf rfl⟩⟩) (.cons (⟨_, _, rfl, rfl, rfl, rfl, fun a w hR hf => .inl ⟨wanted_yes hf rfl, ex_load sc_35 hf rfl (bx_cell (hR.1) _ rfl)⟩⟩) (.cons (⟨_, _, rfl, rfl, rfl, rfl, fun a w hR hf => .inl ⟨wanted_yes hf rfl, ex_fieldAddrB fa_84_0 rfl hf rfl⟩⟩) (.cons (⟨_, _, rfl, rfl, rfl, rfl, fun a w hR hf => .inl ⟨wanted_yes hf rfl, ex_load sc_3 hf rfl (bx_cell (hR.2.1) _ rfl)⟩⟩) (.cons (⟨_, _, rfl, rfl, rfl, rfl, fun a w hR hf => .inl ⟨wanted_yes hf rfl, ex_fieldAddrB fa_38_0 rfl hf rfl⟩⟩) (.cons (⟨_, _, rfl, rfl, rfl, rfl, fun a w hR hf => .inl ⟨wanted_yes hf rfl, ex_load sc_35 hf rfl (bx_cell (hR.1) _ rfl)⟩⟩) (.cons (⟨_, _, rfl, rfl, rfl, rfl, fun a w hR hf => .inl ⟨wanted_yes hf rfl, ex_fieldAddrB fa_84_0 rfl hf rfl⟩⟩) (.cons (⟨_, _, rfl, rfl, rfl, rfl, fun a w hR hf => .inl ⟨wanted_yes hf rfl, ex_load sc_3 hf rfl (bx_cell (hR.2.1) _ rfl)⟩⟩) (.cons (⟨_, _, rfl, rfl, rfl, rfl, fun a w hR hf => .inl ⟨wanted_yes hf rfl, ex_indexAddr sa_35 (rsl_isSl (osl_rsl _ hR.2.2.1)) hc96.1 hc96.2 hf rfl rfl⟩⟩) (.cons (⟨_, _, rfl, rfl, rfl, rfl, fun a w hR hf => .inl ⟨wanted_yes hf rfl, ex_fieldAddrS fa_33_0 rfl hf rfl⟩⟩) (.cons (⟨_, _, rfl, rfl, rfl, rfl, fun a w hR hf => .inl ⟨wanted_yes hf rfl, ex_load sc_2 hf rfl (el_cell (K := K_api_HeatDomain) (f := 0) (rsl_rd (osl_rsl _ hR.2.2.1)) hc96.1 hc96.2 rfl)⟩⟩) (.cons (⟨_, _, rfl, rfl, rfl, rfl, fun a w hR hf => .inl ⟨wanted_yes hf rfl, ex_fieldAddrB fa_84_2 rfl hf rfl⟩⟩) (.cons (⟨_, _, rfl, rfl, rfl, rfl, fun a w hR hf => .inl ⟨wanted_yes hf rfl, ex_load sc_2 hf rfl (bx_cell (hR.2.1) _ rfl)⟩⟩) (.cons (⟨_, _, rfl, rfl, rfl, rfl, fun a w hR hf => .inl ⟨wanted_yes hf rfl, ex_add hf rfl rfl⟩⟩) (.nil))))))))))))))) (fun K97 hK97 => ?_)
                      refine RW.zero (by kernel_rfl) (by kernel_rfl) [(1, v1), (6, .pointer (some ⟨b1, 0, none⟩)), (7, .int .i64 (mx 1 (mn (a0.length : Int) 5))), (8, .pointer (some ⟨b6, 0, none⟩)), (10, .int .i64 y38), (11, .pointer (some ⟨b55, 0, none⟩)), (164, v5), (166, .int .i64 s52), (176, .int .i64 (IntKind.i64.wrap (((gd HeatDomain.zero y36 s52).Capacity) + (IntKind.i64.wrap (1 + (IntKind.i64.wrap (Int.tmod (IntKind.u64.wrap ((gd HeatLink.zero a1 y38).Conductance)) 5)))))))] ⟨rfl, rfl, rfl, rfl, rfl, rfl, rfl, rfl, rfl, trivial⟩ (fun a w hR hs hf => ?_)
                      refine stq hf rfl rfl rfl (ex_indexAddr sa_35 (rsl_isSl (osl_rsl _ (hs.get (i := 4) rfl))) hc96.1 hc96.2 hf rfl rfl) (fun a hf => ?_)
                      refine stq hf rfl rfl rfl (ex_fieldAddrS fa_33_0 rfl hf rfl) (fun a hf => ?_)
                      refine stepS hf rfl rfl (er_storeE (K := K_api_HeatDomain) (f := 0) (x' := (⟨(IntKind.i64.wrap (((gd HeatDomain.zero y36 s52).Capacity) + (IntKind.i64.wrap (1 + (IntKind.i64.wrap (Int.tmod (IntKind.u64.wrap ((gd HeatLink.zero a1 y38).Conductance)) 5)))))), ((gd HeatDomain.zero y36 s52).Ambient)⟩ : HeatDomain)) hs (.k (.k (.k (.k (.c (.k .nil)))))) hc96.1 hc96.2 hf rfl rfl rfl sz_2 rfl rfl) (fun w hs => ?_)
                      refine hK97 _ _ ?_
                      refine hN95 _ _ ?_
                      refine ck_some H (fun hc98 H => ?_)
                      refine region_d fol 14 [(1, v1), (6, .pointer (some ⟨b1, 0, none⟩)), (7, .int .i64 (mx 1 (mn (a0.length : Int) 5))), (8, .pointer (some ⟨b6, 0, none⟩)), (10, .int .i64 y38), (11, .pointer (some ⟨b55, 0, none⟩))] [(0, .pointer (some ⟨b6, 0, none⟩)), (1, v5), (2, .pointer (some ⟨b55, 1, none⟩)), (3, .int .i64 s53), (4, .pointer (some ⟨b6, 0, none⟩)), (5, v5), (6, .pointer (some ⟨b55, 1, none⟩)), (7, .int .i64 s53), (8, .pointer (some (sla v5 (s53.toNat * 2)))), (9, .pointer (some (sla v5 (s53.toNat * 2 + 0)))), (10, .int .i64 ((gd HeatDomain.zero (y36.set s52.toNat (⟨(IntKind.i64.wrap (((gd HeatDomain.zero y36 s52).Capacity) + (IntKind.i64.wrap (1 + (IntKind.i64.wrap (Int.tmod (IntKind.u64.wrap ((gd HeatLink.zero a1 y38).Conductance)) 5)))))), ((gd HeatDomain.zero y36 s52).Ambient)⟩ : HeatDomain)) s53).Capacity)), (11, .pointer (some ⟨b55, 2, none⟩)), (12, .int .i64 (IntKind.i64.wrap (1 + (IntKind.i64.wrap (Int.tmod (IntKind.u64.wrap ((gd HeatLink.zero a1 y38).Conductance)) 5))))), (13, .int .i64 (IntKind.i64.wrap (((gd HeatDomain.zero (y36.set s52.toNat (⟨(IntKind.i64.wrap (((gd HeatDomain.zero y36 s52).Capacity) + (IntKind.i64.wrap (1 + (IntKind.i64.wrap (Int.tmod (IntKind.u64.wrap ((gd HeatLink.zero a1 y38).Conductance)) 5)))))), ((gd HeatDomain.zero y36 s52).Ambient)⟩ : HeatDomain)) s53).Capacity) + (IntKind.i64.wrap (1 + (IntKind.i64.wrap (Int.tmod (IntKind.u64.wrap ((gd HeatLink.zero a1 y38).Conductance)) 5)))))))] [] (fun w => (bx b6 38 [v5, v93, .int .i64 (IntKind.i64.wrap ((IntKind.i64.wrap (Int.tmod (IntKind.u64.wrap a2) 201)) - 100))]).ok w ∧ (bx b55 84 [.int .i64 s52, .int .i64 s53, .int .i64 (IntKind.i64.wrap (1 + (IntKind.i64.wrap (Int.tmod (IntKind.u64.wrap ((gd HeatLink.zero a1 y38).Conductance)) 5))))]).ok w ∧ (osl K_api_HeatDomain v5 (y36.set s52.toNat (⟨(IntKind.i64.wrap (((gd HeatDomain.zero y36 s52).Capacity) + (IntKind.i64.wrap (1 + (IntKind.i64.wrap (Int.tmod (IntKind.u64.wrap ((gd HeatLink.zero a1 y38).Conductance)) 5)))))), ((gd HeatDomain.zero y36 s52).Ambient)⟩ : HeatDomain))).ok w ∧ True) (fun w => St M w0 w [osl K_api_HeatDomain v5 (y36.set s52.toNat (⟨(IntKind.i64.wrap (((gd HeatDomain.zero y36 s52).Capacity) + (IntKind.i64.wrap (1 + (IntKind.i64.wrap (Int.tmod (IntKind.u64.wrap ((gd HeatLink.zero a1 y38).Conductance)) 5)))))), ((gd HeatDomain.zero y36 s52).Ambient)⟩ : HeatDomain)), bx b6 38 [v5, v93, .int .i64 (IntKind.i64.wrap ((IntKind.i64.wrap (Int.tmod (IntKind.u64.wrap a2) 201)) - 100))], osl K_api_HeatLink v93 (y37 ++ [(⟨s52, s53, (IntKind.i64.wrap (1 + (IntKind.i64.wrap (Int.tmod (IntKind.u64.wrap ((gd HeatLink.zero a1 y38).Conductance)) 5))))⟩ : HeatLink)]), osl K_api_HeatLink v91 [(⟨s52, s53, (IntKind.i64.wrap (1 + (IntKind.i64.wrap (Int.tmod (IntKind.u64.wrap ((gd HeatLink.zero a1 y38).Conductance)) 5))))⟩ : HeatLink)], bx b1 38 [(.slice none 0 0), (.slice none 0 0), .int .i64 0], bx b55 84 [.int .i64 s52, .int .i64 s53, .int .i64 (IntKind.i64.wrap (1 + (IntKind.i64.wrap (Int.tmod (IntKind.u64.wrap ((gd HeatLink.zero a1 y38).Conductance)) 5))))]]) hf ⟨rfl, rfl, rfl, rfl, rfl, rfl, trivial⟩ (by kernel_rfl) (by kernel_rfl) rfl (by decide) ⟨hs.drew.get (i := 1) rfl, hs.drew.get (i := 5) rfl, hs.drew.get (i := 0) rfl, trivial⟩ hs.drew (.cons (⟨_, _, rfl, rfl, rfl, rfl, fun a w hR hf => .inl ⟨wanted_yes hf rfl, ex_fieldAddrB fa_38_0 rfl hf rfl⟩⟩) (.cons (⟨_, _, rfl, rfl, rfl, rfl, fun a w hR hf => .inl ⟨wanted_yes hf rfl, ex_load sc_35 hf rfl (bx_cell (hR.1) _ rfl)⟩⟩) (.cons (⟨_, _, rfl, rfl, rfl, rfl, fun a w hR hf => .inl ⟨wanted_yes hf rfl, ex_fieldAddrB fa_84_1 rfl hf rfl⟩⟩) (.cons (⟨_, _, rfl, rfl, rfl, rfl, fun a w hR hf => .inl ⟨wanted_yes hf rfl, ex_load sc_3 hf rfl (bx_cell (hR.2.1) _ rfl)⟩⟩) (.cons (⟨_, _, rfl, rfl, rfl, rfl, fun a w hR hf => .inl ⟨wanted_yes hf rfl, ex_fieldAddrB fa_38_0 rfl hf rfl⟩⟩) (.cons (⟨_, _, rfl, rfl, rfl, rfl, fun a w hR hf => .inl ⟨wanted_yes hf rfl, ex_load sc_35 hf rfl (bx_cell (hR.1) _ rfl)⟩⟩) (.cons (⟨_, _, rfl, rfl, rfl, rfl, fun a w hR hf => .inl ⟨wanted_yes hf rfl, ex_fieldAddrB fa_84_1 rfl hf rfl⟩⟩) (.cons (⟨_, _, rfl, rfl, rfl, rfl, fun a w hR hf => .inl ⟨wanted_yes hf rfl, ex_load sc_3 hf rfl (bx_cell (hR.2.1) _ rfl)⟩⟩) (.cons (⟨_, _, rfl, rfl, rfl, rfl, fun a w hR hf => .inl ⟨wanted_yes hf rfl, ex_indexAddr sa_35 (rsl_isSl (osl_rsl _ hR.2.2.1)) hc98.1 hc98.2 hf rfl rfl⟩⟩) (.cons (⟨_, _, rfl, rfl, rfl, rfl, fun a w hR hf => .inl ⟨wanted_yes hf rfl, ex_fieldAddrS fa_33_0 rfl hf rfl⟩⟩) (.cons (⟨_, _, rfl, rfl, rfl, rfl, fun a w hR hf => .inl ⟨wanted_yes hf rfl, ex_load sc_2 hf rfl (el_cell (K := K_api_HeatDomain) (f := 0) (rsl_rd (osl_rsl _ hR.2.2.1)) hc98.1 hc98.2 rfl)⟩⟩) (.cons (⟨_, _, rfl, rfl, rfl, rfl, fun a w hR hf => .inl ⟨wanted_yes hf rfl, ex_fieldAddrB fa_84_2 rfl hf rfl⟩⟩) (.cons (⟨_, _, rfl, rfl, rfl, rfl, fun a w hR hf => .inl ⟨wanted_yes hf rfl, ex_load sc_2 hf rfl (bx_cell (hR.2.1) _ rfl)⟩⟩) (.cons (⟨_, _, rfl, rfl, rfl, rfl, fun a w hR hf => .inl ⟨wanted_yes hf rfl, ex_add hf rfl rfl⟩⟩) (.nil))))))))))))))) (fun K99 hK99 => ?_)
                      refine RW.zero (by kernel_rfl) (by kernel_rfl) [(1, v1), (6, .pointer (some ⟨b1, 0, none⟩)), (7, .int .i64 (mx 1 (mn (a0.length : Int) 5))), (8, .pointer (some ⟨b6, 0, none⟩)), (10, .int .i64 y38), (180, v5), (182, .int .i64 s53), (192, .int .i64 (IntKind.i64.wrap (((gd HeatDomain.zero (y36.set s52.toNat (⟨(IntKind.i64.wrap (((gd HeatDomain.zero y36 s52).Capacity) + (IntKind.i64.wrap (1 + (IntKind.i64.wrap (Int.tmod (IntKind.u64.wrap ((gd HeatLink.zero a1 y38).Conductance)) 5)))))), ((gd HeatDomain.zero y36 s52).Ambient)⟩ : HeatDomain)) s53).Capacity) + (IntKind.i64.wrap (1 + (IntKind.i64.wrap (Int.tmod (IntKind.u64.wrap ((gd HeatLink.zero a1 y38).Conductance)) 5)))))))] ⟨rfl, rfl, rfl, rfl, rfl, rfl, rfl, rfl, trivial⟩ (fun a w hR hs hf => ?_)
                      refine stq hf rfl rfl rfl (ex_indexAddr sa_35 (rsl_isSl (osl_rsl _ (hs.get (i := 0) rfl))) hc98.1 hc98.2 hf rfl rfl) (fun a hf => ?_)
                      refine stq hf rfl rfl rfl (ex_fieldAddrS fa_33_0 rfl hf rfl) (fun a hf => ?_)
                      refine stepS hf rfl rfl (er_storeE (K := K_api_HeatDomain) (f := 0) (x' := (⟨(IntKind.i64.wrap (((gd HeatDomain.zero (y36.set s52.toNat (⟨(IntKind.i64.wrap (((gd HeatDomain.zero y36 s52).Capacity) + (IntKind.i64.wrap (1 + (IntKind.i64.wrap (Int.tmod (IntKind.u64.wrap ((gd HeatLink.zero a1 y38).Conductance)) 5)))))), ((gd HeatDomain.zero y36 s52).Ambient)⟩ : HeatDomain)) s53).Capacity) + (IntKind.i64.wrap (1 + (IntKind.i64.wrap (Int.tmod (IntKind.u64.wrap ((gd HeatLink.zero a1 y38).Conductance)) 5)))))), ((gd HeatDomain.zero (y36.set s52.toNat (⟨(IntKind.i64.wrap (((gd HeatDomain.zero y36 s52).Capacity) + (IntKind.i64.wrap (1 + (IntKind.i64.wrap (Int.tmod (IntKind.u64.wrap ((gd HeatLink.zero a1 y38).Conductance)) 5)))))), ((gd HeatDomain.zero y36 s52).Ambient)⟩ : HeatDomain)) s53).Ambient)⟩ : HeatDomain)) hs (.c (.k (.k (.k (.k (.k .nil)))))) hc98.1 hc98.2 hf rfl rfl rfl sz_2 rfl rfl) (fun w hs => ?_)
                      refine hK99 _ _ ?_
                      refine hN49 _ _ ?_
                      replace hs := hs.keep (.k (.k (.k (.d (.k (.d .nil))))))
                      replace hs := hs.pick (.k (.k (.c (.k .nil))))
                      replace hs := hs.pick (.k (.c (.k (.k .nil))))
                      replace hs := hs.pick (.k (.k (.c (.k .nil))))
                      replace hs := hs.pick (.k (.k (.k (.c .nil))))
                      have e47 := some_eq H; subst e47
                      exact hJ47 _ _ ⟨v93, hf.sub ⟨rfl, rfl, rfl, rfl, rfl, trivial⟩, hs⟩
                    · -- not x62 = true
                      replace hf := hf.castB (t := 12) rfl (bool_f hc90)
                      replace hf := hf.castB (t := 156) rfl (bool_f hc90)
                      refine cond_F hf rfl ?_
                      refine wp_skip ?_
                      refine hN49 _ _ ?_
                      replace hs := hs.keep (.k (.k (.k (.k (.d .nil)))))
                      have e47 := some_eq H; subst e47
                      exact hJ47 _ _ ⟨v35, hf.sub ⟨rfl, rfl, rfl, rfl, rfl, trivial⟩, hs⟩
              · obtain ⟨v48, hf, hs⟩ := hJ
                replace H := HO47
                clear HO47
                refine region_k (fun K100 hK100 => ?_)
                refine stq hf rfl rfl rfl (ex_move hf rfl) (fun a hf => ?_)
                refine stq hf rfl rfl rfl (ex_add hf rfl rfl) (fun a hf => ?_)
                refine stq hf rfl rfl rfl (ex_assign hf rfl) (fun a hf => ?_)
                refine hK100 _ _ ?_
                exact hL40 k40 _ _ (Nat.lt_succ_self _) ⟨x47.1, x47.2, (IntKind.i64.wrap (y38 + 1)), v48, hf.sub ⟨rfl, rfl, rfl, rfl, rfl, trivial⟩, hs, H⟩
            · -- not x42 = true
              replace hf := hf.castB (t := 82) rfl (bool_f hc46)
              refine cond_F hf rfl ?_
              refine wp_exit ?_
              refine hX41 2 _ _ ?_
              refine hX40 2 _ _ ?_
              refine hX34 _ _ ?_
              have e31 := some_eq H; subst e31
              exact hJ31 _ _ ⟨v35, hf.sub ⟨rfl, rfl, trivial⟩, hs⟩
    · obtain ⟨v32, hf, hs⟩ := hJ
      replace H := HO31
      clear HO31
      refine seq_reg (fun K101 hK101 => ?_)
      refine stq hf rfl rfl rfl (ex_loadA (cs := [v5, v32, .int .i64 (IntKind.i64.wrap ((IntKind.i64.wrap (Int.tmod (IntKind.u64.wrap a2) 201)) - 100))]) ag_38 hf rfl (bx_cells (hs.get (i := 1) rfl) rfl)) (fun a hf => ?_)
      refine stepS hf rfl rfl (er_storeAB (vs := [v5, v32, .int .i64 (IntKind.i64.wrap ((IntKind.i64.wrap (Int.tmod (IntKind.u64.wrap a2) 201)) - 100))]) (cs' := [v5, v32, .int .i64 (IntKind.i64.wrap ((IntKind.i64.wrap (Int.tmod (IntKind.u64.wrap a2) 201)) - 100))]) hs (.c (.k (.k (.k .nil)))) sz_38 hf rfl rfl (all1 (IsSl.one (rsl_isSl (osl_rsl _ (hs.get (i := 2) rfl)))) (all1 (IsSl.one (rsl_isSl (osl_rsl _ (hs.get (i := 3) rfl)))) (all1 rfl (all1_nil)))) rfl rfl) (fun w hs => ?_)
      refine hK101 _ _ ?_
      refine wp_ret ?_
      have eR := some_eq H; subst eR
      have hbox := hs.get (i := 0) rfl
      replace hs := hs.keep (.d (.d (.k (.k .nil))))
      exact retA (cs := [v5, v32, .int .i64 (IntKind.i64.wrap ((IntKind.i64.wrap (Int.tmod (IntKind.u64.wrap a2) 201)) - 100))]) Try.results13 ag_38 hf rfl hbox ⟨_, rfl, ⟨v5, v32, rfl, hs⟩⟩

set_option maxRecDepth 100000 in
theorem heat_inRange.calls {M : Nat → Prop} {w0 : World} (k : Nat) (a0 : Int) (a1 : Int) {r : Bool} (hs : St M w0 w0 []) (hr : Sr M w0 [])
    (h : heat_inRange.f k a0 a1 = some r) : Calls Try.prog 44 #[.int .i64 a0, .int .i64 a1] w0 fun e w => ∃ v, e = .returned v ∧ (.bool r = v ∧ St M w0 w []) := by
  have H := (heat_inRange.f.eq_1 ..).symm.trans h
  clear h
  refine enter Try.func44 rfl Try.ntmps44 rfl (fun a hf => ?_)
  refine seq_reg (fun K1 hK1 => ?_)
  refine stq hf rfl rfl rfl (ex_assign hf rfl) (fun a hf => ?_)
  refine hK1 _ _ ?_
  refine itt H (fun hc2 H => ?_) (fun hc2 H => ?_)
  · -- a1 ≤ a0
    refine seq_reg (fun K3 hK3 => ?_)
    refine stq hf rfl rfl rfl (ex_move hf rfl) (fun a hf => ?_)
    refine stq hf rfl rfl rfl (ex_move hf rfl) (fun a hf => ?_)
    refine stq hf rfl rfl rfl (ex_geq hf rfl rfl) (fun a hf => ?_)
    refine stq hf rfl rfl rfl (ex_move hf rfl) (fun a hf => ?_)
    replace hf := hf.castB (t := 7) rfl (dec_t hc2)
    replace hf := hf.castB (t := 8) rfl (dec_t hc2)
    refine stq hf rfl rfl rfl (ex_move hf rfl) (fun a hf => ?_)
    refine stq hf rfl rfl rfl (ex_leq hf rfl rfl) (fun a hf => ?_)
    refine stq hf rfl rfl rfl (ex_pickT hf rfl rfl) (fun a hf => ?_)
    refine stq hf rfl rfl rfl (ex_assign hf rfl) (fun a hf => ?_)
    refine hK3 _ _ ?_
    refine wp_ret ?_
    have eR := some_eq H; subst eR
    exact ret1 Try.results44 hf rfl ⟨_, rfl, ⟨rfl, hs⟩⟩
  · -- not a1 ≤ a0
    refine seq_reg (fun K4 hK4 => ?_)
    refine stq hf rfl rfl rfl (ex_move hf rfl) (fun a hf => ?_)
    refine stq hf rfl rfl rfl (ex_move hf rfl) (fun a hf => ?_)
    refine stq hf rfl rfl rfl (ex_geq hf rfl rfl) (fun a hf => ?_)
    refine stq hf rfl rfl rfl (ex_move hf rfl) (fun a hf => ?_)
    replace hf := hf.castB (t := 7) rfl (dec_f hc2)
    replace hf := hf.castB (t := 8) rfl (dec_f hc2)
    refine stepN hf rfl rfl rfl (fun a hf => ?_)
    refine stepN hf rfl rfl rfl (fun a hf => ?_)
    refine stq hf rfl rfl rfl (ex_pickF hf rfl rfl) (fun a hf => ?_)
    refine stq hf rfl rfl rfl (ex_assign hf rfl) (fun a hf => ?_)
    refine hK4 _ _ ?_
    refine wp_ret ?_
    have eR := some_eq H; subst eR
    exact ret1 Try.results44 hf rfl ⟨_, rfl, ⟨rfl, hs⟩⟩

set_option maxRecDepth 100000 in
theorem heat_connects.calls {M : Nat → Prop} {w0 : World} (k : Nat) (a0 : HeatLink) (a1 : HeatLink) {r : Bool} (hs : St M w0 w0 []) (hr : Sr M w0 [])
    (h : heat_connects.f k a0 a1 = some r) : Calls Try.prog 53 #[.agg #[.int .i64 a0.A, .int .i64 a0.B, .int .i64 a0.Conductance], .agg #[.int .i64 a1.A, .int .i64 a1.B, .int .i64 a1.Conductance]] w0 fun e w => ∃ v, e = .returned v ∧ (.bool r = v ∧ St M w0 w []) := by
  have H := (heat_connects.f.eq_1 ..).symm.trans h
  clear h
  refine enter Try.func53 rfl Try.ntmps53 rfl (fun a hf => ?_)
  refine seq_reg (fun K3 hK3 => ?_)
  refine stepV hf rfl rfl rfl (er_box (cs := [.int .i64 a0.A, .int .i64 a0.B, .int .i64 a0.Conductance]) hs hf rfl rfl) (fun v w hR a hf => ?_)
  obtain ⟨b1, rfl, hs⟩ := hR
  refine stepV hf rfl rfl rfl (er_box (cs := [.int .i64 a1.A, .int .i64 a1.B, .int .i64 a1.Conductance]) hs hf rfl rfl) (fun v w hR a hf => ?_)
  obtain ⟨b2, rfl, hs⟩ := hR
  refine stq hf rfl rfl rfl (ex_assign hf rfl) (fun a hf => ?_)
  refine hK3 _ _ ?_
  refine itt H (fun hc4 H => ?_) (fun hc4 H => ?_)
  · -- a0.A = a1.A
    refine itt H (fun hc5 H => ?_) (fun hc5 H => ?_)
    · -- a0.B = a1.B
      refine seq_reg (fun K6 hK6 => ?_)
      refine stq hf rfl rfl rfl (ex_fieldAddrB fa_84_0 rfl hf rfl) (fun a hf => ?_)
      refine stq hf rfl rfl rfl (ex_load sc_3 hf rfl (bx_cell (hs.get (i := 1) rfl) _ rfl)) (fun a hf => ?_)
      refine stq hf rfl rfl rfl (ex_fieldAddrB fa_84_0 rfl hf rfl) (fun a hf => ?_)
      refine stq hf rfl rfl rfl (ex_load sc_3 hf rfl (bx_cell (hs.get (i := 0) rfl) _ rfl)) (fun a hf => ?_)
      refine stq hf rfl rfl rfl (ex_eql hf rfl rfl) (fun a hf => ?_)
      refine stq hf rfl rfl rfl (ex_move hf rfl) (fun a hf => ?_)
      replace hf := hf.castB (t := 9) rfl (dec_t hc4)
      replace hf := hf.castB (t := 10) rfl (dec_t hc4)
      refine stq hf rfl rfl rfl (ex_fieldAddrB fa_84_1 rfl hf rfl) (fun a hf => ?_)
      refine stq hf rfl rfl rfl (ex_load sc_3 hf rfl (bx_cell (hs.get (i := 1) rfl) _ rfl)) (fun a hf => ?_)
      refine stq hf rfl rfl rfl (ex_fieldAddrB fa_84_1 rfl hf rfl) (fun a hf => ?_)
      refine stq hf rfl rfl rfl (ex_load sc_3 hf rfl (bx_cell (hs.get (i := 0) rfl) _ rfl)) (fun a hf => ?_)
      refine stq hf rfl rfl rfl (ex_eql hf rfl rfl) (fun a hf => ?_)
      refine stq hf rfl rfl rfl (ex_pickT hf rfl rfl) (fun a hf => ?_)
      refine stq hf rfl rfl rfl (ex_move hf rfl) (fun a hf => ?_)
      replace hf := hf.castB (t := 15) rfl (dec_t hc5)
      replace hf := hf.castB (t := 16) rfl (dec_t hc5)
      replace hf := hf.castB (t := 17) rfl (dec_t hc5)
      refine stepN hf rfl rfl rfl (fun a hf => ?_)
      refine stepN hf rfl rfl rfl (fun a hf => ?_)
      refine stepN hf rfl rfl rfl (fun a hf => ?_)
      refine stepN hf rfl rfl rfl (fun a hf => ?_)
      refine stepN hf rfl rfl rfl (fun a hf => ?_)
      refine stepN hf rfl rfl rfl (fun a hf => ?_)
      refine stepN hf rfl rfl rfl (fun a hf => ?_)
      refine stepN hf rfl rfl rfl (fun a hf => ?_)
      refine stepN hf rfl rfl rfl (fun a hf => ?_)
      refine stepN hf rfl rfl rfl (fun a hf => ?_)
      refine stepN hf rfl rfl rfl (fun a hf => ?_)
      refine stepN hf rfl rfl rfl (fun a hf => ?_)
      refine stq hf rfl rfl rfl (ex_pickT hf rfl rfl) (fun a hf => ?_)
      refine stq hf rfl rfl rfl (ex_assign hf rfl) (fun a hf => ?_)
      refine hK6 _ _ ?_
      refine wp_ret ?_
      have eR := some_eq H; subst eR
      replace hs := hs.keep (.d (.d .nil))
      exact ret1 Try.results53 hf rfl ⟨_, rfl, ⟨rfl, hs⟩⟩
    · -- not a0.B = a1.B
      refine itt H (fun hc7 H => ?_) (fun hc7 H => ?_)
      · -- a0.A = a1.B
        refine seq_reg (fun K8 hK8 => ?_)
        refine stq hf rfl rfl rfl (ex_fieldAddrB fa_84_0 rfl hf rfl) (fun a hf => ?_)
        refine stq hf rfl rfl rfl (ex_load sc_3 hf rfl (bx_cell (hs.get (i := 1) rfl) _ rfl)) (fun a hf => ?_)
        refine stq hf rfl rfl rfl (ex_fieldAddrB fa_84_0 rfl hf rfl) (fun a hf => ?_)
        refine stq hf rfl rfl rfl (ex_load sc_3 hf rfl (bx_cell (hs.get (i := 0) rfl) _ rfl)) (fun a hf => ?_)
        refine stq hf rfl rfl rfl (ex_eql hf rfl rfl) (fun a hf => ?_)
        refine stq hf rfl rfl rfl (ex_move hf rfl) (fun a hf => ?_)
        replace hf := hf.castB (t := 9) rfl (dec_t hc4)
        replace hf := hf.castB (t := 10) rfl (dec_t hc4)
        refine stq hf rfl rfl rfl (ex_fieldAddrB fa_84_1 rfl hf rfl) (fun a hf => ?_)
        refine stq hf rfl rfl rfl (ex_load sc_3 hf rfl (bx_cell (hs.get (i := 1) rfl) _ rfl)) (fun a hf => ?_)
        refine stq hf rfl rfl rfl (ex_fieldAddrB fa_84_1 rfl hf rfl) (fun a hf => ?_)
        refine stq hf rfl rfl rfl (ex_load sc_3 hf rfl (bx_cell (hs.get (i := 0) rfl) _ rfl)) (fun a hf => ?_)
        refine stq hf rfl rfl rfl (ex_eql hf rfl rfl) (fun a hf => ?_)
        refine stq hf rfl rfl rfl (ex_pickT hf rfl rfl) (fun a hf => ?_)
        refine stq hf rfl rfl rfl (ex_move hf rfl) (fun a hf => ?_)
        replace hf := hf.castB (t := 15) rfl (dec_f hc5)
        replace hf := hf.castB (t := 16) rfl (dec_f hc5)
        replace hf := hf.castB (t := 17) rfl (dec_f hc5)
        refine stq hf rfl rfl rfl (ex_fieldAddrB fa_84_0 rfl hf rfl) (fun a hf => ?_)
        refine stq hf rfl rfl rfl (ex_load sc_3 hf rfl (bx_cell (hs.get (i := 1) rfl) _ rfl)) (fun a hf => ?_)
        refine stq hf rfl rfl rfl (ex_fieldAddrB fa_84_1 rfl hf rfl) (fun a hf => ?_)
        refine stq hf rfl rfl rfl (ex_load sc_3 hf rfl (bx_cell (hs.get (i := 0) rfl) _ rfl)) (fun a hf => ?_)
        refine stq hf rfl rfl rfl (ex_eql hf rfl rfl) (fun a hf => ?_)
        refine stq hf rfl rfl rfl (ex_move hf rfl) (fun a hf => ?_)
        replace hf := hf.castB (t := 22) rfl (dec_t hc7)
        replace hf := hf.castB (t := 23) rfl (dec_t hc7)
        refine stq hf rfl rfl rfl (ex_fieldAddrB fa_84_1 rfl hf rfl) (fun a hf => ?_)
        refine stq hf rfl rfl rfl (ex_load sc_3 hf rfl (bx_cell (hs.get (i := 1) rfl) _ rfl)) (fun a hf => ?_)
        refine stq hf rfl rfl rfl (ex_fieldAddrB fa_84_0 rfl hf rfl) (fun a hf => ?_)
        refine stq hf rfl rfl rfl (ex_load sc_3 hf rfl (bx_cell (hs.get (i := 0) rfl) _ rfl)) (fun a hf => ?_)
        refine stq hf rfl rfl rfl (ex_eql hf rfl rfl) (fun a hf => ?_)
        refine stq hf rfl rfl rfl (ex_pickT hf rfl rfl) (fun a hf => ?_)
        refine stq hf rfl rfl rfl (ex_pickF hf rfl rfl) (fun a hf => ?_)
        refine stq hf rfl rfl rfl (ex_assign hf rfl) (fun a hf => ?_)
        refine hK8 _ _ ?_
        refine wp_ret ?_
        have eR := some_eq H; subst eR
        replace hs := hs.keep (.d (.d .nil))
        exact ret1 Try.results53 hf rfl ⟨_, rfl, ⟨rfl, hs⟩⟩
      · -- not a0.A = a1.B
        refine seq_reg (fun K9 hK9 => ?_)
        refine stq hf rfl rfl rfl (ex_fieldAddrB fa_84_0 rfl hf rfl) (fun a hf => ?_)
        refine stq hf rfl rfl rfl (ex_load sc_3 hf rfl (bx_cell (hs.get (i := 1) rfl) _ rfl)) (fun a hf => ?_)
        refine stq hf rfl rfl rfl (ex_fieldAddrB fa_84_0 rfl hf rfl) (fun a hf => ?_)
        refine stq hf rfl rfl rfl (ex_load sc_3 hf rfl (bx_cell (hs.get (i := 0) rfl) _ rfl)) (fun a hf => ?_)
        refine stq hf rfl rfl rfl (ex_eql hf rfl rfl) (fun a hf => ?_)
        refine stq hf rfl rfl rfl (ex_move hf rfl) (fun a hf => ?_)
        replace hf := hf.castB (t := 9) rfl (dec_t hc4)
        replace hf := hf.castB (t := 10) rfl (dec_t hc4)
        refine stq hf rfl rfl rfl (ex_fieldAddrB fa_84_1 rfl hf rfl) (fun a hf => ?_)
        refine stq hf rfl rfl rfl (ex_load sc_3 hf rfl (bx_cell (hs.get (i := 1) rfl) _ rfl)) (fun a hf => ?_)
        refine stq hf rfl rfl rfl (ex_fieldAddrB fa_84_1 rfl hf rfl) (fun a hf => ?_)
        refine stq hf rfl rfl rfl (ex_load sc_3 hf rfl (bx_cell (hs.get (i := 0) rfl) _ rfl)) (fun a hf => ?_)
        refine stq hf rfl rfl rfl (ex_eql hf rfl rfl) (fun a hf => ?_)
        refine stq hf rfl rfl rfl (ex_pickT hf rfl rfl) (fun a hf => ?_)
        refine stq hf rfl rfl rfl (ex_move hf rfl) (fun a hf => ?_)
        replace hf := hf.castB (t := 15) rfl (dec_f hc5)
        replace hf := hf.castB (t := 16) rfl (dec_f hc5)
        replace hf := hf.castB (t := 17) rfl (dec_f hc5)
        refine stq hf rfl rfl rfl (ex_fieldAddrB fa_84_0 rfl hf rfl) (fun a hf => ?_)
        refine stq hf rfl rfl rfl (ex_load sc_3 hf rfl (bx_cell (hs.get (i := 1) rfl) _ rfl)) (fun a hf => ?_)
        refine stq hf rfl rfl rfl (ex_fieldAddrB fa_84_1 rfl hf rfl) (fun a hf => ?_)
        refine stq hf rfl rfl rfl (ex_load sc_3 hf rfl (bx_cell (hs.get (i := 0) rfl) _ rfl)) (fun a hf => ?_)
        refine stq hf rfl rfl rfl (ex_eql hf rfl rfl) (fun a hf => ?_)
        refine stq hf rfl rfl rfl (ex_move hf rfl) (fun a hf => ?_)
        replace hf := hf.castB (t := 22) rfl (dec_f hc7)
        replace hf := hf.castB (t := 23) rfl (dec_f hc7)
        refine stepN hf rfl rfl rfl (fun a hf => ?_)
        refine stepN hf rfl rfl rfl (fun a hf => ?_)
        refine stepN hf rfl rfl rfl (fun a hf => ?_)
        refine stepN hf rfl rfl rfl (fun a hf => ?_)
        refine stepN hf rfl rfl rfl (fun a hf => ?_)
        refine stq hf rfl rfl rfl (ex_pickF hf rfl rfl) (fun a hf => ?_)
        refine stq hf rfl rfl rfl (ex_pickF hf rfl rfl) (fun a hf => ?_)
        refine stq hf rfl rfl rfl (ex_assign hf rfl) (fun a hf => ?_)
        refine hK9 _ _ ?_
        refine wp_ret ?_
        have eR := some_eq H; subst eR
        replace hs := hs.keep (.d (.d .nil))
        exact ret1 Try.results53 hf rfl ⟨_, rfl, ⟨rfl, hs⟩⟩
  · -- not a0.A = a1.A
    refine itt H (fun hc10 H => ?_) (fun hc10 H => ?_)
    · -- a0.A = a1.B
      refine seq_reg (fun K11 hK11 => ?_)
      refine stq hf rfl rfl rfl (ex_fieldAddrB fa_84_0 rfl hf rfl) (fun a hf => ?_)
      refine stq hf rfl rfl rfl (ex_load sc_3 hf rfl (bx_cell (hs.get (i := 1) rfl) _ rfl)) (fun a hf => ?_)
      refine stq hf rfl rfl rfl (ex_fieldAddrB fa_84_0 rfl hf rfl) (fun a hf => ?_)
      refine stq hf rfl rfl rfl (ex_load sc_3 hf rfl (bx_cell (hs.get (i := 0) rfl) _ rfl)) (fun a hf => ?_)
      refine stq hf rfl rfl rfl (ex_eql hf rfl rfl) (fun a hf => ?_)
      refine stq hf rfl rfl rfl (ex_move hf rfl) (fun a hf => ?_)
      replace hf := hf.castB (t := 9) rfl (dec_f hc4)
      replace hf := hf.castB (t := 10) rfl (dec_f hc4)
      refine stepN hf rfl rfl rfl (fun a hf => ?_)
      refine stepN hf rfl rfl rfl (fun a hf => ?_)
      refine stepN hf rfl rfl rfl (fun a hf => ?_)
      refine stepN hf rfl rfl rfl (fun a hf => ?_)
      refine stepN hf rfl rfl rfl (fun a hf => ?_)
      refine stq hf rfl rfl rfl (ex_pickF hf rfl rfl) (fun a hf => ?_)
      refine stq hf rfl rfl rfl (ex_move hf rfl) (fun a hf => ?_)
      refine stq hf rfl rfl rfl (ex_fieldAddrB fa_84_0 rfl hf rfl) (fun a hf => ?_)
      refine stq hf rfl rfl rfl (ex_load sc_3 hf rfl (bx_cell (hs.get (i := 1) rfl) _ rfl)) (fun a hf => ?_)
      refine stq hf rfl rfl rfl (ex_fieldAddrB fa_84_1 rfl hf rfl) (fun a hf => ?_)
      refine stq hf rfl rfl rfl (ex_load sc_3 hf rfl (bx_cell (hs.get (i := 0) rfl) _ rfl)) (fun a hf => ?_)
      refine stq hf rfl rfl rfl (ex_eql hf rfl rfl) (fun a hf => ?_)
      refine stq hf rfl rfl rfl (ex_move hf rfl) (fun a hf => ?_)
      replace hf := hf.castB (t := 22) rfl (dec_t hc10)
      replace hf := hf.castB (t := 23) rfl (dec_t hc10)
      refine stq hf rfl rfl rfl (ex_fieldAddrB fa_84_1 rfl hf rfl) (fun a hf => ?_)
      refine stq hf rfl rfl rfl (ex_load sc_3 hf rfl (bx_cell (hs.get (i := 1) rfl) _ rfl)) (fun a hf => ?_)
      refine stq hf rfl rfl rfl (ex_fieldAddrB fa_84_0 rfl hf rfl) (fun a hf => ?_)
      refine stq hf rfl rfl rfl (ex_load sc_3 hf rfl (bx_cell (hs.get (i := 0) rfl) _ rfl)) (fun a hf => ?_)
      refine stq hf rfl rfl rfl (ex_eql hf rfl rfl) (fun a hf => ?_)
      refine stq hf rfl rfl rfl (ex_pickT hf rfl rfl) (fun a hf => ?_)
      refine stq hf rfl rfl rfl (ex_pickF hf rfl rfl) (fun a hf => ?_)
      refine stq hf rfl rfl rfl (ex_assign hf rfl) (fun a hf => ?_)
      refine hK11 _ _ ?_
      refine wp_ret ?_
      have eR := some_eq H; subst eR
      replace hs := hs.keep (.d (.d .nil))
      exact ret1 Try.results53 hf rfl ⟨_, rfl, ⟨rfl, hs⟩⟩
    · -- not a0.A = a1.B
      refine seq_reg (fun K12 hK12 => ?_)
      refine stq hf rfl rfl rfl (ex_fieldAddrB fa_84_0 rfl hf rfl) (fun a hf => ?_)
      refine stq hf rfl rfl rfl (ex_load sc_3 hf rfl (bx_cell (hs.get (i := 1) rfl) _ rfl)) (fun a hf => ?_)
      refine stq hf rfl rfl rfl (ex_fieldAddrB fa_84_0 rfl hf rfl) (fun a hf => ?_)
      refine stq hf rfl rfl rfl (ex_load sc_3 hf rfl (bx_cell (hs.get (i := 0) rfl) _ rfl)) (fun a hf => ?_)
      refine stq hf rfl rfl rfl (ex_eql hf rfl rfl) (fun a hf => ?_)
      refine stq hf rfl rfl rfl (ex_move hf rfl) (fun a hf => ?_)
      replace hf := hf.castB (t := 9) rfl (dec_f hc4)
      replace hf := hf.castB (t := 10) rfl (dec_f hc4)
      refine stepN hf rfl rfl rfl (fun a hf => ?_)
      refine stepN hf rfl rfl rfl (fun a hf => ?_)
      refine stepN hf rfl rfl rfl (fun a hf => ?_)
      refine stepN hf rfl rfl rfl (fun a hf => ?_)
      refine stepN hf rfl rfl rfl (fun a hf => ?_)
      refine stq hf rfl rfl rfl (ex_pickF hf rfl rfl) (fun a hf => ?_)
      refine stq hf rfl rfl rfl (ex_move hf rfl) (fun a hf => ?_)
      refine stq hf rfl rfl rfl (ex_fieldAddrB fa_84_0 rfl hf rfl) (fun a hf => ?_)
      refine stq hf rfl rfl rfl (ex_load sc_3 hf rfl (bx_cell (hs.get (i := 1) rfl) _ rfl)) (fun a hf => ?_)
      refine stq hf rfl rfl rfl (ex_fieldAddrB fa_84_1 rfl hf rfl) (fun a hf => ?_)
      refine stq hf rfl rfl rfl (ex_load sc_3 hf rfl (bx_cell (hs.get (i := 0) rfl) _ rfl)) (fun a hf => ?_)
      refine stq hf rfl rfl rfl (ex_eql hf rfl rfl) (fun a hf => ?_)
      refine stq hf rfl rfl rfl (ex_move hf rfl) (fun a hf => ?_)
      replace hf := hf.castB (t := 22) rfl (dec_f hc10)
      replace hf := hf.castB (t := 23) rfl (dec_f hc10)
      refine stepN hf rfl rfl rfl (fun a hf => ?_)
      refine stepN hf rfl rfl rfl (fun a hf => ?_)
      refine stepN hf rfl rfl rfl (fun a hf => ?_)
      refine stepN hf rfl rfl rfl (fun a hf => ?_)
      refine stepN hf rfl rfl rfl (fun a hf => ?_)
      refine stq hf rfl rfl rfl (ex_pickF hf rfl rfl) (fun a hf => ?_)
      refine stq hf rfl rfl rfl (ex_pickF hf rfl rfl) (fun a hf => ?_)
      refine stq hf rfl rfl rfl (ex_assign hf rfl) (fun a hf => ?_)
      refine hK12 _ _ ?_
      refine wp_ret ?_
      have eR := some_eq H; subst eR
      replace hs := hs.keep (.d (.d .nil))
      exact ret1 Try.results53 hf rfl ⟨_, rfl, ⟨rfl, hs⟩⟩

set_option maxRecDepth 100000 in
theorem heat_validLinks_1.calls {M : Nat → Prop} {w0 : World} (k : Nat) (a0 : HeatLink) (a1 : HeatLink) (b1 : Nat) {r : Bool} (hs : St M w0 w0 []) (hr : Sr M w0 [bx b1 84 [.int .i64 a1.A, .int .i64 a1.B, .int .i64 a1.Conductance]])
    (h : heat_validLinks_1.f k a0 a1 = some r) : Calls Try.prog 52 #[.agg #[.int .i64 a0.A, .int .i64 a0.B, .int .i64 a0.Conductance], .pointer (some ⟨b1, 0, none⟩)] w0 fun e w => ∃ v, e = .returned v ∧ (.bool r = v ∧ St M w0 w []) := by
  have H := (heat_validLinks_1.f.eq_1 ..).symm.trans h
  clear h
  refine enter Try.func52 rfl Try.ntmps52 rfl (fun a hf => ?_)
  refine seq_reg (fun K2 hK2 => ?_)
  refine stepV hf rfl rfl rfl (er_box (cs := [.int .i64 a0.A, .int .i64 a0.B, .int .i64 a0.Conductance]) hs hf rfl rfl) (fun v w hR a hf => ?_)
  obtain ⟨b1, rfl, hs⟩ := hR
  refine stq hf rfl rfl rfl (ex_assign hf rfl) (fun a hf => ?_)
  refine hK2 _ _ ?_
  refine bnd H (fun s3 hs3 H => ?_)
  refine seq_reg (fun K4 hK4 => ?_)
  refine stq hf rfl rfl rfl (ex_loadA (cs := [.int .i64 a1.A, .int .i64 a1.B, .int .i64 a1.Conductance]) ag_84 hf rfl (bx_cells (hr.now hs (i := 0) rfl) rfl)) (fun a hf => ?_)
  refine stq hf rfl rfl rfl (ex_loadA (cs := [.int .i64 a0.A, .int .i64 a0.B, .int .i64 a0.Conductance]) ag_84 hf rfl (bx_cells (hs.get (i := 0) rfl) rfl)) (fun a hf => ?_)
  refine stepF hf rfl rfl rfl (ex_call cf_53 hf rfl) (heat_connects.calls k a1 a0 (hs.enter (.k .nil)) (Sr.nil _ _) hs3) (fun v w hR a hf => ?_)
  obtain ⟨rfl, hs'⟩ := hR
  replace hs := hs.step (.k .nil) hs'
  clear hs'
  refine stq hf rfl rfl rfl (ex_assign hf rfl) (fun a hf => ?_)
  refine hK4 _ _ ?_
  refine wp_ret ?_
  have eR := some_eq H; subst eR
  replace hs := hs.keep (.d .nil)
  exact ret1 Try.results52 hf rfl ⟨_, rfl, ⟨rfl, hs⟩⟩

set_option maxRecDepth 100000 in
theorem slices_IndexFunc_api_HeatLink_api_HeatLink__validLinks_1.calls {M : Nat → Prop} {w0 : World} (k : Nat) (a0 : (List HeatLink)) (a1_0 : HeatLink) (v0 : Value) (b1_0 : Nat) {r : Int} (hs : St M w0 w0 []) (hr : Sr M w0 [rsl K_api_HeatLink v0 a0, bx b1_0 84 [.int .i64 a1_0.A, .int .i64 a1_0.B, .int .i64 a1_0.Conductance]])
    (h : slices_IndexFunc_api_HeatLink_api_HeatLink__validLinks_1.f k a0 a1_0 = some r) : Calls Try.prog 56 #[v0, .func (.func 52) #[] #[.pointer (some ⟨b1_0, 0, none⟩)]] w0 fun e w => ∃ v, e = .returned v ∧ (.int .i64 r = v ∧ St M w0 w []) := by
  have H := (slices_IndexFunc_api_HeatLink_api_HeatLink__validLinks_1.f.eq_1 ..).symm.trans h
  clear h
  refine enter Try.func56 rfl Try.ntmps56 rfl (fun a hf => ?_)
  refine seq_reg (fun K1 hK1 => ?_)
  refine stq hf rfl rfl rfl (ex_assign hf rfl) (fun a hf => ?_)
  refine hK1 _ _ ?_
  refine bnd H (fun x2 H2 HO2 => ?_)
  clear H
  refine seq_cut (fun a w => ∃ (x2s : Unit), x2 = .go x2s ∧ Fr a 19 [] ∧ St M w0 w []) (fun Q2 hJ2 hR2 hX2 => ?_) (fun a w hJ => ?_)
  · replace H := H2
    refine seq_reg (fun K3 hK3 => ?_)
    refine stq hf rfl rfl rfl (ex_move hf rfl) (fun a hf => ?_)
    refine stq hf rfl rfl rfl (ex_lenS Try.underlying36 (rsl_isSl (hr.now hs (i := 0) rfl)) hf rfl) (fun a hf => ?_)
    refine stq hf rfl rfl rfl (ex_move hf rfl) (fun a hf => ?_)
    refine hK3 _ _ ?_
    refine block_k (fun Q4 hN4 hR4 hX4 hY4 => ?_)
    refine loop_k (fun n a w => ∃ (y5 : Int), Fr a 19 [(0, v0), (1, .func (.func 52) #[] #[.pointer (some ⟨b1_0, 0, none⟩)]), (7, .int .i64 (a0.length : Int)), (8, .int .i64 y5)] ∧ St M w0 w [] ∧ slices_IndexFunc_api_HeatLink_api_HeatLink__validLinks_1.l1 n a0 a1_0 y5 = some x2) k ?_ (fun n7 a w hI Q7 hL7 hR7 hX7 => ?_)
    · -- at the start
      exact ⟨0, hf.sub ⟨rfl, rfl, rfl, rfl, trivial⟩, hs, H⟩
    · obtain ⟨y5, hf, hs, H⟩ := hI
      cases n7 with
      | zero => exact absurd H (by rw [slices_IndexFunc_api_HeatLink_api_HeatLink__validLinks_1.l1.eq_1]; intro h; cases h)
      | succ k7 =>
        replace H := (slices_IndexFunc_api_HeatLink_api_HeatLink__validLinks_1.l1.eq_2 ..).symm.trans H
        refine seq_reg (fun K8 hK8 => ?_)
        refine stq hf rfl rfl rfl (ex_lss hf rfl rfl) (fun a hf => ?_)
        refine hK8 _ _ ?_
        refine seq_n (fun Q9 hN9 hR9 hX9 => ?_)
        refine itt H (fun hc10 H => ?_) (fun hc10 H => ?_)
        · -- y5 < (a0.length : Int)
          replace hf := hf.castB (t := 9) rfl (dec_t hc10)
          refine cond_T hf rfl ?_
          refine wp_skip ?_
          refine hN9 _ _ ?_
          refine seq_n (fun Q11 hN11 hR11 hX11 => ?_)
          refine block_k (fun Q12 hN12 hR12 hX12 hY12 => ?_)
          refine seq_reg (fun K13 hK13 => ?_)
          refine stq hf rfl rfl rfl (ex_move hf rfl) (fun a hf => ?_)
          refine stq hf rfl rfl rfl (ex_assign hf rfl) (fun a hf => ?_)
          refine hK13 _ _ ?_
          refine ck_some H (fun hc14 H => ?_)
          refine bnd H (fun s15 hs15 H => ?_)
          refine seq_reg (fun K16 hK16 => ?_)
          refine stq hf rfl rfl rfl (ex_move hf rfl) (fun a hf => ?_)
          refine stq hf rfl rfl rfl (ex_move hf rfl) (fun a hf => ?_)
          refine stq hf rfl rfl rfl (ex_move hf rfl) (fun a hf => ?_)
          refine stq hf rfl rfl rfl (ex_indexAddr sa_36 (rsl_isSl (hr.now hs (i := 0) rfl)) hc14.1 hc14.2 hf rfl rfl) (fun a hf => ?_)
          refine stq hf rfl rfl rfl (ex_loadA (cs := [.int .i64 ((gd HeatLink.zero a0 y5).A), .int .i64 ((gd HeatLink.zero a0 y5).B), .int .i64 ((gd HeatLink.zero a0 y5).Conductance)]) ag_84 hf rfl (el_cells (K := K_api_HeatLink) (rsl_rd (hr.now hs (i := 0) rfl)) hc14.1 hc14.2 rfl)) (fun a hf => ?_)
          refine stepF hf rfl rfl rfl (ex_callV cf_52 hf rfl rfl) (heat_validLinks_1.calls k7 (⟨((gd HeatLink.zero a0 y5).A), ((gd HeatLink.zero a0 y5).B), ((gd HeatLink.zero a0 y5).Conductance)⟩ : HeatLink) a1_0 b1_0 (hs.enter .nil) (Sr.old hr hs .nil (i := 1) rfl (fun _ h => h) (fun _ h => h) (Sr.nil _ _)) hs15) (fun v w hR a hf => ?_)
          obtain ⟨rfl, hs'⟩ := hR
          replace hs := hs.step .nil hs'
          clear hs'
          refine hK16 _ _ ?_
          refine itt H (fun hc17 H => ?_) (fun hc17 H => ?_)
          · -- s15 = true
            replace hf := hf.castB (t := 16) rfl hc17
            refine cond_T hf rfl ?_
            refine seq_reg (fun K18 hK18 => ?_)
            refine stq hf rfl rfl rfl (ex_move hf rfl) (fun a hf => ?_)
            refine stq hf rfl rfl rfl (ex_assign hf rfl) (fun a hf => ?_)
            refine hK18 _ _ ?_
            refine wp_ret ?_
            refine hR12 _ _ ?_
            refine hR11 _ _ ?_
            refine hR7 _ _ ?_
            refine hR4 _ _ ?_
            have e2 := some_eq H; subst e2; replace H := el_rt HO2
            refine hR2 _ _ ?_
            have eR := some_eq H; subst eR
            exact ret1 Try.results56 hf rfl ⟨_, rfl, ⟨rfl, hs⟩⟩
          · -- not s15 = true
            replace hf := hf.castB (t := 16) rfl (bool_f hc17)
            refine cond_F hf rfl ?_
            refine wp_skip ?_
            refine hN12 _ _ ?_
            refine hN11 _ _ ?_
            refine region_k (fun K19 hK19 => ?_)
            refine stq hf rfl rfl rfl (ex_add hf rfl rfl) (fun a hf => ?_)
            refine stq hf rfl rfl rfl (ex_move hf rfl) (fun a hf => ?_)
            refine hK19 _ _ ?_
            exact hL7 k7 _ _ (Nat.lt_succ_self _) ⟨(IntKind.i64.wrap (y5 + 1)), hf.sub ⟨rfl, rfl, rfl, rfl, trivial⟩, hs, H⟩
        · -- not y5 < (a0.length : Int)
          replace hf := hf.castB (t := 9) rfl (dec_f hc10)
          refine cond_F hf rfl ?_
          refine wp_exit ?_
          refine hX9 0 _ _ ?_
          refine hX7 0 _ _ ?_
          refine hX4 _ _ ?_
          have e2 := some_eq H; subst e2
          exact hJ2 _ _ ⟨_, rfl, hf.sub trivial, hs⟩
  · obtain ⟨x2s, rfl, hf, hs⟩ := hJ
    replace H := el_go HO2
    clear HO2
    refine seq_reg (fun K20 hK20 => ?_)
    refine stq hf rfl rfl rfl (ex_assign hf rfl) (fun a hf => ?_)
    refine hK20 _ _ ?_
    refine wp_ret ?_
    have eR := some_eq H; subst eR
    exact ret1 Try.results56 hf rfl ⟨_, rfl, ⟨rfl, hs⟩⟩

set_option maxRecDepth 100000 in
theorem slices_ContainsFunc_api_HeatLink_api_HeatLink__validLinks_1.calls {M : Nat → Prop} {w0 : World} (k : Nat) (a0 : (List HeatLink)) (a1_0 : HeatLink) (v0 : Value) (b1_0 : Nat) {r : Bool} (hs : St M w0 w0 []) (hr : Sr M w0 [rsl K_api_HeatLink v0 a0, bx b1_0 84 [.int .i64 a1_0.A, .int .i64 a1_0.B, .int .i64 a1_0.Conductance]])
    (h : slices_ContainsFunc_api_HeatLink_api_HeatLink__validLinks_1.f k a0 a1_0 = some r) : Calls Try.prog 51 #[v0, .func (.func 52) #[] #[.pointer (some ⟨b1_0, 0, none⟩)]] w0 fun e w => ∃ v, e = .returned v ∧ (.bool r = v ∧ St M w0 w []) := by
  have H := (slices_ContainsFunc_api_HeatLink_api_HeatLink__validLinks_1.f.eq_1 ..).symm.trans h
  clear h
  refine enter Try.func51 rfl Try.ntmps51 rfl (fun a hf => ?_)
  refine seq_reg (fun K1 hK1 => ?_)
  refine stq hf rfl rfl rfl (ex_assign hf rfl) (fun a hf => ?_)
  refine hK1 _ _ ?_
  refine bnd H (fun s2 hs2 H => ?_)
  refine seq_reg (fun K3 hK3 => ?_)
  refine stq hf rfl rfl rfl (ex_move hf rfl) (fun a hf => ?_)
  refine stq hf rfl rfl rfl (ex_move hf rfl) (fun a hf => ?_)
  refine stepF hf rfl rfl rfl (ex_call cf_56 hf rfl) (slices_IndexFunc_api_HeatLink_api_HeatLink__validLinks_1.calls k a0 a1_0 v0 b1_0 (hs.enter .nil) (Sr.old hr hs .nil (i := 0) rfl (fun _ h => h) (fun _ h => h) (Sr.old hr hs .nil (i := 1) rfl (fun _ h => h) (fun _ h => h) (Sr.nil _ _))) hs2) (fun v w hR a hf => ?_)
  obtain ⟨rfl, hs'⟩ := hR
  replace hs := hs.step .nil hs'
  clear hs'
  refine stq hf rfl rfl rfl (ex_geq hf rfl rfl) (fun a hf => ?_)
  refine stq hf rfl rfl rfl (ex_assign hf rfl) (fun a hf => ?_)
  refine hK3 _ _ ?_
  refine wp_ret ?_
  have eR := some_eq H; subst eR
  exact ret1 Try.results51 hf rfl ⟨_, rfl, ⟨rfl, hs⟩⟩

end Go.Proofs.Ytannodkbindlbaa.X
