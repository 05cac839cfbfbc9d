/- Each function of the machine comes to what its pure function says. -/
import Derived.Test.YtakaooegofiloaaFc2
import Derived.Test.YtakaooegofiloaaFb
namespace Go.Proofs.Ytakaooegofiloaa.X
open Go Go.RowKit Go.Sx
set_option linter.unusedVariables false

set_option maxHeartbeats 4000000 in
set_option maxRecDepth 100000 in
theorem law38_Some.calls {M : Nat → Prop} {w0 : World} (k : Nat) (a0 : (List HeatDomain)) (a1 : (List HeatLink)) (a2 : Int) (v0 : Value) (v1 : Value) {r : (List HeatDomain) × (List HeatLink) × Int} (hs : St M w0 w0 []) (hr : Sr M w0 [rsl K_api_HeatDomain v0 a0, rsl K_api_HeatLink v1 a1])
    (h : law38_Some.f k a0 a1 a2 = some r) : Calls Try.prog 12 #[v0, v1, .int .i64 a2] w0 fun e w => ∃ v, e = .returned v ∧ (∃ (g0 : Value) (g1 : Value), .agg #[g0, g1, .int .i64 r.2.2] = v ∧ St M w0 w [osl K_api_HeatDomain g0 r.1, osl K_api_HeatLink g1 r.2.1]) := by
  have H := (law38_Some.f.eq_1 ..).symm.trans h
  clear h
  refine enter Try.func12 rfl Try.ntmps12 rfl (fun a hf => ?_)
  refine seq_reg (fun K2 hK2 => ?_)
  refine stepV hf rfl rfl rfl (er_alloc hs ti_27 (cs := [(.slice none 0 0), (.slice none 0 0), .int .i64 0]) rfl) (fun v w hR a hf => ?_)
  obtain ⟨b1, rfl, hs⟩ := hR
  refine hK2 _ _ ?_
  refine seq_reg (fun K3 hK3 => ?_)
  refine stq hf rfl rfl rfl (ex_move hf rfl) (fun a hf => ?_)
  refine stq hf rfl rfl rfl (ex_lenS Try.underlying22 (rsl_isSl (hr.now hs (i := 0) rfl)) hf rfl) (fun a hf => ?_)
  refine stq hf rfl rfl rfl (ex_min hf rfl rfl) (fun a hf => ?_)
  refine stq hf rfl rfl rfl (ex_max hf rfl rfl) (fun a hf => ?_)
  refine stq hf rfl rfl rfl (ex_assign hf rfl) (fun a hf => ?_)
  refine hK3 _ _ ?_
  refine ck_some H (fun hc4 H => ?_)
  refine seq_reg (fun K7 hK7 => ?_)
  refine stq hf rfl rfl rfl (ex_move hf rfl) (fun a hf => ?_)
  refine stq hf rfl rfl rfl (ex_conv Try.underlying2 Try.underlying52 hf rfl) (fun a hf => ?_)
  refine stq hf rfl rfl rfl (ex_rem hf rfl rfl (by decide)) (fun a hf => ?_)
  refine stq hf rfl rfl rfl (ex_conv Try.underlying52 Try.underlying2 hf rfl) (fun a hf => ?_)
  refine stq hf rfl rfl rfl (ex_sub hf rfl rfl) (fun a hf => ?_)
  refine stq hf rfl rfl rfl (ex_move hf rfl) (fun a hf => ?_)
  refine stepV hf rfl rfl rfl (er_makeSlice (K := K_api_HeatDomain) hs Try.underlying22 ep_34 hc4.1 hc4.2 rfl hf rfl rfl) (fun v5 w hs a hf => ?_)
  refine stq hf rfl rfl rfl (ex_build (cs := [v5, (.slice none 0 0), .int .i64 (IntKind.i64.wrap ((IntKind.i64.wrap (Int.tmod (IntKind.u64.wrap a2) 201)) - 100))]) bt_27 hf rfl (.cons rfl (.cons (CL.one (IsSl.one (rsl_isSl (osl_rsl _ (hs.get (i := 0) rfl))))) .nil)) rfl) (fun a hf => ?_)
  refine stepV hf rfl rfl rfl (er_alloc hs ti_27 (cs := [(.slice none 0 0), (.slice none 0 0), .int .i64 0]) rfl) (fun v w hR a hf => ?_)
  obtain ⟨b6, rfl, hs⟩ := hR
  refine stepS hf rfl rfl (er_storeAB (vs := [v5, (.slice none 0 0), .int .i64 (IntKind.i64.wrap ((IntKind.i64.wrap (Int.tmod (IntKind.u64.wrap a2) 201)) - 100))]) (cs' := [v5, (.slice none 0 0), .int .i64 (IntKind.i64.wrap ((IntKind.i64.wrap (Int.tmod (IntKind.u64.wrap a2) 201)) - 100))]) hs (.c (.k (.k .nil))) sz_27 hf rfl rfl (all1 (IsSl.one (rsl_isSl (osl_rsl _ (hs.get (i := 1) rfl)))) (all1 (IsSl.one isl_nil) (all1 rfl (all1_nil)))) rfl rfl) (fun w hs => ?_)
  refine hK7 _ _ ?_
  refine bnd H (fun x8 H8 HO8 => ?_)
  clear H
  refine seq_cut (fun a w => Fr a 196 [(1, v1), (6, .pointer (some ⟨b1, 0, none⟩)), (7, .int .i64 (mx 1 (mn (a0.length : Int) 5))), (8, .pointer (some ⟨b6, 0, none⟩))] ∧ St M w0 w [bx b1 27 [(.slice none 0 0), (.slice none 0 0), .int .i64 0], bx b6 27 [v5, (.slice none 0 0), .int .i64 (IntKind.i64.wrap ((IntKind.i64.wrap (Int.tmod (IntKind.u64.wrap a2) 201)) - 100))], osl K_api_HeatDomain v5 x8]) (fun Q8 hJ8 hR8 hX8 => ?_) (fun a w hJ => ?_)
  · replace H := H8
    refine seq_reg (fun K9 hK9 => ?_)
    refine stq hf rfl rfl rfl (ex_assign hf rfl) (fun a hf => ?_)
    refine hK9 _ _ ?_
    refine block_k (fun Q10 hN10 hR10 hX10 hY10 => ?_)
    refine loop_k (fun n a w => ∃ (y11 : (List HeatDomain)) (y12 : Int), Fr a 196 [(0, v0), (1, v1), (6, .pointer (some ⟨b1, 0, none⟩)), (7, .int .i64 (mx 1 (mn (a0.length : Int) 5))), (8, .pointer (some ⟨b6, 0, none⟩)), (9, .int .i64 y12)] ∧ St M w0 w [bx b1 27 [(.slice none 0 0), (.slice none 0 0), .int .i64 0], bx b6 27 [v5, (.slice none 0 0), .int .i64 (IntKind.i64.wrap ((IntKind.i64.wrap (Int.tmod (IntKind.u64.wrap a2) 201)) - 100))], osl K_api_HeatDomain v5 y11] ∧ law38_Some.l1 n a0 y11 y12 = some x8) k ?_ (fun n14 a w hI Q14 hL14 hR14 hX14 => ?_)
    · -- at the start
      replace hs := hs.pick (.k (.c (.k .nil)))
      replace hs := hs.pick (.k (.c (.k .nil)))
      replace hs := hs.pick (.k (.k (.c .nil)))
      exact ⟨(List.replicate (mx 1 (mn (a0.length : Int) 5)).toNat HeatDomain.zero), 0, hf.sub ⟨rfl, rfl, rfl, rfl, rfl, rfl, trivial⟩, hs, H⟩
    · obtain ⟨y11, y12, hf, hs, H⟩ := hI
      cases n14 with
      | zero => exact absurd H (by rw [law38_Some.l1.eq_1]; intro h; cases h)
      | succ k14 =>
        replace H := (law38_Some.l1.eq_2 ..).symm.trans H
        refine seq_n (fun Q15 hN15 hR15 hX15 => ?_)
        refine seq_reg (fun K16 hK16 => ?_)
        refine stq hf rfl rfl rfl (ex_move hf rfl) (fun a hf => ?_)
        refine stq hf rfl rfl rfl (ex_move hf rfl) (fun a hf => ?_)
        refine stq hf rfl rfl rfl (ex_lss hf rfl rfl) (fun a hf => ?_)
        refine hK16 _ _ ?_
        refine itt H (fun hc17 H => ?_) (fun hc17 H => ?_)
        · -- y12 < (mx 1 (mn (a0.length : Int) 5))
          replace hf := hf.castB (t := 29) rfl (dec_t hc17)
          refine cond_T hf rfl ?_
          refine wp_skip ?_
          refine hN15 _ _ ?_
          refine bnd H (fun x18 H18 HO18 => ?_)
          clear H
          refine seq_cut (fun a w => Fr a 196 [(0, v0), (1, v1), (6, .pointer (some ⟨b1, 0, none⟩)), (7, .int .i64 (mx 1 (mn (a0.length : Int) 5))), (8, .pointer (some ⟨b6, 0, none⟩)), (9, .int .i64 y12)] ∧ St M w0 w [bx b1 27 [(.slice none 0 0), (.slice none 0 0), .int .i64 0], bx b6 27 [v5, (.slice none 0 0), .int .i64 (IntKind.i64.wrap ((IntKind.i64.wrap (Int.tmod (IntKind.u64.wrap a2) 201)) - 100))], osl K_api_HeatDomain v5 x18]) (fun Q18 hJ18 hR18 hX18 => ?_) (fun a w hJ => ?_)
          · replace H := H18
            refine block_k (fun Q19 hN19 hR19 hX19 hY19 => ?_)
            refine ck_some H (fun hc20 H => ?_)
            refine seq_reg (fun K21 hK21 => ?_)
            refine stq hf rfl rfl rfl (ex_fieldAddrB fa_27_0 rfl hf rfl) (fun a hf => ?_)
            refine stq hf rfl rfl rfl (ex_load sc_22 hf rfl (bx_cell (hs.get (i := 1) rfl) _ rfl)) (fun a hf => ?_)
            refine stq hf rfl rfl rfl (ex_move hf rfl) (fun a hf => ?_)
            refine stq hf rfl rfl rfl (ex_build (cs := [.int .i64 1, .int .i64 1]) bt_34 hf rfl (.cons rfl (.cons rfl .nil)) rfl) (fun a hf => ?_)
            refine stq hf rfl rfl rfl (ex_indexAddr sa_22 (rsl_isSl (osl_rsl _ (hs.get (i := 2) rfl))) hc20.1 hc20.2 hf rfl rfl) (fun a hf => ?_)
            refine stepS hf rfl rfl (er_storeX (K := K_api_HeatDomain) (x' := (⟨1, 1⟩ : HeatDomain)) (vs := [.int .i64 1, .int .i64 1]) hs (.k (.k (.c .nil))) hc20.1 hc20.2 hf rfl rfl sz_34 rfl) (fun w hs => ?_)
            refine hK21 _ _ ?_
            refine seq_reg (fun K22 hK22 => ?_)
            refine stq hf rfl rfl rfl (ex_move hf rfl) (fun a hf => ?_)
            refine stq hf rfl rfl rfl (ex_move hf rfl) (fun a hf => ?_)
            refine stq hf rfl rfl rfl (ex_lenS Try.underlying22 (rsl_isSl (hr.now hs (i := 0) rfl)) hf rfl) (fun a hf => ?_)
            refine stq hf rfl rfl rfl (ex_lss hf rfl rfl) (fun a hf => ?_)
            refine hK22 _ _ ?_
            refine itt H (fun hc23 H => ?_) (fun hc23 H => ?_)
            · -- y12 < (a0.length : Int)
              replace hf := hf.castB (t := 40) rfl (dec_t hc23)
              refine cond_T hf rfl ?_
              refine seq_n (fun Q24 hN24 hR24 hX24 => ?_)
              refine ck_some H (fun hc25 H => ?_)
              refine ck_some H (fun hc26 H => ?_)
              refine region_d fol 12 [(0, v0), (1, v1), (6, .pointer (some ⟨b1, 0, none⟩)), (7, .int .i64 (mx 1 (mn (a0.length : Int) 5))), (8, .pointer (some ⟨b6, 0, none⟩)), (9, .int .i64 y12)] [(0, .pointer (some ⟨b6, 0, none⟩)), (1, v5), (2, .int .i64 y12), (3, v0), (4, .int .i64 y12), (5, .pointer (some (sla v0 (y12.toNat * 2)))), (6, .pointer (some (sla v0 (y12.toNat * 2 + 1)))), (7, .int .i64 ((gd HeatDomain.zero a0 y12).Ambient)), (8, .int .u64 (IntKind.u64.wrap ((gd HeatDomain.zero a0 y12).Ambient))), (9, .int .u64 (Int.tmod (IntKind.u64.wrap ((gd HeatDomain.zero a0 y12).Ambient)) 6)), (10, .int .i64 (IntKind.i64.wrap (Int.tmod (IntKind.u64.wrap ((gd HeatDomain.zero a0 y12).Ambient)) 6))), (11, .int .i64 (IntKind.i64.wrap (1 + (IntKind.i64.wrap (Int.tmod (IntKind.u64.wrap ((gd HeatDomain.zero a0 y12).Ambient)) 6)))))] [] (fun w => (bx b6 27 [v5, (.slice none 0 0), .int .i64 (IntKind.i64.wrap ((IntKind.i64.wrap (Int.tmod (IntKind.u64.wrap a2) 201)) - 100))]).ok w ∧ (rsl K_api_HeatDomain v0 a0).ok w ∧ True) (fun w => St M w0 w [osl K_api_HeatDomain v5 (y11.set y12.toNat (⟨1, 1⟩ : HeatDomain)), bx b1 27 [(.slice none 0 0), (.slice none 0 0), .int .i64 0], bx b6 27 [v5, (.slice none 0 0), .int .i64 (IntKind.i64.wrap ((IntKind.i64.wrap (Int.tmod (IntKind.u64.wrap a2) 201)) - 100))]]) hf ⟨rfl, rfl, rfl, rfl, rfl, rfl, trivial⟩ (by kernel_rfl) (by kernel_rfl) rfl (by decide) ⟨hs.drew.get (i := 2) rfl, hr.now hs.drew (i := 0) rfl, trivial⟩ hs.drew (.cons (⟨_, _, rfl, rfl, rfl, rfl, fun a w hR hf => .inl ⟨wanted_yes hf rfl, ex_fieldAddrB fa_27_0 rfl hf rfl⟩⟩) (.cons (⟨_, _, rfl, rfl, rfl, rfl, fun a w hR hf => .inl ⟨wanted_yes hf rfl, ex_load sc_22 hf rfl (bx_cell (hR.1) _ rfl)⟩⟩) (.cons (⟨_, _, rfl, rfl, rfl, rfl, fun a w hR hf => .inl ⟨wanted_yes hf rfl, ex_move hf rfl⟩⟩) (.cons (⟨_, _, rfl, rfl, rfl, rfl, fun a w hR hf => .inl ⟨wanted_yes hf rfl, ex_move hf rfl⟩⟩) (.cons (⟨_, _, rfl, rfl, rfl, rfl, fun a w hR hf => .inl ⟨wanted_yes hf rfl, ex_move hf rfl⟩⟩) (.cons (⟨_, _, rfl, rfl, rfl, rfl, fun a w hR hf => .inl ⟨wanted_yes hf rfl, ex_indexAddr sa_22 (rsl_isSl hR.2.1) hc25.1 hc25.2 hf rfl rfl⟩⟩) (.cons (⟨_, _, rfl, rfl, rfl, rfl, fun a w hR hf => .inl ⟨wanted_yes hf rfl, ex_fieldAddrS fa_34_1 rfl hf rfl⟩⟩) (.cons (⟨_, _, rfl, rfl, rfl, rfl, fun a w hR hf => .inl ⟨wanted_yes hf rfl, ex_load sc_2 hf rfl (el_cell (K := K_api_HeatDomain) (f := 1) (rsl_rd hR.2.1) hc25.1 hc25.2 rfl)⟩⟩) (.cons (⟨_, _, rfl, rfl, rfl, rfl, fun a w hR hf => .inl ⟨wanted_yes hf rfl, ex_conv Try.underlying2 Try.underlying52 hf rfl⟩⟩) (.cons (⟨_, _, rfl, rfl, rfl, rfl, fun a w hR hf => .inl ⟨wanted_yes hf rfl, ex_rem hf rfl rfl (by decide)⟩⟩) (.cons (⟨_, _, rfl, rfl, rfl, rfl, fun a w hR hf => .inl ⟨wanted_yes hf rfl, ex_conv Try.underlying52 Try.underlying2 hf rfl⟩⟩) (.cons (⟨_, _, rfl, rfl, rfl, rfl, fun a w hR hf => .inl ⟨wanted_yes hf rfl, ex_add hf rfl rfl⟩⟩) (.nil))))))))))))) (fun K27 hK27 => ?_)
              refine RW.zero (by kernel_rfl) (by kernel_rfl) [(0, v0), (1, v1), (6, .pointer (some ⟨b1, 0, none⟩)), (7, .int .i64 (mx 1 (mn (a0.length : Int) 5))), (8, .pointer (some ⟨b6, 0, none⟩)), (9, .int .i64 y12), (42, v5), (43, .int .i64 y12), (52, .int .i64 (IntKind.i64.wrap (1 + (IntKind.i64.wrap (Int.tmod (IntKind.u64.wrap ((gd HeatDomain.zero a0 y12).Ambient)) 6)))))] ⟨rfl, rfl, rfl, rfl, rfl, rfl, rfl, rfl, rfl, trivial⟩ (fun a w hR hs hf => ?_)
              refine stq hf rfl rfl rfl (ex_indexAddr sa_22 (rsl_isSl (osl_rsl _ (hs.get (i := 0) rfl))) hc26.1 hc26.2 hf rfl rfl) (fun a hf => ?_)
              refine stq hf rfl rfl rfl (ex_fieldAddrS fa_34_1 rfl hf rfl) (fun a hf => ?_)
              refine stepS hf rfl rfl (er_storeE (K := K_api_HeatDomain) (f := 1) (x' := (⟨((gd HeatDomain.zero (y11.set y12.toNat (⟨1, 1⟩ : HeatDomain)) y12).Capacity), (IntKind.i64.wrap (1 + (IntKind.i64.wrap (Int.tmod (IntKind.u64.wrap ((gd HeatDomain.zero a0 y12).Ambient)) 6))))⟩ : HeatDomain)) hs (.c (.k (.k .nil))) hc26.1 hc26.2 hf rfl rfl rfl sz_2 rfl rfl) (fun w hs => ?_)
              refine hK27 _ _ ?_
              refine hN24 _ _ ?_
              refine ck_some H (fun hc28 H => ?_)
              refine region_d fol 18 [(0, v0), (1, v1), (6, .pointer (some ⟨b1, 0, none⟩)), (7, .int .i64 (mx 1 (mn (a0.length : Int) 5))), (8, .pointer (some ⟨b6, 0, none⟩)), (9, .int .i64 y12)] [(0, .pointer (some ⟨b6, 0, none⟩)), (1, v5), (2, .int .i64 y12), (3, .pointer (some ⟨b6, 0, none⟩)), (4, v5), (5, .int .i64 y12), (6, .pointer (some (sla v5 (y12.toNat * 2)))), (7, .pointer (some (sla v5 (y12.toNat * 2 + 1)))), (8, .int .i64 ((gd HeatDomain.zero ((y11.set y12.toNat (⟨1, 1⟩ : HeatDomain)).set y12.toNat (⟨((gd HeatDomain.zero (y11.set y12.toNat (⟨1, 1⟩ : HeatDomain)) y12).Capacity), (IntKind.i64.wrap (1 + (IntKind.i64.wrap (Int.tmod (IntKind.u64.wrap ((gd HeatDomain.zero a0 y12).Ambient)) 6))))⟩ : HeatDomain)) y12).Ambient)), (9, v0), (10, .int .i64 y12), (11, .pointer (some (sla v0 (y12.toNat * 2)))), (12, .pointer (some (sla v0 (y12.toNat * 2 + 0)))), (13, .int .i64 ((gd HeatDomain.zero a0 y12).Capacity)), (14, .int .u64 (IntKind.u64.wrap ((gd HeatDomain.zero a0 y12).Capacity))), (15, .int .u64 (Int.tmod (IntKind.u64.wrap ((gd HeatDomain.zero a0 y12).Capacity)) 8)), (16, .int .i64 (IntKind.i64.wrap (Int.tmod (IntKind.u64.wrap ((gd HeatDomain.zero a0 y12).Capacity)) 8))), (17, .int .i64 (IntKind.i64.wrap (((gd HeatDomain.zero ((y11.set y12.toNat (⟨1, 1⟩ : HeatDomain)).set y12.toNat (⟨((gd HeatDomain.zero (y11.set y12.toNat (⟨1, 1⟩ : HeatDomain)) y12).Capacity), (IntKind.i64.wrap (1 + (IntKind.i64.wrap (Int.tmod (IntKind.u64.wrap ((gd HeatDomain.zero a0 y12).Ambient)) 6))))⟩ : HeatDomain)) y12).Ambient) + (IntKind.i64.wrap (Int.tmod (IntKind.u64.wrap ((gd HeatDomain.zero a0 y12).Capacity)) 8)))))] [] (fun w => (bx b6 27 [v5, (.slice none 0 0), .int .i64 (IntKind.i64.wrap ((IntKind.i64.wrap (Int.tmod (IntKind.u64.wrap a2) 201)) - 100))]).ok w ∧ (osl K_api_HeatDomain v5 ((y11.set y12.toNat (⟨1, 1⟩ : HeatDomain)).set y12.toNat (⟨((gd HeatDomain.zero (y11.set y12.toNat (⟨1, 1⟩ : HeatDomain)) y12).Capacity), (IntKind.i64.wrap (1 + (IntKind.i64.wrap (Int.tmod (IntKind.u64.wrap ((gd HeatDomain.zero a0 y12).Ambient)) 6))))⟩ : HeatDomain))).ok w ∧ (rsl K_api_HeatDomain v0 a0).ok w ∧ True) (fun w => St M w0 w [osl K_api_HeatDomain v5 ((y11.set y12.toNat (⟨1, 1⟩ : HeatDomain)).set y12.toNat (⟨((gd HeatDomain.zero (y11.set y12.toNat (⟨1, 1⟩ : HeatDomain)) y12).Capacity), (IntKind.i64.wrap (1 + (IntKind.i64.wrap (Int.tmod (IntKind.u64.wrap ((gd HeatDomain.zero a0 y12).Ambient)) 6))))⟩ : HeatDomain)), bx b1 27 [(.slice none 0 0), (.slice none 0 0), .int .i64 0], bx b6 27 [v5, (.slice none 0 0), .int .i64 (IntKind.i64.wrap ((IntKind.i64.wrap (Int.tmod (IntKind.u64.wrap a2) 201)) - 100))]]) hf ⟨rfl, rfl, rfl, rfl, rfl, rfl, trivial⟩ (by kernel_rfl) (by kernel_rfl) rfl (by decide) ⟨hs.drew.get (i := 2) rfl, hs.drew.get (i := 0) rfl, hr.now hs.drew (i := 0) rfl, trivial⟩ hs.drew (.cons (⟨_, _, rfl, rfl, rfl, rfl, fun a w hR hf => .inl ⟨wanted_yes hf rfl, ex_fieldAddrB fa_27_0 rfl hf rfl⟩⟩) (.cons (⟨_, _, rfl, rfl, rfl, rfl, fun a w hR hf => .inl ⟨wanted_yes hf rfl, ex_load sc_22 hf rfl (bx_cell (hR.1) _ rfl)⟩⟩) (.cons (⟨_, _, rfl, rfl, rfl, rfl, fun a w hR hf => .inl ⟨wanted_yes hf rfl, ex_move hf rfl⟩⟩) (.cons (⟨_, _, rfl, rfl, rfl, rfl, fun a w hR hf => .inl ⟨wanted_yes hf rfl, ex_fieldAddrB fa_27_0 rfl hf rfl⟩⟩) (.cons (⟨_, _, rfl, rfl, rfl, rfl, fun a w hR hf => .inl ⟨wanted_yes hf rfl, ex_load sc_22 hf rfl (bx_cell (hR.1) _ rfl)⟩⟩) (.cons (⟨_, _, rfl, rfl, rfl, rfl, fun a w hR hf => .inl ⟨wanted_yes hf rfl, ex_move hf rfl⟩⟩) (.cons (⟨_, _, rfl, rfl, rfl, rfl, fun a w hR hf => .inl ⟨wanted_yes hf rfl, ex_indexAddr sa_22 (rsl_isSl (osl_rsl _ hR.2.1)) hc28.1 hc28.2 hf rfl rfl⟩⟩) (.cons (⟨_, _, rfl, rfl, rfl, rfl, fun a w hR hf => .inl ⟨wanted_yes hf rfl, ex_fieldAddrS fa_34_1 rfl hf rfl⟩⟩) (.cons (⟨_, _, rfl, rfl, rfl, rfl, fun a w hR hf => .inl ⟨wanted_yes hf rfl, ex_load sc_2 hf rfl (el_cell (K := K_api_HeatDomain) (f := 1) (rsl_rd (osl_rsl _ hR.2.1)) hc28.1 hc28.2 rfl)⟩⟩) (.cons (⟨_, _, rfl, rfl, rfl, rfl, fun a w hR hf => .inl ⟨wanted_yes hf rfl, ex_move hf rfl⟩⟩) (.cons (⟨_, _, rfl, rfl, rfl, rfl, fun a w hR hf => .inl ⟨wanted_yes hf rfl, ex_move hf rfl⟩⟩) (.cons (⟨_, _, rfl, rfl, rfl, rfl, fun a w hR hf => .inl ⟨wanted_yes hf rfl, ex_indexAddr sa_22 (rsl_isSl hR.2.2.1) hc25.1 hc25.2 hf rfl rfl⟩⟩) (.cons (⟨_, _, rfl, rfl, rfl, rfl, fun a w hR hf => .inl ⟨wanted_yes hf rfl, ex_fieldAddrS fa_34_0 rfl hf rfl⟩⟩) (.cons (⟨_, _, rfl, rfl, rfl, rfl, fun a w hR hf => .inl ⟨wanted_yes hf rfl, ex_load sc_2 hf rfl (el_cell (K := K_api_HeatDomain) (f := 0) (rsl_rd hR.2.2.1) hc25.1 hc25.2 rfl)⟩⟩) (.cons (⟨_, _, rfl, rfl, rfl, rfl, fun a w hR hf => .inl ⟨wanted_yes hf rfl, ex_conv Try.underlying2 Try.underlying52 hf rfl⟩⟩) (.cons (⟨_, _, rfl, rfl, rfl, rfl, fun a w hR hf => .inl ⟨wanted_yes hf rfl, ex_rem hf rfl rfl (by decide)⟩⟩) (.cons (⟨_, _, rfl, rfl, rfl, rfl, fun a w hR hf => .inl ⟨wanted_yes hf rfl, ex_conv Try.underlying52 Try.underlying2 hf rfl⟩⟩) (.cons (⟨_, _, rfl, rfl, rfl, rfl, fun a w hR hf => .inl ⟨wanted_yes hf rfl, ex_add hf rfl rfl⟩⟩) (.nil))))))))))))))))))) (fun K29 hK29 => ?_)
              refine RW.zero (by kernel_rfl) (by kernel_rfl) [(0, v0), (1, v1), (6, .pointer (some ⟨b1, 0, none⟩)), (7, .int .i64 (mx 1 (mn (a0.length : Int) 5))), (8, .pointer (some ⟨b6, 0, none⟩)), (9, .int .i64 y12), (56, v5), (57, .int .i64 y12), (72, .int .i64 (IntKind.i64.wrap (((gd HeatDomain.zero ((y11.set y12.toNat (⟨1, 1⟩ : HeatDomain)).set y12.toNat (⟨((gd HeatDomain.zero (y11.set y12.toNat (⟨1, 1⟩ : HeatDomain)) y12).Capacity), (IntKind.i64.wrap (1 + (IntKind.i64.wrap (Int.tmod (IntKind.u64.wrap ((gd HeatDomain.zero a0 y12).Ambient)) 6))))⟩ : HeatDomain)) y12).Ambient) + (IntKind.i64.wrap (Int.tmod (IntKind.u64.wrap ((gd HeatDomain.zero a0 y12).Capacity)) 8)))))] ⟨rfl, rfl, rfl, rfl, rfl, rfl, rfl, rfl, rfl, trivial⟩ (fun a w hR hs hf => ?_)
              refine stq hf rfl rfl rfl (ex_indexAddr sa_22 (rsl_isSl (osl_rsl _ (hs.get (i := 0) rfl))) hc28.1 hc28.2 hf rfl rfl) (fun a hf => ?_)
              refine stq hf rfl rfl rfl (ex_fieldAddrS fa_34_0 rfl hf rfl) (fun a hf => ?_)
              refine stepS hf rfl rfl (er_storeE (K := K_api_HeatDomain) (f := 0) (x' := (⟨(IntKind.i64.wrap (((gd HeatDomain.zero ((y11.set y12.toNat (⟨1, 1⟩ : HeatDomain)).set y12.toNat (⟨((gd HeatDomain.zero (y11.set y12.toNat (⟨1, 1⟩ : HeatDomain)) y12).Capacity), (IntKind.i64.wrap (1 + (IntKind.i64.wrap (Int.tmod (IntKind.u64.wrap ((gd HeatDomain.zero a0 y12).Ambient)) 6))))⟩ : HeatDomain)) y12).Ambient) + (IntKind.i64.wrap (Int.tmod (IntKind.u64.wrap ((gd HeatDomain.zero a0 y12).Capacity)) 8)))), ((gd HeatDomain.zero ((y11.set y12.toNat (⟨1, 1⟩ : HeatDomain)).set y12.toNat (⟨((gd HeatDomain.zero (y11.set y12.toNat (⟨1, 1⟩ : HeatDomain)) y12).Capacity), (IntKind.i64.wrap (1 + (IntKind.i64.wrap (Int.tmod (IntKind.u64.wrap ((gd HeatDomain.zero a0 y12).Ambient)) 6))))⟩ : HeatDomain)) y12).Ambient)⟩ : HeatDomain)) hs (.c (.k (.k .nil))) hc28.1 hc28.2 hf rfl rfl rfl sz_2 rfl rfl) (fun w hs => ?_)
              refine hK29 _ _ ?_
              refine hN19 _ _ ?_
              replace hs := hs.pick (.k (.k (.c .nil)))
              replace hs := hs.pick (.k (.k (.c .nil)))
              have e18 := some_eq H; subst e18
              exact hJ18 _ _ ⟨hf.sub ⟨rfl, rfl, rfl, rfl, rfl, rfl, trivial⟩, hs⟩
            · -- not y12 < (a0.length : Int)
              replace hf := hf.castB (t := 40) rfl (dec_f hc23)
              refine cond_F hf rfl ?_
              refine wp_skip ?_
              refine hN19 _ _ ?_
              replace hs := hs.pick (.k (.k (.c .nil)))
              replace hs := hs.pick (.k (.k (.c .nil)))
              have e18 := some_eq H; subst e18
              exact hJ18 _ _ ⟨hf.sub ⟨rfl, rfl, rfl, rfl, rfl, rfl, trivial⟩, hs⟩
          · obtain ⟨hf, hs⟩ := hJ
            replace H := HO18
            clear HO18
            refine region_k (fun K30 hK30 => ?_)
            refine stq hf rfl rfl rfl (ex_move hf rfl) (fun a hf => ?_)
            refine stq hf rfl rfl rfl (ex_add hf rfl rfl) (fun a hf => ?_)
            refine stq hf rfl rfl rfl (ex_assign hf rfl) (fun a hf => ?_)
            refine hK30 _ _ ?_
            exact hL14 k14 _ _ (Nat.lt_succ_self _) ⟨x18, (IntKind.i64.wrap (y12 + 1)), hf.sub ⟨rfl, rfl, rfl, rfl, rfl, rfl, trivial⟩, hs, H⟩
        · -- not y12 < (mx 1 (mn (a0.length : Int) 5))
          replace hf := hf.castB (t := 29) rfl (dec_f hc17)
          refine cond_F hf rfl ?_
          refine wp_exit ?_
          refine hX15 0 _ _ ?_
          refine hX14 0 _ _ ?_
          refine hX10 _ _ ?_
          have e8 := some_eq H; subst e8
          exact hJ8 _ _ ⟨hf.sub ⟨rfl, rfl, rfl, rfl, trivial⟩, hs⟩
  · obtain ⟨hf, hs⟩ := hJ
    replace H := HO8
    clear HO8
    refine bnd H (fun x31 H31 HO31 => ?_)
    clear H
    refine seq_cut (fun a w => ∃ (v32 : Value), Fr a 196 [(6, .pointer (some ⟨b1, 0, none⟩)), (8, .pointer (some ⟨b6, 0, none⟩))] ∧ St M w0 w [bx b1 27 [(.slice none 0 0), (.slice none 0 0), .int .i64 0], bx b6 27 [v5, v32, .int .i64 (IntKind.i64.wrap ((IntKind.i64.wrap (Int.tmod (IntKind.u64.wrap a2) 201)) - 100))], osl K_api_HeatDomain v5 x31.1, osl K_api_HeatLink v32 x31.2]) (fun Q31 hJ31 hR31 hX31 => ?_) (fun a w hJ => ?_)
    · replace H := H31
      refine seq_reg (fun K33 hK33 => ?_)
      refine stq hf rfl rfl rfl (ex_assign hf rfl) (fun a hf => ?_)
      refine hK33 _ _ ?_
      refine block_k (fun Q34 hN34 hR34 hX34 hY34 => ?_)
      refine loop_k (fun n a w => ∃ (y36 : (List HeatDomain)) (y37 : (List HeatLink)) (y38 : Int) (v35 : Value), Fr a 196 [(1, v1), (6, .pointer (some ⟨b1, 0, none⟩)), (7, .int .i64 (mx 1 (mn (a0.length : Int) 5))), (8, .pointer (some ⟨b6, 0, none⟩)), (10, .int .i64 y38)] ∧ St M w0 w [bx b1 27 [(.slice none 0 0), (.slice none 0 0), .int .i64 0], bx b6 27 [v5, v35, .int .i64 (IntKind.i64.wrap ((IntKind.i64.wrap (Int.tmod (IntKind.u64.wrap a2) 201)) - 100))], osl K_api_HeatDomain v5 y36, osl K_api_HeatLink v35 y37] ∧ law38_Some.l2 n a1 a0 y36 y37 y38 = some x31) k ?_ (fun n40 a w hI Q40 hL40 hR40 hX40 => ?_)
      · -- at the start
        replace hs := hs.nilS K_api_HeatLink
        replace hs := hs.pick (.k (.k (.k (.c .nil))))
        replace hs := hs.pick (.k (.k (.k (.c .nil))))
        replace hs := hs.pick (.k (.k (.k (.c .nil))))
        exact ⟨x8, [], 0, (.slice none 0 0), hf.sub ⟨rfl, rfl, rfl, rfl, rfl, trivial⟩, hs, H⟩
      · obtain ⟨y36, y37, y38, v35, hf, hs, H⟩ := hI
        cases n40 with
        | zero => exact absurd H (by rw [law38_Some.l2.eq_1]; intro h; cases h)
        | succ k40 =>
          replace H := (law38_Some.l2.eq_2 ..).symm.trans H
          refine seq_n (fun Q41 hN41 hR41 hX41 => ?_)
          refine bnd H (fun x42 H42 HO42 => ?_)
          clear H
          refine seq_cut (fun a w => Fr a 196 [(1, v1), (6, .pointer (some ⟨b1, 0, none⟩)), (7, .int .i64 (mx 1 (mn (a0.length : Int) 5))), (8, .pointer (some ⟨b6, 0, none⟩)), (10, .int .i64 y38), (82, .bool x42)] ∧ St M w0 w [bx b1 27 [(.slice none 0 0), (.slice none 0 0), .int .i64 0], bx b6 27 [v5, v35, .int .i64 (IntKind.i64.wrap ((IntKind.i64.wrap (Int.tmod (IntKind.u64.wrap a2) 201)) - 100))], osl K_api_HeatDomain v5 y36, osl K_api_HeatLink v35 y37]) (fun Q42 hJ42 hR42 hX42 => ?_) (fun a w hJ => ?_)
          · replace H := H42
            refine itt H (fun hc43 H => ?_) (fun hc43 H => ?_)
            · -- y38 < (a1.length : Int)
              refine region_k (fun K44 hK44 => ?_)
              refine stq hf rfl rfl rfl (ex_move hf rfl) (fun a hf => ?_)
              refine stq hf rfl rfl rfl (ex_move hf rfl) (fun a hf => ?_)
              refine stq hf rfl rfl rfl (ex_lenS Try.underlying23 (rsl_isSl (hr.now hs (i := 1) rfl)) hf rfl) (fun a hf => ?_)
              refine stq hf rfl rfl rfl (ex_lss hf rfl rfl) (fun a hf => ?_)
              refine stq hf rfl rfl rfl (ex_move hf rfl) (fun a hf => ?_)
              replace hf := hf.castB (t := 78) rfl (dec_t hc43)
              replace hf := hf.castB (t := 79) rfl (dec_t hc43)
              refine stq hf rfl rfl rfl (ex_move hf rfl) (fun a hf => ?_)
              refine stq hf rfl rfl rfl (ex_lss hf rfl rfl) (fun a hf => ?_)
              refine stq hf rfl rfl rfl (ex_pickT hf rfl rfl) (fun a hf => ?_)
              refine hK44 _ _ ?_
              have e42 := some_eq H; subst e42
              exact hJ42 _ _ ⟨hf.sub ⟨rfl, rfl, rfl, rfl, rfl, rfl, trivial⟩, hs⟩
            · -- not y38 < (a1.length : Int)
              refine region_k (fun K45 hK45 => ?_)
              refine stq hf rfl rfl rfl (ex_move hf rfl) (fun a hf => ?_)
              refine stq hf rfl rfl rfl (ex_move hf rfl) (fun a hf => ?_)
              refine stq hf rfl rfl rfl (ex_lenS Try.underlying23 (rsl_isSl (hr.now hs (i := 1) rfl)) hf rfl) (fun a hf => ?_)
              refine stq hf rfl rfl rfl (ex_lss hf rfl rfl) (fun a hf => ?_)
              refine stq hf rfl rfl rfl (ex_move hf rfl) (fun a hf => ?_)
              replace hf := hf.castB (t := 78) rfl (dec_f hc43)
              replace hf := hf.castB (t := 79) rfl (dec_f hc43)
              refine stepN hf rfl rfl rfl (fun a hf => ?_)
              refine stepN hf rfl rfl rfl (fun a hf => ?_)
              refine stq hf rfl rfl rfl (ex_pickF hf rfl rfl) (fun a hf => ?_)
              refine hK45 _ _ ?_
              have e42 := some_eq H; subst e42
              exact hJ42 _ _ ⟨hf.sub ⟨rfl, rfl, rfl, rfl, rfl, rfl, trivial⟩, hs⟩
          · obtain ⟨hf, hs⟩ := hJ
            replace H := HO42
            clear HO42
            refine itt H (fun hc46 H => ?_) (fun hc46 H => ?_)
            · -- x42 = true
              replace hf := hf.castB (t := 82) rfl hc46
              refine cond_T hf rfl ?_
              refine wp_skip ?_
              refine hN41 _ _ ?_
              refine bnd H (fun x47 H47 HO47 => ?_)
              clear H
              refine seq_cut (fun a w => ∃ (v48 : Value), Fr a 196 [(1, v1), (6, .pointer (some ⟨b1, 0, none⟩)), (7, .int .i64 (mx 1 (mn (a0.length : Int) 5))), (8, .pointer (some ⟨b6, 0, none⟩)), (10, .int .i64 y38)] ∧ St M w0 w [bx b1 27 [(.slice none 0 0), (.slice none 0 0), .int .i64 0], bx b6 27 [v5, v48, .int .i64 (IntKind.i64.wrap ((IntKind.i64.wrap (Int.tmod (IntKind.u64.wrap a2) 201)) - 100))], osl K_api_HeatDomain v5 x47.1, osl K_api_HeatLink v48 x47.2]) (fun Q47 hJ47 hR47 hX47 => ?_) (fun a w hJ => ?_)
              · replace H := H47
                refine block_k (fun Q49 hN49 hR49 hX49 hY49 => ?_)
                refine seq_n (fun Q50 hN50 hR50 hX50 => ?_)
                refine ck_some H (fun hc51 H => ?_)
                refine bnd H (fun s52 hs52 H => ?_)
                refine bnd H (fun s53 hs53 H => ?_)
                refine wp_cut (fun a w => ∃ (b55 : Nat), Fr a 196 [(1, v1), (6, .pointer (some ⟨b1, 0, none⟩)), (7, .int .i64 (mx 1 (mn (a0.length : Int) 5))), (8, .pointer (some ⟨b6, 0, none⟩)), (10, .int .i64 y38), (11, .pointer (some ⟨b55, 0, none⟩))] ∧ St M w0 w [bx b1 27 [(.slice none 0 0), (.slice none 0 0), .int .i64 0], bx b6 27 [v5, v35, .int .i64 (IntKind.i64.wrap ((IntKind.i64.wrap (Int.tmod (IntKind.u64.wrap a2) 201)) - 100))], osl K_api_HeatDomain v5 y36, osl K_api_HeatLink v35 y37, bx b55 43 [.int .i64 s52, .int .i64 s53, .int .i64 (IntKind.i64.wrap (1 + (IntKind.i64.wrap (Int.tmod (IntKind.u64.wrap ((gd HeatLink.zero a1 y38).Conductance)) 5))))]]) (fun Q56 hJ56 => ?_) (fun a w hJ => ?_)
                · -- in each order
                  refine region_d fol 25 [(1, v1), (6, .pointer (some ⟨b1, 0, none⟩)), (7, .int .i64 (mx 1 (mn (a0.length : Int) 5))), (8, .pointer (some ⟨b6, 0, none⟩)), (10, .int .i64 y38)] [(0, v1), (1, .int .i64 y38), (2, .pointer (some (sla v1 (y38.toNat * 3)))), (3, .pointer (some (sla v1 (y38.toNat * 3 + 0)))), (4, .int .i64 ((gd HeatLink.zero a1 y38).A)), (5, .int .i64 (mx 1 (mn (a0.length : Int) 5))), (7, v1), (8, .int .i64 y38), (9, .pointer (some (sla v1 (y38.toNat * 3)))), (10, .pointer (some (sla v1 (y38.toNat * 3 + 1)))), (11, .int .i64 ((gd HeatLink.zero a1 y38).B)), (12, .int .i64 (mx 1 (mn (a0.length : Int) 5))), (14, v1), (15, .int .i64 y38), (16, .pointer (some (sla v1 (y38.toNat * 3)))), (17, .pointer (some (sla v1 (y38.toNat * 3 + 2)))), (18, .int .i64 ((gd HeatLink.zero a1 y38).Conductance)), (19, .int .u64 (IntKind.u64.wrap ((gd HeatLink.zero a1 y38).Conductance))), (20, .int .u64 (Int.tmod (IntKind.u64.wrap ((gd HeatLink.zero a1 y38).Conductance)) 5)), (21, .int .i64 (IntKind.i64.wrap (Int.tmod (IntKind.u64.wrap ((gd HeatLink.zero a1 y38).Conductance)) 5))), (22, .int .i64 (IntKind.i64.wrap (1 + (IntKind.i64.wrap (Int.tmod (IntKind.u64.wrap ((gd HeatLink.zero a1 y38).Conductance)) 5)))))] [6, 13, 24] (fun w => (rsl K_api_HeatLink v1 a1).ok w ∧ True) (fun w => St M w0 w [bx b1 27 [(.slice none 0 0), (.slice none 0 0), .int .i64 0], bx b6 27 [v5, v35, .int .i64 (IntKind.i64.wrap ((IntKind.i64.wrap (Int.tmod (IntKind.u64.wrap a2) 201)) - 100))], osl K_api_HeatDomain v5 y36, osl K_api_HeatLink v35 y37]) hf ⟨rfl, rfl, rfl, rfl, rfl, trivial⟩ (by kernel_rfl) (by kernel_rfl) rfl (by decide) ⟨hr.now hs.drew (i := 1) rfl, trivial⟩ hs.drew (.cons (⟨_, _, rfl, rfl, rfl, rfl, fun a w hR hf => .inl ⟨wanted_yes hf rfl, ex_move hf rfl⟩⟩) (.cons (⟨_, _, rfl, rfl, rfl, rfl, fun a w hR hf => .inl ⟨wanted_yes hf rfl, ex_move hf rfl⟩⟩) (.cons (⟨_, _, rfl, rfl, rfl, rfl, fun a w hR hf => .inl ⟨wanted_yes hf rfl, ex_indexAddr sa_23 (rsl_isSl hR.1) hc51.1 hc51.2 hf rfl rfl⟩⟩) (.cons (⟨_, _, rfl, rfl, rfl, rfl, fun a w hR hf => .inl ⟨wanted_yes hf rfl, ex_fieldAddrS fa_43_0 rfl hf rfl⟩⟩) (.cons (⟨_, _, rfl, rfl, rfl, rfl, fun a w hR hf => .inl ⟨wanted_yes hf rfl, ex_load sc_3 hf rfl (el_cell (K := K_api_HeatLink) (f := 0) (rsl_rd hR.1) hc51.1 hc51.2 rfl)⟩⟩) (.cons (⟨_, _, rfl, rfl, rfl, rfl, fun a w hR hf => .inl ⟨wanted_yes hf rfl, ex_move hf rfl⟩⟩) (.cons (⟨_, _, rfl, rfl, rfl, rfl, fun a w hR hf => .inl ⟨wanted_yes hf rfl, ex_move hf rfl⟩⟩) (.cons (⟨_, _, rfl, rfl, rfl, rfl, fun a w hR hf => .inl ⟨wanted_yes hf rfl, ex_move hf rfl⟩⟩) (.cons (⟨_, _, rfl, rfl, rfl, rfl, fun a w hR hf => .inl ⟨wanted_yes hf rfl, ex_indexAddr sa_23 (rsl_isSl hR.1) hc51.1 hc51.2 hf rfl rfl⟩⟩) (.cons (⟨_, _, rfl, rfl, rfl, rfl, fun a w hR hf => .inl ⟨wanted_yes hf rfl, ex_fieldAddrS fa_43_1 rfl hf rfl⟩⟩) (.cons (⟨_, _, rfl, rfl, rfl, rfl, fun a w hR hf => .inl ⟨wanted_yes hf rfl, ex_load sc_3 hf rfl (el_cell (K := K_api_HeatLink) (f := 1) (rsl_rd hR.1) hc51.1 hc51.2 rfl)⟩⟩) (.cons (⟨_, _, rfl, rfl, rfl, rfl, fun a w hR hf => .inl ⟨wanted_yes hf rfl, ex_move hf rfl⟩⟩) (.cons (⟨_, _, rfl, rfl, rfl, rfl, fun a w hR hf => .inl ⟨wanted_yes hf rfl, ex_move hf rfl⟩⟩) (.cons (⟨_, _, rfl, rfl, rfl, rfl, fun a w hR hf => .inl ⟨wanted_yes hf rfl, ex_move hf rfl⟩⟩) (.cons (⟨_, _, rfl, rfl, rfl, rfl, fun a w hR hf => .inl ⟨wanted_yes hf rfl, ex_indexAddr sa_23 (rsl_isSl hR.1) hc51.1 hc51.2 hf rfl rfl⟩⟩) (.cons (⟨_, _, rfl, rfl, rfl, rfl, fun a w hR hf => .inl ⟨wanted_yes hf rfl, ex_fieldAddrS fa_43_2 rfl hf rfl⟩⟩) (.cons (⟨_, _, rfl, rfl, rfl, rfl, fun a w hR hf => .inl ⟨wanted_yes hf rfl, ex_load sc_2 hf rfl (el_cell (K := K_api_HeatLink) (f := 2) (rsl_rd hR.1) hc51.1 hc51.2 rfl)⟩⟩) (.cons (⟨_, _, rfl, rfl, rfl, rfl, fun a w hR hf => .inl ⟨wanted_yes hf rfl, ex_conv Try.underlying2 Try.underlying52 hf rfl⟩⟩) (.cons (⟨_, _, rfl, rfl, rfl, rfl, fun a w hR hf => .inl ⟨wanted_yes hf rfl, ex_rem hf rfl rfl (by decide)⟩⟩) (.cons (⟨_, _, rfl, rfl, rfl, rfl, fun a w hR hf => .inl ⟨wanted_yes hf rfl, ex_conv Try.underlying52 Try.underlying2 hf rfl⟩⟩) (.cons (⟨_, _, rfl, rfl, rfl, rfl, fun a w hR hf => .inl ⟨wanted_yes hf rfl, ex_add hf rfl rfl⟩⟩) (.nil)))))))))))))))))))))) (fun K57 hK57 => ?_)
                  refine RW.fork [6, 24] (by kernel_rfl) (by kernel_rfl) ⟨?_, ?_, trivial⟩
                  · -- first 6
                    refine RWe.mk 6 rfl (fun d hd => by cases hd; rfl) [(89, .int .i64 ((gd HeatLink.zero a1 y38).A)), (90, .int .i64 (mx 1 (mn (a0.length : Int) 5)))] ⟨rfl, rfl, trivial⟩ (fun a w hR hs hf => ⟨wanted_yes hf rfl, ?_⟩)
                    refine estep_f (ex_call cf_26 hf rfl) (help_Mod.calls k40 ((gd HeatLink.zero a1 y38).A) (mx 1 (mn (a0.length : Int) 5)) (hs.enter (.k (.k (.k (.k .nil))))) (Sr.nil _ _) hs52) (fun v w hR => ?_)
                    obtain ⟨rfl, hs'⟩ := hR
                    replace hs := hs.step (.k (.k (.k (.k .nil)))) hs'
                    clear hs'
                    refine ⟨[], [(6, .int .i64 s52), (0, v1), (1, .int .i64 y38), (2, .pointer (some (sla v1 (y38.toNat * 3)))), (3, .pointer (some (sla v1 (y38.toNat * 3 + 0)))), (4, .int .i64 ((gd HeatLink.zero a1 y38).A)), (5, .int .i64 (mx 1 (mn (a0.length : Int) 5))), (7, v1), (8, .int .i64 y38), (9, .pointer (some (sla v1 (y38.toNat * 3)))), (10, .pointer (some (sla v1 (y38.toNat * 3 + 1)))), (11, .int .i64 ((gd HeatLink.zero a1 y38).B)), (12, .int .i64 (mx 1 (mn (a0.length : Int) 5))), (14, v1), (15, .int .i64 y38), (16, .pointer (some (sla v1 (y38.toNat * 3)))), (17, .pointer (some (sla v1 (y38.toNat * 3 + 2)))), (18, .int .i64 ((gd HeatLink.zero a1 y38).Conductance)), (19, .int .u64 (IntKind.u64.wrap ((gd HeatLink.zero a1 y38).Conductance))), (20, .int .u64 (Int.tmod (IntKind.u64.wrap ((gd HeatLink.zero a1 y38).Conductance)) 5)), (21, .int .i64 (IntKind.i64.wrap (Int.tmod (IntKind.u64.wrap ((gd HeatLink.zero a1 y38).Conductance)) 5))), (22, .int .i64 (IntKind.i64.wrap (1 + (IntKind.i64.wrap (Int.tmod (IntKind.u64.wrap ((gd HeatLink.zero a1 y38).Conductance)) 5)))))], [13, 24], (fun _ => True), (fun w => St M w0 w [bx b1 27 [(.slice none 0 0), (.slice none 0 0), .int .i64 0], bx b6 27 [v5, v35, .int .i64 (IntKind.i64.wrap ((IntKind.i64.wrap (Int.tmod (IntKind.u64.wrap a2) 201)) - 100))], osl K_api_HeatDomain v5 y36, osl K_api_HeatLink v35 y37]), rfl, rfl, ⟨hr.now hs (i := 1) rfl, trivial⟩, trivial, hs, (by kernel_rfl), .nil, ?_⟩
                    refine RW.fork [13, 24] (by kernel_rfl) (by kernel_rfl) ⟨?_, ?_, trivial⟩
                    · -- first 13
                      refine RWe.mk 13 rfl (fun d hd => by cases hd; rfl) [(96, .int .i64 ((gd HeatLink.zero a1 y38).B)), (97, .int .i64 (mx 1 (mn (a0.length : Int) 5)))] ⟨rfl, rfl, trivial⟩ (fun a w hR hs hf => ⟨wanted_yes hf rfl, ?_⟩)
                      refine estep_f (ex_call cf_26 hf rfl) (help_Mod.calls k40 ((gd HeatLink.zero a1 y38).B) (mx 1 (mn (a0.length : Int) 5)) (hs.enter (.k (.k (.k (.k .nil))))) (Sr.nil _ _) hs53) (fun v w hR => ?_)
                      obtain ⟨rfl, hs'⟩ := hR
                      replace hs := hs.step (.k (.k (.k (.k .nil)))) hs'
                      clear hs'
                      refine ⟨[(23, .agg #[.int .i64 s52, .int .i64 s53, .int .i64 (IntKind.i64.wrap (1 + (IntKind.i64.wrap (Int.tmod (IntKind.u64.wrap ((gd HeatLink.zero a1 y38).Conductance)) 5))))])], [(23, .agg #[.int .i64 s52, .int .i64 s53, .int .i64 (IntKind.i64.wrap (1 + (IntKind.i64.wrap (Int.tmod (IntKind.u64.wrap ((gd HeatLink.zero a1 y38).Conductance)) 5))))]), (13, .int .i64 s53), (6, .int .i64 s52), (0, v1), (1, .int .i64 y38), (2, .pointer (some (sla v1 (y38.toNat * 3)))), (3, .pointer (some (sla v1 (y38.toNat * 3 + 0)))), (4, .int .i64 ((gd HeatLink.zero a1 y38).A)), (5, .int .i64 (mx 1 (mn (a0.length : Int) 5))), (7, v1), (8, .int .i64 y38), (9, .pointer (some (sla v1 (y38.toNat * 3)))), (10, .pointer (some (sla v1 (y38.toNat * 3 + 1)))), (11, .int .i64 ((gd HeatLink.zero a1 y38).B)), (12, .int .i64 (mx 1 (mn (a0.length : Int) 5))), (14, v1), (15, .int .i64 y38), (16, .pointer (some (sla v1 (y38.toNat * 3)))), (17, .pointer (some (sla v1 (y38.toNat * 3 + 2)))), (18, .int .i64 ((gd HeatLink.zero a1 y38).Conductance)), (19, .int .u64 (IntKind.u64.wrap ((gd HeatLink.zero a1 y38).Conductance))), (20, .int .u64 (Int.tmod (IntKind.u64.wrap ((gd HeatLink.zero a1 y38).Conductance)) 5)), (21, .int .i64 (IntKind.i64.wrap (Int.tmod (IntKind.u64.wrap ((gd HeatLink.zero a1 y38).Conductance)) 5))), (22, .int .i64 (IntKind.i64.wrap (1 + (IntKind.i64.wrap (Int.tmod (IntKind.u64.wrap ((gd HeatLink.zero a1 y38).Conductance)) 5)))))], [24], (fun _ => True), (fun w => St M w0 w [bx b1 27 [(.slice none 0 0), (.slice none 0 0), .int .i64 0], bx b6 27 [v5, v35, .int .i64 (IntKind.i64.wrap ((IntKind.i64.wrap (Int.tmod (IntKind.u64.wrap a2) 201)) - 100))], osl K_api_HeatDomain v5 y36, osl K_api_HeatLink v35 y37]), rfl, rfl, ⟨⟨hr.now hs (i := 1) rfl, trivial⟩, trivial⟩, trivial, hs, (by kernel_rfl), .cons (⟨_, _, rfl, rfl, rfl, rfl, fun a w hR hf => .inl ⟨wanted_yes hf rfl, ex_build (cs := [.int .i64 s52, .int .i64 s53, .int .i64 (IntKind.i64.wrap (1 + (IntKind.i64.wrap (Int.tmod (IntKind.u64.wrap ((gd HeatLink.zero a1 y38).Conductance)) 5))))]) bt_43 hf rfl (.cons rfl (.cons rfl (.cons rfl .nil))) rfl⟩⟩) (.nil), ?_⟩
                      refine RW.one 24 (by kernel_rfl) (by kernel_rfl) rfl (fun d hd => by cases hd; rfl) [] trivial (fun a w hR hs hf => ⟨wanted_yes hf rfl, ?_⟩)
                      refine estep_v (er_alloc hs ti_43 (cs := [.int .i64 0, .int .i64 0, .int .i64 0]) rfl) (fun v w hR => ?_)
                      obtain ⟨b58, rfl, hs⟩ := hR
                      refine ⟨[], [(24, .pointer (some ⟨b58, 0, none⟩)), (23, .agg #[.int .i64 s52, .int .i64 s53, .int .i64 (IntKind.i64.wrap (1 + (IntKind.i64.wrap (Int.tmod (IntKind.u64.wrap ((gd HeatLink.zero a1 y38).Conductance)) 5))))]), (13, .int .i64 s53), (6, .int .i64 s52), (0, v1), (1, .int .i64 y38), (2, .pointer (some (sla v1 (y38.toNat * 3)))), (3, .pointer (some (sla v1 (y38.toNat * 3 + 0)))), (4, .int .i64 ((gd HeatLink.zero a1 y38).A)), (5, .int .i64 (mx 1 (mn (a0.length : Int) 5))), (7, v1), (8, .int .i64 y38), (9, .pointer (some (sla v1 (y38.toNat * 3)))), (10, .pointer (some (sla v1 (y38.toNat * 3 + 1)))), (11, .int .i64 ((gd HeatLink.zero a1 y38).B)), (12, .int .i64 (mx 1 (mn (a0.length : Int) 5))), (14, v1), (15, .int .i64 y38), (16, .pointer (some (sla v1 (y38.toNat * 3)))), (17, .pointer (some (sla v1 (y38.toNat * 3 + 2)))), (18, .int .i64 ((gd HeatLink.zero a1 y38).Conductance)), (19, .int .u64 (IntKind.u64.wrap ((gd HeatLink.zero a1 y38).Conductance))), (20, .int .u64 (Int.tmod (IntKind.u64.wrap ((gd HeatLink.zero a1 y38).Conductance)) 5)), (21, .int .i64 (IntKind.i64.wrap (Int.tmod (IntKind.u64.wrap ((gd HeatLink.zero a1 y38).Conductance)) 5))), (22, .int .i64 (IntKind.i64.wrap (1 + (IntKind.i64.wrap (Int.tmod (IntKind.u64.wrap ((gd HeatLink.zero a1 y38).Conductance)) 5)))))], [], (fun _ => True), (fun w => St M w0 w [bx b58 43 [.int .i64 0, .int .i64 0, .int .i64 0], bx b1 27 [(.slice none 0 0), (.slice none 0 0), .int .i64 0], bx b6 27 [v5, v35, .int .i64 (IntKind.i64.wrap ((IntKind.i64.wrap (Int.tmod (IntKind.u64.wrap a2) 201)) - 100))], osl K_api_HeatDomain v5 y36, osl K_api_HeatLink v35 y37]), rfl, rfl, ⟨⟨⟨hr.now hs (i := 1) rfl, trivial⟩, trivial⟩, trivial⟩, trivial, hs, (by kernel_rfl), .nil, ?_⟩
                      refine RW.zero (by kernel_rfl) (by kernel_rfl) [(1, v1), (6, .pointer (some ⟨b1, 0, none⟩)), (7, .int .i64 (mx 1 (mn (a0.length : Int) 5))), (8, .pointer (some ⟨b6, 0, none⟩)), (10, .int .i64 y38), (11, .pointer (some ⟨b58, 0, none⟩)), (108, .agg #[.int .i64 s52, .int .i64 s53, .int .i64 (IntKind.i64.wrap (1 + (IntKind.i64.wrap (Int.tmod (IntKind.u64.wrap ((gd HeatLink.zero a1 y38).Conductance)) 5))))])] ⟨rfl, rfl, rfl, rfl, rfl, rfl, rfl, trivial⟩ (fun a w hR hs hf => ?_)
                      refine stepS hf rfl rfl (er_storeAB (vs := [.int .i64 s52, .int .i64 s53, .int .i64 (IntKind.i64.wrap (1 + (IntKind.i64.wrap (Int.tmod (IntKind.u64.wrap ((gd HeatLink.zero a1 y38).Conductance)) 5))))]) (cs' := [.int .i64 s52, .int .i64 s53, .int .i64 (IntKind.i64.wrap (1 + (IntKind.i64.wrap (Int.tmod (IntKind.u64.wrap ((gd HeatLink.zero a1 y38).Conductance)) 5))))]) hs (.c (.k (.k (.k (.k .nil))))) sz_43 hf rfl rfl (all1 rfl (all1 rfl (all1 rfl (all1_nil)))) rfl rfl) (fun w hs => ?_)
                      refine hK57 _ _ ?_
                      replace hs := hs.pick (.k (.k (.k (.k (.c .nil)))))
                      replace hs := hs.pick (.k (.k (.k (.k (.c .nil)))))
                      replace hs := hs.pick (.k (.k (.k (.k (.c .nil)))))
                      replace hs := hs.pick (.k (.k (.k (.k (.c .nil)))))
                      exact hJ56 _ _ ⟨b58, hf.sub ⟨rfl, rfl, rfl, rfl, rfl, rfl, trivial⟩, hs⟩
                    · -- first 24
                      refine RWe.mk 24 rfl (fun d hd => by cases hd; rfl) [] trivial (fun a w hR hs hf => ⟨wanted_yes hf rfl, ?_⟩)
                      refine estep_v (er_alloc hs ti_43 (cs := [.int .i64 0, .int .i64 0, .int .i64 0]) rfl) (fun v w hR => ?_)
                      obtain ⟨b59, rfl, hs⟩ := hR
                      refine ⟨[], [(24, .pointer (some ⟨b59, 0, none⟩)), (6, .int .i64 s52), (0, v1), (1, .int .i64 y38), (2, .pointer (some (sla v1 (y38.toNat * 3)))), (3, .pointer (some (sla v1 (y38.toNat * 3 + 0)))), (4, .int .i64 ((gd HeatLink.zero a1 y38).A)), (5, .int .i64 (mx 1 (mn (a0.length : Int) 5))), (7, v1), (8, .int .i64 y38), (9, .pointer (some (sla v1 (y38.toNat * 3)))), (10, .pointer (some (sla v1 (y38.toNat * 3 + 1)))), (11, .int .i64 ((gd HeatLink.zero a1 y38).B)), (12, .int .i64 (mx 1 (mn (a0.length : Int) 5))), (14, v1), (15, .int .i64 y38), (16, .pointer (some (sla v1 (y38.toNat * 3)))), (17, .pointer (some (sla v1 (y38.toNat * 3 + 2)))), (18, .int .i64 ((gd HeatLink.zero a1 y38).Conductance)), (19, .int .u64 (IntKind.u64.wrap ((gd HeatLink.zero a1 y38).Conductance))), (20, .int .u64 (Int.tmod (IntKind.u64.wrap ((gd HeatLink.zero a1 y38).Conductance)) 5)), (21, .int .i64 (IntKind.i64.wrap (Int.tmod (IntKind.u64.wrap ((gd HeatLink.zero a1 y38).Conductance)) 5))), (22, .int .i64 (IntKind.i64.wrap (1 + (IntKind.i64.wrap (Int.tmod (IntKind.u64.wrap ((gd HeatLink.zero a1 y38).Conductance)) 5)))))], [13], (fun _ => True), (fun w => St M w0 w [bx b59 43 [.int .i64 0, .int .i64 0, .int .i64 0], bx b1 27 [(.slice none 0 0), (.slice none 0 0), .int .i64 0], bx b6 27 [v5, v35, .int .i64 (IntKind.i64.wrap ((IntKind.i64.wrap (Int.tmod (IntKind.u64.wrap a2) 201)) - 100))], osl K_api_HeatDomain v5 y36, osl K_api_HeatLink v35 y37]), rfl, rfl, ⟨⟨hr.now hs (i := 1) rfl, trivial⟩, trivial⟩, trivial, hs, (by kernel_rfl), .nil, ?_⟩
                      refine RW.one 13 (by kernel_rfl) (by kernel_rfl) rfl (fun d hd => by cases hd; rfl) [(96, .int .i64 ((gd HeatLink.zero a1 y38).B)), (97, .int .i64 (mx 1 (mn (a0.length : Int) 5)))] ⟨rfl, rfl, trivial⟩ (fun a w hR hs hf => ⟨wanted_yes hf rfl, ?_⟩)
                      refine estep_f (ex_call cf_26 hf rfl) (help_Mod.calls k40 ((gd HeatLink.zero a1 y38).B) (mx 1 (mn (a0.length : Int) 5)) (hs.enter (.k (.k (.k (.k (.k .nil)))))) (Sr.nil _ _) hs53) (fun v w hR => ?_)
                      obtain ⟨rfl, hs'⟩ := hR
                      replace hs := hs.step (.k (.k (.k (.k (.k .nil))))) hs'
                      clear hs'
                      refine ⟨[(23, .agg #[.int .i64 s52, .int .i64 s53, .int .i64 (IntKind.i64.wrap (1 + (IntKind.i64.wrap (Int.tmod (IntKind.u64.wrap ((gd HeatLink.zero a1 y38).Conductance)) 5))))])], [(23, .agg #[.int .i64 s52, .int .i64 s53, .int .i64 (IntKind.i64.wrap (1 + (IntKind.i64.wrap (Int.tmod (IntKind.u64.wrap ((gd HeatLink.zero a1 y38).Conductance)) 5))))]), (13, .int .i64 s53), (24, .pointer (some ⟨b59, 0, none⟩)), (6, .int .i64 s52), (0, v1), (1, .int .i64 y38), (2, .pointer (some (sla v1 (y38.toNat * 3)))), (3, .pointer (some (sla v1 (y38.toNat * 3 + 0)))), (4, .int .i64 ((gd HeatLink.zero a1 y38).A)), (5, .int .i64 (mx 1 (mn (a0.length : Int) 5))), (7, v1), (8, .int .i64 y38), (9, .pointer (some (sla v1 (y38.toNat * 3)))), (10, .pointer (some (sla v1 (y38.toNat * 3 + 1)))), (11, .int .i64 ((gd HeatLink.zero a1 y38).B)), (12, .int .i64 (mx 1 (mn (a0.length : Int) 5))), (14, v1), (15, .int .i64 y38), (16, .pointer (some (sla v1 (y38.toNat * 3)))), (17, .pointer (some (sla v1 (y38.toNat * 3 + 2)))), (18, .int .i64 ((gd HeatLink.zero a1 y38).Conductance)), (19, .int .u64 (IntKind.u64.wrap ((gd HeatLink.zero a1 y38).Conductance))), (20, .int .u64 (Int.tmod (IntKind.u64.wrap ((gd HeatLink.zero a1 y38).Conductance)) 5)), (21, .int .i64 (IntKind.i64.wrap (Int.tmod (IntKind.u64.wrap ((gd HeatLink.zero a1 y38).Conductance)) 5))), (22, .int .i64 (IntKind.i64.wrap (1 + (IntKind.i64.wrap (Int.tmod (IntKind.u64.wrap ((gd HeatLink.zero a1 y38).Conductance)) 5)))))], [], (fun _ => True), (fun w => St M w0 w [bx b59 43 [.int .i64 0, .int .i64 0, .int .i64 0], bx b1 27 [(.slice none 0 0), (.slice none 0 0), .int .i64 0], bx b6 27 [v5, v35, .int .i64 (IntKind.i64.wrap ((IntKind.i64.wrap (Int.tmod (IntKind.u64.wrap a2) 201)) - 100))], osl K_api_HeatDomain v5 y36, osl K_api_HeatLink v35 y37]), rfl, rfl, ⟨⟨⟨hr.now hs (i := 1) rfl, trivial⟩, trivial⟩, trivial⟩, trivial, hs, (by kernel_rfl), .cons (⟨_, _, rfl, rfl, rfl, rfl, fun a w hR hf => .inl ⟨wanted_yes hf rfl, ex_build (cs := [.int .i64 s52, .int .i64 s53, .int .i64 (IntKind.i64.wrap (1 + (IntKind.i64.wrap (Int.tmod (IntKind.u64.wrap ((gd HeatLink.zero a1 y38).Conductance)) 5))))]) bt_43 hf rfl (.cons rfl (.cons rfl (.cons rfl .nil))) rfl⟩⟩) (.nil), ?_⟩
                      refine RW.zero (by kernel_rfl) (by kernel_rfl) [(1, v1), (6, .pointer (some ⟨b1, 0, none⟩)), (7, .int .i64 (mx 1 (mn (a0.length : Int) 5))), (8, .pointer (some ⟨b6, 0, none⟩)), (10, .int .i64 y38), (11, .pointer (some ⟨b59, 0, none⟩)), (108, .agg #[.int .i64 s52, .int .i64 s53, .int .i64 (IntKind.i64.wrap (1 + (IntKind.i64.wrap (Int.tmod (IntKind.u64.wrap ((gd HeatLink.zero a1 y38).Conductance)) 5))))])] ⟨rfl, rfl, rfl, rfl, rfl, rfl, rfl, trivial⟩ (fun a w hR hs hf => ?_)
                      refine stepS hf rfl rfl (er_storeAB (vs := [.int .i64 s52, .int .i64 s53, .int .i64 (IntKind.i64.wrap (1 + (IntKind.i64.wrap (Int.tmod (IntKind.u64.wrap ((gd HeatLink.zero a1 y38).Conductance)) 5))))]) (cs' := [.int .i64 s52, .int .i64 s53, .int .i64 (IntKind.i64.wrap (1 + (IntKind.i64.wrap (Int.tmod (IntKind.u64.wrap ((gd HeatLink.zero a1 y38).Conductance)) 5))))]) hs (.c (.k (.k (.k (.k .nil))))) sz_43 hf rfl rfl (all1 rfl (all1 rfl (all1 rfl (all1_nil)))) rfl rfl) (fun w hs => ?_)
                      refine hK57 _ _ ?_
                      replace hs := hs.pick (.k (.k (.k (.k (.c .nil)))))
                      replace hs := hs.pick (.k (.k (.k (.k (.c .nil)))))
                      replace hs := hs.pick (.k (.k (.k (.k (.c .nil)))))
                      replace hs := hs.pick (.k (.k (.k (.k (.c .nil)))))
                      exact hJ56 _ _ ⟨b59, hf.sub ⟨rfl, rfl, rfl, rfl, rfl, rfl, trivial⟩, hs⟩
                  · -- first 24
                    refine RWe.mk 24 rfl (fun d hd => by cases hd; rfl) [] trivial (fun a w hR hs hf => ⟨wanted_yes hf rfl, ?_⟩)
                    refine estep_v (er_alloc hs ti_43 (cs := [.int .i64 0, .int .i64 0, .int .i64 0]) rfl) (fun v w hR => ?_)
                    obtain ⟨b60, rfl, hs⟩ := hR
                    refine ⟨[], [(24, .pointer (some ⟨b60, 0, none⟩)), (0, v1), (1, .int .i64 y38), (2, .pointer (some (sla v1 (y38.toNat * 3)))), (3, .pointer (some (sla v1 (y38.toNat * 3 + 0)))), (4, .int .i64 ((gd HeatLink.zero a1 y38).A)), (5, .int .i64 (mx 1 (mn (a0.length : Int) 5))), (7, v1), (8, .int .i64 y38), (9, .pointer (some (sla v1 (y38.toNat * 3)))), (10, .pointer (some (sla v1 (y38.toNat * 3 + 1)))), (11, .int .i64 ((gd HeatLink.zero a1 y38).B)), (12, .int .i64 (mx 1 (mn (a0.length : Int) 5))), (14, v1), (15, .int .i64 y38), (16, .pointer (some (sla v1 (y38.toNat * 3)))), (17, .pointer (some (sla v1 (y38.toNat * 3 + 2)))), (18, .int .i64 ((gd HeatLink.zero a1 y38).Conductance)), (19, .int .u64 (IntKind.u64.wrap ((gd HeatLink.zero a1 y38).Conductance))), (20, .int .u64 (Int.tmod (IntKind.u64.wrap ((gd HeatLink.zero a1 y38).Conductance)) 5)), (21, .int .i64 (IntKind.i64.wrap (Int.tmod (IntKind.u64.wrap ((gd HeatLink.zero a1 y38).Conductance)) 5))), (22, .int .i64 (IntKind.i64.wrap (1 + (IntKind.i64.wrap (Int.tmod (IntKind.u64.wrap ((gd HeatLink.zero a1 y38).Conductance)) 5)))))], [6, 13], (fun _ => True), (fun w => St M w0 w [bx b60 43 [.int .i64 0, .int .i64 0, .int .i64 0], bx b1 27 [(.slice none 0 0), (.slice none 0 0), .int .i64 0], bx b6 27 [v5, v35, .int .i64 (IntKind.i64.wrap ((IntKind.i64.wrap (Int.tmod (IntKind.u64.wrap a2) 201)) - 100))], osl K_api_HeatDomain v5 y36, osl K_api_HeatLink v35 y37]), rfl, rfl, ⟨hr.now hs (i := 1) rfl, trivial⟩, trivial, hs, (by kernel_rfl), .nil, ?_⟩
                    refine RW.one 6 (by kernel_rfl) (by kernel_rfl) rfl (fun d hd => by cases hd; rfl) [(89, .int .i64 ((gd HeatLink.zero a1 y38).A)), (90, .int .i64 (mx 1 (mn (a0.length : Int) 5)))] ⟨rfl, rfl, trivial⟩ (fun a w hR hs hf => ⟨wanted_yes hf rfl, ?_⟩)
                    refine estep_f (ex_call cf_26 hf rfl) (help_Mod.calls k40 ((gd HeatLink.zero a1 y38).A) (mx 1 (mn (a0.length : Int) 5)) (hs.enter (.k (.k (.k (.k (.k .nil)))))) (Sr.nil _ _) hs52) (fun v w hR => ?_)
                    obtain ⟨rfl, hs'⟩ := hR
                    replace hs := hs.step (.k (.k (.k (.k (.k .nil))))) hs'
                    clear hs'
                    refine ⟨[], [(6, .int .i64 s52), (24, .pointer (some ⟨b60, 0, none⟩)), (0, v1), (1, .int .i64 y38), (2, .pointer (some (sla v1 (y38.toNat * 3)))), (3, .pointer (some (sla v1 (y38.toNat * 3 + 0)))), (4, .int .i64 ((gd HeatLink.zero a1 y38).A)), (5, .int .i64 (mx 1 (mn (a0.length : Int) 5))), (7, v1), (8, .int .i64 y38), (9, .pointer (some (sla v1 (y38.toNat * 3)))), (10, .pointer (some (sla v1 (y38.toNat * 3 + 1)))), (11, .int .i64 ((gd HeatLink.zero a1 y38).B)), (12, .int .i64 (mx 1 (mn (a0.length : Int) 5))), (14, v1), (15, .int .i64 y38), (16, .pointer (some (sla v1 (y38.toNat * 3)))), (17, .pointer (some (sla v1 (y38.toNat * 3 + 2)))), (18, .int .i64 ((gd HeatLink.zero a1 y38).Conductance)), (19, .int .u64 (IntKind.u64.wrap ((gd HeatLink.zero a1 y38).Conductance))), (20, .int .u64 (Int.tmod (IntKind.u64.wrap ((gd HeatLink.zero a1 y38).Conductance)) 5)), (21, .int .i64 (IntKind.i64.wrap (Int.tmod (IntKind.u64.wrap ((gd HeatLink.zero a1 y38).Conductance)) 5))), (22, .int .i64 (IntKind.i64.wrap (1 + (IntKind.i64.wrap (Int.tmod (IntKind.u64.wrap ((gd HeatLink.zero a1 y38).Conductance)) 5)))))], [13], (fun _ => True), (fun w => St M w0 w [bx b60 43 [.int .i64 0, .int .i64 0, .int .i64 0], bx b1 27 [(.slice none 0 0), (.slice none 0 0), .int .i64 0], bx b6 27 [v5, v35, .int .i64 (IntKind.i64.wrap ((IntKind.i64.wrap (Int.tmod (IntKind.u64.wrap a2) 201)) - 100))], osl K_api_HeatDomain v5 y36, osl K_api_HeatLink v35 y37]), rfl, rfl, ⟨⟨hr.now hs (i := 1) rfl, trivial⟩, trivial⟩, trivial, hs, (by kernel_rfl), .nil, ?_⟩
                    refine RW.one 13 (by kernel_rfl) (by kernel_rfl) rfl (fun d hd => by cases hd; rfl) [(96, .int .i64 ((gd HeatLink.zero a1 y38).B)), (97, .int .i64 (mx 1 (mn (a0.length : Int) 5)))] ⟨rfl, rfl, trivial⟩ (fun a w hR hs hf => ⟨wanted_yes hf rfl, ?_⟩)
                    refine estep_f (ex_call cf_26 hf rfl) (help_Mod.calls k40 ((gd HeatLink.zero a1 y38).B) (mx 1 (mn (a0.length : Int) 5)) (hs.enter (.k (.k (.k (.k (.k .nil)))))) (Sr.nil _ _) hs53) (fun v w hR => ?_)
                    obtain ⟨rfl, hs'⟩ := hR
                    replace hs := hs.step (.k (.k (.k (.k (.k .nil))))) hs'
                    clear hs'
                    refine ⟨[(23, .agg #[.int .i64 s52, .int .i64 s53, .int .i64 (IntKind.i64.wrap (1 + (IntKind.i64.wrap (Int.tmod (IntKind.u64.wrap ((gd HeatLink.zero a1 y38).Conductance)) 5))))])], [(23, .agg #[.int .i64 s52, .int .i64 s53, .int .i64 (IntKind.i64.wrap (1 + (IntKind.i64.wrap (Int.tmod (IntKind.u64.wrap ((gd HeatLink.zero a1 y38).Conductance)) 5))))]), (13, .int .i64 s53), (6, .int .i64 s52), (24, .pointer (some ⟨b60, 0, none⟩)), (0, v1), (1, .int .i64 y38), (2, .pointer (some (sla v1 (y38.toNat * 3)))), (3, .pointer (some (sla v1 (y38.toNat * 3 + 0)))), (4, .int .i64 ((gd HeatLink.zero a1 y38).A)), (5, .int .i64 (mx 1 (mn (a0.length : Int) 5))), (7, v1), (8, .int .i64 y38), (9, .pointer (some (sla v1 (y38.toNat * 3)))), (10, .pointer (some (sla v1 (y38.toNat * 3 + 1)))), (11, .int .i64 ((gd HeatLink.zero a1 y38).B)), (12, .int .i64 (mx 1 (mn (a0.length : Int) 5))), (14, v1), (15, .int .i64 y38), (16, .pointer (some (sla v1 (y38.toNat * 3)))), (17, .pointer (some (sla v1 (y38.toNat * 3 + 2)))), (18, .int .i64 ((gd HeatLink.zero a1 y38).Conductance)), (19, .int .u64 (IntKind.u64.wrap ((gd HeatLink.zero a1 y38).Conductance))), (20, .int .u64 (Int.tmod (IntKind.u64.wrap ((gd HeatLink.zero a1 y38).Conductance)) 5)), (21, .int .i64 (IntKind.i64.wrap (Int.tmod (IntKind.u64.wrap ((gd HeatLink.zero a1 y38).Conductance)) 5))), (22, .int .i64 (IntKind.i64.wrap (1 + (IntKind.i64.wrap (Int.tmod (IntKind.u64.wrap ((gd HeatLink.zero a1 y38).Conductance)) 5)))))], [], (fun _ => True), (fun w => St M w0 w [bx b60 43 [.int .i64 0, .int .i64 0, .int .i64 0], bx b1 27 [(.slice none 0 0), (.slice none 0 0), .int .i64 0], bx b6 27 [v5, v35, .int .i64 (IntKind.i64.wrap ((IntKind.i64.wrap (Int.tmod (IntKind.u64.wrap a2) 201)) - 100))], osl K_api_HeatDomain v5 y36, osl K_api_HeatLink v35 y37]), rfl, rfl, ⟨⟨⟨hr.now hs (i := 1) rfl, trivial⟩, trivial⟩, trivial⟩, trivial, hs, (by kernel_rfl), .cons (⟨_, _, rfl, rfl, rfl, rfl, fun a w hR hf => .inl ⟨wanted_yes hf rfl, ex_build (cs := [.int .i64 s52, .int .i64 s53, .int .i64 (IntKind.i64.wrap (1 + (IntKind.i64.wrap (Int.tmod (IntKind.u64.wrap ((gd HeatLink.zero a1 y38).Conductance)) 5))))]) bt_43 hf rfl (.cons rfl (.cons rfl (.cons rfl .nil))) rfl⟩⟩) (.nil), ?_⟩
                    refine RW.zero (by kernel_rfl) (by kernel_rfl) [(1, v1), (6, .pointer (some ⟨b1, 0, none⟩)), (7, .int .i64 (mx 1 (mn (a0.length : Int) 5))), (8, .pointer (some ⟨b6, 0, none⟩)), (10, .int .i64 y38), (11, .pointer (some ⟨b60, 0, none⟩)), (108, .agg #[.int .i64 s52, .int .i64 s53, .int .i64 (IntKind.i64.wrap (1 + (IntKind.i64.wrap (Int.tmod (IntKind.u64.wrap ((gd HeatLink.zero a1 y38).Conductance)) 5))))])] ⟨rfl, rfl, rfl, rfl, rfl, rfl, rfl, trivial⟩ (fun a w hR hs hf => ?_)
                    refine stepS hf rfl rfl (er_storeAB (vs := [.int .i64 s52, .int .i64 s53, .int .i64 (IntKind.i64.wrap (1 + (IntKind.i64.wrap (Int.tmod (IntKind.u64.wrap ((gd HeatLink.zero a1 y38).Conductance)) 5))))]) (cs' := [.int .i64 s52, .int .i64 s53, .int .i64 (IntKind.i64.wrap (1 + (IntKind.i64.wrap (Int.tmod (IntKind.u64.wrap ((gd HeatLink.zero a1 y38).Conductance)) 5))))]) hs (.c (.k (.k (.k (.k .nil))))) sz_43 hf rfl rfl (all1 rfl (all1 rfl (all1 rfl (all1_nil)))) rfl rfl) (fun w hs => ?_)
                    refine hK57 _ _ ?_
                    replace hs := hs.pick (.k (.k (.k (.k (.c .nil)))))
                    replace hs := hs.pick (.k (.k (.k (.k (.c .nil)))))
                    replace hs := hs.pick (.k (.k (.k (.k (.c .nil)))))
                    replace hs := hs.pick (.k (.k (.k (.k (.c .nil)))))
                    exact hJ56 _ _ ⟨b60, hf.sub ⟨rfl, rfl, rfl, rfl, rfl, rfl, trivial⟩, hs⟩
                · obtain ⟨b55, hf, hs⟩ := hJ
                  refine hN50 _ _ ?_
                  refine seq_reg (fun K61 hK61 => ?_)
                  refine stq hf rfl rfl rfl (ex_fieldAddrB fa_43_0 rfl hf rfl) (fun a hf => ?_)
                  refine stq hf rfl rfl rfl (ex_load sc_3 hf rfl (bx_cell (hs.get (i := 4) rfl) _ rfl)) (fun a hf => ?_)
                  refine stq hf rfl rfl rfl (ex_fieldAddrB fa_43_1 rfl hf rfl) (fun a hf => ?_)
                  refine stq hf rfl rfl rfl (ex_load sc_3 hf rfl (bx_cell (hs.get (i := 4) rfl) _ rfl)) (fun a hf => ?_)
                  refine stq hf rfl rfl rfl (ex_neq hf rfl rfl) (fun a hf => ?_)
                  refine stq hf rfl rfl rfl (ex_assign hf rfl) (fun a hf => ?_)
                  refine hK61 _ _ ?_
                  refine bnd H (fun x62 H62 HO62 => ?_)
                  clear H
                  refine seq_cut (fun a w => Fr a 196 [(1, v1), (6, .pointer (some ⟨b1, 0, none⟩)), (7, .int .i64 (mx 1 (mn (a0.length : Int) 5))), (8, .pointer (some ⟨b6, 0, none⟩)), (10, .int .i64 y38), (11, .pointer (some ⟨b55, 0, none⟩)), (12, .bool x62)] ∧ St M w0 w [bx b1 27 [(.slice none 0 0), (.slice none 0 0), .int .i64 0], bx b6 27 [v5, v35, .int .i64 (IntKind.i64.wrap ((IntKind.i64.wrap (Int.tmod (IntKind.u64.wrap a2) 201)) - 100))], osl K_api_HeatDomain v5 y36, osl K_api_HeatLink v35 y37, bx b55 43 [.int .i64 s52, .int .i64 s53, .int .i64 (IntKind.i64.wrap (1 + (IntKind.i64.wrap (Int.tmod (IntKind.u64.wrap ((gd HeatLink.zero a1 y38).Conductance)) 5))))]]) (fun Q62 hJ62 hR62 hX62 => ?_) (fun a w hJ => ?_)
                  · replace H := H62
                    refine seq_reg (fun K63 hK63 => ?_)
                    refine stq hf rfl rfl rfl (ex_assign hf rfl) (fun a hf => ?_)
                    refine hK63 _ _ ?_
                    refine block_k (fun Q64 hN64 hR64 hX64 hY64 => ?_)
                    refine loop_k (fun n a w => ∃ (y65 : Bool) (y66 : Int), Fr a 196 [(1, v1), (6, .pointer (some ⟨b1, 0, none⟩)), (7, .int .i64 (mx 1 (mn (a0.length : Int) 5))), (8, .pointer (some ⟨b6, 0, none⟩)), (10, .int .i64 y38), (11, .pointer (some ⟨b55, 0, none⟩)), (12, .bool y65), (13, .int .i64 y66)] ∧ St M w0 w [bx b1 27 [(.slice none 0 0), (.slice none 0 0), .int .i64 0], bx b6 27 [v5, v35, .int .i64 (IntKind.i64.wrap ((IntKind.i64.wrap (Int.tmod (IntKind.u64.wrap a2) 201)) - 100))], osl K_api_HeatDomain v5 y36, osl K_api_HeatLink v35 y37, bx b55 43 [.int .i64 s52, .int .i64 s53, .int .i64 (IntKind.i64.wrap (1 + (IntKind.i64.wrap (Int.tmod (IntKind.u64.wrap ((gd HeatLink.zero a1 y38).Conductance)) 5))))]] ∧ law38_Some.l3 n y37 s52 s53 y65 y66 = some x62) k40 ?_ (fun n68 a w hI Q68 hL68 hR68 hX68 => ?_)
                    · -- at the start
                      exact ⟨(!decide (s52 = s53)), 0, hf.sub ⟨rfl, rfl, rfl, rfl, rfl, rfl, rfl, rfl, trivial⟩, hs, H⟩
                    · obtain ⟨y65, y66, hf, hs, H⟩ := hI
                      cases n68 with
                      | zero => exact absurd H (by rw [law38_Some.l3.eq_1]; intro h; cases h)
                      | succ k68 =>
                        replace H := (law38_Some.l3.eq_2 ..).symm.trans H
                        refine seq_n (fun Q69 hN69 hR69 hX69 => ?_)
                        refine seq_reg (fun K70 hK70 => ?_)
                        refine stq hf rfl rfl rfl (ex_move hf rfl) (fun a hf => ?_)
                        refine stq hf rfl rfl rfl (ex_fieldAddrB fa_27_1 rfl hf rfl) (fun a hf => ?_)
                        refine stq hf rfl rfl rfl (ex_load sc_23 hf rfl (bx_cell (hs.get (i := 1) rfl) _ rfl)) (fun a hf => ?_)
                        refine stq hf rfl rfl rfl (ex_lenS Try.underlying23 (rsl_isSl (osl_rsl _ (hs.get (i := 3) rfl))) hf rfl) (fun a hf => ?_)
                        refine stq hf rfl rfl rfl (ex_lss hf rfl rfl) (fun a hf => ?_)
                        refine hK70 _ _ ?_
                        refine itt H (fun hc71 H => ?_) (fun hc71 H => ?_)
                        · -- y66 < (y37.length : Int)
                          replace hf := hf.castB (t := 118) rfl (dec_t hc71)
                          refine cond_T hf rfl ?_
                          refine wp_skip ?_
                          refine hN69 _ _ ?_
                          refine bnd H (fun x72 H72 HO72 => ?_)
                          clear H
                          refine seq_cut (fun a w => Fr a 196 [(1, v1), (6, .pointer (some ⟨b1, 0, none⟩)), (7, .int .i64 (mx 1 (mn (a0.length : Int) 5))), (8, .pointer (some ⟨b6, 0, none⟩)), (10, .int .i64 y38), (11, .pointer (some ⟨b55, 0, none⟩)), (12, .bool x72), (13, .int .i64 y66)] ∧ St M w0 w [bx b1 27 [(.slice none 0 0), (.slice none 0 0), .int .i64 0], bx b6 27 [v5, v35, .int .i64 (IntKind.i64.wrap ((IntKind.i64.wrap (Int.tmod (IntKind.u64.wrap a2) 201)) - 100))], osl K_api_HeatDomain v5 y36, osl K_api_HeatLink v35 y37, bx b55 43 [.int .i64 s52, .int .i64 s53, .int .i64 (IntKind.i64.wrap (1 + (IntKind.i64.wrap (Int.tmod (IntKind.u64.wrap ((gd HeatLink.zero a1 y38).Conductance)) 5))))]]) (fun Q72 hJ72 hR72 hX72 => ?_) (fun a w hJ => ?_)
                          · replace H := H72
                            refine block_k (fun Q73 hN73 hR73 hX73 hY73 => ?_)
                            refine ck_some H (fun hc74 H => ?_)
                            refine seq_reg (fun K76 hK76 => ?_)
                            refine stq hf rfl rfl rfl (ex_fieldAddrB fa_27_1 rfl hf rfl) (fun a hf => ?_)
                            refine stq hf rfl rfl rfl (ex_load sc_23 hf rfl (bx_cell (hs.get (i := 1) rfl) _ rfl)) (fun a hf => ?_)
                            refine stq hf rfl rfl rfl (ex_move hf rfl) (fun a hf => ?_)
                            refine stq hf rfl rfl rfl (ex_indexAddr sa_23 (rsl_isSl (osl_rsl _ (hs.get (i := 3) rfl))) hc74.1 hc74.2 hf rfl rfl) (fun a hf => ?_)
                            refine stq hf rfl rfl rfl (ex_loadA (cs := [.int .i64 ((gd HeatLink.zero y37 y66).A), .int .i64 ((gd HeatLink.zero y37 y66).B), .int .i64 ((gd HeatLink.zero y37 y66).Conductance)]) ag_43 hf rfl (el_cells (K := K_api_HeatLink) (rsl_rd (osl_rsl _ (hs.get (i := 3) rfl))) hc74.1 hc74.2 rfl)) (fun a hf => ?_)
                            refine stepV hf rfl rfl rfl (er_alloc hs ti_43 (cs := [.int .i64 0, .int .i64 0, .int .i64 0]) rfl) (fun v w hR a hf => ?_)
                            obtain ⟨b75, rfl, hs⟩ := hR
                            refine stepS hf rfl rfl (er_storeAB (vs := [.int .i64 ((gd HeatLink.zero y37 y66).A), .int .i64 ((gd HeatLink.zero y37 y66).B), .int .i64 ((gd HeatLink.zero y37 y66).Conductance)]) (cs' := [.int .i64 ((gd HeatLink.zero y37 y66).A), .int .i64 ((gd HeatLink.zero y37 y66).B), .int .i64 ((gd HeatLink.zero y37 y66).Conductance)]) hs (.c (.k (.k (.k (.k (.k .nil)))))) sz_43 hf rfl rfl (all1 rfl (all1 rfl (all1 rfl (all1_nil)))) rfl rfl) (fun w hs => ?_)
                            refine hK76 _ _ ?_
                            refine itt H (fun hc77 H => ?_) (fun hc77 H => ?_)
                            · -- y65 = true
                              refine itt H (fun hc78 H => ?_) (fun hc78 H => ?_)
                              · -- ((gd HeatLink.zero y37 y66).A) = s52
                                refine itt H (fun hc79 H => ?_) (fun hc79 H => ?_)
                                · -- ((gd HeatLink.zero y37 y66).B) = s53
                                  refine region_k (fun K80 hK80 => ?_)
                                  refine stq hf rfl rfl rfl (ex_move hf rfl) (fun a hf => ?_)
                                  refine stq hf rfl rfl rfl (ex_move hf rfl) (fun a hf => ?_)
                                  replace hf := hf.castB (t := 12) rfl hc77
                                  replace hf := hf.castB (t := 126) rfl hc77
                                  replace hf := hf.castB (t := 127) rfl hc77
                                  refine stq hf rfl rfl rfl (ex_fieldAddrB fa_43_0 rfl hf rfl) (fun a hf => ?_)
                                  refine stq hf rfl rfl rfl (ex_load sc_3 hf rfl (bx_cell (hs.get (i := 0) rfl) _ rfl)) (fun a hf => ?_)
                                  refine stq hf rfl rfl rfl (ex_fieldAddrB fa_43_0 rfl hf rfl) (fun a hf => ?_)
                                  refine stq hf rfl rfl rfl (ex_load sc_3 hf rfl (bx_cell (hs.get (i := 5) rfl) _ rfl)) (fun a hf => ?_)
                                  refine stq hf rfl rfl rfl (ex_eql hf rfl rfl) (fun a hf => ?_)
                                  refine stq hf rfl rfl rfl (ex_move hf rfl) (fun a hf => ?_)
                                  replace hf := hf.castB (t := 132) rfl (dec_t hc78)
                                  replace hf := hf.castB (t := 133) rfl (dec_t hc78)
                                  refine stq hf rfl rfl rfl (ex_fieldAddrB fa_43_1 rfl hf rfl) (fun a hf => ?_)
                                  refine stq hf rfl rfl rfl (ex_load sc_3 hf rfl (bx_cell (hs.get (i := 0) rfl) _ rfl)) (fun a hf => ?_)
                                  refine stq hf rfl rfl rfl (ex_fieldAddrB fa_43_1 rfl hf rfl) (fun a hf => ?_)
                                  refine stq hf rfl rfl rfl (ex_load sc_3 hf rfl (bx_cell (hs.get (i := 5) rfl) _ rfl)) (fun a hf => ?_)
                                  refine stq hf rfl rfl rfl (ex_eql hf rfl rfl) (fun a hf => ?_)
                                  refine stq hf rfl rfl rfl (ex_pickT hf rfl rfl) (fun a hf => ?_)
                                  refine stq hf rfl rfl rfl (ex_move hf rfl) (fun a hf => ?_)
                                  replace hf := hf.castB (t := 138) rfl (dec_t hc79)
                                  replace hf := hf.castB (t := 139) rfl (dec_t hc79)
                                  replace hf := hf.castB (t := 140) rfl (dec_t hc79)
                                  refine stepN hf rfl rfl rfl (fun a hf => ?_)
                                  refine stepN hf rfl rfl rfl (fun a hf => ?_)
                                  refine stepN hf rfl rfl rfl (fun a hf => ?_)
                                  refine stepN hf rfl rfl rfl (fun a hf => ?_)
                                  refine stepN hf rfl rfl rfl (fun a hf => ?_)
                                  refine stepN hf rfl rfl rfl (fun a hf => ?_)
                                  refine stepN hf rfl rfl rfl (fun a hf => ?_)
                                  refine stepN hf rfl rfl rfl (fun a hf => ?_)
                                  refine stepN hf rfl rfl rfl (fun a hf => ?_)
                                  refine stepN hf rfl rfl rfl (fun a hf => ?_)
                                  refine stepN hf rfl rfl rfl (fun a hf => ?_)
                                  refine stepN hf rfl rfl rfl (fun a hf => ?_)
                                  refine stq hf rfl rfl rfl (ex_pickT hf rfl rfl) (fun a hf => ?_)
                                  refine stq hf rfl rfl rfl (ex_not hf rfl) (fun a hf => ?_)
                                  refine stq hf rfl rfl rfl (ex_pickT hf rfl rfl) (fun a hf => ?_)
                                  refine stq hf rfl rfl rfl (ex_assign hf rfl) (fun a hf => ?_)
                                  refine hK80 _ _ ?_
                                  refine hN73 _ _ ?_
                                  replace hs := hs.keep (.d (.k (.k (.k (.k (.k .nil))))))
                                  have e72 := some_eq H; subst e72
                                  exact hJ72 _ _ ⟨hf.sub ⟨rfl, rfl, rfl, rfl, rfl, rfl, rfl, rfl, trivial⟩, hs⟩
                                · -- not ((gd HeatLink.zero y37 y66).B) = s53
                                  refine itt H (fun hc81 H => ?_) (fun hc81 H => ?_)
                                  · -- ((gd HeatLink.zero y37 y66).A) = s53
                                    refine region_k (fun K82 hK82 => ?_)
                                    refine stq hf rfl rfl rfl (ex_move hf rfl) (fun a hf => ?_)
                                    refine stq hf rfl rfl rfl (ex_move hf rfl) (fun a hf => ?_)
                                    replace hf := hf.castB (t := 12) rfl hc77
                                    replace hf := hf.castB (t := 126) rfl hc77
                                    replace hf := hf.castB (t := 127) rfl hc77
                                    refine stq hf rfl rfl rfl (ex_fieldAddrB fa_43_0 rfl hf rfl) (fun a hf => ?_)
                                    refine stq hf rfl rfl rfl (ex_load sc_3 hf rfl (bx_cell (hs.get (i := 0) rfl) _ rfl)) (fun a hf => ?_)
                                    refine stq hf rfl rfl rfl (ex_fieldAddrB fa_43_0 rfl hf rfl) (fun a hf => ?_)
                                    refine stq hf rfl rfl rfl (ex_load sc_3 hf rfl (bx_cell (hs.get (i := 5) rfl) _ rfl)) (fun a hf => ?_)
                                    refine stq hf rfl rfl rfl (ex_eql hf rfl rfl) (fun a hf => ?_)
                                    refine stq hf rfl rfl rfl (ex_move hf rfl) (fun a hf => ?_)
                                    replace hf := hf.castB (t := 132) rfl (dec_t hc78)
                                    replace hf := hf.castB (t := 133) rfl (dec_t hc78)
                                    refine stq hf rfl rfl rfl (ex_fieldAddrB fa_43_1 rfl hf rfl) (fun a hf => ?_)
                                    refine stq hf rfl rfl rfl (ex_load sc_3 hf rfl (bx_cell (hs.get (i := 0) rfl) _ rfl)) (fun a hf => ?_)
                                    refine stq hf rfl rfl rfl (ex_fieldAddrB fa_43_1 rfl hf rfl) (fun a hf => ?_)
                                    refine stq hf rfl rfl rfl (ex_load sc_3 hf rfl (bx_cell (hs.get (i := 5) rfl) _ rfl)) (fun a hf => ?_)
                                    refine stq hf rfl rfl rfl (ex_eql hf rfl rfl) (fun a hf => ?_)
                                    refine stq hf rfl rfl rfl (ex_pickT hf rfl rfl) (fun a hf => ?_)
                                    refine stq hf rfl rfl rfl (ex_move hf rfl) (fun a hf => ?_)
                                    replace hf := hf.castB (t := 138) rfl (dec_f hc79)
                                    replace hf := hf.castB (t := 139) rfl (dec_f hc79)
                                    replace hf := hf.castB (t := 140) rfl (dec_f hc79)
                                    refine stq hf rfl rfl rfl (ex_fieldAddrB fa_43_0 rfl hf rfl) (fun a hf => ?_)
                                    refine stq hf rfl rfl rfl (ex_load sc_3 hf rfl (bx_cell (hs.get (i := 0) rfl) _ rfl)) (fun a hf => ?_)
                                    refine stq hf rfl rfl rfl (ex_fieldAddrB fa_43_1 rfl hf rfl) (fun a hf => ?_)
                                    refine stq hf rfl rfl rfl (ex_load sc_3 hf rfl (bx_cell (hs.get (i := 5) rfl) _ rfl)) (fun a hf => ?_)
                                    refine stq hf rfl rfl rfl (ex_eql hf rfl rfl) (fun a hf => ?_)
                                    refine stq hf rfl rfl rfl (ex_move hf rfl) (fun a hf => ?_)
                                    replace hf := hf.castB (t := 145) rfl (dec_t hc81)
                                    replace hf := hf.castB (t := 146) rfl (dec_t hc81)
                                    refine stq hf rfl rfl rfl (ex_fieldAddrB fa_43_1 rfl hf rfl) (fun a hf => ?_)
                                    refine stq hf rfl rfl rfl (ex_load sc_3 hf rfl (bx_cell (hs.get (i := 0) rfl) _ rfl)) (fun a hf => ?_)
                                    refine stq hf rfl rfl rfl (ex_fieldAddrB fa_43_0 rfl hf rfl) (fun a hf => ?_)
                                    refine stq hf rfl rfl rfl (ex_load sc_3 hf rfl (bx_cell (hs.get (i := 5) rfl) _ rfl)) (fun a hf => ?_)
                                    refine stq hf rfl rfl rfl (ex_eql hf rfl rfl) (fun a hf => ?_)
                                    refine stq hf rfl rfl rfl (ex_pickT hf rfl rfl) (fun a hf => ?_)
                                    refine stq hf rfl rfl rfl (ex_pickF hf rfl rfl) (fun a hf => ?_)
                                    refine stq hf rfl rfl rfl (ex_not hf rfl) (fun a hf => ?_)
                                    refine stq hf rfl rfl rfl (ex_pickT hf rfl rfl) (fun a hf => ?_)
                                    refine stq hf rfl rfl rfl (ex_assign hf rfl) (fun a hf => ?_)
                                    refine hK82 _ _ ?_
                                    refine hN73 _ _ ?_
                                    replace hs := hs.keep (.d (.k (.k (.k (.k (.k .nil))))))
                                    have e72 := some_eq H; subst e72
                                    exact hJ72 _ _ ⟨hf.sub ⟨rfl, rfl, rfl, rfl, rfl, rfl, rfl, rfl, trivial⟩, hs⟩
                                  · -- not ((gd HeatLink.zero y37 y66).A) = s53
                                    refine region_k (fun K83 hK83 => ?_)
                                    refine stq hf rfl rfl rfl (ex_move hf rfl) (fun a hf => ?_)
                                    refine stq hf rfl rfl rfl (ex_move hf rfl) (fun a hf => ?_)
                                    replace hf := hf.castB (t := 12) rfl hc77
                                    replace hf := hf.castB (t := 126) rfl hc77
                                    replace hf := hf.castB (t := 127) rfl hc77
                                    refine stq hf rfl rfl rfl (ex_fieldAddrB fa_43_0 rfl hf rfl) (fun a hf => ?_)
                                    refine stq hf rfl rfl rfl (ex_load sc_3 hf rfl (bx_cell (hs.get (i := 0) rfl) _ rfl)) (fun a hf => ?_)
                                    refine stq hf rfl rfl rfl (ex_fieldAddrB fa_43_0 rfl hf rfl) (fun a hf => ?_)
                                    refine stq hf rfl rfl rfl (ex_load sc_3 hf rfl (bx_cell (hs.get (i := 5) rfl) _ rfl)) (fun a hf => ?_)
                                    refine stq hf rfl rfl rfl (ex_eql hf rfl rfl) (fun a hf => ?_)
                                    refine stq hf rfl rfl rfl (ex_move hf rfl) (fun a hf => ?_)
                                    replace hf := hf.castB (t := 132) rfl (dec_t hc78)
                                    replace hf := hf.castB (t := 133) rfl (dec_t hc78)
                                    refine stq hf rfl rfl rfl (ex_fieldAddrB fa_43_1 rfl hf rfl) (fun a hf => ?_)
                                    refine stq hf rfl rfl rfl (ex_load sc_3 hf rfl (bx_cell (hs.get (i := 0) rfl) _ rfl)) (fun a hf => ?_)
                                    refine stq hf rfl rfl rfl (ex_fieldAddrB fa_43_1 rfl hf rfl) (fun a hf => ?_)
                                    refine stq hf rfl rfl rfl (ex_load sc_3 hf rfl (bx_cell (hs.get (i := 5) rfl) _ rfl)) (fun a hf => ?_)
                                    refine stq hf rfl rfl rfl (ex_eql hf rfl rfl) (fun a hf => ?_)
                                    refine stq hf rfl rfl rfl (ex_pickT hf rfl rfl) (fun a hf => ?_)
                                    refine stq hf rfl rfl rfl (ex_move hf rfl) (fun a hf => ?_)
                                    replace hf := hf.castB (t := 138) rfl (dec_f hc79)
                                    replace hf := hf.castB (t := 139) rfl (dec_f hc79)
                                    replace hf := hf.castB (t := 140) rfl (dec_f hc79)
                                    refine stq hf rfl rfl rfl (ex_fieldAddrB fa_43_0 rfl hf rfl) (fun a hf => ?_)
                                    refine stq hf rfl rfl rfl (ex_load sc_3 hf rfl (bx_cell (hs.get (i := 0) rfl) _ rfl)) (fun a hf => ?_)
                                    refine stq hf rfl rfl rfl (ex_fieldAddrB fa_43_1 rfl hf rfl) (fun a hf => ?_)
                                    refine stq hf rfl rfl rfl (ex_load sc_3 hf rfl (bx_cell (hs.get (i := 5) rfl) _ rfl)) (fun a hf => ?_)
                                    refine stq hf rfl rfl rfl (ex_eql hf rfl rfl) (fun a hf => ?_)
                                    refine stq hf rfl rfl rfl (ex_move hf rfl) (fun a hf => ?_)
                                    replace hf := hf.castB (t := 145) rfl (dec_f hc81)
                                    replace hf := hf.castB (t := 146) rfl (dec_f hc81)
                                    refine stepN hf rfl rfl rfl (fun a hf => ?_)
                                    refine stepN hf rfl rfl rfl (fun a hf => ?_)
                                    refine stepN hf rfl rfl rfl (fun a hf => ?_)
                                    refine stepN hf rfl rfl rfl (fun a hf => ?_)
                                    refine stepN hf rfl rfl rfl (fun a hf => ?_)
                                    refine stq hf rfl rfl rfl (ex_pickF hf rfl rfl) (fun a hf => ?_)
                                    refine stq hf rfl rfl rfl (ex_pickF hf rfl rfl) (fun a hf => ?_)
                                    refine stq hf rfl rfl rfl (ex_not hf rfl) (fun a hf => ?_)
                                    refine stq hf rfl rfl rfl (ex_pickT hf rfl rfl) (fun a hf => ?_)
                                    refine stq hf rfl rfl rfl (ex_assign hf rfl) (fun a hf => ?_)
                                    refine hK83 _ _ ?_
                                    refine hN73 _ _ ?_
                                    replace hs := hs.keep (.d (.k (.k (.k (.k (.k .nil))))))
                                    have e72 := some_eq H; subst e72
                                    exact hJ72 _ _ ⟨hf.sub ⟨rfl, rfl, rfl, rfl, rfl, rfl, rfl, rfl, trivial⟩, hs⟩
                              · -- not ((gd HeatLink.zero y37 y66).A) = s52
                                refine itt H (fun hc84 H => ?_) (fun hc84 H => ?_)
                                · -- ((gd HeatLink.zero y37 y66).A) = s53
                                  refine region_k (fun K85 hK85 => ?_)
                                  refine stq hf rfl rfl rfl (ex_move hf rfl) (fun a hf => ?_)
                                  refine stq hf rfl rfl rfl (ex_move hf rfl) (fun a hf => ?_)
                                  replace hf := hf.castB (t := 12) rfl hc77
                                  replace hf := hf.castB (t := 126) rfl hc77
                                  replace hf := hf.castB (t := 127) rfl hc77
                                  refine stq hf rfl rfl rfl (ex_fieldAddrB fa_43_0 rfl hf rfl) (fun a hf => ?_)
                                  refine stq hf rfl rfl rfl (ex_load sc_3 hf rfl (bx_cell (hs.get (i := 0) rfl) _ rfl)) (fun a hf => ?_)
                                  refine stq hf rfl rfl rfl (ex_fieldAddrB fa_43_0 rfl hf rfl) (fun a hf => ?_)
                                  refine stq hf rfl rfl rfl (ex_load sc_3 hf rfl (bx_cell (hs.get (i := 5) rfl) _ rfl)) (fun a hf => ?_)
                                  refine stq hf rfl rfl rfl (ex_eql hf rfl rfl) (fun a hf => ?_)
                                  refine stq hf rfl rfl rfl (ex_move hf rfl) (fun a hf => ?_)
                                  replace hf := hf.castB (t := 132) rfl (dec_f hc78)
                                  replace hf := hf.castB (t := 133) rfl (dec_f hc78)
                                  refine stepN hf rfl rfl rfl (fun a hf => ?_)
                                  refine stepN hf rfl rfl rfl (fun a hf => ?_)
                                  refine stepN hf rfl rfl rfl (fun a hf => ?_)
                                  refine stepN hf rfl rfl rfl (fun a hf => ?_)
                                  refine stepN hf rfl rfl rfl (fun a hf => ?_)
                                  refine stq hf rfl rfl rfl (ex_pickF hf rfl rfl) (fun a hf => ?_)
                                  refine stq hf rfl rfl rfl (ex_move hf rfl) (fun a hf => ?_)
                                  refine stq hf rfl rfl rfl (ex_fieldAddrB fa_43_0 rfl hf rfl) (fun a hf => ?_)
                                  refine stq hf rfl rfl rfl (ex_load sc_3 hf rfl (bx_cell (hs.get (i := 0) rfl) _ rfl)) (fun a hf => ?_)
                                  refine stq hf rfl rfl rfl (ex_fieldAddrB fa_43_1 rfl hf rfl) (fun a hf => ?_)
                                  refine stq hf rfl rfl rfl (ex_load sc_3 hf rfl (bx_cell (hs.get (i := 5) rfl) _ rfl)) (fun a hf => ?_)
                                  refine stq hf rfl rfl rfl (ex_eql hf rfl rfl) (fun a hf => ?_)
                                  refine stq hf rfl rfl rfl (ex_move hf rfl) (fun a hf => ?_)
                                  replace hf := hf.castB (t := 145) rfl (dec_t hc84)
                                  replace hf := hf.castB (t := 146) rfl (dec_t hc84)
                                  refine stq hf rfl rfl rfl (ex_fieldAddrB fa_43_1 rfl hf rfl) (fun a hf => ?_)
                                  refine stq hf rfl rfl rfl (ex_load sc_3 hf rfl (bx_cell (hs.get (i := 0) rfl) _ rfl)) (fun a hf => ?_)
                                  refine stq hf rfl rfl rfl (ex_fieldAddrB fa_43_0 rfl hf rfl) (fun a hf => ?_)
                                  refine stq hf rfl rfl rfl (ex_load sc_3 hf rfl (bx_cell (hs.get (i := 5) rfl) _ rfl)) (fun a hf => ?_)
                                  refine stq hf rfl rfl rfl (ex_eql hf rfl rfl) (fun a hf => ?_)
                                  refine stq hf rfl rfl rfl (ex_pickT hf rfl rfl) (fun a hf => ?_)
                                  refine stq hf rfl rfl rfl (ex_pickF hf rfl rfl) (fun a hf => ?_)
                                  refine stq hf rfl rfl rfl (ex_not hf rfl) (fun a hf => ?_)
                                  refine stq hf rfl rfl rfl (ex_pickT hf rfl rfl) (fun a hf => ?_)
                                  refine stq hf rfl rfl rfl (ex_assign hf rfl) (fun a hf => ?_)
                                  refine hK85 _ _ ?_
                                  refine hN73 _ _ ?_
                                  replace hs := hs.keep (.d (.k (.k (.k (.k (.k .nil))))))
                                  have e72 := some_eq H; subst e72
                                  exact hJ72 _ _ ⟨hf.sub ⟨rfl, rfl, rfl, rfl, rfl, rfl, rfl, rfl, trivial⟩, hs⟩
                                · -- not ((gd HeatLink.zero y37 y66).A) = s53
                                  refine region_k (fun K86 hK86 => ?_)
                                  refine stq hf rfl rfl rfl (ex_move hf rfl) (fun a hf => ?_)
                                  refine stq hf rfl rfl rfl (ex_move hf rfl) (fun a hf => ?_)
                                  replace hf := hf.castB (t := 12) rfl hc77
                                  replace hf := hf.castB (t := 126) rfl hc77
                                  replace hf := hf.castB (t := 127) rfl hc77
                                  refine stq hf rfl rfl rfl (ex_fieldAddrB fa_43_0 rfl hf rfl) (fun a hf => ?_)
                                  refine stq hf rfl rfl rfl (ex_load sc_3 hf rfl (bx_cell (hs.get (i := 0) rfl) _ rfl)) (fun a hf => ?_)
                                  refine stq hf rfl rfl rfl (ex_fieldAddrB fa_43_0 rfl hf rfl) (fun a hf => ?_)
                                  refine stq hf rfl rfl rfl (ex_load sc_3 hf rfl (bx_cell (hs.get (i := 5) rfl) _ rfl)) (fun a hf => ?_)
                                  refine stq hf rfl rfl rfl (ex_eql hf rfl rfl) (fun a hf => ?_)
                                  refine stq hf rfl rfl rfl (ex_move hf rfl) (fun a hf => ?_)
                                  replace hf := hf.castB (t := 132) rfl (dec_f hc78)
                                  replace hf := hf.castB (t := 133) rfl (dec_f hc78)
                                  refine stepN hf rfl rfl rfl (fun a hf => ?_)
                                  refine stepN hf rfl rfl rfl (fun a hf => ?_)
                                  refine stepN hf rfl rfl rfl (fun a hf => ?_)
                                  refine stepN hf rfl rfl rfl (fun a hf => ?_)
                                  refine stepN hf rfl rfl rfl (fun a hf => ?_)
                                  refine stq hf rfl rfl rfl (ex_pickF hf rfl rfl) (fun a hf => ?_)
                                  refine stq hf rfl rfl rfl (ex_move hf rfl) (fun a hf => ?_)
                                  refine stq hf rfl rfl rfl (ex_fieldAddrB fa_43_0 rfl hf rfl) (fun a hf => ?_)
                                  refine stq hf rfl rfl rfl (ex_load sc_3 hf rfl (bx_cell (hs.get (i := 0) rfl) _ rfl)) (fun a hf => ?_)
                                  refine stq hf rfl rfl rfl (ex_fieldAddrB fa_43_1 rfl hf rfl) (fun a hf => ?_)
                                  refine stq hf rfl rfl rfl (ex_load sc_3 hf rfl (bx_cell (hs.get (i := 5) rfl) _ rfl)) (fun a hf => ?_)
                                  refine stq hf rfl rfl rfl (ex_eql hf rfl rfl) (fun a hf => ?_)
                                  refine stq hf rfl rfl rfl (ex_move hf rfl) (fun a hf => ?_)
                                  replace hf := hf.castB (t := 145) rfl (dec_f hc84)
                                  replace hf := hf.castB (t := 146) rfl (dec_f hc84)
                                  refine stepN hf rfl rfl rfl (fun a hf => ?_)
                                  refine stepN hf rfl rfl rfl (fun a hf => ?_)
                                  refine stepN hf rfl rfl rfl (fun a hf => ?_)
                                  refine stepN hf rfl rfl rfl (fun a hf => ?_)
                                  refine stepN hf rfl rfl rfl (fun a hf => ?_)
                                  refine stq hf rfl rfl rfl (ex_pickF hf rfl rfl) (fun a hf => ?_)
                                  refine stq hf rfl rfl rfl (ex_pickF hf rfl rfl) (fun a hf => ?_)
                                  refine stq hf rfl rfl rfl (ex_not hf rfl) (fun a hf => ?_)
                                  refine stq hf rfl rfl rfl (ex_pickT hf rfl rfl) (fun a hf => ?_)
                                  refine stq hf rfl rfl rfl (ex_assign hf rfl) (fun a hf => ?_)
                                  refine hK86 _ _ ?_
                                  refine hN73 _ _ ?_
                                  replace hs := hs.keep (.d (.k (.k (.k (.k (.k .nil))))))
                                  have e72 := some_eq H; subst e72
                                  exact hJ72 _ _ ⟨hf.sub ⟨rfl, rfl, rfl, rfl, rfl, rfl, rfl, rfl, trivial⟩, hs⟩
                            · -- not y65 = true
                              refine region_k (fun K87 hK87 => ?_)
                              refine stq hf rfl rfl rfl (ex_move hf rfl) (fun a hf => ?_)
                              refine stq hf rfl rfl rfl (ex_move hf rfl) (fun a hf => ?_)
                              replace hf := hf.castB (t := 12) rfl (bool_f hc77)
                              replace hf := hf.castB (t := 126) rfl (bool_f hc77)
                              replace hf := hf.castB (t := 127) rfl (bool_f hc77)
                              refine stepN hf rfl rfl rfl (fun a hf => ?_)
                              refine stepN hf rfl rfl rfl (fun a hf => ?_)
                              refine stepN hf rfl rfl rfl (fun a hf => ?_)
                              refine stepN hf rfl rfl rfl (fun a hf => ?_)
                              refine stepN hf rfl rfl rfl (fun a hf => ?_)
                              refine stepN hf rfl rfl rfl (fun a hf => ?_)
                              refine stepN hf rfl rfl rfl (fun a hf => ?_)
                              refine stepN hf rfl rfl rfl (fun a hf => ?_)
                              refine stepN hf rfl rfl rfl (fun a hf => ?_)
                              refine stepN hf rfl rfl rfl (fun a hf => ?_)
                              refine stepN hf rfl rfl rfl (fun a hf => ?_)
                              refine stepN hf rfl rfl rfl (fun a hf => ?_)
                              refine stepN hf rfl rfl rfl (fun a hf => ?_)
                              refine stepN hf rfl rfl rfl (fun a hf => ?_)
                              refine stepN hf rfl rfl rfl (fun a hf => ?_)
                              refine stepN hf rfl rfl rfl (fun a hf => ?_)
                              refine stepN hf rfl rfl rfl (fun a hf => ?_)
                              refine stepN hf rfl rfl rfl (fun a hf => ?_)
                              refine stepN hf rfl rfl rfl (fun a hf => ?_)
                              refine stepN hf rfl rfl rfl (fun a hf => ?_)
                              refine stepN hf rfl rfl rfl (fun a hf => ?_)
                              refine stepN hf rfl rfl rfl (fun a hf => ?_)
                              refine stepN hf rfl rfl rfl (fun a hf => ?_)
                              refine stepN hf rfl rfl rfl (fun a hf => ?_)
                              refine stepN hf rfl rfl rfl (fun a hf => ?_)
                              refine stepN hf rfl rfl rfl (fun a hf => ?_)
                              refine stepN hf rfl rfl rfl (fun a hf => ?_)
                              refine stq hf rfl rfl rfl (ex_pickF hf rfl rfl) (fun a hf => ?_)
                              refine stq hf rfl rfl rfl (ex_assign hf rfl) (fun a hf => ?_)
                              refine hK87 _ _ ?_
                              refine hN73 _ _ ?_
                              replace hs := hs.keep (.d (.k (.k (.k (.k (.k .nil))))))
                              have e72 := some_eq H; subst e72
                              exact hJ72 _ _ ⟨hf.sub ⟨rfl, rfl, rfl, rfl, rfl, rfl, rfl, rfl, trivial⟩, hs⟩
                          · obtain ⟨hf, hs⟩ := hJ
                            replace H := HO72
                            clear HO72
                            refine region_k (fun K88 hK88 => ?_)
                            refine stq hf rfl rfl rfl (ex_move hf rfl) (fun a hf => ?_)
                            refine stq hf rfl rfl rfl (ex_add hf rfl rfl) (fun a hf => ?_)
                            refine stq hf rfl rfl rfl (ex_assign hf rfl) (fun a hf => ?_)
                            refine hK88 _ _ ?_
                            exact hL68 k68 _ _ (Nat.lt_succ_self _) ⟨x72, (IntKind.i64.wrap (y66 + 1)), hf.sub ⟨rfl, rfl, rfl, rfl, rfl, rfl, rfl, rfl, trivial⟩, hs, H⟩
                        · -- not y66 < (y37.length : Int)
                          replace hf := hf.castB (t := 118) rfl (dec_f hc71)
                          refine cond_F hf rfl ?_
                          refine wp_exit ?_
                          refine hX69 4 _ _ ?_
                          refine hX68 4 _ _ ?_
                          refine hX64 _ _ ?_
                          have e62 := some_eq H; subst e62
                          exact hJ62 _ _ ⟨hf.sub ⟨rfl, rfl, rfl, rfl, rfl, rfl, rfl, trivial⟩, hs⟩
                  · obtain ⟨hf, hs⟩ := hJ
                    replace H := HO62
                    clear HO62
                    refine seq_reg (fun K89 hK89 => ?_)
                    refine stq hf rfl rfl rfl (ex_move hf rfl) (fun a hf => ?_)
                    refine hK89 _ _ ?_
                    refine itt H (fun hc90 H => ?_) (fun hc90 H => ?_)
                    · -- x62 = true
                      replace hf := hf.castB (t := 12) rfl hc90
                      replace hf := hf.castB (t := 156) rfl hc90
                      refine cond_T hf rfl ?_
                      refine ck_some H (fun hc92 H => ?_)
                      refine seq_reg (fun K94 hK94 => ?_)
                      refine stq hf rfl rfl rfl (ex_fieldAddrB fa_27_1 rfl hf rfl) (fun a hf => ?_)
                      refine stq hf rfl rfl rfl (ex_load sc_23 hf rfl (bx_cell (hs.get (i := 1) rfl) _ rfl)) (fun a hf => ?_)
                      refine stq hf rfl rfl rfl (ex_loadA (cs := [.int .i64 s52, .int .i64 s53, .int .i64 (IntKind.i64.wrap (1 + (IntKind.i64.wrap (Int.tmod (IntKind.u64.wrap ((gd HeatLink.zero a1 y38).Conductance)) 5))))]) ag_43 hf rfl (bx_cells (hs.get (i := 4) rfl) rfl)) (fun a hf => ?_)
                      refine stepV hf rfl rfl rfl (er_buildSlice (K := K_api_HeatLink) (xs := [(⟨s52, s53, (IntKind.i64.wrap (1 + (IntKind.i64.wrap (Int.tmod (IntKind.u64.wrap ((gd HeatLink.zero a1 y38).Conductance)) 5))))⟩ : HeatLink)]) hs Try.underlying23 ep_43 rfl rfl hf rfl (.cons rfl .nil) rfl rfl) (fun v91 w hs a hf => ?_)
                      refine stepV hf rfl rfl rfl (er_append (K := K_api_HeatLink) hs (.k (.k (.k (.k (.c (.k .nil)))))) (osl_rsl _ (hs.get (i := 0) rfl)) rfl Try.underlying23 ep_43 hc92 rfl hf rfl rfl) (fun v93 w hs a hf => ?_)
                      refine stq hf rfl rfl rfl (ex_fieldAddrB fa_27_1 rfl hf rfl) (fun a hf => ?_)
                      refine stepS hf rfl rfl (er_storeB hs (.k (.k (.k (.c (.k (.k .nil)))))) hf rfl rfl (IsSl.one (rsl_isSl (osl_rsl _ (hs.get (i := 0) rfl)))) sz_23 rfl) (fun w hs => ?_)
                      refine hK94 _ _ ?_
                      refine seq_n (fun Q95 hN95 hR95 hX95 => ?_)
                      refine ck_some H (fun hc96 H => ?_)
                      refine region_d fol 14 [(1, v1), (6, .pointer (some ⟨b1, 0, none⟩)), (7, .int .i64 (mx 1 (mn (a0.length : Int) 5))), (8, .pointer (some ⟨b6, 0, none⟩)), (10, .int .i64 y38), (11, .pointer (some ⟨b55, 0, none⟩))] [(0, .pointer (some ⟨b6, 0, none⟩)), (1, v5), (2, .pointer (some ⟨b55, 0, none⟩)), (3, .int .i64 s52), (4, .pointer (some ⟨b6, 0, none⟩)), (5, v5), (6, .pointer (some ⟨b55, 0, none⟩)), (7, .int .i64 s52), (8, .pointer (some (sla v5 (s52.toNat * 2)))), (9, .pointer (some (sla v5 (s52.toNat * 2 + 0)))), (10, .int .i64 ((gd HeatDomain.zero y36 s52).Capacity)), (11, .pointer (some ⟨b55, 2, none⟩)), (12, .int .i64 (IntKind.i64.wrap (1 + (IntKind.i64.wrap (Int.tmod (IntKind.u64.wrap ((gd HeatLink.zero a1 y38).Conductance)) 5))))), (13, .int .i64 (IntKind.i64.wrap (((gd HeatDomain.zero y36 s52).Capacity) + (IntKind.i64.wrap (1 + (IntKind.i64.wrap (Int.tmod (IntKind.u64.wrap ((gd HeatLink.zero a1 y38).Conductance)) 5)))))))] [] (fun w => (bx b6 27 [v5, v93, .int .i64 (IntKind.i64.wrap ((IntKind.i64.wrap (Int.tmod (IntKind.u64.wrap a2) 201)) - 100))]).ok w ∧ (bx b55 43 [.int .i64 s52, .int .i64 s53, .int .i64 (IntKind.i64.wrap (1 + (IntKind.i64.wrap (Int.tmod (IntKind.u64.wrap ((gd HeatLink.zero a1 y38).Conductance)) 5))))]).ok w ∧ (osl K_api_HeatDomain v5 y36).ok w ∧ True) (fun w => St M w0 w [bx b6 27 [v5, v93, .int .i64 (IntKind.i64.wrap ((IntKind.i64.wrap (Int.tmod (IntKind.u64.wrap a2) 201)) - 100))], osl K_api_HeatLink v93 (y37 ++ [(⟨s52, s53, (IntKind.i64.wrap (1 + (IntKind.i64.wrap (Int.tmod (IntKind.u64.wrap ((gd HeatLink.zero a1 y38).Conductance)) 5))))⟩ : HeatLink)]), osl K_api_HeatLink v91 [(⟨s52, s53, (IntKind.i64.wrap (1 + (IntKind.i64.wrap (Int.tmod (IntKind.u64.wrap ((gd HeatLink.zero a1 y38).Conductance)) 5))))⟩ : HeatLink)], bx b1 27 [(.slice none 0 0), (.slice none 0 0), .int .i64 0], osl K_api_HeatDomain v5 y36, bx b55 43 [.int .i64 s52, .int .i64 s53, .int .i64 (IntKind.i64.wrap (1 + (IntKind.i64.wrap (Int.tmod (IntKind.u64.wrap ((gd HeatLink.zero a1 y38).Conductance)) 5))))]]) hf ⟨rfl, rfl, rfl, rfl, rfl, rfl, trivial⟩ (by kernel_rfl) (by kernel_rfl) rfl (by decide) ⟨hs.drew.get (i := 0) rfl, hs.drew.get (i := 5) rfl, hs.drew.get (i := 4) rfl, trivial⟩ hs.drew (.cons (⟨_, _, rfl, rfl, rfl, rfl, fun a w hR hf => .inl ⟨wanted_yes hf rfl, ex_fieldAddrB fa_27_0 rfl hf rfl⟩⟩) (.cons (⟨_, _, rfl, rfl, rfl, rfl, fun a w hR hf => .inl ⟨wanted_yes hf rfl, ex_load sc_22 hf rfl (bx_cell (hR.1) _ rfl)⟩⟩) (.cons (⟨_, _, rfl, rfl, rfl, rfl, fun a w hR hf => .inl ⟨wanted_yes hf rfl, ex_fieldAddrB fa_43_0 rfl hf rfl⟩⟩) (.cons (⟨_, _, rfl, rfl, rfl, rfl, fun a w hR hf => .inl ⟨wanted_yes hf rfl, ex_load sc_3 hf rfl (bx_cell (hR.2.1) _ rfl)⟩⟩) (.cons (⟨_, _, rfl, rfl, rfl, rfl, fun a w hR hf => .inl ⟨wanted_yes hf rfl, ex_fieldAddrB fa_27_0 rfl hf rfl⟩⟩) (.cons (⟨_, _, rfl, rfl, rfl, rfl, fun a w hR hf => .inl ⟨wanted_yes hf rfl, ex_load sc_22 hf rfl (bx_cell (hR.1) _ rfl)⟩⟩) (.cons (⟨_, _, rfl, rfl, rfl, rfl, fun a w hR hf => .inl ⟨wanted_yes hf rfl, ex_fieldAddrB fa_43_0 rfl hf rfl⟩⟩) (.cons (⟨_, _, rfl, rfl, rfl, rfl, fun a w hR hf => .inl ⟨wanted_yes hf rfl, ex_load sc_3 hf rfl (bx_cell (hR.2.1) _ rfl)⟩⟩) (.cons (⟨_, _, rfl, rfl, rfl, rfl, fun a w hR hf => .inl ⟨wanted_yes hf rfl, ex_indexAddr sa_22 (rsl_isSl (osl_rsl _ hR.2.2.1)) hc96.1 hc96.2 hf rfl rfl⟩⟩) (.cons (⟨_, _, rfl, rfl, rfl, rfl, fun a w hR hf => .inl ⟨wanted_yes hf rfl, ex_fieldAddrS fa_34_0 rfl hf rfl⟩⟩) (.cons (⟨_, _, rfl, rfl, rfl, rfl, fun a w hR hf => .inl ⟨wanted_yes hf rfl, ex_load sc_2 hf rfl (el_cell (K := K_api_HeatDomain) (f := 0) (rsl_rd (osl_rsl _ hR.2.2.1)) hc96.1 hc96.2 rfl)⟩⟩) (.cons (⟨_, _, rfl, rfl, rfl, rfl, fun a w hR hf => .inl ⟨wanted_yes hf rfl, ex_fieldAddrB fa_43_2 rfl hf rfl⟩⟩) (.cons (⟨_, _, rfl, rfl, rfl, rfl, fun a w hR hf => .inl ⟨wanted_yes hf rfl, ex_load sc_2 hf rfl (bx_cell (hR.2.1) _ rfl)⟩⟩) (.cons (⟨_, _, rfl, rfl, rfl, rfl, fun a w hR hf => .inl ⟨wanted_yes hf rfl, ex_add hf rfl rfl⟩⟩) (.nil))))))))))))))) (fun K97 hK97 => ?_)
                      refine RW.zero (by kernel_rfl) (by kernel_rfl) [(1, v1), (6, .pointer (some ⟨b1, 0, none⟩)), (7, .int .i64 (mx 1 (mn (a0.length : Int) 5))), (8, .pointer (some ⟨b6, 0, none⟩)), (10, .int .i64 y38), (11, .pointer (some ⟨b55, 0, none⟩)), (164, v5), (166, .int .i64 s52), (176, .int .i64 (IntKind.i64.wrap (((gd HeatDomain.zero y36 s52).Capacity) + (IntKind.i64.wrap (1 + (IntKind.i64.wrap (Int.tmod (IntKind.u64.wrap ((gd HeatLink.zero a1 y38).Conductance)) 5)))))))] ⟨rfl, rfl, rfl, rfl, rfl, rfl, rfl, rfl, rfl, trivial⟩ (fun a w hR hs hf => ?_)
                      refine stq hf rfl rfl rfl (ex_indexAddr sa_22 (rsl_isSl (osl_rsl _ (hs.get (i := 4) rfl))) hc96.1 hc96.2 hf rfl rfl) (fun a hf => ?_)
                      refine stq hf rfl rfl rfl (ex_fieldAddrS fa_34_0 rfl hf rfl) (fun a hf => ?_)
                      refine stepS hf rfl rfl (er_storeE (K := K_api_HeatDomain) (f := 0) (x' := (⟨(IntKind.i64.wrap (((gd HeatDomain.zero y36 s52).Capacity) + (IntKind.i64.wrap (1 + (IntKind.i64.wrap (Int.tmod (IntKind.u64.wrap ((gd HeatLink.zero a1 y38).Conductance)) 5)))))), ((gd HeatDomain.zero y36 s52).Ambient)⟩ : HeatDomain)) hs (.k (.k (.k (.k (.c (.k .nil)))))) hc96.1 hc96.2 hf rfl rfl rfl sz_2 rfl rfl) (fun w hs => ?_)
                      refine hK97 _ _ ?_
                      refine hN95 _ _ ?_
                      refine ck_some H (fun hc98 H => ?_)
                      refine region_d fol 14 [(1, v1), (6, .pointer (some ⟨b1, 0, none⟩)), (7, .int .i64 (mx 1 (mn (a0.length : Int) 5))), (8, .pointer (some ⟨b6, 0, none⟩)), (10, .int .i64 y38), (11, .pointer (some ⟨b55, 0, none⟩))] [(0, .pointer (some ⟨b6, 0, none⟩)), (1, v5), (2, .pointer (some ⟨b55, 1, none⟩)), (3, .int .i64 s53), (4, .pointer (some ⟨b6, 0, none⟩)), (5, v5), (6, .pointer (some ⟨b55, 1, none⟩)), (7, .int .i64 s53), (8, .pointer (some (sla v5 (s53.toNat * 2)))), (9, .pointer (some (sla v5 (s53.toNat * 2 + 0)))), (10, .int .i64 ((gd HeatDomain.zero (y36.set s52.toNat (⟨(IntKind.i64.wrap (((gd HeatDomain.zero y36 s52).Capacity) + (IntKind.i64.wrap (1 + (IntKind.i64.wrap (Int.tmod (IntKind.u64.wrap ((gd HeatLink.zero a1 y38).Conductance)) 5)))))), ((gd HeatDomain.zero y36 s52).Ambient)⟩ : HeatDomain)) s53).Capacity)), (11, .pointer (some ⟨b55, 2, none⟩)), (12, .int .i64 (IntKind.i64.wrap (1 + (IntKind.i64.wrap (Int.tmod (IntKind.u64.wrap ((gd HeatLink.zero a1 y38).Conductance)) 5))))), (13, .int .i64 (IntKind.i64.wrap (((gd HeatDomain.zero (y36.set s52.toNat (⟨(IntKind.i64.wrap (((gd HeatDomain.zero y36 s52).Capacity) + (IntKind.i64.wrap (1 + (IntKind.i64.wrap (Int.tmod (IntKind.u64.wrap ((gd HeatLink.zero a1 y38).Conductance)) 5)))))), ((gd HeatDomain.zero y36 s52).Ambient)⟩ : HeatDomain)) s53).Capacity) + (IntKind.i64.wrap (1 + (IntKind.i64.wrap (Int.tmod (IntKind.u64.wrap ((gd HeatLink.zero a1 y38).Conductance)) 5)))))))] [] (fun w => (bx b6 27 [v5, v93, .int .i64 (IntKind.i64.wrap ((IntKind.i64.wrap (Int.tmod (IntKind.u64.wrap a2) 201)) - 100))]).ok w ∧ (bx b55 43 [.int .i64 s52, .int .i64 s53, .int .i64 (IntKind.i64.wrap (1 + (IntKind.i64.wrap (Int.tmod (IntKind.u64.wrap ((gd HeatLink.zero a1 y38).Conductance)) 5))))]).ok w ∧ (osl K_api_HeatDomain v5 (y36.set s52.toNat (⟨(IntKind.i64.wrap (((gd HeatDomain.zero y36 s52).Capacity) + (IntKind.i64.wrap (1 + (IntKind.i64.wrap (Int.tmod (IntKind.u64.wrap ((gd HeatLink.zero a1 y38).Conductance)) 5)))))), ((gd HeatDomain.zero y36 s52).Ambient)⟩ : HeatDomain))).ok w ∧ True) (fun w => St M w0 w [osl K_api_HeatDomain v5 (y36.set s52.toNat (⟨(IntKind.i64.wrap (((gd HeatDomain.zero y36 s52).Capacity) + (IntKind.i64.wrap (1 + (IntKind.i64.wrap (Int.tmod (IntKind.u64.wrap ((gd HeatLink.zero a1 y38).Conductance)) 5)))))), ((gd HeatDomain.zero y36 s52).Ambient)⟩ : HeatDomain)), bx b6 27 [v5, v93, .int .i64 (IntKind.i64.wrap ((IntKind.i64.wrap (Int.tmod (IntKind.u64.wrap a2) 201)) - 100))], osl K_api_HeatLink v93 (y37 ++ [(⟨s52, s53, (IntKind.i64.wrap (1 + (IntKind.i64.wrap (Int.tmod (IntKind.u64.wrap ((gd HeatLink.zero a1 y38).Conductance)) 5))))⟩ : HeatLink)]), osl K_api_HeatLink v91 [(⟨s52, s53, (IntKind.i64.wrap (1 + (IntKind.i64.wrap (Int.tmod (IntKind.u64.wrap ((gd HeatLink.zero a1 y38).Conductance)) 5))))⟩ : HeatLink)], bx b1 27 [(.slice none 0 0), (.slice none 0 0), .int .i64 0], bx b55 43 [.int .i64 s52, .int .i64 s53, .int .i64 (IntKind.i64.wrap (1 + (IntKind.i64.wrap (Int.tmod (IntKind.u64.wrap ((gd HeatLink.zero a1 y38).Conductance)) 5))))]]) hf ⟨rfl, rfl, rfl, rfl, rfl, rfl, trivial⟩ (by kernel_rfl) (by kernel_rfl) rfl (by decide) ⟨hs.drew.get (i := 1) rfl, hs.drew.get (i := 5) rfl, hs.drew.get (i := 0) rfl, trivial⟩ hs.drew (.cons (⟨_, _, rfl, rfl, rfl, rfl, fun a w hR hf => .inl ⟨wanted_yes hf rfl, ex_fieldAddrB fa_27_0 rfl hf rfl⟩⟩) (.cons (⟨_, _, rfl, rfl, rfl, rfl, fun a w hR hf => .inl ⟨wanted_yes hf rfl, ex_load sc_22 hf rfl (bx_cell (hR.1) _ rfl)⟩⟩) (.cons (⟨_, _, rfl, rfl, rfl, rfl, fun a w hR hf => .inl ⟨wanted_yes hf rfl, ex_fieldAddrB fa_43_1 rfl hf rfl⟩⟩) (.cons (⟨_, _, rfl, rfl, rfl, rfl, fun a w hR hf => .inl ⟨wanted_yes hf rfl, ex_load sc_3 hf rfl (bx_cell (hR.2.1) _ rfl)⟩⟩) (.cons (⟨_, _, rfl, rfl, rfl, rfl, fun a w hR hf => .inl ⟨wanted_yes hf rfl, ex_fieldAddrB fa_27_0 rfl hf rfl⟩⟩) (.cons (⟨_, _, rfl, rfl, rfl, rfl, fun a w hR hf => .inl ⟨wanted_yes hf rfl, ex_load sc_22 hf rfl (bx_cell (hR.1) _ rfl)⟩⟩) (.cons (⟨_, _, rfl, rfl, rfl, rfl, fun a w hR hf => .inl ⟨wanted_yes hf rfl, ex_fieldAddrB fa_43_1 rfl hf rfl⟩⟩) (.cons (⟨_, _, rfl, rfl, rfl, rfl, fun a w hR hf => .inl ⟨wanted_yes hf rfl, ex_load sc_3 hf rfl (bx_cell (hR.2.1) _ rfl)⟩⟩) (.cons (⟨_, _, rfl, rfl, rfl, rfl, fun a w hR hf => .inl ⟨wanted_yes hf rfl, ex_indexAddr sa_22 (rsl_isSl (osl_rsl _ hR.2.2.1)) hc98.1 hc98.2 hf rfl rfl⟩⟩) (.cons (⟨_, _, rfl, rfl, rfl, rfl, fun a w hR hf => .inl ⟨wanted_yes hf rfl, ex_fieldAddrS fa_34_0 rfl hf rfl⟩⟩) (.cons (⟨_, _, rfl, rfl, rfl, rfl, fun a w hR hf => .inl ⟨wanted_yes hf rfl, ex_load sc_2 hf rfl (el_cell (K := K_api_HeatDomain) (f := 0) (rsl_rd (osl_rsl _ hR.2.2.1)) hc98.1 hc98.2 rfl)⟩⟩) (.cons (⟨_, _, rfl, rfl, rfl, rfl, fun a w hR hf => .inl ⟨wanted_yes hf rfl, ex_fieldAddrB fa_43_2 rfl hf rfl⟩⟩) (.cons (⟨_, _, rfl, rfl, rfl, rfl, fun a w hR hf => .inl ⟨wanted_yes hf rfl, ex_load sc_2 hf rfl (bx_cell (hR.2.1) _ rfl)⟩⟩) (.cons (⟨_, _, rfl, rfl, rfl, rfl, fun a w hR hf => .inl ⟨wanted_yes hf rfl, ex_add hf rfl rfl⟩⟩) (.nil))))))))))))))) (fun K99 hK99 => ?_)
                      refine RW.zero (by kernel_rfl) (by kernel_rfl) [(1, v1), (6, .pointer (some ⟨b1, 0, none⟩)), (7, .int .i64 (mx 1 (mn (a0.length : Int) 5))), (8, .pointer (some ⟨b6, 0, none⟩)), (10, .int .i64 y38), (180, v5), (182, .int .i64 s53), (192, .int .i64 (IntKind.i64.wrap (((gd HeatDomain.zero (y36.set s52.toNat (⟨(IntKind.i64.wrap (((gd HeatDomain.zero y36 s52).Capacity) + (IntKind.i64.wrap (1 + (IntKind.i64.wrap (Int.tmod (IntKind.u64.wrap ((gd HeatLink.zero a1 y38).Conductance)) 5)))))), ((gd HeatDomain.zero y36 s52).Ambient)⟩ : HeatDomain)) s53).Capacity) + (IntKind.i64.wrap (1 + (IntKind.i64.wrap (Int.tmod (IntKind.u64.wrap ((gd HeatLink.zero a1 y38).Conductance)) 5)))))))] ⟨rfl, rfl, rfl, rfl, rfl, rfl, rfl, rfl, trivial⟩ (fun a w hR hs hf => ?_)
                      refine stq hf rfl rfl rfl (ex_indexAddr sa_22 (rsl_isSl (osl_rsl _ (hs.get (i := 0) rfl))) hc98.1 hc98.2 hf rfl rfl) (fun a hf => ?_)
                      refine stq hf rfl rfl rfl (ex_fieldAddrS fa_34_0 rfl hf rfl) (fun a hf => ?_)
                      refine stepS hf rfl rfl (er_storeE (K := K_api_HeatDomain) (f := 0) (x' := (⟨(IntKind.i64.wrap (((gd HeatDomain.zero (y36.set s52.toNat (⟨(IntKind.i64.wrap (((gd HeatDomain.zero y36 s52).Capacity) + (IntKind.i64.wrap (1 + (IntKind.i64.wrap (Int.tmod (IntKind.u64.wrap ((gd HeatLink.zero a1 y38).Conductance)) 5)))))), ((gd HeatDomain.zero y36 s52).Ambient)⟩ : HeatDomain)) s53).Capacity) + (IntKind.i64.wrap (1 + (IntKind.i64.wrap (Int.tmod (IntKind.u64.wrap ((gd HeatLink.zero a1 y38).Conductance)) 5)))))), ((gd HeatDomain.zero (y36.set s52.toNat (⟨(IntKind.i64.wrap (((gd HeatDomain.zero y36 s52).Capacity) + (IntKind.i64.wrap (1 + (IntKind.i64.wrap (Int.tmod (IntKind.u64.wrap ((gd HeatLink.zero a1 y38).Conductance)) 5)))))), ((gd HeatDomain.zero y36 s52).Ambient)⟩ : HeatDomain)) s53).Ambient)⟩ : HeatDomain)) hs (.c (.k (.k (.k (.k (.k .nil)))))) hc98.1 hc98.2 hf rfl rfl rfl sz_2 rfl rfl) (fun w hs => ?_)
                      refine hK99 _ _ ?_
                      refine hN49 _ _ ?_
                      replace hs := hs.keep (.k (.k (.k (.d (.k (.d .nil))))))
                      replace hs := hs.pick (.k (.k (.c (.k .nil))))
                      replace hs := hs.pick (.k (.c (.k (.k .nil))))
                      replace hs := hs.pick (.k (.k (.c (.k .nil))))
                      replace hs := hs.pick (.k (.k (.k (.c .nil))))
                      have e47 := some_eq H; subst e47
                      exact hJ47 _ _ ⟨v93, hf.sub ⟨rfl, rfl, rfl, rfl, rfl, trivial⟩, hs⟩
                    · -- not x62 = true
                      replace hf := hf.castB (t := 12) rfl (bool_f hc90)
                      replace hf := hf.castB (t := 156) rfl (bool_f hc90)
                      refine cond_F hf rfl ?_
                      refine wp_skip ?_
                      refine hN49 _ _ ?_
                      replace hs := hs.keep (.k (.k (.k (.k (.d .nil)))))
                      have e47 := some_eq H; subst e47
                      exact hJ47 _ _ ⟨v35, hf.sub ⟨rfl, rfl, rfl, rfl, rfl, trivial⟩, hs⟩
              · obtain ⟨v48, hf, hs⟩ := hJ
                replace H := HO47
                clear HO47
                refine region_k (fun K100 hK100 => ?_)
                refine stq hf rfl rfl rfl (ex_move hf rfl) (fun a hf => ?_)
                refine stq hf rfl rfl rfl (ex_add hf rfl rfl) (fun a hf => ?_)
                refine stq hf rfl rfl rfl (ex_assign hf rfl) (fun a hf => ?_)
                refine hK100 _ _ ?_
                exact hL40 k40 _ _ (Nat.lt_succ_self _) ⟨x47.1, x47.2, (IntKind.i64.wrap (y38 + 1)), v48, hf.sub ⟨rfl, rfl, rfl, rfl, rfl, trivial⟩, hs, H⟩
            · -- not x42 = true
              replace hf := hf.castB (t := 82) rfl (bool_f hc46)
              refine cond_F hf rfl ?_
              refine wp_exit ?_
              refine hX41 2 _ _ ?_
              refine hX40 2 _ _ ?_
              refine hX34 _ _ ?_
              have e31 := some_eq H; subst e31
              exact hJ31 _ _ ⟨v35, hf.sub ⟨rfl, rfl, trivial⟩, hs⟩
    · obtain ⟨v32, hf, hs⟩ := hJ
      replace H := HO31
      clear HO31
      refine seq_reg (fun K101 hK101 => ?_)
      refine stq hf rfl rfl rfl (ex_loadA (cs := [v5, v32, .int .i64 (IntKind.i64.wrap ((IntKind.i64.wrap (Int.tmod (IntKind.u64.wrap a2) 201)) - 100))]) ag_27 hf rfl (bx_cells (hs.get (i := 1) rfl) rfl)) (fun a hf => ?_)
      refine stepS hf rfl rfl (er_storeAB (vs := [v5, v32, .int .i64 (IntKind.i64.wrap ((IntKind.i64.wrap (Int.tmod (IntKind.u64.wrap a2) 201)) - 100))]) (cs' := [v5, v32, .int .i64 (IntKind.i64.wrap ((IntKind.i64.wrap (Int.tmod (IntKind.u64.wrap a2) 201)) - 100))]) hs (.c (.k (.k (.k .nil)))) sz_27 hf rfl rfl (all1 (IsSl.one (rsl_isSl (osl_rsl _ (hs.get (i := 2) rfl)))) (all1 (IsSl.one (rsl_isSl (osl_rsl _ (hs.get (i := 3) rfl)))) (all1 rfl (all1_nil)))) rfl rfl) (fun w hs => ?_)
      refine hK101 _ _ ?_
      refine wp_ret ?_
      have eR := some_eq H; subst eR
      have hbox := hs.get (i := 0) rfl
      replace hs := hs.keep (.d (.d (.k (.k .nil))))
      exact retA (cs := [v5, v32, .int .i64 (IntKind.i64.wrap ((IntKind.i64.wrap (Int.tmod (IntKind.u64.wrap a2) 201)) - 100))]) Try.results12 ag_27 hf rfl hbox ⟨_, rfl, ⟨v5, v32, rfl, hs⟩⟩

set_option maxRecDepth 100000 in
theorem law38_Powers.calls {M : Nat → Prop} {w0 : World} (k : Nat) (a0 : (List Int)) (a1 : Int) (a2 : Int) (v0 : Value) {r : (List Int)} (hs : St M w0 w0 []) (hr : Sr M w0 [rsl K_int64 v0 a0])
    (h : law38_Powers.f k a0 a1 a2 = some r) : Calls Try.prog 14 #[v0, .int .i64 a1, .int .i64 a2] w0 fun e w => ∃ v, e = .returned v ∧ (∃ (g0 : Value), g0 = v ∧ St M w0 w [osl K_int64 g0 r]) := by
  have H := (law38_Powers.f.eq_1 ..).symm.trans h
  clear h
  refine enter Try.func14 rfl Try.ntmps14 rfl (fun a hf => ?_)
  refine seq_reg (fun K1 hK1 => ?_)
  refine stq hf rfl rfl rfl (ex_assign hf rfl) (fun a hf => ?_)
  refine hK1 _ _ ?_
  refine ck_some H (fun hc2 H => ?_)
  refine seq_reg (fun K4 hK4 => ?_)
  refine stq hf rfl rfl rfl (ex_move hf rfl) (fun a hf => ?_)
  refine stepV hf rfl rfl rfl (er_makeSlice (K := K_int64) hs Try.underlying35 ep_2 hc2.1 hc2.2 rfl hf rfl rfl) (fun v3 w hs a hf => ?_)
  refine stq hf rfl rfl rfl (ex_assign hf rfl) (fun a hf => ?_)
  refine hK4 _ _ ?_
  refine bnd H (fun x5 H5 HO5 => ?_)
  clear H
  refine seq_cut (fun a w => Fr a 36 [(7, v3)] ∧ St M w0 w [osl K_int64 v3 x5]) (fun Q5 hJ5 hR5 hX5 => ?_) (fun a w hJ => ?_)
  · replace H := H5
    refine seq_reg (fun K6 hK6 => ?_)
    refine stq hf rfl rfl rfl (ex_assign hf rfl) (fun a hf => ?_)
    refine hK6 _ _ ?_
    refine block_k (fun Q7 hN7 hR7 hX7 hY7 => ?_)
    refine loop_k (fun n a w => ∃ (y8 : (List Int)) (y9 : Int), Fr a 36 [(0, v0), (1, .int .i64 a1), (2, .int .i64 a2), (7, v3), (8, .int .i64 y9)] ∧ St M w0 w [osl K_int64 v3 y8] ∧ law38_Powers.l1 n a1 a0 a2 y8 y9 = some x5) k ?_ (fun n11 a w hI Q11 hL11 hR11 hX11 => ?_)
    · -- at the start
      exact ⟨(List.replicate a1.toNat 0), 0, hf.sub ⟨rfl, rfl, rfl, rfl, rfl, trivial⟩, hs, H⟩
    · obtain ⟨y8, y9, hf, hs, H⟩ := hI
      cases n11 with
      | zero => exact absurd H (by rw [law38_Powers.l1.eq_1]; intro h; cases h)
      | succ k11 =>
        replace H := (law38_Powers.l1.eq_2 ..).symm.trans H
        refine seq_n (fun Q12 hN12 hR12 hX12 => ?_)
        refine bnd H (fun x13 H13 HO13 => ?_)
        clear H
        refine seq_cut (fun a w => Fr a 36 [(0, v0), (1, .int .i64 a1), (2, .int .i64 a2), (7, v3), (8, .int .i64 y9), (19, .bool x13)] ∧ St M w0 w [osl K_int64 v3 y8]) (fun Q13 hJ13 hR13 hX13 => ?_) (fun a w hJ => ?_)
        · replace H := H13
          refine itt H (fun hc14 H => ?_) (fun hc14 H => ?_)
          · -- y9 < a1
            refine region_k (fun K15 hK15 => ?_)
            refine stq hf rfl rfl rfl (ex_move hf rfl) (fun a hf => ?_)
            refine stq hf rfl rfl rfl (ex_move hf rfl) (fun a hf => ?_)
            refine stq hf rfl rfl rfl (ex_lss hf rfl rfl) (fun a hf => ?_)
            refine stq hf rfl rfl rfl (ex_move hf rfl) (fun a hf => ?_)
            replace hf := hf.castB (t := 13) rfl (dec_t hc14)
            replace hf := hf.castB (t := 14) rfl (dec_t hc14)
            refine stq hf rfl rfl rfl (ex_move hf rfl) (fun a hf => ?_)
            refine stq hf rfl rfl rfl (ex_move hf rfl) (fun a hf => ?_)
            refine stq hf rfl rfl rfl (ex_lenS Try.underlying35 (rsl_isSl (hr.now hs (i := 0) rfl)) hf rfl) (fun a hf => ?_)
            refine stq hf rfl rfl rfl (ex_lss hf rfl rfl) (fun a hf => ?_)
            refine stq hf rfl rfl rfl (ex_pickT hf rfl rfl) (fun a hf => ?_)
            refine hK15 _ _ ?_
            have e13 := some_eq H; subst e13
            exact hJ13 _ _ ⟨hf.sub ⟨rfl, rfl, rfl, rfl, rfl, rfl, trivial⟩, hs⟩
          · -- not y9 < a1
            refine region_k (fun K16 hK16 => ?_)
            refine stq hf rfl rfl rfl (ex_move hf rfl) (fun a hf => ?_)
            refine stq hf rfl rfl rfl (ex_move hf rfl) (fun a hf => ?_)
            refine stq hf rfl rfl rfl (ex_lss hf rfl rfl) (fun a hf => ?_)
            refine stq hf rfl rfl rfl (ex_move hf rfl) (fun a hf => ?_)
            replace hf := hf.castB (t := 13) rfl (dec_f hc14)
            replace hf := hf.castB (t := 14) rfl (dec_f hc14)
            refine stepN hf rfl rfl rfl (fun a hf => ?_)
            refine stepN hf rfl rfl rfl (fun a hf => ?_)
            refine stepN hf rfl rfl rfl (fun a hf => ?_)
            refine stepN hf rfl rfl rfl (fun a hf => ?_)
            refine stq hf rfl rfl rfl (ex_pickF hf rfl rfl) (fun a hf => ?_)
            refine hK16 _ _ ?_
            have e13 := some_eq H; subst e13
            exact hJ13 _ _ ⟨hf.sub ⟨rfl, rfl, rfl, rfl, rfl, rfl, trivial⟩, hs⟩
        · obtain ⟨hf, hs⟩ := hJ
          replace H := HO13
          clear HO13
          refine itt H (fun hc17 H => ?_) (fun hc17 H => ?_)
          · -- x13 = true
            replace hf := hf.castB (t := 19) rfl hc17
            refine cond_T hf rfl ?_
            refine wp_skip ?_
            refine hN12 _ _ ?_
            refine seq_n (fun Q18 hN18 hR18 hX18 => ?_)
            refine block_k (fun Q19 hN19 hR19 hX19 hY19 => ?_)
            refine ck_some H (fun hc20 H => ?_)
            refine ck_some H (fun hc21 H => ?_)
            refine ck_some H (fun hc22 H => ?_)
            refine region_k (fun K23 hK23 => ?_)
            refine stq hf rfl rfl rfl (ex_move hf rfl) (fun a hf => ?_)
            refine stq hf rfl rfl rfl (ex_move hf rfl) (fun a hf => ?_)
            refine stq hf rfl rfl rfl (ex_move hf rfl) (fun a hf => ?_)
            refine stq hf rfl rfl rfl (ex_move hf rfl) (fun a hf => ?_)
            refine stq hf rfl rfl rfl (ex_indexAddr sa_35 (rsl_isSl (hr.now hs (i := 0) rfl)) hc20.1 hc20.2 hf rfl rfl) (fun a hf => ?_)
            refine stq hf rfl rfl rfl (ex_load sc_2 hf rfl (el_cell (K := K_int64) (f := 0) (rsl_rd (hr.now hs (i := 0) rfl)) hc20.1 hc20.2 rfl)) (fun a hf => ?_)
            refine stq hf rfl rfl rfl (ex_conv Try.underlying2 Try.underlying52 hf rfl) (fun a hf => ?_)
            refine stq hf rfl rfl rfl (ex_move hf rfl) (fun a hf => ?_)
            refine stq hf rfl rfl rfl (ex_add hf rfl rfl) (fun a hf => ?_)
            refine stq hf rfl rfl rfl (ex_conv Try.underlying2 Try.underlying52 hf rfl) (fun a hf => ?_)
            refine stq hf rfl rfl rfl (ex_rem hf rfl rfl hc21) (fun a hf => ?_)
            refine stq hf rfl rfl rfl (ex_conv Try.underlying52 Try.underlying2 hf rfl) (fun a hf => ?_)
            refine stq hf rfl rfl rfl (ex_indexAddr sa_35 (rsl_isSl (osl_rsl _ (hs.get (i := 0) rfl))) hc22.1 hc22.2 hf rfl rfl) (fun a hf => ?_)
            refine stepS hf rfl rfl (er_storeE (K := K_int64) (f := 0) (x' := (IntKind.i64.wrap (Int.tmod (IntKind.u64.wrap (gd 0 a0 y9)) (IntKind.u64.wrap (IntKind.i64.wrap (a2 + 1)))))) hs (.c .nil) hc22.1 hc22.2 hf rfl rfl rfl sz_2 rfl rfl) (fun w hs => ?_)
            refine hK23 _ _ ?_
            refine hN19 _ _ ?_
            refine hN18 _ _ ?_
            refine region_k (fun K24 hK24 => ?_)
            refine stq hf rfl rfl rfl (ex_move hf rfl) (fun a hf => ?_)
            refine stq hf rfl rfl rfl (ex_add hf rfl rfl) (fun a hf => ?_)
            refine stq hf rfl rfl rfl (ex_assign hf rfl) (fun a hf => ?_)
            refine hK24 _ _ ?_
            exact hL11 k11 _ _ (Nat.lt_succ_self _) ⟨(y8.set y9.toNat (IntKind.i64.wrap (Int.tmod (IntKind.u64.wrap (gd 0 a0 y9)) (IntKind.u64.wrap (IntKind.i64.wrap (a2 + 1)))))), (IntKind.i64.wrap (y9 + 1)), hf.sub ⟨rfl, rfl, rfl, rfl, rfl, trivial⟩, hs, H⟩
          · -- not x13 = true
            replace hf := hf.castB (t := 19) rfl (bool_f hc17)
            refine cond_F hf rfl ?_
            refine wp_exit ?_
            refine hX12 0 _ _ ?_
            refine hX11 0 _ _ ?_
            refine hX7 _ _ ?_
            have e5 := some_eq H; subst e5
            exact hJ5 _ _ ⟨hf.sub ⟨rfl, trivial⟩, hs⟩
  · obtain ⟨hf, hs⟩ := hJ
    replace H := HO5
    clear HO5
    refine seq_reg (fun K25 hK25 => ?_)
    refine stq hf rfl rfl rfl (ex_move hf rfl) (fun a hf => ?_)
    refine stq hf rfl rfl rfl (ex_assign hf rfl) (fun a hf => ?_)
    refine hK25 _ _ ?_
    refine wp_ret ?_
    have eR := some_eq H; subst eR
    exact ret1 Try.results14 hf rfl ⟨_, rfl, ⟨v3, rfl, hs⟩⟩

set_option maxRecDepth 100000 in
theorem slices_Clone_int64_int64.calls {M : Nat → Prop} {w0 : World} (k : Nat) (a0 : (List Int)) (v0 : Value) {r : (List Int)} (hs : St M w0 w0 []) (hr : Sr M w0 [rsl K_int64 v0 a0])
    (h : slices_Clone_int64_int64.f k a0 = some r) : Calls Try.prog 34 #[v0] w0 fun e w => ∃ v, e = .returned v ∧ (∃ (g0 : Value), g0 = v ∧ St M w0 w [osl K_int64 g0 r]) := by
  have H := (slices_Clone_int64_int64.f.eq_1 ..).symm.trans h
  clear h
  refine enter Try.func34 rfl Try.ntmps34 rfl (fun a hf => ?_)
  refine seq_reg (fun K1 hK1 => ?_)
  refine stq hf rfl rfl rfl (ex_assign hf rfl) (fun a hf => ?_)
  refine hK1 _ _ ?_
  refine seq_n (fun Q2 hN2 hR2 hX2 => ?_)
  refine seq_reg (fun K3 hK3 => ?_)
  refine stq hf rfl rfl rfl (ex_move hf rfl) (fun a hf => ?_)
  refine stq hf rfl rfl rfl (ex_eqnil Try.underlying35 (rsl_isSl (hr.now hs (i := 0) rfl)) hf rfl rfl) (fun a hf => ?_)
  refine hK3 _ _ ?_
  by_cases hc4 : (isNil v0) = true
  · -- nil
    have hz5 : a0 = [] := isNil_nil (rsl_isSl (hr.now hs (i := 0) rfl)) hc4
    replace H : (some ([] : List Int)) = some r := by simpa [ck, hz5] using H
    replace hf := hf.castB (t := 4) rfl hc4
    refine cond_T hf rfl ?_
    refine seq_reg (fun K6 hK6 => ?_)
    refine stq hf rfl rfl rfl (ex_assign hf rfl) (fun a hf => ?_)
    refine hK6 _ _ ?_
    refine wp_ret ?_
    refine hR2 _ _ ?_
    have eR := some_eq H; subst eR
    replace hs := hs.nilS K_int64
    exact ret1 Try.results34 hf rfl ⟨_, rfl, ⟨(.slice none 0 0), rfl, hs⟩⟩
  · -- not nil
    replace hf := hf.castB (t := 4) rfl (bool_f hc4)
    refine cond_F hf rfl ?_
    refine wp_skip ?_
    refine hN2 _ _ ?_
    refine ck_some H (fun hc8 H => ?_)
    refine seq_reg (fun K10 hK10 => ?_)
    refine stepV hf rfl rfl rfl (er_buildSlice (K := K_int64) (xs := ([] : List Int)) hs Try.underlying35 ep_2 rfl rfl hf rfl .nil rfl rfl) (fun v7 w hs a hf => ?_)
    refine stq hf rfl rfl rfl (ex_move hf rfl) (fun a hf => ?_)
    refine stepV hf rfl rfl rfl (er_append (K := K_int64) hs (.c .nil) (hr.now hs (i := 0) rfl) rfl Try.underlying35 ep_2 hc8 rfl hf rfl rfl) (fun v9 w hs a hf => ?_)
    refine stq hf rfl rfl rfl (ex_assign hf rfl) (fun a hf => ?_)
    refine hK10 _ _ ?_
    refine wp_ret ?_
    have eR := some_eq H; subst eR
    exact ret1 Try.results34 hf rfl ⟨_, rfl, ⟨v9, rfl, hs⟩⟩

set_option maxRecDepth 100000 in
theorem heat_Model_Copy.calls {M : Nat → Prop} {w0 : World} (k : Nat) (a0_domains : (List HeatDomain)) (a0_links : (List HeatLink)) (a0_ambient : Int) (a0_energy : (List Int)) (a0_released : Int) (b0 : Nat) (v0_domains : Value) (v0_links : Value) (v0_energy : Value) {r : Int × (List Int) × Int} (hs : St M w0 w0 []) (hr : Sr M w0 [bx b0 64 [v0_domains, v0_links, .int .i64 a0_ambient, v0_energy, .int .i64 a0_released], rsl K_api_HeatDomain v0_domains a0_domains, rsl K_api_HeatLink v0_links a0_links, rsl K_int64 v0_energy a0_energy])
    (h : heat_Model_Copy.f k a0_domains a0_links a0_ambient a0_energy a0_released = some r) : Calls Try.prog 18 #[.pointer (some ⟨b0, 0, none⟩)] w0 fun e w => ∃ v, e = .returned v ∧ (∃ (g0 : Nat) (g1 : Value), .pointer (some ⟨g0, 0, none⟩) = v ∧ St M w0 w [bx g0 64 [v0_domains, v0_links, .int .i64 r.1, g1, .int .i64 r.2.2], osl K_int64 g1 r.2.1]) := by
  have H := (heat_Model_Copy.f.eq_1 ..).symm.trans h
  clear h
  refine enter Try.func18 rfl Try.ntmps18 rfl (fun a hf => ?_)
  refine seq_reg (fun K1 hK1 => ?_)
  refine stq hf rfl rfl rfl (ex_assign hf rfl) (fun a hf => ?_)
  refine hK1 _ _ ?_
  refine seq_reg (fun K3 hK3 => ?_)
  refine stq hf rfl rfl rfl (ex_move hf rfl) (fun a hf => ?_)
  refine stq hf rfl rfl rfl (ex_nilCheck hf rfl) (fun a hf => ?_)
  refine stq hf rfl rfl rfl (ex_loadA (cs := [v0_domains, v0_links, .int .i64 a0_ambient, v0_energy, .int .i64 a0_released]) ag_64 hf rfl (bx_cells (hr.now hs (i := 0) rfl) rfl)) (fun a hf => ?_)
  refine stepV hf rfl rfl rfl (er_alloc hs ti_64 (cs := [(.slice none 0 0), (.slice none 0 0), .int .i64 0, (.slice none 0 0), .int .i64 0]) rfl) (fun v w hR a hf => ?_)
  obtain ⟨b2, rfl, hs⟩ := hR
  refine stepS hf rfl rfl (er_storeAB (vs := [v0_domains, v0_links, .int .i64 a0_ambient, v0_energy, .int .i64 a0_released]) (cs' := [v0_domains, v0_links, .int .i64 a0_ambient, v0_energy, .int .i64 a0_released]) hs (.c .nil) sz_64 hf rfl rfl (all1 (IsSl.one (rsl_isSl (hr.now hs (i := 1) rfl))) (all1 (IsSl.one (rsl_isSl (hr.now hs (i := 2) rfl))) (all1 rfl (all1 (IsSl.one (rsl_isSl (hr.now hs (i := 3) rfl))) (all1 rfl (all1_nil)))))) rfl rfl) (fun w hs => ?_)
  refine hK3 _ _ ?_
  refine bnd H (fun s4 hs4 H => ?_)
  refine seq_reg (fun K6 hK6 => ?_)
  refine stq hf rfl rfl rfl (ex_move hf rfl) (fun a hf => ?_)
  refine stq hf rfl rfl rfl (ex_nilCheck hf rfl) (fun a hf => ?_)
  refine stq hf rfl rfl rfl (ex_fieldAddrB fa_64_3 rfl hf rfl) (fun a hf => ?_)
  refine stq hf rfl rfl rfl (ex_load sc_35 hf rfl (bx_cell (hr.now hs (i := 0) rfl) _ rfl)) (fun a hf => ?_)
  refine stepF hf rfl rfl rfl (ex_call cf_34 hf rfl) (slices_Clone_int64_int64.calls k a0_energy v0_energy (hs.enter (.k .nil)) (Sr.old hr hs (.k .nil) (i := 3) rfl (fun _ h => h) (fun _ h => h) (Sr.nil _ _)) hs4) (fun v w hR a hf => ?_)
  obtain ⟨v5, rfl, hs'⟩ := hR
  replace hs := hs.step (.k .nil) hs'
  clear hs'
  refine stq hf rfl rfl rfl (ex_fieldAddrB fa_64_3 rfl hf rfl) (fun a hf => ?_)
  refine stepS hf rfl rfl (er_storeB hs (.k (.c .nil)) hf rfl rfl (IsSl.one (rsl_isSl (osl_rsl _ (hs.get (i := 0) rfl)))) sz_35 rfl) (fun w hs => ?_)
  refine hK6 _ _ ?_
  refine seq_reg (fun K7 hK7 => ?_)
  refine stq hf rfl rfl rfl (ex_assign hf rfl) (fun a hf => ?_)
  refine hK7 _ _ ?_
  refine wp_ret ?_
  have eR := some_eq H; subst eR
  exact ret1 Try.results18 hf rfl ⟨_, rfl, ⟨b2, v5, rfl, hs⟩⟩

set_option maxRecDepth 100000 in
theorem help_Equal_int64.calls {M : Nat → Prop} {w0 : World} (k : Nat) (a0 : (List Int)) (a1 : (List Int)) (v0 : Value) (v1 : Value) {r : Bool} (hs : St M w0 w0 []) (hr : Sr M w0 [rsl K_int64 v0 a0, rsl K_int64 v1 a1])
    (h : help_Equal_int64.f k a0 a1 = some r) : Calls Try.prog 19 #[v0, v1] w0 fun e w => ∃ v, e = .returned v ∧ (.bool r = v ∧ St M w0 w []) := by
  have H := (help_Equal_int64.f.eq_1 ..).symm.trans h
  clear h
  refine enter Try.func19 rfl Try.ntmps19 rfl (fun a hf => ?_)
  refine seq_reg (fun K1 hK1 => ?_)
  refine stq hf rfl rfl rfl (ex_assign hf rfl) (fun a hf => ?_)
  refine hK1 _ _ ?_
  refine seq_n (fun Q2 hN2 hR2 hX2 => ?_)
  refine seq_reg (fun K3 hK3 => ?_)
  refine stq hf rfl rfl rfl (ex_move hf rfl) (fun a hf => ?_)
  refine stq hf rfl rfl rfl (ex_lenS Try.underlying35 (rsl_isSl (hr.now hs (i := 0) rfl)) hf rfl) (fun a hf => ?_)
  refine stq hf rfl rfl rfl (ex_move hf rfl) (fun a hf => ?_)
  refine stq hf rfl rfl rfl (ex_lenS Try.underlying35 (rsl_isSl (hr.now hs (i := 1) rfl)) hf rfl) (fun a hf => ?_)
  refine stq hf rfl rfl rfl (ex_neq hf rfl rfl) (fun a hf => ?_)
  refine hK3 _ _ ?_
  refine itt H (fun hc4 H => ?_) (fun hc4 H => ?_)
  · -- (a0.length : Int) = (a1.length : Int)
    replace hf := hf.castB (t := 10) rfl (ndec_f hc4)
    refine cond_F hf rfl ?_
    refine wp_skip ?_
    refine hN2 _ _ ?_
    refine bnd H (fun x5 H5 HO5 => ?_)
    clear H
    refine seq_cut (fun a w => ∃ (x5s : Unit), x5 = .go x5s ∧ Fr a 26 [] ∧ St M w0 w []) (fun Q5 hJ5 hR5 hX5 => ?_) (fun a w hJ => ?_)
    · replace H := H5
      refine seq_reg (fun K6 hK6 => ?_)
      refine stq hf rfl rfl rfl (ex_assign hf rfl) (fun a hf => ?_)
      refine hK6 _ _ ?_
      refine block_k (fun Q7 hN7 hR7 hX7 hY7 => ?_)
      refine loop_k (fun n a w => ∃ (y8 : Int), Fr a 26 [(0, v0), (1, v1), (5, .int .i64 y8)] ∧ St M w0 w [] ∧ help_Equal_int64.l1 n a0 a1 y8 = some x5) k ?_ (fun n10 a w hI Q10 hL10 hR10 hX10 => ?_)
      · -- at the start
        exact ⟨0, hf.sub ⟨rfl, rfl, rfl, trivial⟩, hs, H⟩
      · obtain ⟨y8, hf, hs, H⟩ := hI
        cases n10 with
        | zero => exact absurd H (by rw [help_Equal_int64.l1.eq_1]; intro h; cases h)
        | succ k10 =>
          replace H := (help_Equal_int64.l1.eq_2 ..).symm.trans H
          refine seq_n (fun Q11 hN11 hR11 hX11 => ?_)
          refine seq_reg (fun K12 hK12 => ?_)
          refine stq hf rfl rfl rfl (ex_move hf rfl) (fun a hf => ?_)
          refine stq hf rfl rfl rfl (ex_move hf rfl) (fun a hf => ?_)
          refine stq hf rfl rfl rfl (ex_lenS Try.underlying35 (rsl_isSl (hr.now hs (i := 0) rfl)) hf rfl) (fun a hf => ?_)
          refine stq hf rfl rfl rfl (ex_lss hf rfl rfl) (fun a hf => ?_)
          refine hK12 _ _ ?_
          refine itt H (fun hc13 H => ?_) (fun hc13 H => ?_)
          · -- y8 < (a0.length : Int)
            replace hf := hf.castB (t := 14) rfl (dec_t hc13)
            refine cond_T hf rfl ?_
            refine wp_skip ?_
            refine hN11 _ _ ?_
            refine seq_n (fun Q14 hN14 hR14 hX14 => ?_)
            refine block_k (fun Q15 hN15 hR15 hX15 hY15 => ?_)
            refine seq_n (fun Q16 hN16 hR16 hX16 => ?_)
            refine ck_some H (fun hc17 H => ?_)
            refine ck_some H (fun hc18 H => ?_)
            refine region_d fol 9 [(0, v0), (1, v1), (5, .int .i64 y8)] [(0, v0), (1, .int .i64 y8), (2, .pointer (some (sla v0 (y8.toNat * 1)))), (3, .int .i64 (gd 0 a0 y8)), (4, v1), (5, .int .i64 y8), (6, .pointer (some (sla v1 (y8.toNat * 1)))), (7, .int .i64 (gd 0 a1 y8)), (8, .bool (!decide ((gd 0 a0 y8) = (gd 0 a1 y8))))] [] (fun w => (rsl K_int64 v0 a0).ok w ∧ (rsl K_int64 v1 a1).ok w ∧ True) (fun w => St M w0 w []) hf ⟨rfl, rfl, rfl, trivial⟩ (by kernel_rfl) (by kernel_rfl) rfl (by decide) ⟨hr.now hs.drew (i := 0) rfl, hr.now hs.drew (i := 1) rfl, trivial⟩ hs.drew (.cons (⟨_, _, rfl, rfl, rfl, rfl, fun a w hR hf => .inl ⟨wanted_yes hf rfl, ex_move hf rfl⟩⟩) (.cons (⟨_, _, rfl, rfl, rfl, rfl, fun a w hR hf => .inl ⟨wanted_yes hf rfl, ex_move hf rfl⟩⟩) (.cons (⟨_, _, rfl, rfl, rfl, rfl, fun a w hR hf => .inl ⟨wanted_yes hf rfl, ex_indexAddr sa_35 (rsl_isSl hR.1) hc17.1 hc17.2 hf rfl rfl⟩⟩) (.cons (⟨_, _, rfl, rfl, rfl, rfl, fun a w hR hf => .inl ⟨wanted_yes hf rfl, ex_load sc_2 hf rfl (el_cell (K := K_int64) (f := 0) (rsl_rd hR.1) hc17.1 hc17.2 rfl)⟩⟩) (.cons (⟨_, _, rfl, rfl, rfl, rfl, fun a w hR hf => .inl ⟨wanted_yes hf rfl, ex_move hf rfl⟩⟩) (.cons (⟨_, _, rfl, rfl, rfl, rfl, fun a w hR hf => .inl ⟨wanted_yes hf rfl, ex_move hf rfl⟩⟩) (.cons (⟨_, _, rfl, rfl, rfl, rfl, fun a w hR hf => .inl ⟨wanted_yes hf rfl, ex_indexAddr sa_35 (rsl_isSl hR.2.1) hc18.1 hc18.2 hf rfl rfl⟩⟩) (.cons (⟨_, _, rfl, rfl, rfl, rfl, fun a w hR hf => .inl ⟨wanted_yes hf rfl, ex_load sc_2 hf rfl (el_cell (K := K_int64) (f := 0) (rsl_rd hR.2.1) hc18.1 hc18.2 rfl)⟩⟩) (.cons (⟨_, _, rfl, rfl, rfl, rfl, fun a w hR hf => .inl ⟨wanted_yes hf rfl, ex_neq hf rfl rfl⟩⟩) (.nil)))))))))) (fun K19 hK19 => ?_)
            refine RW.zero (by kernel_rfl) (by kernel_rfl) [(0, v0), (1, v1), (5, .int .i64 y8), (25, .bool (!decide ((gd 0 a0 y8) = (gd 0 a1 y8))))] ⟨rfl, rfl, rfl, rfl, trivial⟩ (fun a w hR hs hf => ?_)
            refine hK19 _ _ ?_
            refine hN16 _ _ ?_
            refine itt H (fun hc20 H => ?_) (fun hc20 H => ?_)
            · -- (gd 0 a0 y8) = (gd 0 a1 y8)
              replace hf := hf.castB (t := 25) rfl (ndec_f hc20)
              refine cond_F hf rfl ?_
              refine wp_skip ?_
              refine hN15 _ _ ?_
              refine hN14 _ _ ?_
              refine region_k (fun K21 hK21 => ?_)
              refine stq hf rfl rfl rfl (ex_move hf rfl) (fun a hf => ?_)
              refine stq hf rfl rfl rfl (ex_add hf rfl rfl) (fun a hf => ?_)
              refine stq hf rfl rfl rfl (ex_assign hf rfl) (fun a hf => ?_)
              refine hK21 _ _ ?_
              exact hL10 k10 _ _ (Nat.lt_succ_self _) ⟨(IntKind.i64.wrap (y8 + 1)), hf.sub ⟨rfl, rfl, rfl, trivial⟩, hs, H⟩
            · -- not (gd 0 a0 y8) = (gd 0 a1 y8)
              replace hf := hf.castB (t := 25) rfl (ndec_t hc20)
              refine cond_T hf rfl ?_
              refine seq_reg (fun K22 hK22 => ?_)
              refine stq hf rfl rfl rfl (ex_assign hf rfl) (fun a hf => ?_)
              refine hK22 _ _ ?_
              refine wp_ret ?_
              refine hR15 _ _ ?_
              refine hR14 _ _ ?_
              refine hR10 _ _ ?_
              refine hR7 _ _ ?_
              have e5 := some_eq H; subst e5; replace H := el_rt HO5
              refine hR5 _ _ ?_
              have eR := some_eq H; subst eR
              exact ret1 Try.results19 hf rfl ⟨_, rfl, ⟨rfl, hs⟩⟩
          · -- not y8 < (a0.length : Int)
            replace hf := hf.castB (t := 14) rfl (dec_f hc13)
            refine cond_F hf rfl ?_
            refine wp_exit ?_
            refine hX11 0 _ _ ?_
            refine hX10 0 _ _ ?_
            refine hX7 _ _ ?_
            have e5 := some_eq H; subst e5
            exact hJ5 _ _ ⟨_, rfl, hf.sub trivial, hs⟩
    · obtain ⟨x5s, rfl, hf, hs⟩ := hJ
      replace H := el_go HO5
      clear HO5
      refine seq_reg (fun K23 hK23 => ?_)
      refine stq hf rfl rfl rfl (ex_assign hf rfl) (fun a hf => ?_)
      refine hK23 _ _ ?_
      refine wp_ret ?_
      have eR := some_eq H; subst eR
      exact ret1 Try.results19 hf rfl ⟨_, rfl, ⟨rfl, hs⟩⟩
  · -- not (a0.length : Int) = (a1.length : Int)
    replace hf := hf.castB (t := 10) rfl (ndec_t hc4)
    refine cond_T hf rfl ?_
    refine seq_reg (fun K24 hK24 => ?_)
    refine stq hf rfl rfl rfl (ex_assign hf rfl) (fun a hf => ?_)
    refine hK24 _ _ ?_
    refine wp_ret ?_
    refine hR2 _ _ ?_
    have eR := some_eq H; subst eR
    exact ret1 Try.results19 hf rfl ⟨_, rfl, ⟨rfl, hs⟩⟩

end Go.Proofs.Ytakaooegofiloaa.X
