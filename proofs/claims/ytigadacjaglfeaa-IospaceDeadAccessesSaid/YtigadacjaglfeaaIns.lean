/- slices.Insert and slices.Delete at pointers. -/
import Derived.Test.YtigadacjaglfeaaProg
import Derived.Test.YtigadacjaglfeaaSx11
import Derived.Test.YtigadacjaglfeaaSx20
namespace Go.Proofs.Ytigadacjaglfeaa.X
open Go Go.RowKit Go.Sx
set_option linter.unusedVariables false
theorem sa_67' : SA Try.prog 67 76 1 := ⟨Try.underlying67, by kernel_rfl⟩
theorem sz_76' : (Try.prog.info? 76).map (·.size) = some 1 := by kernel_rfl
theorem ti_76' : EP Try.prog (PK 76) 8 := ⟨.pointer none, by unfold TI; kernel_rfl, rfl⟩
theorem fol67 : Try.prog.follows .mixedOrders = true := by kernel_rfl
theorem ov_50 (w : World) {g g2 m c2 o l c : Nat} {cur cur2 : List Value} (hb : (bx g 76 cur).ok w) (hb2 : (bx g2 76 cur2).ok w) (hne : g2 ≠ g) (hc : cur ≠ []) :
    (callFunc 50 #[.slice (some ⟨g2, 0, none⟩) m c2, .slice (some ⟨g, o, none⟩) l c]).run Try.prog w = .ok (.value (.bool false)) w := by
  have hb' : w.heap[g]? = some (.cells cur.toArray 76 (0, 0)) := hb
  have hb2' : w.heap[g2]? = some (.cells cur2.toArray 76 (0, 0)) := hb2
  have h1 : w.shape? g2 = some (76, cur2.length) := by simp [World.shape?, hb2']
  have h2 : w.shape? g = some (76, cur.length) := by simp [World.shape?, hb']
  have h3 : cur.length ≠ 0 := fun e => hc (List.eq_nil_of_length_eq_zero e)
  rw [run_callFunc_extern Try.func50 (by kernel_rfl) (by kernel_rfl) (by kernel_rfl) (e := Extern.SlicesOverlaps.overlaps #[67, 67] #[4]) (by kernel_rfl),
    Lib.run_overlaps_apart w 67 4 76 Try.underlying67 1 (fun w => Go.Sx.run_sizeOf sz_76' w) ⟨g2, 0, none⟩ ⟨g, o, none⟩ m c2 l c hne 76 76 cur2.length cur.length h1 h2 h3 (bx_frozen hb2 _) (bx_frozen hb2 _)]
  rfl
set_option maxRecDepth 100000 in
set_option maxHeartbeats 2000000 in
theorem insert_67.calls {M : Nat → Prop} {w0 : World} (xs : List (Option Nat)) (i : Int) (ys : List (Option Nat)) (v0 v2 : Value) {r : List (Option Nat)} (hs : St M w0 w0 [osl (PK 76) v0 xs, osl (PK 76) v2 ys]) (h : insert_f xs i ys = some r) :
    Calls Try.prog 29 #[v0, .int .i64 i, v2] w0 fun e w => ∃ v, e = .returned v ∧ ∃ g0, g0 = v ∧ St M w0 w [osl (PK 76) g0 r] := by
  have H := h
  rw [insert_f] at H
  clear h
  refine enter Try.func29 rfl Try.ntmps29 rfl (fun a hf => ?_)
  refine ck_some H (fun hc H => ?_)
  refine ck_some H (fun hc' H => ?_)
  have eR := some_eq H; subst eR
  obtain ⟨c0, c1⟩ := hc
  obtain ⟨i, rfl⟩ : ∃ n : Nat, i = n := ⟨i.toNat, by omega⟩
  have hin : i ≤ xs.length := by omega
  rw [Int.toNat_natCast]
  refine seq_reg (fun K1 hK1 => ?_)
  refine stq hf rfl rfl rfl (ex_assign hf rfl) (fun a hf => ?_)
  refine hK1 _ _ ?_
  refine seq_reg (fun K2 hK2 => ?_)
  refine stq hf rfl rfl rfl (ex_move hf rfl) (fun a hf => ?_)
  refine stq hf rfl rfl rfl (ex_move hf rfl) (fun a hf => ?_)
  refine stq hf rfl rfl rfl (ex_slice_l sa_67' (rsl_isSl (osl_rsl _ (hs.get (i := 0) rfl))) ⟨c0, c1, Int.le_refl _⟩ hf rfl rfl) (fun a hf => ?_)
  refine hK2 _ _ ?_
  refine seq_reg (fun K3 hK3 => ?_)
  refine stq hf rfl rfl rfl (ex_move hf rfl) (fun a hf => ?_)
  refine stq hf rfl rfl rfl (ex_lenS Try.underlying67 (rsl_isSl (osl_rsl _ (hs.get (i := 1) rfl))) hf rfl) (fun a hf => ?_)
  refine stq hf rfl rfl rfl (ex_assign hf rfl) (fun a hf => ?_)
  refine hK3 _ _ ?_
  refine seq_n (fun Q4 hN4 hR4 hX4 => ?_)
  refine seq_reg (fun K5 hK5 => ?_)
  refine stq hf rfl rfl rfl (ex_move hf rfl) (fun a hf => ?_)
  refine stq hf rfl rfl rfl (ex_eql hf rfl rfl) (fun a hf => ?_)
  refine hK5 _ _ ?_
  by_cases hm0 : (ys.length : Int) = 0
  · replace hf := hf.castB (t := 16) rfl (dec_t hm0)
    refine cond_T hf rfl ?_
    refine seq_reg (fun K6 hK6 => ?_)
    refine stq hf rfl rfl rfl (ex_move hf rfl) (fun a hf => ?_)
    refine stq hf rfl rfl rfl (ex_assign hf rfl) (fun a hf => ?_)
    refine hK6 _ _ ?_
    refine wp_ret ?_
    refine hR4 _ _ ?_
    have e : ys = [] := List.eq_nil_of_length_eq_zero (by omega)
    subst e
    rw [List.append_nil, List.take_append_drop]
    exact ret1 Try.results29 hf rfl ⟨_, rfl, ⟨v0, rfl, hs.pick (.c (.d .nil))⟩⟩
  · replace hf := hf.castB (t := 16) rfl (dec_f hm0)
    refine cond_F hf rfl ?_
    refine wp_skip ?_
    refine hN4 _ _ ?_
    refine seq_reg (fun K7 hK7 => ?_)
    refine stq hf rfl rfl rfl (ex_move hf rfl) (fun a hf => ?_)
    refine stq hf rfl rfl rfl (ex_lenS Try.underlying67 (rsl_isSl (osl_rsl _ (hs.get (i := 0) rfl))) hf rfl) (fun a hf => ?_)
    refine stq hf rfl rfl rfl (ex_assign hf rfl) (fun a hf => ?_)
    refine hK7 _ _ ?_
    refine seq_n (fun Q8 hN8 hR8 hX8 => ?_)
    refine seq_reg (fun K9 hK9 => ?_)
    refine stq hf rfl rfl rfl (ex_move hf rfl) (fun a hf => ?_)
    refine stq hf rfl rfl rfl (ex_move hf rfl) (fun a hf => ?_)
    refine stq hf rfl rfl rfl (ex_eql hf rfl rfl) (fun a hf => ?_)
    refine hK9 _ _ ?_
    by_cases hie : (i : Int) = (xs.length : Int)
    · replace hf := hf.castB (t := 22) rfl (dec_t hie)
      refine cond_T hf rfl ?_
      refine seq_reg (fun K10 hK10 => ?_)
      refine stq hf rfl rfl rfl (ex_move hf rfl) (fun a hf => ?_)
      refine stq hf rfl rfl rfl (ex_move hf rfl) (fun a hf => ?_)
      refine stepV hf rfl rfl rfl (er_append (K := PK 76) hs (.c (.k .nil)) (osl_rsl _ (hs.get (i := 1) rfl)) rfl Try.underlying67 ti_76' hc' rfl hf rfl rfl) (fun v14 w hs a hf => ?_)
      refine stq hf rfl rfl rfl (ex_assign hf rfl) (fun a hf => ?_)
      refine hK10 _ _ ?_
      refine wp_ret ?_
      refine hR8 _ _ ?_
      have e : i = xs.length := by omega
      subst e
      rw [List.take_length, List.drop_length, List.append_nil]
      exact ret1 Try.results29 hf rfl ⟨_, rfl, ⟨v14, rfl, hs.pick (.c (.d .nil))⟩⟩
    · replace hf := hf.castB (t := 22) rfl (dec_f hie)
      refine cond_F hf rfl ?_
      refine wp_skip ?_
      refine hN8 _ _ ?_
      have hlt : i < xs.length := by omega
      have hnx : xs ≠ [] := fun e => by subst e; simp at hlt
      have hny : ys ≠ [] := fun e => by subst e; simp at hm0
      obtain ⟨g, c, cur, rfl, q1, q2, q3, q4, hs⟩ := St.toRow hs hnx
      have hw1 : IntKind.i64.wrap ((xs.length : Int) + (ys.length : Int)) = ((xs.length + ys.length : Nat) : Int) := by rw [wi _ (by omega) (by omega)]; omega
      have hw2 : IntKind.i64.wrap ((i : Int) + (ys.length : Int)) = ((i + ys.length : Nat) : Int) := by rw [wi _ (by omega) (by omega)]; omega
      refine seq_n (fun Q11 hN11 hR11 hX11 => ?_)
      refine seq_reg (fun K12 hK12 => ?_)
      refine stq hf rfl rfl rfl (ex_move hf rfl) (fun a hf => ?_)
      refine stq hf rfl rfl rfl (ex_move hf rfl) (fun a hf => ?_)
      refine stq hf rfl rfl rfl (ex_addE hw1 hf rfl rfl) (fun a hf => ?_)
      refine stq hf rfl rfl rfl (ex_move hf rfl) (fun a hf => ?_)
      refine stq hf rfl rfl rfl (ex_capG Try.underlying67 hf rfl) (fun a hf => ?_)
      refine stq hf rfl rfl rfl (ex_gtr hf rfl rfl) (fun a hf => ?_)
      refine hK12 _ _ ?_
      by_cases hcap : (c : Int) < ((xs.length + ys.length : Nat) : Int)
      · replace hf := hf.castB (t := 31) rfl (dec_t hcap)
        refine cond_T hf rfl ?_
        replace hs := St.ofRow hs q1 q2 q3 q4
        have hw3 : IntKind.i64.wrap (((xs.length + ys.length : Nat) : Int) - (i : Int)) = ((xs.length + ys.length - i : Nat) : Int) := by rw [wi _ (by omega) (by omega)]; omega
        refine seq_reg (fun K13 hK13 => ?_)
        refine stq hf rfl rfl rfl (ex_move hf rfl) (fun a hf => ?_)
        refine stq hf rfl rfl rfl (ex_move hf rfl) (fun a hf => ?_)
        refine stq hf rfl rfl rfl (ex_slice_h sa_67' (rsl_isSl (osl_rsl _ (hs.get (i := 0) rfl))) ⟨Int.le_refl _, c0, c1⟩ hf rfl rfl) (fun a hf => ?_)
        refine stq hf rfl rfl rfl (ex_move hf rfl) (fun a hf => ?_)
        refine stq hf rfl rfl rfl (ex_move hf rfl) (fun a hf => ?_)
        refine stq hf rfl rfl rfl (ex_addE hw1 hf rfl rfl) (fun a hf => ?_)
        refine stq hf rfl rfl rfl (ex_move hf rfl) (fun a hf => ?_)
        refine stq hf rfl rfl rfl (ex_subE hw3 hf rfl rfl) (fun a hf => ?_)
        refine stepV hf rfl rfl rfl (er_appendZG (K := PK 76) (i := i) hs (osl_rsl _ (hs.get (i := 0) rfl)) Try.underlying67 Try.underlying3 ti_76' hin (show (c : Int) < _ by omega) (by omega) rfl hf rfl rfl) (fun v21 w hs a hf => ?_)
        refine stq hf rfl rfl rfl (ex_assign hf rfl) (fun a hf => ?_)
        refine hK13 _ _ ?_
        rw [Int.toNat_natCast] at hs
        obtain ⟨X, hX⟩ : ∃ X, X = xs.take i ++ List.replicate (xs.length + ys.length - i) (PK 76).z := ⟨_, rfl⟩
        have hXl : X.length = xs.length + ys.length := by rw [hX]; simp; omega
        have hr1 : (PK 76).E = 76 := rfl
        rw [← hX] at hs
        refine seq_reg (fun K14 hK14 => ?_)
        refine stq hf rfl rfl rfl (ex_move hf rfl) (fun a hf => ?_)
        refine stq hf rfl rfl rfl (ex_move hf rfl) (fun a hf => ?_)
        refine stq hf rfl rfl rfl (ex_slice_l sa_67' (rsl_isSl (osl_rsl _ (hs.get (i := 0) rfl))) ⟨c0, by rw [hXl]; omega, Int.le_refl _⟩ hf rfl rfl) (fun a hf => ?_)
        refine stq hf rfl rfl rfl (ex_move hf rfl) (fun a hf => ?_)
        refine stepV hf rfl rfl rfl (er_copyS (K := PK 76) hs (.c (split_none _)) (osl_rsl _ (hs.get (i := 2) rfl)) Try.underlying67 sz_76' (by rw [hXl]; omega) (Nat.le_refl _) hf rfl rfl) (fun v w hR a hf => ?_)
        obtain ⟨rfl, hs⟩ := hR
        refine hK14 _ _ ?_
        obtain ⟨Y, hY⟩ : ∃ Y, Y = cpy X (i : Int).toNat X.length ys := ⟨_, rfl⟩
        rw [← hY] at hs
        have hYl : Y.length = xs.length + ys.length := by rw [hY, cpy, Int.toNat_natCast]; simp; omega
        have hI1 := rsl_isSl (osl_rsl _ (hs.get (i := 0) rfl))
        have hI2 := rsl_isSl (osl_rsl _ (hs.get (i := 1) rfl))
        refine seq_n (fun Q15 hN15 hR15 hX15 => ?_)
        refine region_d fol67 9 [(0, .slice (some ⟨g, 0, none⟩) xs.length c), (1, .int .i64 i), (7, .int .i64 ys.length), (9, v21)] [(0, v21), (1, .int .i64 i), (2, .int .i64 ys.length), (3, .int .i64 ((i + ys.length : Nat) : Int)), (4, slv v21 ((i + ys.length : Nat) : Int).toNat (Y.length : Int).toNat 1), (5, .slice (some ⟨g, 0, none⟩) xs.length c), (6, .int .i64 i), (7, slv (.slice (some ⟨g, 0, none⟩) xs.length c) (i : Int).toNat (xs.length : Int).toNat 1)] [8] (fun _ => True) (fun w => St M w0 w [osl (PK 76) v21 Y, osl (PK 76) (.slice (some ⟨g, 0, none⟩) xs.length c) xs, osl (PK 76) v2 ys]) hf ⟨rfl, rfl, rfl, rfl, trivial⟩ (by kernel_rfl) (by kernel_rfl) rfl (by decide) trivial hs.drew
          (.cons (⟨_, _, rfl, rfl, rfl, rfl, fun a w hR hf => .inl ⟨wanted_yes hf rfl, ex_move hf rfl⟩⟩) (.cons (⟨_, _, rfl, rfl, rfl, rfl, fun a w hR hf => .inl ⟨wanted_yes hf rfl, ex_move hf rfl⟩⟩) (.cons (⟨_, _, rfl, rfl, rfl, rfl, fun a w hR hf => .inl ⟨wanted_yes hf rfl, ex_move hf rfl⟩⟩) (.cons (⟨_, _, rfl, rfl, rfl, rfl, fun a w hR hf => .inl ⟨wanted_yes hf rfl, ex_addE hw2 hf rfl rfl⟩⟩) (.cons (⟨_, _, rfl, rfl, rfl, rfl, fun a w hR hf => .inl ⟨wanted_yes hf rfl, ex_slice_l sa_67' hI1 ⟨by omega, by omega, Int.le_refl _⟩ hf rfl rfl⟩⟩) (.cons (⟨_, _, rfl, rfl, rfl, rfl, fun a w hR hf => .inl ⟨wanted_yes hf rfl, ex_move hf rfl⟩⟩) (.cons (⟨_, _, rfl, rfl, rfl, rfl, fun a w hR hf => .inl ⟨wanted_yes hf rfl, ex_move hf rfl⟩⟩) (.cons (⟨_, _, rfl, rfl, rfl, rfl, fun a w hR hf => .inl ⟨wanted_yes hf rfl, ex_slice_l sa_67' hI2 ⟨c0, c1, Int.le_refl _⟩ hf rfl rfl⟩⟩) (.nil))))))))) (fun K16 hK16 => ?_)
        refine RW.one 8 (by kernel_rfl) (by kernel_rfl) rfl (fun d hd => by cases hd; rfl) [(50, slv v21 ((i + ys.length : Nat) : Int).toNat (Y.length : Int).toNat 1), (53, slv (.slice (some ⟨g, 0, none⟩) xs.length c) (i : Int).toNat (xs.length : Int).toNat 1)] ⟨rfl, rfl, trivial⟩ (fun a w hR hs hf => ⟨wanted_yes hf rfl, ?_⟩)
        refine estep_v (er_copyS (K := PK 76) hs (.c (split_none _)) (rsl_slv _ (osl_rsl _ (hs.get (i := 1) rfl)) (by omega) (by omega)) Try.underlying67 sz_76' (by omega) (by omega) hf rfl rfl) (fun v w hR => ?_)
        obtain ⟨rfl, hs⟩ := hR
        have hfin : cpy Y ((i + ys.length : Nat) : Int).toNat (Y.length : Int).toNat ((xs.drop (i : Int).toNat).take ((xs.length : Int).toNat - (i : Int).toNat)) = xs.take i ++ ys ++ xs.drop i := by
          simp only [Int.toNat_natCast]
          rw [hYl, hY, hXl, hX, List.take_of_length_le (show (xs.drop i).length ≤ xs.length - i by simp)]
          exact ins_grow (PK 76).z xs ys i (xs.length + ys.length - i) hlt (by omega)
        rw [hfin] at hs
        refine ⟨[], [(8, _), (0, v21), (1, .int .i64 i), (2, .int .i64 ys.length), (3, .int .i64 ((i + ys.length : Nat) : Int)), (4, slv v21 ((i + ys.length : Nat) : Int).toNat (Y.length : Int).toNat 1), (5, .slice (some ⟨g, 0, none⟩) xs.length c), (6, .int .i64 i), (7, slv (.slice (some ⟨g, 0, none⟩) xs.length c) (i : Int).toNat (xs.length : Int).toNat 1)], [], (fun _ => True), (fun w => St M w0 w [osl (PK 76) v21 (xs.take i ++ ys ++ xs.drop i), osl (PK 76) (.slice (some ⟨g, 0, none⟩) xs.length c) xs, osl (PK 76) v2 ys]), rfl, rfl, trivial, trivial, hs, (by kernel_rfl), .nil, ?_⟩
        refine RW.zero (by kernel_rfl) (by kernel_rfl) [(9, v21)] ⟨rfl, trivial⟩ (fun a w hR hs hf => ?_)
        refine hK16 _ _ ?_
        refine hN15 _ _ ?_
        refine seq_reg (fun K17 hK17 => ?_)
        refine stq hf rfl rfl rfl (ex_move hf rfl) (fun a hf => ?_)
        refine stq hf rfl rfl rfl (ex_assign hf rfl) (fun a hf => ?_)
        refine hK17 _ _ ?_
        refine wp_ret ?_
        refine hR11 _ _ ?_
        exact ret1 Try.results29 hf rfl ⟨_, rfl, ⟨v21, rfl, hs.pick (.c (.d (.d .nil)))⟩⟩
      · replace hf := hf.castB (t := 31) rfl (dec_f hcap)
        refine cond_F hf rfl ?_
        refine wp_skip ?_
        refine hN11 _ _ ?_
        have hroom : xs.length + ys.length ≤ c := by omega
        have hmp : 0 < ys.length := by omega
        obtain ⟨g2, c2, cur2, rfl, p1, p2, p3, p4, hs⟩ := St.toRow (hs.pick (.k (.c .nil))) hny
        replace hs := hs.pick (.k (.c .nil))
        have hne : g2 ≠ g := fun e => (List.pairwise_cons.1 hs.apart).1 (bx g2 76 cur2) (by simp; rfl) g rfl e.symm
        have q3 : cur.length = c := by rw [q3]; exact Nat.mul_one _
        have p3 : cur2.length = c2 := by rw [p3]; exact Nat.mul_one _
        have q4 : cur.take xs.length = xs.flatMap (PK 76).enc := by rw [← q4]; exact congrArg (cur.take ·) (Nat.mul_one _).symm
        have p4 : cur2.take ys.length = ys.flatMap (PK 76).enc := by rw [← p4]; exact congrArg (cur2.take ·) (Nat.mul_one _).symm
        have hcn : cur ≠ [] := fun e => by rw [e] at q3; simp at q3; omega
        obtain ⟨vs, hvs⟩ : ∃ vs, vs = (xs.drop i).flatMap (PK 76).enc := ⟨_, rfl⟩
        have hvl : vs.length = xs.length - i := by rw [hvs, flatMap_length, List.length_drop]; exact Nat.mul_one _
        have hvc : vs = (cur.drop i).take (xs.length - i) := by
          have e := fm_drop (PK 76) i xs
          rw [show i * (PK 76).sz = i from Nat.mul_one _] at e
          rw [hvs, e, ← q4, List.drop_take]
        have h1v : ∀ u ∈ vs, u.oneCell' = true := fun u hu => by
          rw [hvs] at hu
          obtain ⟨y, _, hy⟩ := List.mem_flatMap.1 hu
          exact (PK 76).one y u hy
        obtain ⟨us, hus⟩ : ∃ us, us = ys.flatMap (PK 76).enc := ⟨_, rfl⟩
        have hul : us.length = ys.length := by rw [hus, flatMap_length]; exact Nat.mul_one _
        have h1u : ∀ u ∈ us, u.oneCell' = true := fun u hu => by
          rw [hus] at hu
          obtain ⟨y, _, hy⟩ := List.mem_flatMap.1 hu
          exact (PK 76).one y u hy
        refine seq_reg (fun K18 hK18 => ?_)
        refine stq hf rfl rfl rfl (ex_move hf rfl) (fun a hf => ?_)
        refine stq hf rfl rfl rfl (ex_move hf rfl) (fun a hf => ?_)
        refine stq hf rfl rfl rfl (ex_move hf rfl) (fun a hf => ?_)
        refine stq hf rfl rfl rfl (ex_addE hw1 hf rfl rfl) (fun a hf => ?_)
        refine stq hf rfl rfl rfl (ex_sliceH sa_67' hroom hf rfl rfl) (fun a hf => ?_)
        refine stq hf rfl rfl rfl (ex_assign hf rfl) (fun a hf => ?_)
        refine hK18 _ _ ?_
        refine seq_n (fun Q19 hN19 hR19 hX19 => ?_)
        refine seq_reg (fun K20 hK20 => ?_)
        refine stq hf rfl rfl rfl (ex_move hf rfl) (fun a hf => ?_)
        refine stq hf rfl rfl rfl (ex_move hf rfl) (fun a hf => ?_)
        refine stq hf rfl rfl rfl (ex_move hf rfl) (fun a hf => ?_)
        refine stq hf rfl rfl rfl (ex_move hf rfl) (fun a hf => ?_)
        refine stq hf rfl rfl rfl (ex_addE hw2 hf rfl rfl) (fun a hf => ?_)
        refine stq hf rfl rfl rfl (ex_sliceL sa_67' (show i + ys.length ≤ xs.length + ys.length by omega) (by omega) hf rfl rfl) (fun a hf => ?_)
        refine stq hf rfl rfl rfl (ex_callX (vs := [.slice (some ⟨g2, 0, none⟩) ys.length c2, .slice (some ⟨g, (i + ys.length) * 1, none⟩) (xs.length + ys.length - (i + ys.length)) (c - (i + ys.length))]) (ov_50 _ (hs.get (i := 0) rfl) (hs.get (i := 1) rfl) hne hcn) hf rfl) (fun a hf => ?_)
        refine stq hf rfl rfl rfl (ex_not hf rfl) (fun a hf => ?_)
        refine hK20 _ _ ?_
        refine cond_T hf rfl ?_
        refine seq_n (fun Q21 hN21 hR21 hX21 => ?_)
        refine region_d fol67 9 [(0, .slice (some ⟨g, 0, none⟩) (xs.length + ys.length) c), (1, .int .i64 i), (2, .slice (some ⟨g2, 0, none⟩) ys.length c2), (7, .int .i64 ys.length)] [(0, .slice (some ⟨g, 0, none⟩) (xs.length + ys.length) c), (1, .int .i64 i), (2, .int .i64 ys.length), (3, .int .i64 ((i + ys.length : Nat) : Int)), (4, .slice (some ⟨g, (i + ys.length) * 1, none⟩) (xs.length + ys.length - (i + ys.length)) (c - (i + ys.length))), (5, .slice (some ⟨g, 0, none⟩) (xs.length + ys.length) c), (6, .int .i64 i), (7, .slice (some ⟨g, i * 1, none⟩) (xs.length + ys.length - i) (c - i))] [8] (fun _ => True) (fun w => St M w0 w [bx g 76 cur, bx g2 76 cur2]) hf ⟨rfl, rfl, rfl, rfl, trivial⟩ (by kernel_rfl) (by kernel_rfl) rfl (by decide) trivial hs.drew
          (.cons (⟨_, _, rfl, rfl, rfl, rfl, fun a w hR hf => .inl ⟨wanted_yes hf rfl, ex_move hf rfl⟩⟩) (.cons (⟨_, _, rfl, rfl, rfl, rfl, fun a w hR hf => .inl ⟨wanted_yes hf rfl, ex_move hf rfl⟩⟩) (.cons (⟨_, _, rfl, rfl, rfl, rfl, fun a w hR hf => .inl ⟨wanted_yes hf rfl, ex_move hf rfl⟩⟩) (.cons (⟨_, _, rfl, rfl, rfl, rfl, fun a w hR hf => .inl ⟨wanted_yes hf rfl, ex_addE hw2 hf rfl rfl⟩⟩) (.cons (⟨_, _, rfl, rfl, rfl, rfl, fun a w hR hf => .inl ⟨wanted_yes hf rfl, ex_sliceL sa_67' (by omega) (by omega) hf rfl rfl⟩⟩) (.cons (⟨_, _, rfl, rfl, rfl, rfl, fun a w hR hf => .inl ⟨wanted_yes hf rfl, ex_move hf rfl⟩⟩) (.cons (⟨_, _, rfl, rfl, rfl, rfl, fun a w hR hf => .inl ⟨wanted_yes hf rfl, ex_move hf rfl⟩⟩) (.cons (⟨_, _, rfl, rfl, rfl, rfl, fun a w hR hf => .inl ⟨wanted_yes hf rfl, ex_sliceL sa_67' (by omega) (by omega) hf rfl rfl⟩⟩) (.nil))))))))) (fun K22 hK22 => ?_)
        refine RW.one 8 (by kernel_rfl) (by kernel_rfl) rfl (fun d hd => by cases hd; rfl) [(73, .slice (some ⟨g, (i + ys.length) * 1, none⟩) (xs.length + ys.length - (i + ys.length)) (c - (i + ys.length))), (76, .slice (some ⟨g, i * 1, none⟩) (xs.length + ys.length - i) (c - i))] ⟨rfl, rfl, trivial⟩ (fun a w hR hs hf => ⟨wanted_yes hf rfl, ?_⟩)
        refine estep_v (er_copyR (vs := vs) hs (.c (split_none _)) Try.underlying67 sz_76' hf rfl rfl (row_cell (hs.get (i := 0) rfl) (by rw [Nat.mul_one, hvl]; exact hvc.symm)) (by rw [hvl]; show _ = min _ _; omega) h1v (by rw [hvl, q3]; omega)) (fun v w hs => ?_)
        obtain ⟨cur1, hcur1⟩ : ∃ c1, c1 = cur.take ((i + ys.length) * 1) ++ vs ++ cur.drop ((i + ys.length) * 1 + vs.length) := ⟨_, rfl⟩
        rw [← hcur1] at hs
        rw [Nat.mul_one] at hcur1
        have l1 : cur1.length = c := by rw [hcur1]; simp; omega
        refine ⟨[], [(8, v), (0, .slice (some ⟨g, 0, none⟩) (xs.length + ys.length) c), (1, .int .i64 i), (2, .int .i64 ys.length), (3, .int .i64 ((i + ys.length : Nat) : Int)), (4, .slice (some ⟨g, (i + ys.length) * 1, none⟩) (xs.length + ys.length - (i + ys.length)) (c - (i + ys.length))), (5, .slice (some ⟨g, 0, none⟩) (xs.length + ys.length) c), (6, .int .i64 i), (7, .slice (some ⟨g, i * 1, none⟩) (xs.length + ys.length - i) (c - i))], [], (fun _ => True), (fun w => St M w0 w [bx g 76 cur1, bx g2 76 cur2]), rfl, rfl, trivial, trivial, hs, (by kernel_rfl), .nil, ?_⟩
        refine RW.zero (by kernel_rfl) (by kernel_rfl) [(0, .slice (some ⟨g, 0, none⟩) (xs.length + ys.length) c), (1, .int .i64 i), (2, .slice (some ⟨g2, 0, none⟩) ys.length c2)] ⟨rfl, rfl, rfl, trivial⟩ (fun a w hR hs hf => ?_)
        refine hK22 _ _ ?_
        refine hN21 _ _ ?_
        refine seq_reg (fun K23 hK23 => ?_)
        refine stq hf rfl rfl rfl (ex_move hf rfl) (fun a hf => ?_)
        refine stq hf rfl rfl rfl (ex_move hf rfl) (fun a hf => ?_)
        refine stq hf rfl rfl rfl (ex_sliceL sa_67' (show i ≤ xs.length + ys.length by omega) (by omega) hf rfl rfl) (fun a hf => ?_)
        refine stq hf rfl rfl rfl (ex_move hf rfl) (fun a hf => ?_)
        refine stepV hf rfl rfl rfl (er_copyR (vs := us) hs (.c (split_none _)) Try.underlying67 sz_76' hf rfl rfl (row_cell (o := 0) (hs.get (i := 1) rfl) (by rw [List.drop_zero, hul, p4, hus])) (by rw [hul]; show _ = min _ _; omega) h1u (by rw [hul, l1]; omega)) (fun v w hs a hf => ?_)
        refine hK23 _ _ ?_
        refine seq_reg (fun K24 hK24 => ?_)
        refine stq hf rfl rfl rfl (ex_move hf rfl) (fun a hf => ?_)
        refine stq hf rfl rfl rfl (ex_assign hf rfl) (fun a hf => ?_)
        refine hK24 _ _ ?_
        refine wp_ret ?_
        refine hR19 _ _ ?_
        rw [Nat.mul_one] at hs
        have t1 : cur1.take i = cur.take i := by
          rw [hcur1, List.append_assoc, List.take_append_of_le_length (by simp; omega), List.take_take, Nat.min_eq_left (by omega)]
        have t2 : cur1.drop (i + us.length) = vs ++ cur.drop (i + ys.length + vs.length) := by
          rw [hcur1, List.append_assoc, hul]
          exact List.drop_left' (by simp; omega)
        have t3 : cur.take i = (xs.take i).flatMap (PK 76).enc := by
          have e := fm_take (PK 76) i xs
          rw [show i * (PK 76).sz = i from Nat.mul_one _] at e
          rw [e, ← q4, List.take_take, Nat.min_eq_left (by omega)]
        rw [t1, t2, t3] at hs
        have hn : (xs.take i ++ ys ++ xs.drop i).length = xs.length + ys.length := by simp; omega
        have hfin := St.ofRow (K := PK 76) (xs := xs.take i ++ ys ++ xs.drop i) hs (by rw [hn]; exact hroom) q2 (by
          have e : ((xs.take i).flatMap (PK 76).enc).length = i := by rw [← t3]; simp; omega
          simp only [List.length_append, e, hul, hvl, List.length_drop, q3]
          show _ = c * 1
          omega) (by
          rw [hn]
          show List.take ((xs.length + ys.length) * 1) _ = _
          have e : ((xs.take i).flatMap (PK 76).enc).length = i := by rw [← t3]; simp; omega
          rw [Nat.mul_one, List.flatMap_append, List.flatMap_append, ← hus, ← hvs, ← List.append_assoc]
          exact List.take_left' (by simp only [List.length_append, e, hul, hvl]; omega))
        rw [hn] at hfin
        exact ret1 Try.results29 hf rfl ⟨_, rfl, ⟨_, rfl, hfin.pick (.c (.d .nil))⟩⟩
theorem sa_69' : SA Try.prog 69 88 1 := ⟨Try.underlying69, by kernel_rfl⟩
theorem sz_88' : (Try.prog.info? 88).map (·.size) = some 1 := by kernel_rfl
theorem ze_88' : (Try.prog.info? 88).map (·.zero) = some (some (.pointer none)) := by kernel_rfl
theorem fol' : Try.prog.follows .mixedOrders = true := by kernel_rfl
set_option maxRecDepth 100000 in
set_option maxHeartbeats 1000000 in
theorem delete_69.calls {M : Nat → Prop} {w0 : World} (xs : List (Option Nat)) (i j : Int) (v0 : Value) {r : List (Option Nat)} (hs : St M w0 w0 [osl (PK 88) v0 xs]) (h : delete_f xs i j = some r) :
    Calls Try.prog 54 #[v0, .int .i64 i, .int .i64 j] w0 fun e w => ∃ v, e = .returned v ∧ ∃ g0, g0 = v ∧ St M w0 w [osl (PK 88) g0 r] := by
  have H := h
  rw [delete_f] at H
  clear h
  refine enter Try.func54 rfl Try.ntmps54 rfl (fun a hf => ?_)
  refine ck_some H (fun hc H => ?_)
  have eR := some_eq H; subst eR
  obtain ⟨c0, c1, c2⟩ := hc
  refine seq_reg (fun K1 hK1 => ?_)
  refine stq hf rfl rfl rfl (ex_assign hf rfl) (fun a hf => ?_)
  refine hK1 _ _ ?_
  refine seq_reg (fun K2 hK2 => ?_)
  refine stq hf rfl rfl rfl (ex_move hf rfl) (fun a hf => ?_)
  refine stq hf rfl rfl rfl (ex_move hf rfl) (fun a hf => ?_)
  refine stq hf rfl rfl rfl (ex_move hf rfl) (fun a hf => ?_)
  refine stq hf rfl rfl rfl (ex_move hf rfl) (fun a hf => ?_)
  refine stq hf rfl rfl rfl (ex_lenS Try.underlying69 (rsl_isSl (osl_rsl _ (hs.get (i := 0) rfl))) hf rfl) (fun a hf => ?_)
  refine stq hf rfl rfl rfl (ex_slice3 sa_69' (rsl_isSl (osl_rsl _ (hs.get (i := 0) rfl))) c0 c1 c2 (Int.le_refl _) hf rfl rfl rfl rfl) (fun a hf => ?_)
  refine hK2 _ _ ?_
  refine seq_n (fun Q3 hN3 hR3 hX3 => ?_)
  refine seq_reg (fun K4 hK4 => ?_)
  refine stq hf rfl rfl rfl (ex_move hf rfl) (fun a hf => ?_)
  refine stq hf rfl rfl rfl (ex_move hf rfl) (fun a hf => ?_)
  refine stq hf rfl rfl rfl (ex_eql hf rfl rfl) (fun a hf => ?_)
  refine hK4 _ _ ?_
  by_cases hij : i = j
  · replace hf := hf.castB (t := 16) rfl (dec_t hij)
    refine cond_T hf rfl ?_
    refine seq_reg (fun K5 hK5 => ?_)
    refine stq hf rfl rfl rfl (ex_move hf rfl) (fun a hf => ?_)
    refine stq hf rfl rfl rfl (ex_assign hf rfl) (fun a hf => ?_)
    refine hK5 _ _ ?_
    refine wp_ret ?_
    refine hR3 _ _ ?_
    have e : xs.take i.toNat ++ xs.drop j.toNat = xs := by rw [hij, List.take_append_drop]
    rw [e]
    exact ret1 Try.results54 hf rfl ⟨_, rfl, ⟨v0, rfl, hs⟩⟩
  · replace hf := hf.castB (t := 16) rfl (dec_f hij)
    refine cond_F hf rfl ?_
    refine wp_skip ?_
    refine hN3 _ _ ?_
    obtain ⟨i, rfl⟩ : ∃ n : Nat, i = n := ⟨i.toNat, by omega⟩
    obtain ⟨j, rfl⟩ : ∃ n : Nat, j = n := ⟨j.toNat, by omega⟩
    have hne : xs ≠ [] := fun e => by subst e; simp at c2; omega
    obtain ⟨g, c, cur, rfl, q1, q2, q3, q4, hs⟩ := St.toRow hs hne
    have q3 : cur.length = c := by rw [q3]; exact Nat.mul_one _
    have q4 : cur.take xs.length = xs.flatMap (PK 88).enc := by rw [← q4]; exact congrArg (cur.take ·) (Nat.mul_one _).symm
    refine seq_reg (fun K6 hK6 => ?_)
    refine stq hf rfl rfl rfl (ex_move hf rfl) (fun a hf => ?_)
    refine stq hf rfl rfl rfl (ex_lenR Try.underlying69 hf rfl) (fun a hf => ?_)
    refine stq hf rfl rfl rfl (ex_assign hf rfl) (fun a hf => ?_)
    refine hK6 _ _ ?_
    refine seq_n (fun Q7 hN7 hR7 hX7 => ?_)
    obtain ⟨ad, had⟩ : ∃ ad : Addr, ad = (if c = j then ⟨g, 0, none⟩ else ⟨g, j * 1, none⟩) := ⟨_, rfl⟩
    obtain ⟨vs, hvs⟩ : ∃ vs, vs = (xs.drop j).flatMap (PK 88).enc := ⟨_, rfl⟩
    have hvl : vs.length = xs.length - j := by rw [hvs, flatMap_length, List.length_drop]; exact Nat.mul_one _
    have hvc : vs = (cur.drop j).take (xs.length - j) := by
      have e := fm_drop (PK 88) j xs
      rw [show j * (PK 88).sz = j from Nat.mul_one _] at e
      rw [hvs, e, ← q4, List.drop_take]
    have h1v : ∀ u ∈ vs, u.oneCell' = true := fun u hu => by
      rw [hvs] at hu
      obtain ⟨y, _, hy⟩ := List.mem_flatMap.1 hu
      exact (PK 88).one y u hy
    have hcells : ∀ {w : World}, (bx g (PK 88).E cur).ok w → ∀ k u, vs[k]? = some u → w.cell? (ad.add k) = some u := fun hb k u hu => by
      by_cases e : c = j
      · have : vs.length = 0 := by omega
        rw [List.eq_nil_of_length_eq_zero this] at hu; simp at hu
      · rw [had, if_neg e]
        refine row_cell hb ?_ k u hu
        rw [hvc, List.length_take, List.length_drop, Nat.mul_one]
        congr 1; omega
    refine region_d fol' 7 [(0, .slice (some ⟨g, 0, none⟩) xs.length c), (1, .int .i64 i), (2, .int .i64 j), (7, .int .i64 xs.length)] [(0, .slice (some ⟨g, 0, none⟩) xs.length c), (1, .int .i64 i), (2, .slice (some ⟨g, 0, none⟩) i c), (3, .slice (some ⟨g, 0, none⟩) xs.length c), (4, .int .i64 j), (5, .slice (some ad) vs.length (c - j))] [6] (fun _ => True) (fun w => St M w0 w [bx g (PK 88).E cur]) hf ⟨rfl, rfl, rfl, rfl, trivial⟩ (by kernel_rfl) (by kernel_rfl) rfl (by decide) trivial hs.drew
      (.cons (⟨_, _, rfl, rfl, rfl, rfl, fun a w hR hf => .inl ⟨wanted_yes hf rfl, ex_move hf rfl⟩⟩) (.cons (⟨_, _, rfl, rfl, rfl, rfl, fun a w hR hf => .inl ⟨wanted_yes hf rfl, ex_move hf rfl⟩⟩) (.cons (⟨_, _, rfl, rfl, rfl, rfl, fun a w hR hf => .inl ⟨wanted_yes hf rfl, ex_sliceH sa_69' (by omega) hf rfl rfl⟩⟩) (.cons (⟨_, _, rfl, rfl, rfl, rfl, fun a w hR hf => .inl ⟨wanted_yes hf rfl, ex_move hf rfl⟩⟩) (.cons (⟨_, _, rfl, rfl, rfl, rfl, fun a w hR hf => .inl ⟨wanted_yes hf rfl, ex_move hf rfl⟩⟩) (.cons (⟨_, _, rfl, rfl, rfl, rfl, fun a w hR hf => .inl ⟨wanted_yes hf rfl, ex_sliceL' sa_69' (by omega) had hvl hf rfl rfl⟩⟩) (.nil))))))) (fun K8 hK8 => ?_)
    refine RW.one 6 (by kernel_rfl) (by kernel_rfl) rfl (fun d hd => by cases hd; rfl) [(22, .slice (some ⟨g, 0, none⟩) i c), (25, .slice (some ad) vs.length (c - j))] ⟨rfl, rfl, trivial⟩ (fun a w hR hs hf => ⟨wanted_yes hf rfl, ?_⟩)
    refine estep_v (er_appendR hs (.c .nil) Try.underlying69 sz_88' hf rfl rfl (hcells (hs.get (i := 0) rfl)) h1v (by omega) q3) (fun v w hR => ?_)
    obtain ⟨rfl, hs⟩ := hR
    obtain ⟨cur1, hcur1⟩ : ∃ c1, c1 = cur.take i ++ vs ++ cur.drop (i + vs.length) := ⟨_, rfl⟩
    rw [← hcur1] at hs
    have l1 : cur1.length = c := by rw [hcur1]; simp; omega
    have t1 : cur1.take (i + vs.length) = cur.take i ++ vs := by
      rw [hcur1]
      exact List.take_left' (by simp; omega)
    refine ⟨[], [(6, .slice (some ⟨g, 0, none⟩) (i + vs.length) c), (0, .slice (some ⟨g, 0, none⟩) xs.length c), (1, .int .i64 i), (2, .slice (some ⟨g, 0, none⟩) i c), (3, .slice (some ⟨g, 0, none⟩) xs.length c), (4, .int .i64 j), (5, .slice (some ad) vs.length (c - j))], [], (fun _ => True), (fun w => St M w0 w [bx g (PK 88).E cur1]), rfl, rfl, trivial, trivial, hs, (by kernel_rfl), .nil, ?_⟩
    refine RW.zero (by kernel_rfl) (by kernel_rfl) [(1, .int .i64 i), (2, .int .i64 j), (7, .int .i64 xs.length), (26, .slice (some ⟨g, 0, none⟩) (i + vs.length) c)] ⟨rfl, rfl, rfl, rfl, trivial⟩ (fun a w hR hs hf => ?_)
    refine stq hf rfl rfl rfl (ex_assign hf rfl) (fun a hf => ?_)
    refine hK8 _ _ ?_
    refine hN7 _ _ ?_
    refine seq_reg (fun K9 hK9 => ?_)
    refine stq hf rfl rfl rfl (ex_move hf rfl) (fun a hf => ?_)
    refine stq hf rfl rfl rfl (ex_move hf rfl) (fun a hf => ?_)
    refine stq hf rfl rfl rfl (ex_lenR Try.underlying69 hf rfl) (fun a hf => ?_)
    refine stq hf rfl rfl rfl (ex_move hf rfl) (fun a hf => ?_)
    refine stq hf rfl rfl rfl (ex_sliceLH sa_69' (show i + vs.length ≤ xs.length by omega) q1 (by omega) hf rfl rfl rfl) (fun a hf => ?_)
    refine stepVn hf rfl rfl (er_clearR hs (.c .nil) Try.underlying69 ze_88' rfl rfl (by omega) (by rw [l1]; omega) hf rfl) (fun v w hR => ?_)
    obtain ⟨cur2, l2, t2, hs⟩ := hR
    refine hK9 _ _ ?_
    refine seq_reg (fun K10 hK10 => ?_)
    refine stq hf rfl rfl rfl (ex_move hf rfl) (fun a hf => ?_)
    refine stq hf rfl rfl rfl (ex_assign hf rfl) (fun a hf => ?_)
    refine hK10 _ _ ?_
    refine wp_ret ?_
    rw [Nat.mul_one] at t2
    have hn : (xs.take i ++ xs.drop j).length = i + vs.length := by rw [List.length_append, List.length_take, List.length_drop, hvl]; omega
    have hfin := St.ofRow (K := PK 88) (xs := xs.take i ++ xs.drop j) hs (by rw [hn]; omega) q2 (by rw [l2, l1]; exact (Nat.mul_one _).symm) (by
      rw [hn]
      show cur2.take ((i + vs.length) * 1) = _
      have e := fm_take (PK 88) i xs
      rw [show i * (PK 88).sz = i from Nat.mul_one _] at e
      rw [Nat.mul_one, t2, t1, List.flatMap_append, ← hvs, e, ← q4, List.take_take, Nat.min_eq_left (by omega)])
    rw [hn] at hfin
    exact ret1 Try.results54 hf rfl ⟨_, rfl, ⟨_, rfl, hfin⟩⟩
theorem ze_76' : (Try.prog.info? 76).map (·.zero) = some (some (.pointer none)) := by kernel_rfl
set_option maxRecDepth 100000 in
set_option maxHeartbeats 1000000 in
theorem delete_67.calls {M : Nat → Prop} {w0 : World} (xs : List (Option Nat)) (i j : Int) (v0 : Value) {r : List (Option Nat)} (hs : St M w0 w0 [osl (PK 76) v0 xs]) (h : delete_f xs i j = some r) :
    Calls Try.prog 59 #[v0, .int .i64 i, .int .i64 j] w0 fun e w => ∃ v, e = .returned v ∧ ∃ g0, g0 = v ∧ St M w0 w [osl (PK 76) g0 r] := by
  have H := h
  rw [delete_f] at H
  clear h
  refine enter Try.func59 rfl Try.ntmps59 rfl (fun a hf => ?_)
  refine ck_some H (fun hc H => ?_)
  have eR := some_eq H; subst eR
  obtain ⟨c0, c1, c2⟩ := hc
  refine seq_reg (fun K1 hK1 => ?_)
  refine stq hf rfl rfl rfl (ex_assign hf rfl) (fun a hf => ?_)
  refine hK1 _ _ ?_
  refine seq_reg (fun K2 hK2 => ?_)
  refine stq hf rfl rfl rfl (ex_move hf rfl) (fun a hf => ?_)
  refine stq hf rfl rfl rfl (ex_move hf rfl) (fun a hf => ?_)
  refine stq hf rfl rfl rfl (ex_move hf rfl) (fun a hf => ?_)
  refine stq hf rfl rfl rfl (ex_move hf rfl) (fun a hf => ?_)
  refine stq hf rfl rfl rfl (ex_lenS Try.underlying67 (rsl_isSl (osl_rsl _ (hs.get (i := 0) rfl))) hf rfl) (fun a hf => ?_)
  refine stq hf rfl rfl rfl (ex_slice3 sa_67' (rsl_isSl (osl_rsl _ (hs.get (i := 0) rfl))) c0 c1 c2 (Int.le_refl _) hf rfl rfl rfl rfl) (fun a hf => ?_)
  refine hK2 _ _ ?_
  refine seq_n (fun Q3 hN3 hR3 hX3 => ?_)
  refine seq_reg (fun K4 hK4 => ?_)
  refine stq hf rfl rfl rfl (ex_move hf rfl) (fun a hf => ?_)
  refine stq hf rfl rfl rfl (ex_move hf rfl) (fun a hf => ?_)
  refine stq hf rfl rfl rfl (ex_eql hf rfl rfl) (fun a hf => ?_)
  refine hK4 _ _ ?_
  by_cases hij : i = j
  · replace hf := hf.castB (t := 16) rfl (dec_t hij)
    refine cond_T hf rfl ?_
    refine seq_reg (fun K5 hK5 => ?_)
    refine stq hf rfl rfl rfl (ex_move hf rfl) (fun a hf => ?_)
    refine stq hf rfl rfl rfl (ex_assign hf rfl) (fun a hf => ?_)
    refine hK5 _ _ ?_
    refine wp_ret ?_
    refine hR3 _ _ ?_
    have e : xs.take i.toNat ++ xs.drop j.toNat = xs := by rw [hij, List.take_append_drop]
    rw [e]
    exact ret1 Try.results59 hf rfl ⟨_, rfl, ⟨v0, rfl, hs⟩⟩
  · replace hf := hf.castB (t := 16) rfl (dec_f hij)
    refine cond_F hf rfl ?_
    refine wp_skip ?_
    refine hN3 _ _ ?_
    obtain ⟨i, rfl⟩ : ∃ n : Nat, i = n := ⟨i.toNat, by omega⟩
    obtain ⟨j, rfl⟩ : ∃ n : Nat, j = n := ⟨j.toNat, by omega⟩
    have hne : xs ≠ [] := fun e => by subst e; simp at c2; omega
    obtain ⟨g, c, cur, rfl, q1, q2, q3, q4, hs⟩ := St.toRow hs hne
    have q3 : cur.length = c := by rw [q3]; exact Nat.mul_one _
    have q4 : cur.take xs.length = xs.flatMap (PK 76).enc := by rw [← q4]; exact congrArg (cur.take ·) (Nat.mul_one _).symm
    refine seq_reg (fun K6 hK6 => ?_)
    refine stq hf rfl rfl rfl (ex_move hf rfl) (fun a hf => ?_)
    refine stq hf rfl rfl rfl (ex_lenR Try.underlying67 hf rfl) (fun a hf => ?_)
    refine stq hf rfl rfl rfl (ex_assign hf rfl) (fun a hf => ?_)
    refine hK6 _ _ ?_
    refine seq_n (fun Q7 hN7 hR7 hX7 => ?_)
    obtain ⟨ad, had⟩ : ∃ ad : Addr, ad = (if c = j then ⟨g, 0, none⟩ else ⟨g, j * 1, none⟩) := ⟨_, rfl⟩
    obtain ⟨vs, hvs⟩ : ∃ vs, vs = (xs.drop j).flatMap (PK 76).enc := ⟨_, rfl⟩
    have hvl : vs.length = xs.length - j := by rw [hvs, flatMap_length, List.length_drop]; exact Nat.mul_one _
    have hvc : vs = (cur.drop j).take (xs.length - j) := by
      have e := fm_drop (PK 76) j xs
      rw [show j * (PK 76).sz = j from Nat.mul_one _] at e
      rw [hvs, e, ← q4, List.drop_take]
    have h1v : ∀ u ∈ vs, u.oneCell' = true := fun u hu => by
      rw [hvs] at hu
      obtain ⟨y, _, hy⟩ := List.mem_flatMap.1 hu
      exact (PK 76).one y u hy
    have hcells : ∀ {w : World}, (bx g (PK 76).E cur).ok w → ∀ k u, vs[k]? = some u → w.cell? (ad.add k) = some u := fun hb k u hu => by
      by_cases e : c = j
      · have : vs.length = 0 := by omega
        rw [List.eq_nil_of_length_eq_zero this] at hu; simp at hu
      · rw [had, if_neg e]
        refine row_cell hb ?_ k u hu
        rw [hvc, List.length_take, List.length_drop, Nat.mul_one]
        congr 1; omega
    refine region_d fol' 7 [(0, .slice (some ⟨g, 0, none⟩) xs.length c), (1, .int .i64 i), (2, .int .i64 j), (7, .int .i64 xs.length)] [(0, .slice (some ⟨g, 0, none⟩) xs.length c), (1, .int .i64 i), (2, .slice (some ⟨g, 0, none⟩) i c), (3, .slice (some ⟨g, 0, none⟩) xs.length c), (4, .int .i64 j), (5, .slice (some ad) vs.length (c - j))] [6] (fun _ => True) (fun w => St M w0 w [bx g (PK 76).E cur]) hf ⟨rfl, rfl, rfl, rfl, trivial⟩ (by kernel_rfl) (by kernel_rfl) rfl (by decide) trivial hs.drew
      (.cons (⟨_, _, rfl, rfl, rfl, rfl, fun a w hR hf => .inl ⟨wanted_yes hf rfl, ex_move hf rfl⟩⟩) (.cons (⟨_, _, rfl, rfl, rfl, rfl, fun a w hR hf => .inl ⟨wanted_yes hf rfl, ex_move hf rfl⟩⟩) (.cons (⟨_, _, rfl, rfl, rfl, rfl, fun a w hR hf => .inl ⟨wanted_yes hf rfl, ex_sliceH sa_67' (by omega) hf rfl rfl⟩⟩) (.cons (⟨_, _, rfl, rfl, rfl, rfl, fun a w hR hf => .inl ⟨wanted_yes hf rfl, ex_move hf rfl⟩⟩) (.cons (⟨_, _, rfl, rfl, rfl, rfl, fun a w hR hf => .inl ⟨wanted_yes hf rfl, ex_move hf rfl⟩⟩) (.cons (⟨_, _, rfl, rfl, rfl, rfl, fun a w hR hf => .inl ⟨wanted_yes hf rfl, ex_sliceL' sa_67' (by omega) had hvl hf rfl rfl⟩⟩) (.nil))))))) (fun K8 hK8 => ?_)
    refine RW.one 6 (by kernel_rfl) (by kernel_rfl) rfl (fun d hd => by cases hd; rfl) [(22, .slice (some ⟨g, 0, none⟩) i c), (25, .slice (some ad) vs.length (c - j))] ⟨rfl, rfl, trivial⟩ (fun a w hR hs hf => ⟨wanted_yes hf rfl, ?_⟩)
    refine estep_v (er_appendR hs (.c .nil) Try.underlying67 sz_76' hf rfl rfl (hcells (hs.get (i := 0) rfl)) h1v (by omega) q3) (fun v w hR => ?_)
    obtain ⟨rfl, hs⟩ := hR
    obtain ⟨cur1, hcur1⟩ : ∃ c1, c1 = cur.take i ++ vs ++ cur.drop (i + vs.length) := ⟨_, rfl⟩
    rw [← hcur1] at hs
    have l1 : cur1.length = c := by rw [hcur1]; simp; omega
    have t1 : cur1.take (i + vs.length) = cur.take i ++ vs := by
      rw [hcur1]
      exact List.take_left' (by simp; omega)
    refine ⟨[], [(6, .slice (some ⟨g, 0, none⟩) (i + vs.length) c), (0, .slice (some ⟨g, 0, none⟩) xs.length c), (1, .int .i64 i), (2, .slice (some ⟨g, 0, none⟩) i c), (3, .slice (some ⟨g, 0, none⟩) xs.length c), (4, .int .i64 j), (5, .slice (some ad) vs.length (c - j))], [], (fun _ => True), (fun w => St M w0 w [bx g (PK 76).E cur1]), rfl, rfl, trivial, trivial, hs, (by kernel_rfl), .nil, ?_⟩
    refine RW.zero (by kernel_rfl) (by kernel_rfl) [(1, .int .i64 i), (2, .int .i64 j), (7, .int .i64 xs.length), (26, .slice (some ⟨g, 0, none⟩) (i + vs.length) c)] ⟨rfl, rfl, rfl, rfl, trivial⟩ (fun a w hR hs hf => ?_)
    refine stq hf rfl rfl rfl (ex_assign hf rfl) (fun a hf => ?_)
    refine hK8 _ _ ?_
    refine hN7 _ _ ?_
    refine seq_reg (fun K9 hK9 => ?_)
    refine stq hf rfl rfl rfl (ex_move hf rfl) (fun a hf => ?_)
    refine stq hf rfl rfl rfl (ex_move hf rfl) (fun a hf => ?_)
    refine stq hf rfl rfl rfl (ex_lenR Try.underlying67 hf rfl) (fun a hf => ?_)
    refine stq hf rfl rfl rfl (ex_move hf rfl) (fun a hf => ?_)
    refine stq hf rfl rfl rfl (ex_sliceLH sa_67' (show i + vs.length ≤ xs.length by omega) q1 (by omega) hf rfl rfl rfl) (fun a hf => ?_)
    refine stepVn hf rfl rfl (er_clearR hs (.c .nil) Try.underlying67 ze_76' rfl rfl (by omega) (by rw [l1]; omega) hf rfl) (fun v w hR => ?_)
    obtain ⟨cur2, l2, t2, hs⟩ := hR
    refine hK9 _ _ ?_
    refine seq_reg (fun K10 hK10 => ?_)
    refine stq hf rfl rfl rfl (ex_move hf rfl) (fun a hf => ?_)
    refine stq hf rfl rfl rfl (ex_assign hf rfl) (fun a hf => ?_)
    refine hK10 _ _ ?_
    refine wp_ret ?_
    rw [Nat.mul_one] at t2
    have hn : (xs.take i ++ xs.drop j).length = i + vs.length := by rw [List.length_append, List.length_take, List.length_drop, hvl]; omega
    have hfin := St.ofRow (K := PK 76) (xs := xs.take i ++ xs.drop j) hs (by rw [hn]; omega) q2 (by rw [l2, l1]; exact (Nat.mul_one _).symm) (by
      rw [hn]
      show cur2.take ((i + vs.length) * 1) = _
      have e := fm_take (PK 76) i xs
      rw [show i * (PK 76).sz = i from Nat.mul_one _] at e
      rw [Nat.mul_one, t2, t1, List.flatMap_append, ← hvs, e, ← q4, List.take_take, Nat.min_eq_left (by omega)])
    rw [hn] at hfin
    exact ret1 Try.results59 hf rfl ⟨_, rfl, ⟨_, rfl, hfin⟩⟩
end Go.Proofs.Ytigadacjaglfeaa.X
