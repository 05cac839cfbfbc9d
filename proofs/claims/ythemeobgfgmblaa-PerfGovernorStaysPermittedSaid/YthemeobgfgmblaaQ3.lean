/- The laws on the pure side: p36b. -/
import Derived.Test.YthemeobgfgmblaaQ2
namespace Go.Proofs.Ythemeobgfgmblaa.X
open Go Go.Sx

/-! ## the laws of Check, Find, Transition, Safe -/
theorem purePerfTransitionAgrees : law36_PerfTransitionAgrees.Pure := by
  intro a0 a1 a2 h1 h2 h3 h4
  refine ⟨300, ?_⟩
  rw [law36_PerfTransitionAgrees.f]
  by_cases h : 20 < (a0.length : Int)
  · rw [if_pos h, bind_s awake]
  · obtain ⟨T, t1, t2, t3, tS⟩ := table_f a0 h2 300 (by omega)
    obtain ⟨x, x1, x2, x3⟩ := mod_ 300 a1 (T.length : Int) (by omega) (by omega)
    obtain ⟨y, y1, y2, y3⟩ := mod_ 300 a2 (T.length : Int) (by omega) (by omega)
    obtain ⟨p, p1, p2, p3, _⟩ := trans_f T x y 300 (by omega)
    obtain ⟨q, q1, q2, q3, _⟩ := trans_f a0 a1 a2 300 (by omega)
    obtain ⟨r, r1, r2, r3, _⟩ := trans_f T a1 y 300 (by omega)
    rw [if_neg h, bind_s t1, bind_s x1, bind_s y1, bind_s p1, bind_s p2, bind_s q1, bind_s q2, bind_s r1, bind_s r2, if_pos rfl, if_pos rfl, if_pos rfl, bind_s (eq_f p.1 p3 300 (by omega)), if_pos rfl, bind_s (eq_f q.1 q3 300 (by omega)), if_pos rfl, bind_s (eq_f r.1 r3 300 (by omega)), if_pos rfl, bind_s awake]
theorem ca_body (K : Nat) (hK : 20 < K) (L : List OperatingPoint) (f : Int) : ((perf_Find.f K L (Int.tmod f 1000)).bind fun s32 => ((ref36_Find.f K L (Int.tmod f 1000)).bind fun s34 => ((perf_Find.f K L f).bind fun s36 => ((ref36_Find.f K L f).bind fun s38 => ((((perf_Check.f K L).bind fun s41 => ((ref36_Check.f K L).bind fun s42 => (if s41 = s42 then (if s32.1 = s34.1 then (if s32.2 = s34.2 then (if s36.1 = s38.1 then (some (!decide (s36.2 = s38.2))) else (some true)) else (some true)) else (some true)) else (some true))))).bind fun x40 => (if x40 = true then (some (.rt (some (.rt (some false))))) else (some (.go ())))))))) = (some (.go ()) : Option (Ex (Unit) (Option (Ex (Unit) (Option (Bool)))))) := by
  obtain ⟨p, p1, p2, _⟩ := find_f L (Int.tmod f 1000) K (by omega)
  obtain ⟨q, q1, q2, _⟩ := find_f L f K (by omega)
  have hc : ∃ c, perf_Check.f K L = some c := by rcases check_f L K (by omega) with ⟨_, c⟩ | ⟨_, c⟩ <;> exact ⟨_, c⟩
  obtain ⟨c, hc⟩ := hc
  rw [bind_s p1, bind_s p2, bind_s q1, bind_s q2, rcheck_f, bind_s hc, bind_s hc, if_pos rfl, if_pos rfl, if_pos rfl, if_pos rfl, decide_eq_true rfl, bind_s rfl]
  rfl
theorem ca_l1 (a0 T : List OperatingPoint) (f s : Int) (x : OperatingPoint) : law36_PerfCheckAgrees.l1 400 a0 f T s x 0 = some (.go ()) := by
  rw [law36_PerfCheckAgrees.l1, if_pos (by decide), if_pos rfl, ca_body 399 (by decide) a0 f, bind_s rfl, el_g, show IntKind.i64.wrap (0 + 1) = 1 by decide]
  rw [law36_PerfCheckAgrees.l1, if_pos (by decide), if_neg (by decide), if_pos rfl, ca_body 398 (by decide) T f, bind_s rfl, el_g, show IntKind.i64.wrap (1 + 1) = 2 by decide]
  rw [law36_PerfCheckAgrees.l1, if_pos (by decide), if_neg (by decide), if_neg (by decide), if_pos rfl, ca_body 397 (by decide) _ f, bind_s rfl, el_g, show IntKind.i64.wrap (2 + 1) = 3 by decide]
  rw [law36_PerfCheckAgrees.l1, if_neg (by decide)]
theorem fin_l1 (P : List PerfOp × Int) (hl : P.1.length ≤ 2) : ∀ (n k : Nat) (f v : Int) (i : Int), 0 ≤ i → i + n = P.1.length → n < k →
    law36_PerfTransitionIsSafe.l1 k P f v i = some (fin (P.1.drop i.toNat) f v)
  | _, 0, _, _, _, _, _, hk => by omega
  | 0, k + 1, f, v, i, h0, h1, hk => by
    rw [law36_PerfTransitionIsSafe.l1, if_neg (by omega), drop_end (by omega)]; rfl
  | n + 1, k + 1, f, v, i, h0, h1, hk => by
    have h : i < (P.1.length : Int) := by omega
    rw [law36_PerfTransitionIsSafe.l1, if_pos h, ck_t ⟨h0, h⟩, step_eq, bind_s rfl, wi (i + 1) (by omega) (by omega), drop_gd (z := PerfOp.zero) h0 h]
    exact fin_l1 P hl n k _ _ (i + 1) (by omega) (by omega) (by omega)
theorem tr_rev (T : List OperatingPoint) (o : okT T) (a b : Int) (a0 : 0 ≤ a) (a1 : a < T.length) (b0 : 0 ≤ b) (b1 : b < T.length) (h2 : (tr T a b).length = 2) :
    ¬ safe T [⟨(gd PerfOp.zero (tr T a b) 1).Voltage, (gd PerfOp.zero (tr T a b) 1).Value⟩, ⟨(gd PerfOp.zero (tr T a b) 0).Voltage, (gd PerfOp.zero (tr T a b) 0).Value⟩] (pt T a).Frequency (pt T a).Voltage := by
  revert h2
  unfold tr
  split
  · intro h; simp at h
  · split
    · intro h; simp at h
    · split
      · rename_i e1 e2 e3
        have := okT_le o a0 (Int.le_of_lt e3) b1
        intro _ hs
        obtain ⟨j, j0, j1, j2, j3⟩ := hs.1
        have j2 : (pt T j).Frequency = (pt T b).Frequency := j2
        have j3 : (pt T j).Voltage ≤ (pt T a).Voltage := j3
        have e := okT_inj o j0 j1 b0 b1 j2
        subst e
        omega
      · rename_i e1 e2 e3
        have := okT_le o b0 (show b ≤ a by omega) a1
        intro _ hs
        obtain ⟨j, j0, j1, j2, j3⟩ := hs.1
        have j2 : (pt T j).Frequency = (pt T a).Frequency := j2
        have j3 : (pt T j).Voltage ≤ (pt T b).Voltage := j3
        have e := okT_inj o j0 j1 a0 a1 j2
        subst e
        omega
theorem purePerfTransitionIsSafe : law36_PerfTransitionIsSafe.Pure := by
  intro a0 a1 a2 h1 h2 h3 h4
  refine ⟨300, ?_⟩
  rw [law36_PerfTransitionIsSafe.f]
  by_cases h : 20 < (a0.length : Int)
  · rw [if_pos h, bind_s awake]
  · obtain ⟨T, t1, t2, t3, tS⟩ := table_f a0 h2 300 (by omega)
    have o := tS.t t2 (by omega)
    obtain ⟨x, x1, x2, x3⟩ := mod_ 300 a1 (T.length : Int) (by omega) (by omega)
    obtain ⟨y, y1, y2, y3⟩ := mod_ 300 a2 (T.length : Int) (by omega) (by omega)
    obtain ⟨p, p1, _, p3, p4⟩ := trans_f T x y 300 (by omega)
    have p4 := p4 o x2 x3 y2 y3
    subst p4
    have hl := tr_len T x y
    obtain ⟨b, b1, _, b3⟩ := safe_f T x (tr T x y) (by omega) 300 (by omega)
    have b4 := (b3 o x2 x3).2 (tr_safe T o x y x2 x3 y2 y3)
    subst b4
    rw [if_neg h, bind_s t1, bind_s x1, bind_s y1, bind_s p1, if_pos rfl, bind_s b1, bind_s rfl, if_neg (by decide), ck_t ⟨x2, x3⟩, bind_s (fin_l1 (tr T x y, 0) hl (tr T x y).length 300 _ _ 0 (by omega) (by dsimp only; omega) (by omega))]
    rw [show fin ((tr T x y, (0 : Int)).1.drop (0 : Int).toNat) (gd OperatingPoint.zero T x).Frequency (gd OperatingPoint.zero T x).Voltage = ((pt T y).Frequency, (pt T y).Voltage) from tr_fin T x y]
    dsimp only
    rw [ck_t ⟨y2, y3⟩, if_pos rfl, decide_eq_true rfl, bind_s rfl, if_neg (by decide)]
    by_cases c : ((tr T x y).length : Int) = 2
    · obtain ⟨d, d1, _, d3⟩ := safe_f T x [⟨(gd PerfOp.zero (tr T x y) 1).Voltage, (gd PerfOp.zero (tr T x y) 1).Value⟩, ⟨(gd PerfOp.zero (tr T x y) 0).Voltage, (gd PerfOp.zero (tr T x y) 0).Value⟩] (by simp) 300 (by omega)
      have d4 : d = false := by
        cases d
        · rfl
        · exact absurd ((d3 o x2 x3).1 rfl) (tr_rev T o x y x2 x3 y2 y3 (by omega))
      subst d4
      rw [if_pos c, ck_t ⟨by omega, by omega⟩, ck_t ⟨by omega, by omega⟩, bind_s d1, bind_s rfl, if_neg (by decide), bind_s awake]
    · rw [if_neg c, bind_s rfl, if_neg (by decide), bind_s awake]
theorem some_l1 (ops : List PerfOp) (hw : ∀ x ∈ ops, PerfOp.wf x) (hl : (ops.length : Int) ≤ 20) (T : List OperatingPoint) (t0 : 1 ≤ (T.length : Int)) (t1 : (T.length : Int) ≤ 8) : ∀ (n k : Nat) (L : List PerfOp) (i : Int), 0 ≤ i → i + n = ops.length → n < k → (L.length : Int) = i →
    ∃ R, law36_PerfSafeAgrees.l1 k ops T L i = some R ∧ R.length = ops.length
  | _, 0, _, _, _, _, hk, _ => by omega
  | 0, k + 1, L, i, h0, h1, hk, hL => by
    rw [law36_PerfSafeAgrees.l1, if_neg (by omega)]
    exact ⟨L, rfl, by omega⟩
  | n + 1, k + 1, L, i, h0, h1, hk, hL => by
    have h : i < (ops.length : Int) := by omega
    have hv := inK_u64 (hw _ (gd_mem (z := PerfOp.zero) h0 h))
    have m0 := Int.emod_nonneg (gd PerfOp.zero ops i).Value (show (T.length : Int) ≠ 0 by omega)
    have m1 := Int.emod_lt_of_pos (gd PerfOp.zero ops i).Value (show 0 < (T.length : Int) by omega)
    rw [law36_PerfSafeAgrees.l1, if_pos h, ck_t ⟨h0, h⟩, wu (T.length : Int) (by omega) (by omega), ck_t (by omega), tm _ hv.1, ck_t ⟨m0, m1⟩]
    have hx : ∃ x, (if ((gd PerfOp.zero ops i).Voltage) = true then (some (IntKind.u64.wrap (((gd OperatingPoint.zero T ((gd PerfOp.zero ops i).Value % (T.length : Int))).Voltage) + (Int.tmod ((gd PerfOp.zero ops i).Value) 2)))) else (some ((gd OperatingPoint.zero T ((gd PerfOp.zero ops i).Value % (T.length : Int))).Frequency))) = some x := by
      split <;> exact ⟨_, rfl⟩
    obtain ⟨x, hx⟩ := hx
    rw [bind_s hx, ck_t (by simp; omega), wi (i + 1) (by omega) (by omega)]
    exact some_l1 ops hw hl T t0 t1 n k _ (i + 1) (by omega) (by omega) (by omega) (by simp; omega)
theorem purePerfSafeAgrees : law36_PerfSafeAgrees.Pure := by
  intro a0 a1 a2 h1 h2 h3 h4 h5
  refine ⟨300, ?_⟩
  rw [law36_PerfSafeAgrees.f]
  by_cases h : 20 < (a0.length : Int)
  · rw [if_pos h, bind_s rfl, if_pos rfl, bind_s awake]
  · by_cases h' : 20 < (a2.length : Int)
    · rw [if_neg h, decide_eq_true h', bind_s rfl, if_pos rfl, bind_s awake]
    · obtain ⟨T, t1, t2, t3, tS⟩ := table_f a0 h2 300 (by omega)
      obtain ⟨x, x1, x2, x3⟩ := mod_ 300 a1 (T.length : Int) (by omega) (by omega)
      obtain ⟨R, r1, r2⟩ := some_l1 a2 h5 (by omega) T t2 t3 a2.length 300 [] 0 (by omega) (by omega) (by omega) rfl
      obtain ⟨p, p1, p2, _⟩ := safe_f a0 a1 a2 (by omega) 300 (by omega)
      obtain ⟨q, q1, q2, _⟩ := safe_f T x a2 (by omega) 300 (by omega)
      obtain ⟨r, s1, s2, _⟩ := safe_f T x R (by omega) 300 (by omega)
      obtain ⟨u, u1, u2, _⟩ := safe_f T a1 R (by omega) 300 (by omega)
      rw [if_neg h, decide_eq_false h', bind_s rfl, if_neg (by decide), bind_s t1, bind_s x1, bind_s r1, bind_s p1, bind_s p2, if_pos (by simp), bind_s q1, bind_s q2, if_pos (by simp), bind_s s1, bind_s s2, if_pos (by simp), bind_s u1, bind_s u2, if_pos (by simp), bind_s awake]
theorem rf_l1 (P : List PerfOp × Int) (hl : P.1.length ≤ 2) : ∀ (n k : Nat) (f v : Int) (i : Int), 0 ≤ i → i + n = P.1.length → n < k →
    law36_PerfReachesFrequency.l1 k P f i = some (fin (P.1.drop i.toNat) f v).1
  | _, 0, _, _, _, _, _, hk => by omega
  | 0, k + 1, f, v, i, h0, h1, hk => by
    rw [law36_PerfReachesFrequency.l1, if_neg (by omega), drop_end (by omega)]; rfl
  | n + 1, k + 1, f, v, i, h0, h1, hk => by
    have h : i < (P.1.length : Int) := by omega
    have e : (if ((gd PerfOp.zero P.1 i).Voltage) = true then (some f) else (some ((gd PerfOp.zero P.1 i).Value))) = some (nf (gd PerfOp.zero P.1 i) f) := by unfold nf; split <;> rfl
    rw [law36_PerfReachesFrequency.l1, if_pos h, ck_t ⟨h0, h⟩, e, bind_s rfl, wi (i + 1) (by omega) (by omega), drop_gd (z := PerfOp.zero) h0 h]
    exact rf_l1 P hl n k _ (nv (gd PerfOp.zero P.1 i) v) (i + 1) (by omega) (by omega) (by omega)
theorem rf_l2 (T : List OperatingPoint) (f x : Int) (hl : (T.length : Int) ≤ 16) (hm : ∀ j : Int, 0 ≤ j → j < T.length → Int.tmod f 1000 ≤ (pt T j).Frequency → x ≤ (pt T j).Frequency) : ∀ (k : Nat) (i : Int), 0 ≤ i → i ≤ T.length → (T.length : Int) - i < k →
    law36_PerfReachesFrequency.l2 k T f x i = some (.go ())
  | 0, i, _, _, hk => by omega
  | k + 1, i, h0, h1, hk => by
    rw [law36_PerfReachesFrequency.l2]
    by_cases h : i < (T.length : Int)
    · have e : (if (Int.tmod f 1000) ≤ ((gd OperatingPoint.zero T i).Frequency) then (some (decide (((gd OperatingPoint.zero T i).Frequency) < x))) else (some false)) = some false := by
        split
        · rename_i c; have := hm i h0 h c; unfold pt at this; rw [decide_eq_false (by omega)]
        · rfl
      rw [if_pos h, ck_t ⟨h0, h⟩, e, bind_s rfl, if_neg (by decide), wi (i + 1) (by omega) (by omega)]
      exact rf_l2 T f x hl hm k (i + 1) (by omega) (by omega) (by omega)
    · rw [if_neg h]
theorem purePerfReachesFrequency : law36_PerfReachesFrequency.Pure := by
  intro a0 a1 a2 h1 h2 h3 h4
  refine ⟨300, ?_⟩
  rw [law36_PerfReachesFrequency.f]
  by_cases h : 20 < (a0.length : Int)
  · rw [if_pos h, bind_s awake]
  · obtain ⟨T, t1, t2, t3, tS⟩ := table_f a0 h2 300 (by omega)
    have o := tS.t t2 (by omega)
    obtain ⟨x, x1, x2, x3⟩ := mod_ 300 a1 (T.length : Int) (by omega) (by omega)
    obtain ⟨p, p1, _, p3⟩ := find_f T (Int.tmod a2 1000) 300 (by omega)
    rw [if_neg h, bind_s t1, bind_s x1, bind_s p1]
    rcases p3 o with ⟨rfl, p4⟩ | ⟨p4, p5, p6, p7, p8⟩
    · dsimp only
      rw [if_neg (by decide), if_pos rfl, wi ((T.length : Int) - 1) (by omega) (by omega), ck_t ⟨by omega, by omega⟩, if_pos (p4 _ (by omega) (by omega)), bind_s awake]
    · obtain ⟨q, q1, _, q3, q4⟩ := trans_f T x p.1 300 (by omega)
      have q4 := q4 o x2 x3 p5 p6
      subst q4
      have hl := tr_len T x p.1
      obtain ⟨b, b1, _, b3⟩ := safe_f T x (tr T x p.1) (by omega) 300 (by omega)
      have b4 := (b3 o x2 x3).2 (tr_safe T o x p.1 x2 x3 p5 p6)
      subst b4
      rw [if_pos p4, bind_s q1, if_pos rfl, bind_s b1, bind_s rfl, if_neg (by decide), ck_t ⟨x2, x3⟩, bind_s (rf_l1 (tr T x p.1, 0) hl (tr T x p.1).length 300 _ (pt T x).Voltage 0 (by omega) (by dsimp only; omega) (by omega))]
      rw [show fin ((tr T x p.1, (0 : Int)).1.drop (0 : Int).toNat) (gd OperatingPoint.zero T x).Frequency (pt T x).Voltage = ((pt T p.1).Frequency, (pt T p.1).Voltage) from tr_fin T x p.1]
      dsimp only
      rw [if_neg (by omega), bind_s (rf_l2 T a2 (pt T p.1).Frequency (by omega) (fun j j0 j1 j2 => ?_) 300 0 (by omega) (by omega) (by omega)), el_g, bind_s awake]
      by_cases c : j < p.1
      · have := p8 j j0 c; omega
      · exact (okT_le o p5 (by omega) j1).2.2
theorem purePerfCheckAgrees : law36_PerfCheckAgrees.Pure := by
  intro a0 a1 a2 a3 h1 h2 h3 h4 h5
  refine ⟨400, ?_⟩
  rw [law36_PerfCheckAgrees.f]
  by_cases h : 20 < (a0.length : Int)
  · rw [if_pos h, bind_s awake400]
  · obtain ⟨T, t1, t2, t3, tS⟩ := table_f a0 h2 400 (by omega)
    obtain ⟨x, x1, x2, x3⟩ := mod_ 400 a2 ((([] : List OperatingPoint) ++ T).length : Int) (by simp; omega) (by simp; omega)
    rw [if_neg h, bind_s t1, ck_t (by simp; omega), bind_s x1, ck_t ⟨x2, x3⟩, bind_s (ca_l1 a0 T a1 x a3), el_g, bind_s awake400]
end Go.Proofs.Ythemeobgfgmblaa.X
