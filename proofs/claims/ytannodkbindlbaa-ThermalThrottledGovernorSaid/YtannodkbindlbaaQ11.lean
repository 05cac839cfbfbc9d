/- The laws on the pure side: th4. -/
import Derived.Test.YtannodkbindlbaaQ10
namespace Go.Proofs.Ytannodkbindlbaa.X
open Go Go.Sx

/-! ## ThermalThrottle -/
theorem thr_l1 (T : List OperatingPoint) (hl : (T.length : Int) ≤ 16) (g : Int) : ∀ (m k : Nat) (i : Int), 0 ≤ i → i + m = T.length → m < k →
    ∃ r, thermal_Throttle.l1 k T g i = some r ∧ i ≤ r ∧ r ≤ T.length ∧ (∀ j : Int, i ≤ j → j < r → (pt T j).Power ≤ g) ∧ (r < T.length → g < (pt T r).Power)
  | _, 0, _, _, _, hk => by omega
  | 0, k + 1, i, h0, h1, hk => by
    rw [thermal_Throttle.l1, if_neg (by omega), bind_s rfl, if_neg (by decide)]
    exact ⟨i, rfl, by omega, by omega, fun j j0 j1 => by omega, fun h => by omega⟩
  | m + 1, k + 1, i, h0, h1, hk => by
    rw [thermal_Throttle.l1, if_pos (by omega), ck_t ⟨h0, by omega⟩]
    by_cases c : (gd OperatingPoint.zero T i).Power ≤ g
    · rw [decide_eq_true c, bind_s rfl, if_pos rfl, wi (i + 1) (by omega) (by omega)]
      obtain ⟨r, r1, r2, r3, r4, r5⟩ := thr_l1 T hl g m k (i + 1) (by omega) (by omega) (by omega)
      refine ⟨r, r1, by omega, r3, fun j j0 j1 => ?_, r5⟩
      by_cases e : j = i
      · rw [e]; exact c
      · exact r4 j (by omega) j1
    · rw [decide_eq_false c, bind_s rfl, if_neg (by decide)]
      exact ⟨i, rfl, by omega, by omega, fun j j0 j1 => by omega, fun _ => by unfold pt; omega⟩
theorem rthr_l1 (T : List OperatingPoint) (hl : (T.length : Int) ≤ 16) (g : Int) : ∀ (m k : Nat) (i : Int), i + 1 = m → (m : Int) ≤ T.length → m < k →
    ∃ r, ref39_Throttle.l1 k T g i = some r ∧ ((r = .go () ∧ ∀ j : Int, 0 ≤ j → j ≤ i → g < (pt T j).Power) ∨ ∃ j : Int, 0 ≤ j ∧ j ≤ i ∧ r = .rt (some (j, 0)) ∧ (pt T j).Power ≤ g ∧ ∀ q : Int, j < q → q ≤ i → g < (pt T q).Power)
  | _, 0, _, _, _, hk => by omega
  | 0, k + 1, i, h0, h1, hk => by
    rw [ref39_Throttle.l1, if_neg (by omega)]
    exact ⟨_, rfl, .inl ⟨rfl, fun j j0 j1 => by omega⟩⟩
  | m + 1, k + 1, i, h0, h1, hk => by
    rw [ref39_Throttle.l1, if_pos (by omega), ck_t ⟨by omega, by omega⟩]
    by_cases c : (gd OperatingPoint.zero T i).Power ≤ g
    · rw [if_pos c]
      exact ⟨_, rfl, .inr ⟨i, by omega, by omega, rfl, c, fun q q0 q1 => by omega⟩⟩
    · rw [if_neg c, wi (i - 1) (by omega) (by omega)]
      obtain ⟨r, r1, r2⟩ := rthr_l1 T hl g m k (i - 1) (by omega) (by omega) (by omega)
      refine ⟨r, r1, ?_⟩
      rcases r2 with ⟨e, r3⟩ | ⟨j, j0, j1, e, j2, j3⟩
      · refine .inl ⟨e, fun j j0 j1 => ?_⟩
        by_cases h : j = i
        · rw [h]; unfold pt; omega
        · exact r3 j j0 (by omega)
      · refine .inr ⟨j, j0, by omega, e, j2, fun q q0 q1 => ?_⟩
        by_cases h : q = i
        · rw [h]; unfold pt; omega
        · exact j3 q q0 (by omega)
/-- the highest point whose power is permitted -/
theorem thr_f (T : List OperatingPoint) (h : okT T) (g : Int) (k : Nat) (hk : 20 < k) : (g < (pt T 0).Power ∧ thermal_Throttle.f k T g = some (0, 6) ∧ ref39_Throttle.f k T g = some (0, 6)) ∨ ∃ j : Int, 0 ≤ j ∧ j < T.length ∧ (pt T j).Power ≤ g ∧ (j + 1 < T.length → g < (pt T (j + 1)).Power) ∧ thermal_Throttle.f k T g = some (j, 0) ∧ ref39_Throttle.f k T g = some (j, 0) := by
  obtain ⟨_, hc⟩ | ⟨hc, _⟩ := check_f T k hk
  · have hl := h.1
    obtain ⟨r, r1, r2, r3, r4, r5⟩ := thr_l1 T hl.2 g T.length k 0 (by omega) (by omega) (by omega)
    obtain ⟨s, s1, s2⟩ := rthr_l1 T hl.2 g T.length k ((T.length : Int) - 1) (by omega) (by omega) (by omega)
    rw [thermal_Throttle.f, ref39_Throttle.f, rcheck_f, hc, bind_s rfl, bind_s rfl, if_pos rfl, if_pos rfl, wi ((T.length : Int) - 1) (by omega) (by omega), bind_s r1, bind_s s1]
    by_cases c : r = 0
    · have g0 : g < (pt T 0).Power := by rw [← c]; exact r5 (by omega)
      refine .inl ⟨g0, by rw [if_pos c], ?_⟩
      rcases s2 with ⟨rfl, s3⟩ | ⟨j, j0, j1, rfl, j2, j3⟩
      · rfl
      · have := (okT_le h (Int.le_refl 0) j0 (by omega)).1
        omega
    · have gr := r4 (r - 1) (by omega) (by omega)
      refine .inr ⟨r - 1, by omega, by omega, gr, fun h => ?_, by rw [if_neg c, wi (r - 1) (by omega) (by omega)], ?_⟩
      · rw [show r - 1 + 1 = r by omega]; exact r5 (by omega)
      · rcases s2 with ⟨rfl, s3⟩ | ⟨j, j0, j1, rfl, j2, j3⟩
        · have := s3 (r - 1) (by omega) (by omega); omega
        · rw [el_r]
          have e : j = r - 1 := by
            by_cases h1 : j < r - 1
            · have := j3 (r - 1) h1 (by omega); omega
            · by_cases h2 : r - 1 < j
              · have := (okT_le h (show 0 ≤ r by omega) (show r ≤ j by omega) (by omega)).1
                have := r5 (by omega); omega
              · omega
          rw [e]
  · exact absurd h hc
theorem thr_bad (T : List OperatingPoint) (h : ¬ okT T) (g : Int) (k : Nat) (hk : 20 < k) : thermal_Throttle.f k T g = some (0, 1) ∧ ref39_Throttle.f k T g = some (0, 1) := by
  obtain ⟨c, _⟩ | ⟨_, hc⟩ := check_f T k hk
  · exact absurd c h
  · rw [thermal_Throttle.f, ref39_Throttle.f, rcheck_f, hc]
    exact ⟨rfl, rfl⟩
theorem pureThermalThrottle : law39_ThermalThrottle.Pure := by
  intro raw g _ hw hg
  have g0 := (inK_u64 hg).1
  refine ⟨400, ?_⟩
  rw [law39_ThermalThrottle.f]
  by_cases h : 20 < (raw.length : Int)
  · rw [if_pos h, bind_s awake]
  · obtain ⟨T, t1, t2, t3, t4⟩ := table_f raw hw 400 (by omega)
    have hT := t4.t t2 (by omega)
    obtain ⟨r, r1, r2⟩ : ∃ r, thermal_Throttle.f 400 raw g = some r ∧ ref39_Throttle.f 400 raw g = some r := by
      by_cases c : okT raw
      · obtain ⟨_, a, b⟩ | ⟨j, _, _, _, _, a, b⟩ := thr_f raw c g 400 (by omega)
        · exact ⟨_, a, b⟩
        · exact ⟨_, a, b⟩
      · obtain ⟨a, b⟩ := thr_bad raw c g 400 (by omega)
        exact ⟨_, a, b⟩
    rw [if_neg h, bind_s t1, bind_s r1, bind_s r2]
    obtain ⟨q0, q1, _⟩ | ⟨j, j0, j1, j2, j3, q1, _⟩ := thr_f T hT (Int.tmod g 250) 400 (by omega)
    · rw [bind_s q1, if_pos rfl, decide_eq_true rfl, bind_s rfl, if_neg (by decide)]
      dsimp only
      rw [if_neg (by decide), if_pos rfl, ck_t ⟨by omega, by omega⟩, if_pos q0, bind_s awake]
    · rw [bind_s q1, if_pos rfl, decide_eq_true rfl, bind_s rfl, if_neg (by decide)]
      dsimp only
      rw [if_pos rfl, if_pos j0, if_pos j1, ck_t ⟨j0, j1⟩, if_pos j2, wi ((T.length : Int) - 1) (by omega) (by omega), wi (j + 1) (by omega) (by omega)]
      by_cases c : j = (T.length : Int) - 1
      · rw [if_pos c, bind_s awake]
      · rw [if_neg c, ck_t ⟨by omega, by omega⟩, if_pos (j3 (by omega)), bind_s awake]
/-! ## ThermalThrottledGovernor -/
theorem tg_l1 {amb : Int} (a4 : List Int) (h4 : (a4.length : Int) ≤ 40) (T : List OperatingPoint) (hT : okT T) (hS : okS T) (hl8 : (T.length : Int) ≤ 8) (kk : Int) (k0 : 0 ≤ kk) (k1 : kk < T.length) (d : HeatDomain) (v : V [d] [] amb) (am : -100 ≤ amb) (a1 : amb ≤ 100) (hA : 1 ≤ d.Ambient ∧ d.Ambient ≤ 6) (E0 : List Int) (r0 : Int) (D : List HeatDomain) (L : List HeatLink) (w n : Int) (hw : IntKind.i64.wrap (Int.tmod (IntKind.u64.wrap w) 60) = n) (n0 : 0 ≤ n) (n1 : n ≤ 60) (hP : (pt T kk).Power ≤ d.Ambient * n) (g1 g2 g3 g4 s1 s2 s3 : Int) : ∀ (m k : Nat) (E : List Int) (rel cur q i : Int), 0 ≤ i → i + m = a4.length → m + 60 < k → Mod [d] [] E rel → Inv [d] amb (amb + n) E → 0 ≤ cur → cur ≤ kk →
    law39_ThermalThrottledGovernor.l1 k a4 (T, 80, 30, 2, g1, g2, g3, g4) (0, kk, s1, s2, s3) T ([d], [], amb, E0, r0) (D, L, amb) w E rel cur q i = some (.go ())
  | _, 0, _, _, _, _, _, _, _, hk, _, _, _, _ => by omega
  | 0, k + 1, E, rel, cur, q, i, h0, h1, hk, hM, hI, c0, c1 => by rw [law39_ThermalThrottledGovernor.l1, if_neg (by omega)]
  | m + 1, k + 1, E, rel, cur, q, i, h0, h1, hk, hM, hI, c0, c1 => by
    obtain ⟨t0, t1, t2⟩ := sust_in hA.1 hA.2 n0 n1
    obtain ⟨x, x1, x2, x3⟩ := mod_ k (gd 0 a4 i) 101 (by omega) (by omega)
    obtain ⟨c, q', y1, y2, y3⟩ := sample_in T 80 30 2 0 kk cur q x (by omega) (by omega) c0 c1 k1 x2 (by omega) k (by omega)
    have hp := (okT_le hT y2 y3 k1).1
    have hs := (hS c y2 (by omega)).1
    unfold pt at hp hP hs
    obtain ⟨E', rel', t, e1, e2, e3, e4⟩ := one_step hM v am (b := amb + n) (by omega) (by omega) hI (p := (gd OperatingPoint.zero T c).Power) (by omega) (by omega) (by rw [show amb + n - amb = n by omega]; omega) k (by omega)
    have g : gd 0 [t] 0 = t := rfl
    rw [law39_ThermalThrottledGovernor.l1]
    dsimp only
    rw [if_pos (by omega), ck_t ⟨h0, by omega⟩, bind_s x1, bind_s y1]
    dsimp only
    rw [if_pos rfl, if_neg (by omega), decide_eq_false (by omega), bind_s rfl, if_neg (by decide), ck_t ⟨y2, by omega⟩, wi (gd OperatingPoint.zero T c).Power (by omega) (by omega), bind_s e1]
    dsimp only
    rw [if_pos rfl, if_pos (by simp), ck_t ⟨by omega, by simp⟩, hw, wi (amb + n) (by omega) (by omega), g, decide_eq_false (by omega), bind_s rfl, if_neg (by decide), wi (i + 1) (by omega) (by omega)]
    exact tg_l1 a4 h4 T hT hS hl8 kk k0 k1 d v am a1 hA E0 r0 D L w n hw n0 n1 hP g1 g2 g3 g4 s1 s2 s3 m k E' rel' c q' (i + 1) (by omega) (by omega) (by omega) e2 e3 y2 y3
theorem pureThermalThrottledGovernor : law39_ThermalThrottledGovernor.Pure := by
  intro d0 b w raw a4 _ _ _ _ hraw _ _
  refine ⟨400, ?_⟩
  rw [law39_ThermalThrottledGovernor.f]
  by_cases h : 20 < (raw.length : Int) ∨ 40 < (a4.length : Int)
  · have hz : (if 20 < (raw.length : Int) then (some true) else (some (decide (40 < (a4.length : Int))))) = some true := by
      split
      · rfl
      · rw [decide_eq_true (by omega)]
    rw [hz, bind_s rfl, if_pos rfl, bind_s awake]
  · obtain ⟨D, L, amb, s1, s2, s3⟩ := some_f [d0] [] b 400 (by omega)
    have a0 := s2.a0; have a1 := s2.a1
    obtain ⟨d, rfl, A0, A1, C0, C1⟩ := one_dom s2 (by rw [s3]; rfl)
    have v := V.one (amb := amb) A0 C0 (by omega) (by omega) (by omega)
    have u := wu_lo w
    obtain ⟨n, hw, n0, n1⟩ : ∃ n, IntKind.i64.wrap (Int.tmod (IntKind.u64.wrap w) 60) = n ∧ 0 ≤ n ∧ n ≤ 60 := by
      rw [tm _ u, wi _ (by omega) (by omega)]; exact ⟨_, rfl, by omega, by omega⟩
    obtain ⟨t0, t1, t2⟩ := sust_in (d := d) A0 A1 n0 n1
    obtain ⟨T, T1, T2, T3, T4⟩ := table_f raw hraw 400 (by omega)
    have hT := T4.t T2 (by omega)
    have hN := pnew_f T hT 400 (by omega)
    have g : gd HeatDomain.zero [d] 0 = d := rfl
    obtain ⟨_, n1'⟩ | ⟨n1', _⟩ := new_f [d] [] amb (by simp) 400 (by omega)
    · have hM := v.mod (by simp)
      rw [if_neg (by omega), decide_eq_false (by omega), bind_s rfl, if_neg (by decide), bind_s s1]
      dsimp only
      rw [ck_t ⟨by omega, by simp⟩, g, domEta, hw, wi (amb + n) (by omega) (by omega), sust_f d amb (amb + n) v (by omega) (by omega) 400 (by omega), bind_s rfl, bind_s n1', show amb + n - amb = n by omega, t2]
      dsimp only [Option.elim]
      rw [bind_s T1, bind_s hN]
      dsimp only [Option.elim]
      rw [if_pos rfl, if_pos rfl, if_pos rfl, decide_eq_false (by omega), bind_s rfl, if_neg (by decide), wu (d.Ambient * n) (by omega) (by omega)]
      obtain ⟨q0, q1, _⟩ | ⟨j, j0, j1, j2, j3, q1, _⟩ := thr_f T hT (d.Ambient * n) 400 (by omega)
      · rw [bind_s q1]
        dsimp only
        rw [if_neg (by decide), if_pos rfl, bind_s awake]
      · have hL : ∀ g2 g4 : Int, perf_Governor_Limit.f 400 T 80 30 2 0 g2 0 g4 0 j = some (0, j, mn (mx 0 0) j, 0, 0) := by
          intro g2 g4
          rw [perf_Governor_Limit.f, if_neg (by omega), if_neg (by omega), perf_has.f, if_pos j0, decide_eq_true j1, bind_s rfl, bind_s rfl, if_neg (by decide)]
        have e1 : mx 0 0 = 0 := rfl
        have e2 := mn_le (mx 0 0) j
        rw [bind_s q1]
        dsimp only
        rw [if_pos rfl, bind_s (hL _ _)]
        dsimp only
        rw [if_pos rfl, tg_l1 a4 (by omega) T hT T4 T3 j j0 j1 d v a0 a1 ⟨A0, A1⟩ (init [d] amb) 0 [d] L w n hw n0 n1 j2 0 ((T.length : Int) - 1) 0 0 (mn (mx 0 0) j) 0 0 a4.length 400 _ 0 _ 0 0 (by omega) (by omega) (by omega) hM (inv_init v _ (by omega)) (by omega) (by omega), bind_s rfl, el_g, bind_s awake]
    · exact absurd v n1'
end Go.Proofs.Ytannodkbindlbaa.X
