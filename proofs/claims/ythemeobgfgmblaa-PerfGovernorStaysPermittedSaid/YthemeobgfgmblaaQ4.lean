/- The laws on the pure side: p36c. -/
import Derived.Test.YthemeobgfgmblaaQ3
namespace Go.Proofs.Ythemeobgfgmblaa.X
open Go Go.Sx

/-! ## the governor -/
/-- parameters that New takes -/
def okG (p : GovernorParams) : Prop := 1 ≤ p.Up ∧ p.Up ≤ 100 ∧ 0 ≤ p.Down ∧ p.Down < p.Up ∧ 1 ≤ p.Samples ∧ p.Samples ≤ 4
theorem params_f (p : GovernorParams) (k : Nat) : ∃ q, law36_params.f k p = some q ∧ okG q := by
  obtain ⟨x, x1, x2, x3⟩ := mod_ k p.Up 100 (by omega) (by omega)
  obtain ⟨y, y1, y2, y3⟩ := mod_ k p.Down (1 + x) (by omega) (by omega)
  obtain ⟨z, z1, z2, z3⟩ := mod_ k p.Samples 4 (by omega) (by omega)
  rw [law36_params.f, bind_s x1, wi (1 + x) (by omega) (by omega), bind_s y1, bind_s z1, wi (1 + z) (by omega) (by omega)]
  exact ⟨_, rfl, by unfold okG; dsimp only; omega⟩
theorem gnew_f (T : List OperatingPoint) (h : okT T) (p : GovernorParams) (g : okG p) (k : Nat) (hk : 20 < k) : perf_New.f k T p = some (some (T, p.Up, p.Down, p.Samples, 0, (T.length : Int) - 1, 0, 0), 0) := by
  obtain ⟨_, c⟩ | ⟨c, _⟩ := check_f T k hk
  · have hl := h.1
    obtain ⟨g1, g2, g3, g4, g5, g6⟩ := g
    rw [perf_New.f, bind_s c, if_pos rfl]
    rw [if_neg (show ¬ p.Up < 1 by omega), if_neg (show ¬ 100 < p.Up by omega), if_neg (show ¬ p.Down < 0 by omega), if_neg (show ¬ p.Up ≤ p.Down by omega), if_neg (show ¬ p.Samples < 1 by omega), decide_eq_false (by omega), bind_s rfl, if_neg (by decide), slices_Clone_api_OperatingPoint_api_OperatingPoint.f, ck_t (by simp; omega), bind_s rfl, wi ((T.length : Int) - 1) (by omega) (by omega)]
    simp
  · exact absurd h c
theorem rnew_f (T : List OperatingPoint) (hl : (T.length : Int) ≤ 20) (p : GovernorParams) (k : Nat) : ref36_New.f k T p = perf_New.f k T p := by
  rw [ref36_New.f, perf_New.f, rcheck_f, slices_Clone_api_OperatingPoint_api_OperatingPoint.f, ck_t (by simp; omega), ck_t (by simp; omega)]
  rfl
theorem new_e (T : List OperatingPoint) (hl : (T.length : Int) ≤ 20) (p : GovernorParams) (k : Nat) (hk : 20 < k) : ∃ r, perf_New.f k T p = some r := by
  have hb : ∃ b, (if p.Up < 1 then (some true) else (if 100 < p.Up then (some true) else (if p.Down < 0 then (some true) else (if p.Up ≤ p.Down then (some true) else (if p.Samples < 1 then (some true) else (some (decide (1000 < p.Samples)))))))) = some b := by
    (repeat' split) <;> exact ⟨_, rfl⟩
  obtain ⟨b, hb⟩ := hb
  rw [perf_New.f]
  rcases check_f T k hk with ⟨_, c⟩ | ⟨_, c⟩
  · rw [bind_s c, if_pos rfl, bind_s hb]
    cases b
    · rw [if_neg (by decide), slices_Clone_api_OperatingPoint_api_OperatingPoint.f, ck_t (by simp; omega), bind_s rfl]
      exact ⟨_, rfl⟩
    · rw [if_pos rfl]; exact ⟨_, rfl⟩
  · rw [bind_s c, if_neg (by decide)]; exact ⟨_, rfl⟩
/-- a product of a load and a small frequency stays in its range -/
theorem mul_w (T : List OperatingPoint) (hS : okS T) (hl : (T.length : Int) ≤ 8) (x i : Int) (x0 : 0 ≤ x) (x1 : x ≤ 100) (i0 : 0 ≤ i) (i1 : i < T.length) : IntKind.u64.wrap (IntKind.u64.wrap x * (pt T i).Frequency) = x * (pt T i).Frequency := by
  have h := (hS i i0 i1).1
  have := mul_bd x0 x1 (show 0 ≤ (pt T i).Frequency by omega) (show (pt T i).Frequency ≤ 800 by omega)
  rw [wu x (by omega) (by omega), wu _ (by omega) (by omega)]
/-- what a sample does -/
def LowOf (T : List OperatingPoint) (up lo cur x r : Int) : Prop := lo ≤ r ∧ r ≤ cur ∧ (∀ j : Int, lo ≤ j → j < r → up * (pt T j).Frequency < x * (pt T cur).Frequency) ∧ (r < cur → x * (pt T cur).Frequency ≤ up * (pt T r).Frequency)
theorem low_f (T : List OperatingPoint) (hS : okS T) (hl : (T.length : Int) ≤ 8) (up dn sa lo hi cur x : Int) (u0 : 0 ≤ up) (u1 : up ≤ 100) (x0 : 0 ≤ x) (x1 : x ≤ 100) (h0 : 0 ≤ lo) (h1 : lo ≤ cur) (h2 : cur < T.length) (k : Nat) (hk : 18 < k) :
    ∃ r, perf_Governor_lowest.f k T up dn sa lo hi cur 0 (IntKind.u64.wrap x) = some r ∧ LowOf T up lo cur x r := by
  obtain ⟨r, r1, r2, r3, r4, r5⟩ := lowest_l1 T cur up (IntKind.u64.wrap x) ⟨by omega, by omega⟩ (by omega) (cur - lo).toNat k lo h0 (by omega) (by omega)
  refine ⟨r, by rw [perf_Governor_lowest.f, bind_s r1], r2, r3, fun j j0 j1 => ?_, fun h => ?_⟩
  · have := r4 j j0 j1
    rwa [mul_w T hS hl up j u0 u1 (by omega) (by omega), mul_w T hS hl x cur x0 x1 (by omega) h2] at this
  · have := r5 h
    rw [mul_w T hS hl up r u0 u1 (by omega) (by omega), mul_w T hS hl x cur x0 x1 (by omega) h2] at this
    omega
theorem sample_f (T : List OperatingPoint) (hS : okS T) (hl : (T.length : Int) ≤ 8) (up dn sa lo hi cur q x : Int) (u0 : 0 ≤ up) (u1 : up ≤ 100) (x0 : 0 ≤ x) (x1 : x ≤ 100) (h0 : 0 ≤ lo) (h1 : lo ≤ cur) (h2 : cur < T.length) (k : Nat) (hk : 18 < k) :
    ∃ c q', perf_Governor_Sample.f k T up dn sa lo hi cur q x = some (c, q', c, 0) ∧ (up < x → c = hi ∧ q' = 0) ∧ (x ≤ up → dn ≤ x → c = cur ∧ q' = 0) ∧ (x ≤ up → x < dn → IntKind.i64.wrap (q + 1) < sa → c = cur ∧ q' = IntKind.i64.wrap (q + 1)) ∧ (x ≤ up → x < dn → sa ≤ IntKind.i64.wrap (q + 1) → LowOf T up lo cur x c ∧ q' = 0) := by
  obtain ⟨r, r1, r2⟩ := low_f T hS hl up dn sa lo hi cur x u0 u1 x0 x1 h0 h1 h2 k hk
  rw [perf_Governor_Sample.f, if_neg (by omega), decide_eq_false (by omega), bind_s rfl, if_neg (by decide)]
  by_cases c1 : up < x
  · rw [if_pos c1, bind_s rfl]
    exact ⟨_, _, rfl, fun _ => ⟨rfl, rfl⟩, fun h => by omega, fun h => by omega, fun h => by omega⟩
  · by_cases c2 : dn ≤ x
    · rw [if_neg c1, if_pos c2, bind_s rfl]
      exact ⟨_, _, rfl, fun h => by omega, fun _ _ => ⟨rfl, rfl⟩, fun _ h => by omega, fun _ h => by omega⟩
    · by_cases c3 : IntKind.i64.wrap (q + 1) < sa
      · rw [if_neg c1, if_neg c2, if_pos c3, bind_s rfl]
        exact ⟨_, _, rfl, fun h => by omega, fun _ h => by omega, fun _ _ _ => ⟨rfl, rfl⟩, fun _ _ h => by omega⟩
      · rw [if_neg c1, if_neg c2, if_neg c3, bind_s r1, bind_s rfl]
        exact ⟨_, _, rfl, fun h => by omega, fun _ h => by omega, fun _ _ h => by omega, fun _ _ _ => ⟨r2, rfl⟩⟩
theorem gw_l1 (T : List OperatingPoint) (hS : okS T) (hl : (T.length : Int) ≤ 8) (p : GovernorParams) (g : okG p) (x : Int) (x0 : 0 ≤ x) (x1 : x < p.Down) (S : Int × Int × Int × Int) (hi cur : Int) (hs : S.2.2.1 = cur) (h0 : 0 ≤ cur) (h2 : cur < T.length) : ∀ (n k : Nat) (i q : Int), 1 ≤ i → i + n = p.Samples → n + 20 < k → q = i - 1 →
    law36_PerfGovernorWaits.l1 k p (T, p.Up, p.Down, p.Samples, 0, hi, 0, 0) x S cur q i = some (.go (cur, p.Samples - 1))
  | _, 0, _, _, _, _, hk, _ => by omega
  | 0, k + 1, i, q, i0, i1, hk, hq => by
    rw [law36_PerfGovernorWaits.l1, if_neg (by omega), show q = p.Samples - 1 by omega]
  | n + 1, k + 1, i, q, i0, i1, hk, hq => by
    obtain ⟨g1, g2, g3, g4, g5, g6⟩ := g
    obtain ⟨c, q', s1, _, _, s4, _⟩ := sample_f T hS hl p.Up p.Down p.Samples 0 hi cur q x (by omega) g2 x0 (by omega) (by omega) h0 h2 k (by omega)
    have hw : IntKind.i64.wrap (q + 1) = i := by rw [wi _ (by omega) (by omega)]; omega
    obtain ⟨rfl, rfl⟩ := s4 (by omega) x1 (by omega)
    rw [law36_PerfGovernorWaits.l1, if_pos (by omega)]
    dsimp only
    rw [bind_s s1, if_pos rfl, hs, decide_eq_true rfl, bind_s rfl, if_neg (by decide), wi (i + 1) (by omega) (by omega), hw]
    exact gw_l1 T hS hl p ⟨g1, g2, g3, g4, g5, g6⟩ x x0 x1 S hi _ hs h0 h2 n k (i + 1) i (by omega) (by omega) (by omega) (by omega)
theorem purePerfGovernorWaits : law36_PerfGovernorWaits.Pure := by
  intro a0 a1 a2 h1 h2 h3 h4
  refine ⟨300, ?_⟩
  rw [law36_PerfGovernorWaits.f]
  by_cases h : 20 < (a0.length : Int)
  · rw [if_pos h, bind_s awake]
  · obtain ⟨T, t1, t2, t3, tS⟩ := table_f a0 h2 300 (by omega)
    have o := tS.t t2 (by omega)
    obtain ⟨p, p1, p2⟩ := params_f a1 300
    have p2' := p2
    obtain ⟨g1, g2, g3, g4, g5, g6⟩ := p2'
    rw [if_neg h, bind_s t1, bind_s p1]
    by_cases d : p.Down = 0
    · rw [if_pos d, bind_s rfl, if_pos rfl, bind_s awake]
    · by_cases e : p.Up = 100
      · rw [if_neg d, decide_eq_true e, bind_s rfl, if_pos rfl, bind_s awake]
      · obtain ⟨x, x1, x2, x3⟩ := mod_ 300 a2 p.Down (by omega) (by omega)
        obtain ⟨c, q, s1, s2, _⟩ := sample_f T tS t3 p.Up p.Down p.Samples 0 ((T.length : Int) - 1) 0 0 100 (by omega) g2 (by omega) (by omega) (by omega) (by omega) (by omega) 300 (by omega)
        obtain ⟨rfl, rfl⟩ := s2 (by omega)
        rw [if_neg d, decide_eq_false e, bind_s rfl, if_neg (by decide), bind_s x1, bind_s (gnew_f T o p p2 300 (by omega))]
        dsimp only [Option.elim]
        rw [if_pos rfl, bind_s rfl, if_neg (by decide), bind_s s1, if_pos rfl, wi ((T.length : Int) - 1) (by omega) (by omega), decide_eq_true rfl, bind_s rfl, if_neg (by decide)]
        rw [bind_s (gw_l1 T tS t3 p p2 x x2 x3 ((T.length : Int) - 1, 0, (T.length : Int) - 1, 0) ((T.length : Int) - 1) ((T.length : Int) - 1) rfl (by omega) (by omega) (p.Samples - 1).toNat 300 1 0 (by omega) (by omega) (by omega) rfl), el_g]
        obtain ⟨c, q, r1, _, _, _, r2⟩ := sample_f T tS t3 p.Up p.Down p.Samples 0 ((T.length : Int) - 1) ((T.length : Int) - 1) (p.Samples - 1) x (by omega) g2 x2 (by omega) (by omega) (by omega) (by omega) 300 (by omega)
        obtain ⟨⟨l1, l2, l3, l4⟩, rfl⟩ := r2 (by omega) x3 (by rw [wi _ (by omega) (by omega)]; omega)
        dsimp only
        rw [bind_s r1]
        dsimp only
        have l5 : x * (pt T ((T.length : Int) - 1)).Frequency ≤ p.Up * (pt T c).Frequency := by
          by_cases hc : c < (T.length : Int) - 1
          · exact l4 hc
          · rw [show c = (T.length : Int) - 1 by omega]
            exact Int.mul_le_mul_of_nonneg_right (by omega) (by have := (tS ((T.length : Int) - 1) (by omega) (by omega)).1; omega)
        have m1 := mul_w T tS t3 p.Up c (by omega) g2 l1 (by omega)
        have m2 := mul_w T tS t3 x ((T.length : Int) - 1) x2 (by omega) (by omega) (by omega)
        unfold pt at m1 m2 l5
        rw [if_pos rfl, if_neg (show ¬ c < 0 by omega), if_neg (show ¬ (T.length : Int) - 1 < c by omega), ck_t ⟨by omega, by omega⟩, ck_t ⟨l1, by omega⟩, m1, m2, decide_eq_false (by omega), bind_s rfl, if_neg (by decide)]
        by_cases z : c = 0
        · rw [if_pos z, bind_s awake]
        · have m3 := mul_w T tS t3 p.Up (c - 1) (by omega) g2 (by omega) (by omega)
          have l6 := l3 (c - 1) (by omega) (by omega)
          unfold pt at m3 l6
          rw [if_neg z, ck_t ⟨by omega, by omega⟩, wi (c - 1) (by omega) (by omega), ck_t ⟨by omega, by omega⟩, m3, if_pos l6, bind_s awake]
end Go.Proofs.Ythemeobgfgmblaa.X
