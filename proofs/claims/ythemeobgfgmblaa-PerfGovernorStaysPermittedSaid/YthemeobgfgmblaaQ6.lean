/- The laws on the pure side: p36e. -/
import Derived.Test.YthemeobgfgmblaaQ5
namespace Go.Proofs.Ythemeobgfgmblaa.X
open Go Go.Sx

/-! ## the last two laws of the governor -/
theorem modx (k : Nat) (a b : Int) (h0 : 0 < b) (h1 : b < 9223372036854775808) : help_Mod.f k a b = some (IntKind.u64.wrap a % b) ∧ 0 ≤ IntKind.u64.wrap a % b ∧ IntKind.u64.wrap a % b < b := by
  have := wu_lo a
  have h2 := Int.emod_lt_of_pos (IntKind.u64.wrap a) h0
  have h3 := Int.emod_nonneg (IntKind.u64.wrap a) (show b ≠ 0 by omega)
  rw [help_Mod.f, wu b (by omega) (by omega), ck_t (by omega), tm _ this, wi _ (by omega) (by omega)]
  exact ⟨rfl, h3, h2⟩
theorem ga_l2 (T : List OperatingPoint) (hS : okS T) (t0 : 1 ≤ (T.length : Int)) (hl : (T.length : Int) ≤ 8) (p : GovernorParams) (g : okG p) (l0 h0 c0 n0 : Int) (a2 : List Int) (hM : a2.length ≤ 60) : ∀ (n k : Nat) (lo hi cur q : Int) (i : Int), 0 ≤ i → i + n = a2.length → n + 30 < k → 0 ≤ lo → lo ≤ cur → cur ≤ hi → hi < T.length →
    law36_PerfGovernorAgrees.l2 k a2 T (T, p.Up, p.Down, p.Samples, l0, h0, c0, n0) (T, p.Up, p.Down, p.Samples, l0, h0, c0, n0) lo hi cur q lo hi cur q i = some (.go ())
  | _, 0, _, _, _, _, _, _, _, hk, _, _, _, _ => by omega
  | 0, k + 1, lo, hi, cur, q, i, i0, i1, hk, b0, b1, b2, b3 => by
    rw [law36_PerfGovernorAgrees.l2, if_neg (by omega)]
  | n + 1, k + 1, lo, hi, cur, q, i, i0, i1, hk, b0, b1, b2, b3 => by
    have h : i < (a2.length : Int) := by omega
    have g' := g
    obtain ⟨g1, g2, g3, g4, g5, g6⟩ := g'
    rw [law36_PerfGovernorAgrees.l2, if_pos h, ck_t ⟨i0, h⟩]
    generalize gd 0 a2 i = x
    dsimp only
    have key : ∀ X : Option (Int × Int × Int × Int × Int × Int × Int × Int × Int × Int × Int × Int), (∃ lo' hi' c q' e r, X = some (lo', hi', c, q', lo', hi', c, q', e, e, r, r) ∧ 0 ≤ lo' ∧ lo' ≤ c ∧ c ≤ hi' ∧ hi' < T.length) →
        (X.bind fun x174 => (((if x174.2.2.2.2.2.2.2.2.1 = x174.2.2.2.2.2.2.2.2.2.1 then (if x174.2.2.2.2.2.2.2.2.2.2.1 = x174.2.2.2.2.2.2.2.2.2.2.2 then ((perf_Governor_Current.f k T p.Up p.Down p.Samples x174.1 x174.2.1 x174.2.2.1 x174.2.2.2.1).bind fun s202 => ((ref36_Governor_Current.f k T p.Up p.Down p.Samples x174.2.2.2.2.1 x174.2.2.2.2.2.1 x174.2.2.2.2.2.2.1 x174.2.2.2.2.2.2.2.1).bind fun s203 => (some (!decide (s202 = s203))))) else (some true)) else (some true))).bind fun x199 => (if x199 = true then (some (.rt (some false))) else (law36_PerfGovernorAgrees.l2 k a2 T (T, p.Up, p.Down, p.Samples, l0, h0, c0, n0) (T, p.Up, p.Down, p.Samples, l0, h0, c0, n0) x174.1 x174.2.1 x174.2.2.1 x174.2.2.2.1 x174.2.2.2.2.1 x174.2.2.2.2.2.1 x174.2.2.2.2.2.2.1 x174.2.2.2.2.2.2.2.1 (IntKind.i64.wrap (i + 1)))))) = some (.go ()) := by
      rintro X ⟨lo', hi', c, q', e, r, rfl, d0, d1, d2, d3⟩
      rw [bind_s rfl]
      dsimp only
      rw [if_pos rfl, if_pos rfl, perf_Governor_Current.f, ref36_Governor_Current.f, bind_s rfl, bind_s rfl, decide_eq_true rfl, bind_s rfl, if_neg (by decide), wi (i + 1) (by omega) (by omega)]
      exact ga_l2 T hS t0 hl p g l0 h0 c0 n0 a2 hM n k lo' hi' c q' (i + 1) (by omega) (by omega) (by omega) d0 d1 d2 d3
    refine key _ ?_
    obtain ⟨y1, _, _⟩ := modx k x 7 (by omega) (by omega)
    obtain ⟨y2, _, _⟩ := modx k x 13 (by omega) (by omega)
    obtain ⟨y3, z1, z2⟩ := modx k x 101 (by omega) (by omega)
    rw [bind_s y1]
    by_cases c1 : IntKind.u64.wrap x % 7 = 0
    · have hn : IntKind.i64.wrap ((T.length : Int) + 1) = (T.length : Int) + 1 := wi _ (by omega) (by omega)
      obtain ⟨w1, w2, w3⟩ := modx k (IntKind.i64.wrap (Int.tdiv x 7)) ((T.length : Int) + 1) (by omega) (by omega)
      obtain ⟨w4, w5, w6⟩ := modx k x 2 (by omega) (by omega)
      obtain ⟨w7, w8, w9⟩ := modx k (IntKind.i64.wrap (Int.tdiv x 50)) ((T.length : Int) + 1) (by omega) (by omega)
      rw [if_pos c1, hn, bind_s w1, bind_s w4, bind_s w7]
      obtain ⟨lo', hi', c, q', e, e1, e2, e3, e4, e5, e6, _⟩ := limit_f T p.Up p.Down p.Samples lo hi cur q (IntKind.i64.wrap (IntKind.u64.wrap (IntKind.i64.wrap (Int.tdiv x 7)) % ((T.length : Int) + 1) - IntKind.u64.wrap x % 2)) (IntKind.u64.wrap (IntKind.i64.wrap (Int.tdiv x 50)) % ((T.length : Int) + 1)) b0 b1 b2 b3 k
      rw [bind_s e1, bind_s e2]
      exact ⟨lo', hi', c, q', e, 0, rfl, e3, e4, e5, e6⟩
    · rw [if_neg c1, bind_s y2]
      by_cases c2 : IntKind.u64.wrap x % 13 = 0
      · obtain ⟨c, q', r, e, e1, e2, e3⟩ := sample_any T p.Up p.Down p.Samples lo hi cur q x hl b0 b1 b2 b3 k (by omega)
        rw [if_pos c2, sample_eq T hS hl p.Up p.Down p.Samples lo hi cur q x (by omega) g2 g4 b0 b1 (by omega) k (by omega), bind_s e1, bind_s e1]
        exact ⟨lo, hi, c, q', e, r, rfl, b0, e2, e3, b3⟩
      · obtain ⟨c, q', r, e, e1, e2, e3⟩ := sample_any T p.Up p.Down p.Samples lo hi cur q (IntKind.u64.wrap x % 101) hl b0 b1 b2 b3 k (by omega)
        rw [if_neg c2, bind_s y3, bind_s e1, bind_s y3, sample_eq T hS hl p.Up p.Down p.Samples lo hi cur q (IntKind.u64.wrap x % 101) (by omega) g2 g4 b0 b1 (by omega) k (by omega), bind_s e1]
        exact ⟨lo, hi, c, q', e, r, rfl, b0, e2, e3, b3⟩
theorem purePerfGovernorAgrees : law36_PerfGovernorAgrees.Pure := by
  intro a0 a1 a2 h1 h2 h3 h4 h5
  refine ⟨300, ?_⟩
  rw [law36_PerfGovernorAgrees.f]
  by_cases h : 20 < (a0.length : Int)
  · rw [if_pos h, bind_s rfl, if_pos rfl, bind_s awake]
  · by_cases h' : 60 < (a2.length : Int)
    · rw [if_neg h, decide_eq_true h', bind_s rfl, if_pos rfl, bind_s awake]
    · obtain ⟨T, t1, t2, t3, tS⟩ := table_f a0 h2 300 (by omega)
      have o := tS.t t2 (by omega)
      obtain ⟨p, p1, p2⟩ := params_f a1 300
      obtain ⟨r, r1⟩ := new_e a0 (by omega) a1 300 (by omega)
      obtain ⟨u, u1⟩ := new_e T (by omega) a1 300 (by omega)
      have el : ∀ r : (Option ((List OperatingPoint) × Int × Int × Int × Int × Int × Int × Int)) × Int, (r.1.elim (some r.2) (fun _ => some r.2)) = some r.2 := fun r => by cases r.1 <;> rfl
      rw [if_neg h, decide_eq_false h', bind_s rfl, if_neg (by decide)]
      rw [rnew_f a0 (by omega), bind_s r1, el, bind_s rfl, bind_s rfl, bind_s t1]
      rw [rnew_f T (by omega), bind_s u1, el, bind_s rfl, bind_s rfl, bind_s p1, bind_s (gnew_f T o p p2 300 (by omega))]
      dsimp only [Option.elim]
      rw [bind_s p1, rnew_f T (by omega), bind_s (gnew_f T o p p2 300 (by omega))]
      dsimp only [Option.elim]
      rw [if_pos rfl, if_pos rfl, if_pos rfl, if_pos rfl, bind_s rfl, if_neg (by decide)]
      rw [bind_s (ga_l2 T tS t2 t3 p p2 0 ((T.length : Int) - 1) 0 0 a2 (by omega) a2.length 300 0 ((T.length : Int) - 1) 0 0 0 (by omega) (by omega) (by omega) (by omega) (by omega) (by omega) (by omega)), el_g, bind_s awake]
theorem sp_l1 (T : List OperatingPoint) (hS : okS T) (hl : (T.length : Int) ≤ 8) (p : GovernorParams) (g : okG p) (l0 h0 c0 n0 : Int) (S : Int × Int × Int × Int × Int) (lo d : Int) (hw : IntKind.i64.wrap (lo + d) = lo + d) (s1 : S.1 = lo) (s2 : S.2.1 = lo + d) (a4 : List Int) (hM : a4.length ≤ 40) (b0 : 0 ≤ lo) (b3 : lo + d < T.length) : ∀ (n k : Nat) (cur q : Int) (i : Int), 0 ≤ i → i + n = a4.length → n + 30 < k → lo ≤ cur → cur ≤ lo + d →
    law36_PerfGovernorStaysPermitted.l1 k a4 (T, p.Up, p.Down, p.Samples, l0, h0, c0, n0) S lo d p T cur q i = some (.go ())
  | _, 0, _, _, _, _, _, hk, _, _ => by omega
  | 0, k + 1, cur, q, i, i0, i1, hk, b1, b2 => by
    rw [law36_PerfGovernorStaysPermitted.l1, if_neg (by omega)]
  | n + 1, k + 1, cur, q, i, i0, i1, hk, b1, b2 => by
    have h : i < (a4.length : Int) := by omega
    have g' := g
    obtain ⟨g1, g2, g3, g4, g5, g6⟩ := g'
    obtain ⟨x, x1, x2, x3⟩ := mod_ k (gd 0 a4 i) 101 (by omega) (by omega)
    obtain ⟨c, q', e1, e2, e3, e4, e5⟩ := sample_f T hS hl p.Up p.Down p.Samples lo (lo + d) cur q x (by omega) g2 x2 (by omega) b0 b1 (by omega) k (by omega)
    have hin : lo ≤ c ∧ c ≤ lo + d := by
      by_cases c1 : p.Up < x
      · have := e2 c1; omega
      · by_cases c2 : p.Down ≤ x
        · have := e3 (by omega) c2; omega
        · by_cases c3 : IntKind.i64.wrap (q + 1) < p.Samples
          · have := e4 (by omega) (by omega) c3; omega
          · obtain ⟨⟨l1, l2, _⟩, _⟩ := e5 (by omega) (by omega) (by omega); omega
    have step := sp_l1 T hS hl p g l0 h0 c0 n0 S lo d hw s1 s2 a4 hM b0 b3 n k c q' (i + 1) (by omega) (by omega) (by omega) hin.1 hin.2
    rw [law36_PerfGovernorStaysPermitted.l1, if_pos h, perf_Governor_Current.f, bind_s rfl, ck_t ⟨i0, h⟩, bind_s x1, s1, s2]
    dsimp only
    rw [bind_s e1]
    dsimp only
    rw [if_pos rfl, perf_Governor_Current.f, bind_s rfl, if_pos rfl, hw, if_neg (show ¬ c < lo by omega), if_neg (show ¬ lo + d < c by omega), if_neg (show ¬ cur < lo by omega), decide_eq_false (show ¬ lo + d < cur by omega), bind_s rfl, if_neg (by decide)]
    by_cases c1 : p.Up < x
    · rw [if_pos c1, if_pos (e2 c1).1, bind_s rfl, el_g, wi (i + 1) (by omega) (by omega)]
      exact step
    · rw [if_neg c1]
      by_cases c2 : p.Down ≤ x
      · rw [if_pos c2, if_pos (e3 (by omega) c2).1, bind_s rfl, el_g, wi (i + 1) (by omega) (by omega)]
        exact step
      · have hb : (if cur < c then (some true) else (if c < cur then (ck ((0 : Int) ≤ cur ∧ cur < (T.length : Int)) (ck ((0 : Int) ≤ c ∧ c < (T.length : Int)) (some (decide ((IntKind.u64.wrap ((IntKind.u64.wrap p.Up) * ((gd OperatingPoint.zero T c).Frequency))) < (IntKind.u64.wrap ((IntKind.u64.wrap x) * ((gd OperatingPoint.zero T cur).Frequency)))))))) else (some false))) = some false := by
          by_cases c3 : IntKind.i64.wrap (q + 1) < p.Samples
          · rw [(e4 (by omega) (by omega) c3).1, if_neg (by omega), if_neg (by omega)]
          · obtain ⟨⟨l1, l2, _, l4⟩, _⟩ := e5 (by omega) (by omega) (by omega)
            rw [if_neg (by omega)]
            split
            · rename_i cc
              have m1 := mul_w T hS hl p.Up c (by omega) g2 (by omega) (by omega)
              have m2 := mul_w T hS hl x cur x2 (by omega) (by omega) (by omega)
              have l4 := l4 cc
              unfold pt at m1 m2 l4
              rw [ck_t ⟨by omega, by omega⟩, ck_t ⟨by omega, by omega⟩, m1, m2, decide_eq_false (by omega)]
            · rfl
        rw [if_neg c2, hb, bind_s rfl, if_neg (by decide), bind_s rfl, el_g, wi (i + 1) (by omega) (by omega)]
        exact step
theorem purePerfGovernorStaysPermitted : law36_PerfGovernorStaysPermitted.Pure := by
  intro a0 a1 a2 a3 a4 h1 h2 h3 h4 h5 h6 h7
  refine ⟨300, ?_⟩
  rw [law36_PerfGovernorStaysPermitted.f]
  by_cases h : 20 < (a0.length : Int)
  · rw [if_pos h, bind_s rfl, if_pos rfl, bind_s awake]
  · by_cases h' : 40 < (a4.length : Int)
    · rw [if_neg h, decide_eq_true h', bind_s rfl, if_pos rfl, bind_s awake]
    · obtain ⟨T, t1, t2, t3, tS⟩ := table_f a0 h2 300 (by omega)
      have o := tS.t t2 (by omega)
      obtain ⟨p, p1, p2⟩ := params_f a1 300
      obtain ⟨lo, y1, y2, y3⟩ := mod_ 300 a2 (T.length : Int) (by omega) (by omega)
      obtain ⟨d, d1, d2, d3⟩ := mod_ 300 a3 ((T.length : Int) - lo) (by omega) (by omega)
      rw [if_neg h, decide_eq_false h', bind_s rfl, if_neg (by decide), bind_s t1, bind_s p1, bind_s (gnew_f T o p p2 300 (by omega))]
      dsimp only [Option.elim]
      have hw : IntKind.i64.wrap (lo + d) = lo + d := wi _ (by omega) (by omega)
      obtain ⟨lo', hi', c, q', e, e1, _, e3, e4, e5, e6, e7⟩ := limit_f T p.Up p.Down p.Samples 0 ((T.length : Int) - 1) 0 0 lo (lo + d) (by omega) (by omega) (by omega) (by omega) 300
      obtain ⟨f1, f2, f3⟩ := e7 y2 (by omega) (by omega)
      subst f1; subst f2; subst f3
      rw [if_pos rfl, bind_s rfl, if_neg (by decide), bind_s y1, wi ((T.length : Int) - lo') (by omega) (by omega), bind_s d1, hw, bind_s e1, if_pos rfl]
      rw [bind_s (sp_l1 T tS t3 p p2 0 ((T.length : Int) - 1) 0 0 (lo', lo' + d, c, q', 0) lo' d hw rfl rfl a4 (by omega) y2 (by omega) a4.length 300 c q' 0 (by omega) (by omega) (by omega) e4 e5), el_g, bind_s awake]
end Go.Proofs.Ythemeobgfgmblaa.X
