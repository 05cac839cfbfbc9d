/- The laws on the pure side: p36d. -/
import Derived.Test.YthemeobgfgmblaaQ4
namespace Go.Proofs.Ythemeobgfgmblaa.X
open Go Go.Sx

/-! ## the laws of the governor -/
theorem sw_l1 (T : List OperatingPoint) (hS : okS T) (o : okT T) (hl : (T.length : Int) ≤ 8) (p : GovernorParams) (g : okG p) (a2 : List Int) (hM : a2.length ≤ 40) : ∀ (n k : Nat) (cur q was : Int) (all : List PerfOp) (i : Int), 0 ≤ i → i + n = a2.length → n + 30 < k → cur = was → 0 ≤ cur → cur < T.length → (all.length : Int) ≤ 2 * i → safe T all (pt T 0).Frequency (pt T 0).Voltage → fin all (pt T 0).Frequency (pt T 0).Voltage = ((pt T was).Frequency, (pt T was).Voltage) →
    ∃ R, law36_PerfGovernorSwitchesSafely.l1 k a2 (T, p.Up, p.Down, p.Samples, 0, (T.length : Int) - 1, 0, 0) T cur q was all i = some (.go R) ∧ R.length ≤ 80 ∧ safe T R (pt T 0).Frequency (pt T 0).Voltage
  | _, 0, _, _, _, _, _, _, _, hk, _, _, _, _, _, _ => by omega
  | 0, k + 1, cur, q, was, all, i, i0, i1, hk, hc, c0, c1, ha, hs, hf => by
    rw [law36_PerfGovernorSwitchesSafely.l1, if_neg (by omega)]
    exact ⟨all, rfl, by omega, hs⟩
  | n + 1, k + 1, cur, q, was, all, i, i0, i1, hk, hc, c0, c1, ha, hs, hf => by
    subst hc
    have h : i < (a2.length : Int) := by omega
    obtain ⟨x, x1, x2, x3⟩ := mod_ k (gd 0 a2 i) 101 (by omega) (by omega)
    obtain ⟨c, q', s1, s2, s3⟩ := sample_in T p.Up p.Down p.Samples 0 ((T.length : Int) - 1) cur q x (by omega) (by omega) c0 (by omega) (by omega) x2 (by omega) k (by omega)
    obtain ⟨r, r1, _, r3, r4⟩ := trans_f T cur c k (by omega)
    have r4 := r4 o c0 c1 s2 (by omega)
    subst r4
    rw [law36_PerfGovernorSwitchesSafely.l1, if_pos h, ck_t ⟨i0, h⟩, bind_s x1]
    dsimp only
    rw [bind_s s1]
    dsimp only
    rw [bind_s r1, if_pos rfl, decide_eq_true rfl, bind_s rfl, if_neg (by decide)]
    have hn := tr_len T cur c
    rw [ck_t (by dsimp only; omega), wi (i + 1) (by omega) (by omega)]
    refine sw_l1 T hS o hl p g a2 hM n k c q' c _ (i + 1) (by omega) (by omega) (by omega) rfl s2 (by omega) (by simp only [List.length_append]; omega) ((safe_app T _ _ _ _).2 ⟨hs, ?_⟩) ?_
    · rw [hf]; exact tr_safe T o cur c c0 c1 s2 (by omega)
    · rw [fin_app, hf]; exact tr_fin T cur c
theorem purePerfGovernorSwitchesSafely : law36_PerfGovernorSwitchesSafely.Pure := by
  intro a0 a1 a2 h1 h2 h3 h4 h5
  refine ⟨300, ?_⟩
  rw [law36_PerfGovernorSwitchesSafely.f]
  by_cases h : 20 < (a0.length : Int)
  · rw [if_pos h, bind_s rfl, if_pos rfl, bind_s awake]
  · by_cases h' : 40 < (a2.length : Int)
    · rw [if_neg h, decide_eq_true h', bind_s rfl, if_pos rfl, bind_s awake]
    · obtain ⟨T, t1, t2, t3, tS⟩ := table_f a0 h2 300 (by omega)
      have o := tS.t t2 (by omega)
      obtain ⟨p, p1, p2⟩ := params_f a1 300
      rw [if_neg h, decide_eq_false h', bind_s rfl, if_neg (by decide), bind_s t1, bind_s p1, bind_s (gnew_f T o p p2 300 (by omega))]
      dsimp only [Option.elim]
      rw [if_pos rfl, bind_s rfl, if_neg (by decide), perf_Governor_Current.f, bind_s rfl]
      obtain ⟨R, r1, r2, r3⟩ := sw_l1 T tS o t3 p p2 a2 (by omega) a2.length 300 0 0 0 [] 0 (by omega) (by omega) (by omega) rfl (by omega) (by omega) (by simp) trivial rfl
      obtain ⟨b, b1, _, b2⟩ := safe_f T 0 R (by omega) 300 (by omega)
      have b3 := (b2 o (by omega) (by omega)).2 r3
      subst b3
      rw [bind_s r1, el_g, bind_s b1, if_pos rfl, bind_s awake]
/-! the reference's sample -/
theorem rs_l1 (T : List OperatingPoint) (hS : okS T) (hl : (T.length : Int) ≤ 8) (up lo cur x : Int) (u0 : 0 ≤ up) (u1 : up ≤ 100) (x0 : 0 ≤ x) (x1 : x ≤ up) (h0 : 0 ≤ lo) (h2 : cur < T.length) : ∀ (n k : Nat) (y : Int), lo - 1 ≤ y → y ≤ cur → lo ≤ cur → y = lo - 1 + n → n < k → (∀ j : Int, y < j → j ≤ cur → x * (pt T cur).Frequency ≤ up * (pt T j).Frequency) →
    (ref36_Governor_Sample.l1 k lo cur T x up y = some (.go ()) ∧ ∀ j : Int, lo ≤ j → j ≤ cur → x * (pt T cur).Frequency ≤ up * (pt T j).Frequency) ∨
    (∃ r : Int, ref36_Governor_Sample.l1 k lo cur T x up y = some (.rt (some (.rt (some (r, 0, r, 0))))) ∧ lo < r ∧ r ≤ cur ∧ (∀ j : Int, r ≤ j → j ≤ cur → x * (pt T cur).Frequency ≤ up * (pt T j).Frequency) ∧ up * (pt T (r - 1)).Frequency < x * (pt T cur).Frequency)
  | _, 0, _, _, _, _, _, hk, _ => by omega
  | 0, k + 1, y, y0, y1, lc, yn, hk, hj => by
    rw [ref36_Governor_Sample.l1, if_neg (by omega)]
    exact .inl ⟨rfl, fun j j0 j1 => hj j (by omega) j1⟩
  | n + 1, k + 1, y, y0, y1, lc, yn, hk, hj => by
    have m1 := mul_w T hS hl up y u0 u1 (by omega) (by omega)
    have m2 := mul_w T hS hl x cur x0 (by omega) (by omega) h2
    unfold pt at m1 m2
    rw [ref36_Governor_Sample.l1, if_pos (by omega), ck_t ⟨by omega, h2⟩, ck_t ⟨by omega, by omega⟩, m1, m2, wi (y - 1) (by omega) (by omega), wi (y + 1) (by omega) (by omega)]
    by_cases c : x * (gd OperatingPoint.zero T cur).Frequency ≤ up * (gd OperatingPoint.zero T y).Frequency
    · rw [if_pos c]
      refine rs_l1 T hS hl up lo cur x u0 u1 x0 x1 h0 h2 n k (y - 1) (by omega) (by omega) lc (by omega) (by omega) (fun j j0 j1 => ?_)
      by_cases e : j = y
      · rw [e]; exact c
      · exact hj j (by omega) j1
    · rw [if_neg c]
      have hne : y ≠ cur := by
        intro e
        rw [e] at c
        exact c (Int.mul_le_mul_of_nonneg_right x1 (by have := (hS cur (by omega) h2).1; unfold pt at this; omega))
      refine .inr ⟨y + 1, rfl, by omega, by omega, fun j j0 j1 => hj j (by omega) j1, ?_⟩
      rw [show y + 1 - 1 = y by omega]
      unfold pt; omega
/-- both governors do the same with a sample -/
theorem sample_eq (T : List OperatingPoint) (hS : okS T) (hl : (T.length : Int) ≤ 8) (up dn sa lo hi cur q x : Int) (u0 : 0 ≤ up) (u1 : up ≤ 100) (ud : dn < up) (h0 : 0 ≤ lo) (h1 : lo ≤ cur) (h2 : cur < T.length) (k : Nat) (hk : 18 < k) :
    ref36_Governor_Sample.f k T up dn sa lo hi cur q x = perf_Governor_Sample.f k T up dn sa lo hi cur q x := by
  by_cases hx : 0 ≤ x ∧ x ≤ 100
  · obtain ⟨c, q', s1, s2, s3, s4, s5⟩ := sample_f T hS hl up dn sa lo hi cur q x u0 u1 hx.1 hx.2 h0 h1 h2 k hk
    rw [s1, ref36_Governor_Sample.f, if_neg (show ¬ x < 0 by omega), decide_eq_false (show ¬ 100 < x by omega), bind_s rfl, if_neg (by decide)]
    by_cases c1 : up < x
    · obtain ⟨rfl, rfl⟩ := s2 c1
      rw [if_pos c1, bind_s rfl, el_g]
    · by_cases c2 : dn ≤ x
      · obtain ⟨rfl, rfl⟩ := s3 (by omega) c2
        rw [if_neg c1, if_neg (by omega), bind_s rfl, el_g]
      · by_cases c3 : IntKind.i64.wrap (q + 1) < sa
        · obtain ⟨rfl, rfl⟩ := s4 (by omega) (by omega) c3
          rw [if_neg c1, if_pos (by omega), if_neg (by omega), bind_s rfl, el_g]
        · obtain ⟨⟨l1, l2, l3, l4⟩, rfl⟩ := s5 (by omega) (by omega) (by omega)
          rw [if_neg c1, if_pos (by omega), if_pos (by omega)]
          have mono : ∀ i j : Int, 0 ≤ i → i ≤ j → j < T.length → up * (pt T i).Frequency ≤ up * (pt T j).Frequency := fun i j i0 ij jn => Int.mul_le_mul_of_nonneg_left ((okT_le (hS.t (by omega) (by omega)) i0 ij jn).2.2) u0
          rcases rs_l1 T hS hl up lo cur x u0 u1 hx.1 (by omega) h0 h2 (cur - lo + 1).toNat k cur (by omega) (by omega) h1 (by omega) (by omega) (fun j j0 j1 => by omega) with ⟨a1, a2⟩ | ⟨r, a1, a2, a3, a4, a5⟩
          · have e : c = lo := by
              by_cases e : lo < c
              · have := l3 lo (by omega) e
                have := a2 lo (by omega) h1
                omega
              · omega
            subst e
            rw [bind_s a1, el_g, bind_s rfl, el_g]
          · have e : r = c := by
              rcases Int.lt_trichotomy r c with e | e | e
              · have := l3 r (by omega) e
                have := a4 r (by omega) a3
                omega
              · exact e
              · have := l4 (by omega)
                have := mono c (r - 1) (by omega) (by omega) (by omega)
                omega
            subst e
            rw [bind_s a1, el_r, bind_s rfl, el_r]
  · have hz : (if x < 0 then (some true) else (some (decide (100 < x)))) = some true := by
      split
      · rfl
      · rw [decide_eq_true (by omega)]
    rw [ref36_Governor_Sample.f, perf_Governor_Sample.f, hz, bind_s rfl, bind_s rfl, if_pos rfl, if_pos rfl]
/-- a sample of any size -/
theorem sample_any (T : List OperatingPoint) (up dn sa lo hi cur q x : Int) (hl : (T.length : Int) ≤ 8) (h0 : 0 ≤ lo) (h1 : lo ≤ cur) (h2 : cur ≤ hi) (h3 : hi < T.length) (k : Nat) (hk : 18 < k) :
    ∃ c q' r e, perf_Governor_Sample.f k T up dn sa lo hi cur q x = some (c, q', r, e) ∧ lo ≤ c ∧ c ≤ hi := by
  by_cases hx : 0 ≤ x ∧ x ≤ 100
  · obtain ⟨c, q', s1, s2, s3⟩ := sample_in T up dn sa lo hi cur q x (by omega) h0 h1 h2 h3 hx.1 hx.2 k hk
    exact ⟨c, q', c, 0, s1, s2, s3⟩
  · have hz : (if x < 0 then (some true) else (some (decide (100 < x)))) = some true := by
      split
      · rfl
      · rw [decide_eq_true (by omega)]
    rw [perf_Governor_Sample.f, hz, bind_s rfl, if_pos rfl]
    exact ⟨_, _, _, _, rfl, h1, h2⟩
theorem limit_f (T : List OperatingPoint) (up dn sa lo hi cur q a b : Int) (h0 : 0 ≤ lo) (h1 : lo ≤ cur) (h2 : cur ≤ hi) (h3 : hi < T.length) (k : Nat) :
    ∃ lo' hi' c q' e, perf_Governor_Limit.f k T up dn sa lo hi cur q a b = some (lo', hi', c, q', e) ∧ ref36_Governor_Limit.f k T up dn sa lo hi cur q a b = some (lo', hi', c, q', e) ∧ 0 ≤ lo' ∧ lo' ≤ c ∧ c ≤ hi' ∧ hi' < T.length ∧ (0 ≤ a → a ≤ b → b < T.length → lo' = a ∧ hi' = b ∧ e = 0) := by
  by_cases h : 0 ≤ a ∧ a ≤ b ∧ b < T.length
  · rw [perf_Governor_Limit.f, ref36_Governor_Limit.f, has_f, if_neg (show ¬ a < 0 by omega), if_neg (show ¬ b < a by omega), decide_eq_true (by omega), bind_s rfl, bind_s rfl, if_neg (by decide), if_neg (show ¬ a < 0 by omega), if_neg (show ¬ b < a by omega), decide_eq_false (by omega), bind_s rfl, if_neg (by decide)]
    have m1 := mx_ge cur a
    have m2 := mn_le (mx cur a) b
    exact ⟨_, _, _, _, _, rfl, rfl, by omega, by omega, by omega, by omega, fun _ _ _ => ⟨rfl, rfl, rfl⟩⟩
  · have z1 : (if a < 0 then (some true) else (if b < a then (some true) else ((perf_has.f k T b).bind fun s8 => (some (!s8))))) = some true := by
      rw [has_f]
      split
      · rfl
      · split
        · rfl
        · rw [decide_eq_false (by omega)]; rfl
    have z2 : (if a < 0 then (some true) else (if b < a then (some true) else (some (decide ((T.length : Int) ≤ b))))) = some true := by
      split
      · rfl
      · split
        · rfl
        · rw [decide_eq_true (by omega)]
    rw [perf_Governor_Limit.f, ref36_Governor_Limit.f, z1, z2, bind_s rfl, if_pos rfl]
    exact ⟨_, _, _, _, _, rfl, rfl, h0, h1, h2, h3, fun x y z => absurd ⟨x, y, z⟩ h⟩
end Go.Proofs.Ythemeobgfgmblaa.X
