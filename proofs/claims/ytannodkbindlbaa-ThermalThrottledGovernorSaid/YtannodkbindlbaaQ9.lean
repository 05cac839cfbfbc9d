/- The laws on the pure side: th3. -/
import Derived.Test.YtannodkbindlbaaQ8
namespace Go.Proofs.Ytannodkbindlbaa.X
open Go Go.Sx

/-! ## ThermalOvershootIsBounded -/
theorem any1 (T h t n l m : Int) (b : Bool) (k : Nat) (hk : 2 ≤ k) : thermal_Zone_any.f k [⟨2, T, h⟩] [b] n l m = some (decide (2 = m) && b) := by
  obtain ⟨k, rfl⟩ : ∃ j, k = j + 2 := ⟨k - 2, by omega⟩
  have g1 : gd Trip.zero [(⟨2, T, h⟩ : Trip)] 0 = ⟨2, T, h⟩ := rfl
  have g2 : gd false [b] 0 = b := rfl
  have l1 : thermal_Zone_any.l1 (k + 1) [⟨2, T, h⟩] m [b] (IntKind.i64.wrap (0 + 1)) = some (.go ()) := by
    rw [thermal_Zone_any.l1, wi (0 + 1) (by omega) (by omega), if_neg (by simp)]
  rw [thermal_Zone_any.f, thermal_Zone_any.l1, if_pos (by simp), ck_t ⟨by omega, by simp⟩, g1, l1]
  by_cases c : 2 = m
  · rw [if_pos c, ck_t ⟨by omega, by simp⟩, g2, bind_s rfl, decide_eq_true c]
    cases b <;> rfl
  · rw [if_neg c, bind_s rfl, if_neg (by decide), decide_eq_false c]; rfl
theorem zone1 (T h t n l : Int) (b : Bool) (k : Nat) (hk : 3 ≤ k) (hT : -1000 ≤ T ∧ T ≤ 1000) (hh : 0 ≤ h ∧ h ≤ 20) (ht : -100000000 ≤ t ∧ t ≤ 100000000) (l0 : 0 ≤ l) (l1 : l ≤ n) (n8 : n ≤ 8) (n1 : 1 ≤ n) :
    ∃ l' b' c, thermal_Zone_Update.f k [⟨2, T, h⟩] [b] n l t = some (l', [b'], l', c, 0) ∧ 0 ≤ l' ∧ l' ≤ n ∧ (T ≤ t → l' = mn (l + 1) n) := by
  obtain ⟨k, rfl⟩ : ∃ j, k = j + 2 := ⟨k - 2, by omega⟩
  have g1 : gd Trip.zero [(⟨2, T, h⟩ : Trip)] 0 = ⟨2, T, h⟩ := rfl
  have e : (if t < (-134217728) then (some true) else (some (decide (134217728 < t)))) = some false := by rw [if_neg (by omega), decide_eq_false (by omega)]
  have l1' : ∀ y, thermal_Zone_Update.l1 (k + 1) [⟨2, T, h⟩] t y (IntKind.i64.wrap (0 + 1)) = some y := fun y => by
    rw [thermal_Zone_Update.l1, wi (0 + 1) (by omega) (by omega), if_neg (by simp)]
  obtain ⟨b', hb, hb'⟩ : ∃ b', thermal_Zone_Update.l1 (k + 1 + 1) [⟨2, T, h⟩] t [b] 0 = some [b'] ∧ (T ≤ t → b' = true) := by
    rw [thermal_Zone_Update.l1, if_pos (by simp), ck_t ⟨by omega, by simp⟩, g1]
    by_cases c : T ≤ t
    · rw [if_pos c, ck_t ⟨by omega, by simp⟩, bind_s rfl, l1']; exact ⟨true, rfl, fun _ => rfl⟩
    · rw [if_neg c]
      by_cases c2 : t < IntKind.i64.wrap (T - h)
      · rw [if_pos c2, ck_t ⟨by omega, by simp⟩, bind_s rfl, l1']; exact ⟨false, rfl, fun h => absurd h c⟩
      · rw [if_neg c2, bind_s rfl, l1']; exact ⟨b, rfl, fun h => absurd h c⟩
  have e1 := mn_le (l + 1) n
  have e2 := mx_ge (l - 1) 0
  rw [thermal_Zone_Update.f, bind_s e, if_neg (by decide), bind_s hb, any1 T h t n l 2 b' (k + 2) (by omega), bind_s rfl, wi (l + 1) (by omega) (by omega), wi (l - 1) (by omega) (by omega)]
  cases b'
  · rw [if_neg (by decide), bind_s rfl, any1 T h t n _ 3 false (k + 2) (by omega), bind_s rfl]
    exact ⟨_, _, _, rfl, by omega, by omega, fun h => by have := hb' h; cases this⟩
  · rw [if_pos (by decide), bind_s rfl, any1 T h t n _ 3 true (k + 2) (by omega), bind_s rfl]
    exact ⟨_, _, _, rfl, by omega, by omega, fun _ => rfl⟩
theorem newzone1 (T h n : Int) (k : Nat) (hk : 3 ≤ k) (hT : -1000 ≤ T ∧ T ≤ 1000) (hh : 0 ≤ h ∧ h ≤ 20) (n1 : 1 ≤ n) (n8 : n ≤ 8) : thermal_NewZone.f k [⟨2, T, h⟩] n = some (some ([⟨2, T, h⟩], [false], n, 0), 0) := by
  obtain ⟨k, rfl⟩ : ∃ j, k = j + 2 := ⟨k - 2, by omega⟩
  have g1 : gd Trip.zero [(⟨2, T, h⟩ : Trip)] 0 = ⟨2, T, h⟩ := rfl
  have l1 : thermal_CheckTrips.l1 (k + 1) [⟨2, T, h⟩] (IntKind.i64.wrap (0 + 1)) = some (.go ()) := by
    rw [thermal_CheckTrips.l1, wi (0 + 1) (by omega) (by omega), if_neg (by simp)]
  have hc : thermal_CheckTrips.f (k + 1 + 1) [⟨2, T, h⟩] = some 0 := by
    rw [thermal_CheckTrips.f, if_neg (by simp), thermal_CheckTrips.l1, if_pos (by simp), ck_t ⟨by omega, by simp⟩, g1]
    dsimp only
    rw [if_neg (by omega), if_neg (by omega), if_neg (by omega), if_neg (by omega), if_neg (by omega), decide_eq_false (by omega), bind_s rfl, if_neg (by decide), l1]
    rfl
  rw [thermal_NewZone.f, bind_s hc, if_pos rfl, if_neg (by omega), decide_eq_false (by omega), bind_s rfl, if_neg (by decide), slices_Clone_api_Trip_api_Trip.f, ck_t (by simp), bind_s rfl, ck_t ⟨by simp, by simp⟩]
  rfl
/-- one exact step of a model with one domain -/
theorem one_exact {d : HeatDomain} {E : List Int} {rel amb p : Int} (hM : Mod [d] [] E rel) (v : V [d] [] amb) (am : -100 ≤ amb ∧ amb ≤ 100) (hA : d.Ambient ≤ d.Capacity) (hC : d.Capacity ≤ 73) (e0 : d.Capacity * amb ≤ gd 0 E 0) (e1 : gd 0 E 0 ≤ 10000000000) (p0 : 0 ≤ p) (p1 : p ≤ 100000) (k : Nat) (hk : 21 < k) :
    ∃ E' rel', heat_Model_Step.f k [d] [] amb E rel [p] = some (rel', E', [tpf [d] E' 0], 0) ∧ Mod [d] [] E' rel' ∧ gd 0 E' 0 = gd 0 E 0 + p - d.Ambient * (tpf [d] E 0 - amb) ∧ d.Capacity * amb ≤ gd 0 E' 0 ∧ amb ≤ tpf [d] E 0 := by
  obtain ⟨A0, _, C0, _⟩ := v.amb1 0 (by omega) (by simp)
  have A0 : 1 ≤ d.Ambient := A0
  have C0 : 1 ≤ d.Capacity := C0
  obtain ⟨E', s1, s2, s3⟩ := step_f hM amb [p] rfl (pvb_of [p] (fun x hx => by rw [List.mem_singleton.1 hx]; omega)) k hk
  have ht : amb ≤ tpf [d] E 0 := Int.le_ediv_of_mul_le (show 0 < (gd HeatDomain.zero [d] 0).Capacity from C0) (show amb * d.Capacity ≤ gd 0 E 0 by rw [Int.mul_comm]; exact e0)
  have hd : d.Capacity * tpf [d] E 0 + gd 0 E 0 % d.Capacity = gd 0 E 0 := Int.mul_ediv_add_emod (gd 0 E 0) d.Capacity
  have r0 := Int.emod_nonneg (gd 0 E 0) (show d.Capacity ≠ 0 by omega)
  have m1 := Int.mul_le_mul_of_nonneg_right hA (show 0 ≤ tpf [d] E 0 - amb by omega)
  have m2 := Int.mul_nonneg (show 0 ≤ d.Ambient by omega) (show 0 ≤ tpf [d] E 0 - amb by omega)
  rw [Int.mul_sub d.Capacity] at m1
  have g1 := mul_in (C := d.Capacity) (x := amb) (X := 100) C0 (by omega) (by omega) (by omega)
  have hn : nxt [d] [] amb E [p] 0 = gd 0 E 0 + p - d.Ambient * (tpf [d] E 0 - amb) := by
    unfold nxt
    simp only [fl]
    show gd 0 E 0 + p - d.Ambient * (tpf [d] E 0 - amb) + 0 = _
    omega
  have h0 := s3 0 (by omega) (by simp)
  rw [hn, ws_in (by omega) (by omega)] at h0
  exact ⟨E', _, s1, s2, h0, by omega, ht⟩
theorem os_l1 {amb : Int} (d : HeatDomain) (v : V [d] [] amb) (am : -100 ≤ amb ∧ amb ≤ 100) (hA : 1 ≤ d.Ambient ∧ d.Ambient ≤ 6) (hAC : d.Ambient ≤ d.Capacity) (hC : d.Capacity ≤ 73) (S q a3 a2 u H n T low h : Int) (hS : S < 200) (hq : IntKind.i64.wrap (1 + q) = n) (hn : 1 ≤ n ∧ n ≤ 8) (ha3 : IntKind.i64.wrap (Int.tmod a3 500) = H) (hH : 0 ≤ H ∧ H < 500) (ha2 : IntKind.i64.wrap (Int.tmod a2 60) = u) (hu : 0 ≤ u ∧ u < 60) (hT : T = amb + u) (hlow : low = d.Ambient * u) (hl0 : 0 ≤ low ∧ low ≤ 360) (hh : 0 ≤ h ∧ h ≤ 20) (E0 : List Int) (r0 : Int) (L : List HeatLink) (b0 : List Bool) (z0 : Int) : ∀ (m k : Nat) (E : List Int) (rel l i : Int) (b : Bool), 0 ≤ i → i + m = S → m + 60 < k → Mod [d] [] E rel → 0 ≤ l → l ≤ n → d.Capacity * amb ≤ gd 0 E 0 → (gd 0 E 0 < d.Capacity * T ∨ gd 0 E 0 - d.Capacity * T ≤ l * (low + H)) →
    law39_ThermalOvershootIsBounded.l1 k S q (low, 0) a3 ([d], [], amb, E0, r0) ([d], L, amb) a2 ([⟨2, T, h⟩], b0, n, z0) [b] l E rel l i = some (.go ())
  | _, 0, _, _, _, _, _, _, _, hk, _, _, _, _, _ => by omega
  | 0, k + 1, E, rel, l, i, b, h0, h1, hk, hM, hl, hl2, e0, e1 => by rw [law39_ThermalOvershootIsBounded.l1, if_neg (by omega)]
  | m + 1, k + 1, E, rel, l, i, b, h0, h1, hk, hM, hl, hl2, e0, e1 => by
    have C0 : 1 ≤ d.Capacity := by omega
    -- products in range
    have p1 := mul_bd hl hl2 (show 0 ≤ low + H by omega) (show low + H ≤ 859 by omega)
    have p2 := mul_bd (show 0 ≤ n + 1 by omega) (show n + 1 ≤ 9 by omega) (show 0 ≤ low + H by omega) (show low + H ≤ 859 by omega)
    have p3 := mul_in (C := d.Capacity) (x := T) (X := 200) C0 (by omega) (by omega) (by omega)
    have p4 := mul_bd (show 0 ≤ H by omega) (show H ≤ 499 by omega) hl (show l ≤ 8 by omega)
    have p5 : H * l ≤ H * n := Int.mul_le_mul_of_nonneg_left hl2 (by omega)
    have p6 := Int.ediv_le_of_le_mul (show 0 < n by omega) (show H * l ≤ H * n by omega)
    have p7 := Int.ediv_nonneg p4.1 (show 0 ≤ n by omega)
    have p8 := Int.mul_le_mul_of_nonneg_right hl2 (show 0 ≤ low + H by omega)
    -- the power
    obtain ⟨p, hp, pb0, pb1, pb2⟩ : ∃ p, (if l = n then some low else some (IntKind.i64.wrap (IntKind.i64.wrap (low + H) - IntKind.i64.wrap (Int.tdiv (IntKind.i64.wrap (IntKind.i64.wrap (IntKind.i64.wrap (low + H) - low) * l)) n)))) = some p ∧ 0 ≤ p ∧ p ≤ low + H ∧ (l = n → p = low) := by
      by_cases c : l = n
      · rw [if_pos c]; exact ⟨low, rfl, by omega, by omega, fun _ => rfl⟩
      · rw [if_neg c, wi (low + H) (by omega) (by omega), wi (low + H - low) (by omega) (by omega), show low + H - low = H by omega, wi (H * l) (by omega) (by omega), td _ p4.1, wi (H * l / n) (by omega) (by omega), wi (_ - _) (by omega) (by omega)]
        exact ⟨_, rfl, by omega, by omega, fun h => absurd h c⟩
    obtain ⟨E', rel', s1, s2, s3, s4, s5⟩ := one_exact hM v am hAC hC e0 (by omega) pb0 (by omega) k (by omega)
    -- the excess
    have ht0 : tpf [d] E 0 = gd 0 E 0 / d.Capacity := rfl
    have m2 := Int.mul_nonneg (show 0 ≤ d.Ambient by omega) (show 0 ≤ tpf [d] E 0 - amb by omega)
    have hx : gd 0 E' 0 - d.Capacity * T ≤ n * (low + H) ∧ (gd 0 E' 0 < d.Capacity * T ∨ gd 0 E' 0 - d.Capacity * T ≤ mn (l + 1) n * (low + H)) := by
      have hmn := mn_le (l + 1) n
      have q0 : low + H ≤ mn (l + 1) n * (low + H) := by
        have := Int.mul_le_mul_of_nonneg_right (show 1 ≤ mn (l + 1) n by omega) (show 0 ≤ low + H by omega)
        omega
      have q1 : low + H ≤ n * (low + H) := by
        have := Int.mul_le_mul_of_nonneg_right (show 1 ≤ n by omega) (show 0 ≤ low + H by omega)
        omega
      by_cases c : gd 0 E 0 < d.Capacity * T
      · exact ⟨by omega, .inr (by omega)⟩
      · have hT' : T ≤ tpf [d] E 0 := Int.le_ediv_of_mul_le (show 0 < (gd HeatDomain.zero [d] 0).Capacity from C0) (show T * d.Capacity ≤ gd 0 E 0 by rw [Int.mul_comm]; omega)
        have m3 := Int.mul_le_mul_of_nonneg_left (show u ≤ tpf [d] E 0 - amb by omega) (show 0 ≤ d.Ambient by omega)
        have e1 : gd 0 E 0 - d.Capacity * T ≤ l * (low + H) := by omega
        by_cases c2 : l = n
        · have := pb2 c2
          have hm : mn (l + 1) n = n := by omega
          rw [hm]; subst c2
          exact ⟨by omega, .inr (by omega)⟩
        · have hm : mn (l + 1) n = l + 1 := by omega
          have p9 := Int.mul_le_mul_of_nonneg_right (show l + 1 ≤ n by omega) (show 0 ≤ low + H by omega)
          rw [hm]
          rw [Int.add_mul, Int.one_mul] at p9 ⊢
          exact ⟨by omega, .inr (by omega)⟩
    -- the temperature stays below the bound
    have q2 := Int.ediv_nonneg (show 0 ≤ (n + 1) * (low + H) + d.Ambient by omega) (show 0 ≤ d.Capacity by omega)
    have q3 := Int.ediv_le_self (d.Capacity) (show 0 ≤ (n + 1) * (low + H) + d.Ambient by omega)
    have q4 := Int.lt_mul_ediv_self_add (x := (n + 1) * (low + H) + d.Ambient) (show 0 < d.Capacity by omega)
    have hbd : tpf [d] E' 0 < T + (((n + 1) * (low + H) + d.Ambient) / d.Capacity + 1) := by
      refine Int.ediv_lt_of_lt_mul (show 0 < (gd HeatDomain.zero [d] 0).Capacity from C0) ?_
      show gd 0 E' 0 < (T + (((n + 1) * (low + H) + d.Ambient) / d.Capacity + 1)) * d.Capacity
      rw [Int.mul_comm, Int.mul_add, Int.mul_add, Int.mul_one]
      have : (n + 1) * (low + H) = n * (low + H) + (low + H) := by rw [Int.add_mul, Int.one_mul]
      omega
    have htl : amb ≤ tpf [d] E' 0 := Int.le_ediv_of_mul_le (show 0 < (gd HeatDomain.zero [d] 0).Capacity from C0) (show amb * d.Capacity ≤ gd 0 E' 0 by rw [Int.mul_comm]; exact s4)
    obtain ⟨l', b', c, z1, z2, z3, z4⟩ := zone1 T h (tpf [d] E' 0) n l b k (by omega) (by omega) hh (by omega) hl hl2 hn.2 hn.1
    have g : gd 0 [tpf [d] E' 0] 0 = tpf [d] E' 0 := rfl
    have gD : gd HeatDomain.zero [d] 0 = d := rfl
    rw [law39_ThermalOvershootIsBounded.l1]
    dsimp only
    rw [if_pos (by omega), hq, ck_t (by omega), ha3, bind_s hp, bind_s s1]
    dsimp only
    rw [if_pos rfl, if_pos (by simp), ck_t ⟨by omega, by simp⟩, ha2, gD, g, wi (amb + u) (by omega) (by omega), wi (n + 1) (by omega) (by omega), wi (low + H) (by omega) (by omega), wi ((n + 1) * (low + H)) (by omega) (by omega), wi ((n + 1) * (low + H) + d.Ambient) (by omega) (by omega), td _ (by omega), wi (_ / _) (by omega) (by omega), wi (amb + u + _) (by omega) (by omega), wi (amb + u + _ + 1) (by omega) (by omega), decide_eq_false (by omega), bind_s rfl, if_neg (by decide), ck_t ⟨by omega, by simp⟩, bind_s z1]
    dsimp only
    rw [if_pos rfl, if_neg (by omega), decide_eq_false (by omega), bind_s rfl, if_neg (by decide), wi (i + 1) (by omega) (by omega)]
    refine os_l1 d v am hA hAC hC S q a3 a2 u H n T low h hS hq hn ha3 hH ha2 hu hT hlow hl0 hh E0 r0 L b0 z0 m k E' rel' l' (i + 1) b' (by omega) (by omega) (by omega) s2 z2 z3 s4 ?_
    by_cases c : gd 0 E' 0 < d.Capacity * T
    · exact .inl c
    · have hT' : T ≤ tpf [d] E' 0 := Int.le_ediv_of_mul_le (show 0 < (gd HeatDomain.zero [d] 0).Capacity from C0) (show T * d.Capacity ≤ gd 0 E' 0 by rw [Int.mul_comm]; omega)
      rw [z4 hT']
      rcases hx.2 with h | h
      · exact absurd h c
      · exact .inr h
theorem pureThermalOvershootIsBounded : law39_ThermalOvershootIsBounded.Pure := by
  intro d0 b a2 a3 a4 a5 a6 _ _ h2 h3 _ h5 _
  have w2 : (0 : Int) ≤ a2 := h2.1
  have w3 : (0 : Int) ≤ a3 := h3.1
  have w5 : (0 : Int) ≤ a5 := h5.1
  refine ⟨400, ?_⟩
  rw [law39_ThermalOvershootIsBounded.f]
  obtain ⟨D, L, amb, s1, s2, s3⟩ := some_f [d0] [] b 400 (by omega)
  have a0 := s2.a0; have a1 := s2.a1
  obtain ⟨d, rfl, A0, A1, C0, C1⟩ := one_dom s2 (by rw [s3]; rfl)
  have v := V.one (amb := amb) A0 C0 (by omega) (by omega) (by omega)
  obtain ⟨q, q1, q2, q3⟩ := mod_ 400 a4 8 (by omega) (by omega)
  obtain ⟨S, S1, S2, S3⟩ := mod_ 400 a6 200 (by omega) (by omega)
  obtain ⟨u, hu, u0, u1⟩ : ∃ u, IntKind.i64.wrap (Int.tmod a2 60) = u ∧ 0 ≤ u ∧ u < 60 := by
    rw [tm _ w2, wi _ (by omega) (by omega)]; exact ⟨_, rfl, by omega, by omega⟩
  obtain ⟨H, hH, H0, H1⟩ : ∃ H, IntKind.i64.wrap (Int.tmod a3 500) = H ∧ 0 ≤ H ∧ H < 500 := by
    rw [tm _ w3, wi _ (by omega) (by omega)]; exact ⟨_, rfl, by omega, by omega⟩
  obtain ⟨g, hg, g0, g1⟩ : ∃ g, IntKind.i64.wrap (Int.tmod a5 20) = g ∧ 0 ≤ g ∧ g < 20 := by
    rw [tm _ w5, wi _ (by omega) (by omega)]; exact ⟨_, rfl, by omega, by omega⟩
  obtain ⟨t0, t1, t2⟩ := sust_in (d := d) A0 A1 u0 (by omega)
  have hn : IntKind.i64.wrap (1 + q) = 1 + q := wi _ (by omega) (by omega)
  have gD : gd HeatDomain.zero [d] 0 = d := rfl
  obtain ⟨_, n1'⟩ | ⟨n1', _⟩ := new_f [d] [] amb (by simp) 400 (by omega)
  · have hM := v.mod (by simp)
    have hE : gd 0 (init [d] amb) 0 = d.Capacity * amb := by
      have g1 := mul_in (C := d.Capacity) (x := amb) (X := 100) (by omega) (by omega) (by omega) (by omega)
      rw [init_gd [d] amb 0 (by omega) (by simp)]
      exact ws_in (by show -9223372036854775808 ≤ d.Capacity * amb; omega) (by show d.Capacity * amb < _; omega)
    have hET := Int.mul_le_mul_of_nonneg_left (show amb ≤ amb + u by omega) (show 0 ≤ d.Capacity by omega)
    rw [bind_s s1]
    dsimp only
    rw [ck_t ⟨by omega, by simp⟩, bind_s q1, hu, hg, wi (amb + u) (by omega) (by omega), bind_s (newzone1 (amb + u) g (IntKind.i64.wrap (1 + q)) 400 (by omega) (by omega) (by omega) (by omega) (by omega))]
    dsimp only [Option.elim]
    rw [bind_s n1']
    dsimp only [Option.elim]
    rw [gD, domEta, sust_f d amb (amb + u) v (by omega) (by omega) 400 (by omega), bind_s rfl, show amb + u - amb = u by omega, t2]
    dsimp only
    rw [if_pos rfl, if_pos rfl, if_pos rfl, decide_eq_false (by omega), bind_s rfl, if_neg (by decide), ck_t (by omega), bind_s S1, os_l1 d v ⟨a0, a1⟩ ⟨A0, A1⟩ C0 C1 S q a3 a2 u H (IntKind.i64.wrap (1 + q)) (amb + u) (d.Ambient * u) g S3 rfl (by omega) hH ⟨H0, H1⟩ hu ⟨u0, u1⟩ rfl rfl ⟨t0, t1⟩ (by omega) (init [d] amb) 0 L [false] 0 S.toNat 400 _ 0 0 0 false (by omega) (by omega) (by omega) hM (by omega) (by omega) (by rw [hE]; exact Int.le_refl _) (.inr (by rw [hE, Int.zero_mul]; omega)), bind_s rfl, el_g, bind_s awake]
  · exact absurd v n1'
end Go.Proofs.Ytannodkbindlbaa.X
