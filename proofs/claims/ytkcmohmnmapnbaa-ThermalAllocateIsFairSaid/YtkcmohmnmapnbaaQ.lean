/- The thermal laws on the pure side. -/
import Derived.Test.YtkcmohmnmapnbaaFa
import Derived.Test.YtkcmohmnmapnbaaSx11
namespace Go.Proofs.Ytkcmohmnmapnbaa.X
open Go Go.Sx

theorem awake : law39_awake.f 200 = some true := by decide +kernel
theorem mod_ (k : Nat) (a b : Int) (h0 : 0 < b) (h1 : b < 9223372036854775808) : ∃ r, help_Mod.f k a b = some r ∧ 0 ≤ r ∧ r < b := by
  have := wu_lo a
  have h2 := Int.emod_lt_of_pos (IntKind.u64.wrap a) h0
  have h3 := Int.emod_nonneg (IntKind.u64.wrap a) (show b ≠ 0 by omega)
  rw [help_Mod.f, wu b (by omega) (by omega), ck_t (by omega), tm _ this, wi _ (by omega) (by omega)]
  exact ⟨_, rfl, h3, h2⟩

/-! ## Trips -/
theorem trips_l1 (a : List Trip) : ∀ (k : Nat) (y : List Trip) (i : Int), 0 ≤ i → (y.length : Int) = i → i ≤ 6 → 6 - i < k → ∃ L, law39_Trips.l1 k a y i = some L ∧ (L.length : Int) ≤ 6
  | 0, _, _, _, _, _, hk => by omega
  | k + 1, y, i, h0, hy, h6, hk => by
    rw [law39_Trips.l1]
    by_cases h : i < (a.length : Int) ∧ i < 6
    · rw [if_pos h.1, decide_eq_true h.2, bind_s rfl, if_pos rfl, ck_t ⟨h0, h.1⟩]
      obtain ⟨m, hm, _, _⟩ := mod_ k (gd Trip.zero a i).Kind 3 (by omega) (by omega)
      rw [bind_s hm, ck_t (by simp; omega), wi (i + 1) (by omega) (by omega)]
      exact trips_l1 a k _ (i + 1) (by omega) (by simp; omega) (by omega) (by omega)
    · have hz : (if i < (a.length : Int) then (some (decide (i < 6))) else (some false)) = some false := by
        by_cases h1 : i < (a.length : Int)
        · rw [if_pos h1, decide_eq_false (fun h2 => h ⟨h1, h2⟩)]
        · rw [if_neg h1]
      rw [hz, bind_s rfl, if_neg (by decide)]
      exact ⟨y, rfl, by omega⟩
theorem trips (a : List Trip) (k : Nat) (hk : 10 ≤ k) : ∃ L, law39_Trips.f k a = some L ∧ (L.length : Int) ≤ 6 := by
  obtain ⟨L, h, h'⟩ := trips_l1 a k [] 0 (by omega) (by simp) (by omega) (by omega)
  exact ⟨L, by rw [law39_Trips.f, bind_s h], h'⟩
theorem ct_l1 (a : List Trip) (hl : (a.length : Int) ≤ 12) : ∀ (k : Nat) (i : Int), 0 ≤ i → i ≤ a.length → (a.length : Int) - i < k → ∃ r, thermal_CheckTrips.l1 k a i = some r ∧ (r = .go () ∨ r = .rt (some 1))
  | 0, _, _, _, hk => by omega
  | k + 1, i, h0, h1, hk => by
    rw [thermal_CheckTrips.l1]
    by_cases h : i < (a.length : Int)
    · rw [if_pos h, ck_t ⟨h0, h⟩, wi (i + 1) (by omega) (by omega)]
      obtain ⟨r, hr, hr'⟩ := ct_l1 a hl k (i + 1) (by omega) (by omega) (by omega)
      refine bind_q (by (repeat' split) <;> exact ⟨_, rfl⟩) (fun x _ => ?_)
      by_cases hx : x = true
      · rw [if_pos hx]; exact ⟨_, rfl, .inr rfl⟩
      · rw [if_neg hx]; exact ⟨r, hr, hr'⟩
    · rw [if_neg h]; exact ⟨_, rfl, .inl rfl⟩
theorem ct (a : List Trip) (k : Nat) (hk : 14 ≤ k) : ∃ r, thermal_CheckTrips.f k a = some r ∧ (r = 0 ∨ r = 1) ∧ (r = 0 → (a.length : Int) ≤ 12) := by
  rw [thermal_CheckTrips.f]
  by_cases h : 12 < (a.length : Int)
  · rw [if_pos h]; exact ⟨1, rfl, .inr rfl, by omega⟩
  · rw [if_neg h]
    obtain ⟨r, hr, hr'⟩ := ct_l1 a (by omega) k 0 (by omega) (by omega) (by omega)
    rw [bind_s hr]
    rcases hr' with rfl | rfl
    · exact ⟨0, rfl, .inl rfl, by omega⟩
    · exact ⟨1, rfl, .inr rfl, by omega⟩
theorem ref_ct_l1 : ∀ (k : Nat) (a : List Trip) (i : Int), ref39_CheckTrips.l1 k a i = thermal_CheckTrips.l1 k a i
  | 0, _, _ => rfl
  | k + 1, a, i => by simp only [ref39_CheckTrips.l1, thermal_CheckTrips.l1, ref_ct_l1 k]
theorem ref_ct (k : Nat) (a : List Trip) : ref39_CheckTrips.f k a = thermal_CheckTrips.f k a := by simp only [ref39_CheckTrips.f, thermal_CheckTrips.f, ref_ct_l1]
theorem nz (a : List Trip) (l : Int) (k : Nat) (hk : 14 ≤ k) :
    (∃ c, thermal_NewZone.f k a l = some (some (a, List.replicate (a.length : Int).toNat false, l, 0), 0) ∧ ref39_NewZone.f k a l = some (some (List.replicate (a.length : Int).toNat false, l, 0), 0) ∧ thermal_CheckTrips.f k a = some c) ∨
    (∃ c, thermal_NewZone.f k a l = some (none, 1) ∧ ref39_NewZone.f k a l = some (none, 1) ∧ thermal_CheckTrips.f k a = some c) := by
  obtain ⟨c, hc, hc', hl⟩ := ct a k hk
  rw [thermal_NewZone.f, ref39_NewZone.f, ref_ct, hc]
  simp only [Option.bind_some]
  rcases hc' with rfl | rfl
  · have hl := hl rfl
    simp only [if_true]
    by_cases h1 : l < 0
    · exact .inr ⟨0, by simp [h1], by simp [h1], rfl⟩
    · by_cases h2 : 64 < l
      · exact .inr ⟨0, by simp [h1, h2], by simp [h1, h2], rfl⟩
      · refine .inl ⟨0, ?_, ?_, rfl⟩
        · simp only [if_neg h1, decide_eq_false h2, Option.bind_some, Bool.false_eq_true, if_false, slices_Clone_api_Trip_api_Trip.f]
          rw [ck_t (by simp; omega)]
          simp only [Option.bind_some]
          rw [ck_t (by omega)]
          simp
        · simp only [if_neg h1, decide_eq_false h2, Option.bind_some, Bool.false_eq_true, if_false]
          rw [ck_t (by omega)]
  · exact .inr ⟨1, by simp, by simp, rfl⟩

theorem pureThermalTripsAgree : law39_ThermalTripsAgree.Pure := by
  intro a l k x _ ha _ _ _
  refine ⟨200, ?_⟩
  rw [law39_ThermalTripsAgree.f]
  by_cases h : 20 < (a.length : Int)
  · rw [if_pos h, bind_s awake]
  · obtain ⟨L, hL, hl6⟩ := trips a 200 (by decide)
    obtain ⟨X, hX⟩ : ∃ X, (if 0 < (L.length : Int) then ((help_Mod.f 200 x.Kind 5).bind fun s14 => ((help_Mod.f 200 k (L.length : Int)).bind fun s16 => (ck ((0 : Int) ≤ s16 ∧ s16 < (L.length : Int)) (some (L.set s16.toNat (⟨s14, x.Temperature, x.Hysteresis⟩ : Trip)))))) else (some L)) = some X := by
      by_cases h1 : 0 < (L.length : Int)
      · obtain ⟨m1, e1, _, _⟩ := mod_ 200 x.Kind 5 (by omega) (by omega)
        obtain ⟨m2, e2, g1, g2⟩ := mod_ 200 k L.length (by omega) (by omega)
        rw [if_pos h1, bind_s e1, bind_s e2, ck_t ⟨g1, g2⟩]
        exact ⟨_, rfl⟩
      · rw [if_neg h1]; exact ⟨_, rfl⟩
    obtain ⟨m, hm, _, _⟩ := mod_ 200 l 70 (by omega) (by omega)
    rw [if_neg h, bind_s hL, bind_s hX]
    rcases nz a l 200 (by decide) with ⟨c, e1, e2, e3⟩ | ⟨c, e1, e2, e3⟩ <;> rcases nz X (IntKind.i64.wrap (m - 2)) 200 (by decide) with ⟨d, f1, f2, f3⟩ | ⟨d, f1, f2, f3⟩ <;>
      simp [e1, e2, e3, f1, f2, f3, hm, ref_ct, awake]
/-! ## Zone -/
/-- what an update makes of the active points, from point i on -/
def zs (T : List Trip) (t : Int) (L : List Bool) (i : Int) : List Bool :=
  if (gd Trip.zero T i).Temperature ≤ t then L.set i.toNat true
  else if t < IntKind.i64.wrap ((gd Trip.zero T i).Temperature - (gd Trip.zero T i).Hysteresis) then L.set i.toNat false else L
def zu (T : List Trip) (t : Int) : Nat → List Bool → Int → List Bool
  | 0, L, _ => L
  | n + 1, L, i => zu T t n (zs T t L i) (i + 1)
def af (T : List Trip) (m : Int) (L : List Bool) : Nat → Int → Bool
  | 0, _ => false
  | n + 1, i => (decide ((gd Trip.zero T i).Kind = m) && gd false L i) || af T m L n (i + 1)
theorem zs_len (T : List Trip) (t : Int) (L : List Bool) (i : Int) : (zs T t L i).length = L.length := by
  unfold zs; (repeat' split) <;> simp
theorem zs_lt (T : List Trip) (t : Int) (L : List Bool) (i j : Int) (h0 : 0 ≤ i) (h1 : i < L.length) (hj : 0 ≤ j) (h : j < i) : gd false (zs T t L i) j = gd false L j := by
  unfold zs
  (repeat' split) <;> first | rfl | exact gd_set_other h0 h1 hj (by omega)
theorem zu_len (T : List Trip) (t : Int) : ∀ (n : Nat) (L : List Bool) (i : Int), (zu T t n L i).length = L.length
  | 0, _, _ => rfl
  | n + 1, L, i => by rw [zu, zu_len T t n, zs_len]
theorem zu_lt (T : List Trip) (t : Int) : ∀ (n : Nat) (L : List Bool) (i j : Int), 0 ≤ i → i + n ≤ L.length → 0 ≤ j → j < i → gd false (zu T t n L i) j = gd false L j
  | 0, _, _, _, _, _, _, _ => rfl
  | n + 1, L, i, j, h0, h1, hj, h => by
    rw [zu, zu_lt T t n _ (i + 1) j (by omega) (by rw [zs_len]; omega) hj (by omega), zs_lt T t L i j h0 (by omega) hj h]
theorem up_l1 (T : List Trip) (t : Int) (hl : (T.length : Int) ≤ 100) : ∀ (n k : Nat) (L : List Bool) (i : Int), 0 ≤ i → i + n = T.length → L.length = T.length → n < k →
    thermal_Zone_Update.l1 k T t L i = some (zu T t n L i)
  | _, 0, _, _, _, _, _, hk => by omega
  | 0, k + 1, L, i, h0, h1, h2, hk => by rw [thermal_Zone_Update.l1, if_neg (by omega)]; rfl
  | n + 1, k + 1, L, i, h0, h1, h2, hk => by
    rw [thermal_Zone_Update.l1, if_pos (by omega), ck_t ⟨h0, by omega⟩, ck_t ⟨h0, by omega⟩, ck_t ⟨h0, by omega⟩, wi (i + 1) (by omega) (by omega)]
    have e : (if ((gd Trip.zero T i).Temperature) ≤ t then some (L.set i.toNat true) else (if t < (IntKind.i64.wrap (((gd Trip.zero T i).Temperature) - ((gd Trip.zero T i).Hysteresis))) then some (L.set i.toNat false) else (some L))) = some (zs T t L i) := by
      unfold zs; (repeat' split) <;> rfl
    rw [bind_s e, up_l1 T t hl n k _ (i + 1) (by omega) (by omega) (by rw [zs_len]; exact h2) (by omega)]
    rfl
theorem any_l1 (T : List Trip) (m : Int) (L : List Bool) (hL : L.length = T.length) (hl : (T.length : Int) ≤ 100) : ∀ (n k : Nat) (i : Int), 0 ≤ i → i + n = T.length → n < k →
    thermal_Zone_any.l1 k T m L i = some (if af T m L n i = true then .rt (some true) else .go ())
  | _, 0, _, _, _, hk => by omega
  | 0, k + 1, i, h0, h1, hk => by rw [thermal_Zone_any.l1, if_neg (by omega)]; rfl
  | n + 1, k + 1, i, h0, h1, hk => by
    rw [thermal_Zone_any.l1, if_pos (by omega), ck_t ⟨h0, by omega⟩, ck_t ⟨h0, by omega⟩, wi (i + 1) (by omega) (by omega), any_l1 T m L hL hl n k (i + 1) (by omega) (by omega) (by omega)]
    by_cases h : (gd Trip.zero T i).Kind = m
    · have e : af T m L (n + 1) i = (gd false L i || af T m L n (i + 1)) := by simp [af, h]
      rw [if_pos h, bind_s rfl, e]
      cases gd false L i <;> simp
    · have e : af T m L (n + 1) i = af T m L n (i + 1) := by simp [af, h]
      rw [if_neg h, bind_s rfl, e]
      simp
theorem any_f (T : List Trip) (m : Int) (L : List Bool) (hL : L.length = T.length) (hl : (T.length : Int) ≤ 100) (k : Nat) (hk : 102 ≤ k) (x y : Int) : thermal_Zone_any.f k T L x y m = some (af T m L T.length 0) := by
  rw [thermal_Zone_any.f, any_l1 T m L hL hl T.length k 0 (by omega) (by omega) (by omega), bind_s rfl]
  cases af T m L T.length 0 <;> rfl
theorem ref_l1 (T : List Trip) (t : Int) (hl : (T.length : Int) ≤ 100) : ∀ (n k : Nat) (L : List Bool) (p c : Bool) (i : Int), 0 ≤ i → i + n = T.length → L.length = T.length → n < k →
    ref39_Zone_Update.l1 k T t L p c i = some (zu T t n L i, p || af T 2 (zu T t n L i) n i, c || af T 3 (zu T t n L i) n i)
  | _, 0, _, _, _, _, _, _, _, hk => by omega
  | 0, k + 1, L, p, c, i, h0, h1, h2, hk => by rw [ref39_Zone_Update.l1, if_neg (by omega)]; simp [zu, af]
  | n + 1, k + 1, L, p, c, i, h0, h1, h2, hk => by
    have g : gd false (zu T t n (zs T t L i) (i + 1)) i = gd false (zs T t L i) i := zu_lt T t n _ (i + 1) i (by omega) (by rw [zs_len]; omega) h0 (by omega)
    have hz : ((zs T t L i).length : Int) = T.length := by rw [zs_len, h2]
    have e : (if ((gd Trip.zero T i).Temperature) ≤ t then some (L.set i.toNat true) else (if t < (IntKind.i64.wrap (((gd Trip.zero T i).Temperature) - ((gd Trip.zero T i).Hysteresis))) then some (L.set i.toNat false) else (some L))) = some (zs T t L i) := by
      unfold zs; (repeat' split) <;> rfl
    rw [ref39_Zone_Update.l1, if_pos (by omega), ck_t ⟨h0, by omega⟩, ck_t ⟨h0, by omega⟩, ck_t ⟨h0, by omega⟩, wi (i + 1) (by omega) (by omega), bind_s e]
    have f1 : (0 : Int) ≤ i ∧ i < ((zs T t L i).length : Int) := ⟨h0, by omega⟩
    have f2 : (0 : Int) ≤ i ∧ i < (T.length : Int) := ⟨h0, by omega⟩
    simp only [ck, if_pos f1, if_pos f2]
    have ih := fun p c => ref_l1 T t hl n k (zs T t L i) p c (i + 1) (by omega) (by omega) (by rw [zs_len]; exact h2) (by omega)
    simp only [zu, af, g]
    cases p <;> cases c <;> cases gd false (zs T t L i) i <;> simp [ih]
theorem up_f (T : List Trip) (t : Int) (hl : (T.length : Int) ≤ 100) (L : List Bool) (hL : L.length = T.length) (n v : Int) (k : Nat) (hk : 102 ≤ k) :
    ∃ v' w c e, thermal_Zone_Update.f k T L n v t = some (v', (if t < -134217728 ∨ 134217728 < t then L else zu T t T.length L 0), w, c, e) ∧ ref39_Zone_Update.f k T L n v t = some (v', (if t < -134217728 ∨ 134217728 < t then L else zu T t T.length L 0), w, c, e) := by
  rw [thermal_Zone_Update.f, ref39_Zone_Update.f]
  by_cases h : t < -134217728 ∨ 134217728 < t
  · have e : (if t < (-134217728) then (some true) else (some (decide (134217728 < t)))) = some true := by
      by_cases h1 : t < -134217728
      · rw [if_pos h1]
      · rw [if_neg h1, decide_eq_true (by omega)]
    rw [bind_s e, bind_s e, if_pos (show true = true from rfl), if_pos (show true = true from rfl), if_pos h]
    exact ⟨_, _, _, _, rfl, rfl⟩
  · have e : (if t < (-134217728) then (some true) else (some (decide (134217728 < t)))) = some false := by
      rw [if_neg (by omega), decide_eq_false (by omega)]
    have hz := zu_len T t T.length L 0
    rw [bind_s e, bind_s e, if_neg (show ¬ (false = true) by decide), if_neg (show ¬ (false = true) by decide), if_neg h, bind_s (up_l1 T t hl T.length k L 0 (by omega) (by omega) hL (by omega)), bind_s (ref_l1 T t hl T.length k L false false 0 (by omega) (by omega) hL (by omega))]
    rw [any_f T 2 _ (hz.trans hL) hl k hk]
    simp only [Bool.false_or, Option.bind_some]
    cases hx : af T 2 (zu T t T.length L 0) T.length 0
    · simp only [Bool.false_eq_true, if_false, Option.bind_some]
      rw [any_f T 3 _ (hz.trans hL) hl k hk]
      exact ⟨_, _, _, _, rfl, rfl⟩
    · simp only [if_true, Option.bind_some]
      rw [any_f T 3 _ (hz.trans hL) hl k hk]
      exact ⟨_, _, _, _, rfl, rfl⟩
/-! ## ZoneAgrees -/
def okT (x : Trip) : Prop := 1 ≤ x.Kind ∧ x.Kind ≤ 3 ∧ -50 ≤ x.Temperature ∧ x.Temperature ≤ 50 ∧ 0 ≤ x.Hysteresis ∧ x.Hysteresis ≤ 19
theorem tripsOk_l1 (a : List Trip) : ∀ (k : Nat) (y : List Trip) (i : Int), 0 ≤ i → (y.length : Int) = i → i ≤ 6 → 6 - i < k → (∀ x ∈ y, okT x) → ∃ L, law39_Trips.l1 k a y i = some L ∧ (L.length : Int) ≤ 6 ∧ ∀ x ∈ L, okT x
  | 0, _, _, _, _, _, hk, _ => by omega
  | k + 1, y, i, h0, hy, h6, hk, ho => by
    rw [law39_Trips.l1]
    by_cases h : i < (a.length : Int) ∧ i < 6
    · rw [if_pos h.1, decide_eq_true h.2, bind_s rfl, if_pos rfl, ck_t ⟨h0, h.1⟩]
      obtain ⟨m, hm, m0, m1⟩ := mod_ k (gd Trip.zero a i).Kind 3 (by omega) (by omega)
      have u1 := wu_lo (gd Trip.zero a i).Temperature
      have u2 := wu_lo (gd Trip.zero a i).Hysteresis
      rw [bind_s hm, ck_t (by simp; omega), wi (i + 1) (by omega) (by omega), tm _ u1, tm _ u2, wi (1 + m) (by omega) (by omega), wi (_ % 101) (by omega) (by omega), wi (_ - 50) (by omega) (by omega), wi (_ % 20) (by omega) (by omega)]
      refine tripsOk_l1 a k _ (i + 1) (by omega) (by simp; omega) (by omega) (by omega) (fun x hx => ?_)
      rcases List.mem_append.1 hx with hx | hx
      · exact ho x hx
      · rw [List.mem_singleton.1 hx]
        refine ⟨?_, ?_, ?_, ?_, ?_, ?_⟩ <;> dsimp only <;> omega
    · have hz : (if i < (a.length : Int) then (some (decide (i < 6))) else (some false)) = some false := by
        by_cases h1 : i < (a.length : Int)
        · rw [if_pos h1, decide_eq_false (fun h2 => h ⟨h1, h2⟩)]
        · rw [if_neg h1]
      rw [hz, bind_s rfl, if_neg (by decide)]
      exact ⟨y, rfl, by omega, ho⟩
theorem tripsOk (a : List Trip) (k : Nat) (hk : 10 ≤ k) : ∃ L, law39_Trips.f k a = some L ∧ (L.length : Int) ≤ 6 ∧ ∀ x ∈ L, okT x := by
  obtain ⟨L, h, h'⟩ := tripsOk_l1 a k [] 0 (by omega) (by simp) (by omega) (by omega) (fun x hx => by cases hx)
  exact ⟨L, by rw [law39_Trips.f, bind_s h], h'⟩
theorem ctOk_l1 (a : List Trip) (hl : (a.length : Int) ≤ 12) (ho : ∀ x ∈ a, okT x) : ∀ (k : Nat) (i : Int), 0 ≤ i → i ≤ a.length → (a.length : Int) - i < k → thermal_CheckTrips.l1 k a i = some (.go ())
  | 0, _, _, _, hk => by omega
  | k + 1, i, h0, h1, hk => by
    rw [thermal_CheckTrips.l1]
    by_cases h : i < (a.length : Int)
    · obtain ⟨g1, g2, g3, g4, g5, g6⟩ := ho _ (gd_mem (z := Trip.zero) h0 h)
      rw [if_pos h, ck_t ⟨h0, h⟩, wi (i + 1) (by omega) (by omega), if_neg (by omega), if_neg (by omega), if_neg (by omega), if_neg (by omega), if_neg (by omega), decide_eq_false (by omega), bind_s rfl, if_neg (by decide)]
      exact ctOk_l1 a hl ho k (i + 1) (by omega) (by omega) (by omega)
    · rw [if_neg h]
theorem nzOk (a : List Trip) (l : Int) (k : Nat) (hk : 14 ≤ k) (hl : (a.length : Int) ≤ 6) (ho : ∀ x ∈ a, okT x) (l0 : 0 ≤ l) (l1 : l ≤ 64) :
    thermal_NewZone.f k a l = some (some (a, List.replicate (a.length : Int).toNat false, l, 0), 0) ∧ ref39_NewZone.f k a l = some (some (List.replicate (a.length : Int).toNat false, l, 0), 0) := by
  have hc : thermal_CheckTrips.f k a = some 0 := by
    rw [thermal_CheckTrips.f, if_neg (by omega), bind_s (ctOk_l1 a (by omega) ho k 0 (by omega) (by omega) (by omega)), el_g]
  rw [thermal_NewZone.f, ref39_NewZone.f, ref_ct, hc]
  simp only [Option.bind_some, if_true, if_neg (show ¬ l < 0 by omega), decide_eq_false (show ¬ 64 < l by omega), Bool.false_eq_true, if_false, slices_Clone_api_Trip_api_Trip.f]
  refine ⟨?_, ?_⟩
  · rw [ck_t (by simp; omega)]
    simp only [Option.bind_some]
    rw [ck_t (by omega)]
    simp
  · rw [ck_t (by omega)]
theorem eqb_l1 (a : List Bool) (hl : (a.length : Int) ≤ 100) : ∀ (k : Nat) (i : Int), 0 ≤ i → i ≤ a.length → (a.length : Int) - i < k → help_Equal_bool.l1 k a a i = some (.go ())
  | 0, _, _, _, hk => by omega
  | k + 1, i, h0, h1, hk => by
    rw [help_Equal_bool.l1]
    by_cases h : i < (a.length : Int)
    · rw [if_pos h, ck_t ⟨h0, h⟩, ck_t ⟨h0, h⟩, wi (i + 1) (by omega) (by omega), if_pos (by simp)]
      exact eqb_l1 a hl k (i + 1) (by omega) (by omega) (by omega)
    · rw [if_neg h]
theorem eqb (a : List Bool) (hl : (a.length : Int) ≤ 100) (k : Nat) (hk : 102 ≤ k) : help_Equal_bool.f k a a = some true := by
  rw [help_Equal_bool.f, if_pos rfl, bind_s (eqb_l1 a hl k 0 (by omega) (by omega) (by omega)), el_g]
theorem deg (k : Nat) (x i : Int) : ∃ d, law39_degree.f k x i = some d := by
  rw [law39_degree.f]; (repeat' split) <;> exact ⟨_, rfl⟩
theorem za_l2 (a2 : List Int) (h2 : (a2.length : Int) ≤ 60) (T : List Trip) (hT : (T.length : Int) ≤ 6) (A0 : List Bool) (n v0 : Int) : ∀ (k : Nat) (A : List Bool) (v i : Int), A.length = T.length → 0 ≤ i → i ≤ a2.length → (a2.length : Int) - i + 104 < k →
    law39_ThermalZoneAgrees.l2 k a2 (T, A0, n, v0) T (A0, n, v0) A v A v i = some (.go ())
  | 0, _, _, _, _, _, _, hk => by omega
  | k + 1, A, v, i, hA, h0, h1, hk => by
    rw [law39_ThermalZoneAgrees.l2]
    by_cases h : i < (a2.length : Int)
    · obtain ⟨d, hd⟩ := deg k (gd 0 a2 i) i
      obtain ⟨v', w, c, e, u1, u2⟩ := up_f T d (by omega) A hA n v k (by omega)
      obtain ⟨A', hA'⟩ : ∃ A', (if d < -134217728 ∨ 134217728 < d then A else zu T d T.length A 0) = A' := ⟨_, rfl⟩
      rw [hA'] at u1 u2
      have hl' : A'.length = T.length := by
        rw [← hA']; split
        · exact hA
        · rw [zu_len]; exact hA
      have ih := za_l2 a2 h2 T hT A0 n v0 k A' v' (i + 1) hl' (by omega) (by omega) (by omega)
      rw [if_pos h, ck_t ⟨h0, h⟩, bind_s hd]
      dsimp only
      rw [bind_s u1, bind_s u2]
      dsimp only
      have a1 : thermal_Zone_Active.f k T A' n v' = some A' := by
        rw [thermal_Zone_Active.f, slices_Clone_bool_bool.f]
        simp only [ck, List.length_nil, List.nil_append]
        rw [if_pos (by simp; omega)]
        rfl
      have a2' : ref39_Zone_Active.f k T A' n v' = some A' := by
        rw [ref39_Zone_Active.f]
        simp only [ck, List.length_nil, List.nil_append]
        rw [if_pos (by simp; omega)]
      rw [if_pos rfl, if_pos (by simp), if_pos rfl, thermal_Zone_Level.f, ref39_Zone_Level.f, bind_s rfl, bind_s rfl, if_pos rfl, bind_s a1, bind_s a2', bind_s (eqb A' (by omega) k (by omega)), bind_s rfl, if_neg (by decide), wi (i + 1) (by omega) (by omega), ih]
    · rw [if_neg h]
theorem pureThermalZoneAgrees : law39_ThermalZoneAgrees.Pure := by
  intro a l ts _ ha _ _ _
  refine ⟨200, ?_⟩
  rw [law39_ThermalZoneAgrees.f]
  by_cases h : 20 < (a.length : Int)
  · rw [if_pos h, bind_s rfl, if_pos rfl, bind_s awake]
  · by_cases h2 : 60 < (ts.length : Int)
    · rw [if_neg h, decide_eq_true h2, bind_s rfl, if_pos rfl, bind_s awake]
    · obtain ⟨L, hL, hl6, ho⟩ := tripsOk a 200 (by decide)
      obtain ⟨n, hn, n0, n1⟩ := mod_ 200 l 8 (by omega) (by omega)
      obtain ⟨z1, z2⟩ := nzOk L n 200 (by decide) hl6 ho n0 (by omega)
      rw [if_neg h, decide_eq_false h2, bind_s rfl, if_neg (by decide), bind_s hL, bind_s hn, bind_s z1]
      dsimp only [Option.elim]
      rw [bind_s z2]
      dsimp only
      rw [if_pos rfl, if_pos rfl, bind_s rfl, if_neg (by decide), bind_s (za_l2 ts (by omega) L hl6 _ n 0 200 _ 0 0 (by simp) (by omega) (by omega) (by omega)), el_g, bind_s awake]
/-! ## Hysteresis -/
theorem zs_ne (T : List Trip) (t : Int) (L : List Bool) (i j : Int) (h0 : 0 ≤ i) (h1 : i < L.length) (hj : 0 ≤ j) (h : j ≠ i) : gd false (zs T t L i) j = gd false L j := by
  unfold zs
  (repeat' split) <;> first | rfl | exact gd_set_other h0 h1 hj h
theorem zs_at (T : List Trip) (t : Int) (L : List Bool) (i : Int) (h0 : 0 ≤ i) (h1 : i < L.length) : gd false (zs T t L i) i = if (gd Trip.zero T i).Temperature ≤ t then true else if t < IntKind.i64.wrap ((gd Trip.zero T i).Temperature - (gd Trip.zero T i).Hysteresis) then false else gd false L i := by
  unfold zs
  (repeat' split) <;> first | rfl | exact gd_set_same h0 h1
theorem zu_at (T : List Trip) (t : Int) : ∀ (n : Nat) (L : List Bool) (i j : Int), 0 ≤ i → i + n ≤ L.length → i ≤ j → j < i + n →
    gd false (zu T t n L i) j = if (gd Trip.zero T j).Temperature ≤ t then true else if t < IntKind.i64.wrap ((gd Trip.zero T j).Temperature - (gd Trip.zero T j).Hysteresis) then false else gd false L j
  | 0, _, _, _, _, _, _, _ => by omega
  | n + 1, L, i, j, h0, h1, h2, h3 => by
    rw [zu]
    by_cases h : j = i
    · subst h
      rw [zu_lt T t n _ (j + 1) j (by omega) (by rw [zs_len]; omega) h0 (by omega), zs_at T t L j h0 (by omega)]
    · rw [zu_at T t n _ (i + 1) j (by omega) (by rw [zs_len]; omega) (by omega) (by omega), zs_ne T t L i j h0 (by omega) (by omega) h]
theorem hy_l2 (T : List Trip) (hT : (T.length : Int) ≤ 6) (ho : ∀ x ∈ T, okT x) (d : Int) (A' A : List Bool) (hA' : A'.length = T.length) (hA : A.length = T.length)
    (hat : ∀ j : Int, 0 ≤ j → j < T.length → gd false A' j = if (gd Trip.zero T j).Temperature ≤ d then true else if d < (gd Trip.zero T j).Temperature - (gd Trip.zero T j).Hysteresis then false else gd false A j) :
    ∀ (n k : Nat) (p a : Bool) (i : Int), 0 ≤ i → i + n = T.length → n < k → law39_ThermalHysteresis.l2 k T d A' A p a i = some (.go (p || af T 2 A' n i, a || af T 3 A' n i))
  | _, 0, _, _, _, _, _, hk => by omega
  | 0, k + 1, p, a, i, h0, h1, hk => by rw [law39_ThermalHysteresis.l2, if_neg (by omega)]; simp [af]
  | n + 1, k + 1, p, a, i, h0, h1, hk => by
    have o := ho _ (gd_mem (z := Trip.zero) (xs := T) (i := i) h0 (by omega))
    have ht := hat i h0 (by omega)
    have ih := fun p a => hy_l2 T hT ho d A' A hA' hA hat n k p a (i + 1) (by omega) (by omega) (by omega)
    obtain ⟨o1, o2, o3, o4, o5, o6⟩ := o
    have f1 : (0 : Int) ≤ i ∧ i < (T.length : Int) := ⟨h0, by omega⟩
    have f2 : (0 : Int) ≤ i ∧ i < (A'.length : Int) := ⟨h0, by omega⟩
    have f3 : (0 : Int) ≤ i ∧ i < (A.length : Int) := ⟨h0, by omega⟩
    have ew : IntKind.i64.wrap ((gd Trip.zero T i).Temperature - (gd Trip.zero T i).Hysteresis) = (gd Trip.zero T i).Temperature - (gd Trip.zero T i).Hysteresis := wi _ (by omega) (by omega)
    rw [law39_ThermalHysteresis.l2, if_pos f1.2, wi (i + 1) (by omega) (by omega), ew]
    simp only [ck, if_pos f1, if_pos f2, if_pos f3, ht]
    by_cases c1 : (gd Trip.zero T i).Temperature ≤ d
    · have c2 : ¬ d < (gd Trip.zero T i).Temperature - (gd Trip.zero T i).Hysteresis := by omega
      have c3 : ¬ d < (gd Trip.zero T i).Temperature := by omega
      simp only [af, ht]
      cases p <;> cases a <;> simp [c1, c2, c3, ih, Ex.el]
    · by_cases c2 : d < (gd Trip.zero T i).Temperature - (gd Trip.zero T i).Hysteresis
      · have c4 : ¬ (gd Trip.zero T i).Temperature - (gd Trip.zero T i).Hysteresis ≤ d := by omega
        simp only [af, ht]
        cases p <;> cases a <;> simp [c1, c2, c4, ih, Ex.el]
      · have c4 : (gd Trip.zero T i).Temperature - (gd Trip.zero T i).Hysteresis ≤ d := by omega
        have c3 : d < (gd Trip.zero T i).Temperature := by omega
        simp only [af, ht]
        cases p <;> cases a <;> cases gd false A i <;> simp [c1, c2, c3, c4, ih, Ex.el]
theorem up_ex (T : List Trip) (t : Int) (hl : (T.length : Int) ≤ 100) (L : List Bool) (hL : L.length = T.length) (n v : Int) (k : Nat) (hk : 102 ≤ k) (h1 : -134217728 ≤ t) (h2 : t ≤ 134217728) :
    thermal_Zone_Update.f k T L n v t = some ((if af T 2 (zu T t T.length L 0) T.length 0 = true then mn (IntKind.i64.wrap (v + 1)) n else mx (IntKind.i64.wrap (v - 1)) 0), zu T t T.length L 0, (if af T 2 (zu T t T.length L 0) T.length 0 = true then mn (IntKind.i64.wrap (v + 1)) n else mx (IntKind.i64.wrap (v - 1)) 0), af T 3 (zu T t T.length L 0) T.length 0, 0) := by
  have e : (if t < (-134217728) then (some true) else (some (decide (134217728 < t)))) = some false := by
    rw [if_neg (by omega), decide_eq_false (by omega)]
  have hz := zu_len T t T.length L 0
  rw [thermal_Zone_Update.f, bind_s e, if_neg (show ¬ (false = true) by decide), bind_s (up_l1 T t hl T.length k L 0 (by omega) (by omega) hL (by omega)), any_f T 2 _ (hz.trans hL) hl k hk]
  simp only [Option.bind_some]
  cases hx : af T 2 (zu T t T.length L 0) T.length 0
  · simp only [Bool.false_eq_true, if_false, Option.bind_some]
    rw [any_f T 3 _ (hz.trans hL) hl k hk]
    rfl
  · simp only [if_true, Option.bind_some]
    rw [any_f T 3 _ (hz.trans hL) hl k hk]
    rfl
theorem deg0 (k : Nat) (x : Int) : ∃ d, law39_degree.f k x 0 = some d ∧ -80 ≤ d ∧ d ≤ 60 := by
  have u := wu_lo x
  rw [law39_degree.f, if_neg (by decide), tm _ u, wi (_ % 141) (by omega) (by omega), wi (_ - 80) (by omega) (by omega)]
  exact ⟨_, rfl, by omega, by omega⟩
theorem hy_l1 (a2 : List Int) (h2 : (a2.length : Int) ≤ 60) (T : List Trip) (hT : (T.length : Int) ≤ 6) (ho : ∀ x ∈ T, okT x) (A0 : List Bool) (n v0 : Int) (n0 : 0 ≤ n) (n1 : n ≤ 7) : ∀ (k : Nat) (A : List Bool) (v i : Int), A.length = T.length → 0 ≤ v → v ≤ n → 0 ≤ i → i ≤ a2.length → (a2.length : Int) - i + 104 < k →
    law39_ThermalHysteresis.l1 k a2 (T, A0, n, v0) T n A v A v i = some (.go ())
  | 0, _, _, _, _, _, _, _, _, hk => by omega
  | k + 1, A, v, i, hA, v1, v2, h0, h1, hk => by
    rw [law39_ThermalHysteresis.l1]
    by_cases h : i < (a2.length : Int)
    · obtain ⟨d, hd, d0, d1⟩ := deg0 k (gd 0 a2 i)
      have u := up_ex T d (by omega) A hA n v k (by omega) (by omega) (by omega)
      obtain ⟨A', hA'⟩ : ∃ A', zu T d T.length A 0 = A' := ⟨_, rfl⟩
      have hat : ∀ j : Int, 0 ≤ j → j < T.length → gd false A' j = if (gd Trip.zero T j).Temperature ≤ d then true else if d < (gd Trip.zero T j).Temperature - (gd Trip.zero T j).Hysteresis then false else gd false A j := fun j j0 j1 => by
        obtain ⟨o1, o2, o3, o4, o5, o6⟩ := ho _ (gd_mem (z := Trip.zero) (xs := T) j0 j1)
        have := zu_at T d T.length A 0 j (by omega) (by omega) (by omega) (by omega)
        rw [hA', wi ((gd Trip.zero T j).Temperature - (gd Trip.zero T j).Hysteresis) (by omega) (by omega)] at this
        exact this
      have hl' : A'.length = T.length := by rw [← hA', zu_len]; exact hA
      rw [hA', wi (v + 1) (by omega) (by omega), wi (v - 1) (by omega) (by omega)] at u
      obtain ⟨v', hv'⟩ : ∃ v', (if af T 2 A' T.length 0 = true then mn (v + 1) n else mx (v - 1) 0) = v' := ⟨_, rfl⟩
      rw [hv'] at u
      have bv : 0 ≤ v' ∧ v' ≤ n ∧ v' ≤ v + 1 ∧ v - 1 ≤ v' ∧ (af T 2 A' T.length 0 = true → v ≤ v') ∧ (af T 2 A' T.length 0 = false → v' ≤ v) := by
        have p := mn_le (v + 1) n
        have q := mx_ge (v - 1) 0
        cases hx : af T 2 A' T.length 0
        · rw [hx, if_neg (by decide)] at hv'
          refine ⟨by omega, by omega, by omega, by omega, by simp, fun _ => by omega⟩
        · rw [hx, if_pos rfl] at hv'
          refine ⟨by omega, by omega, by omega, by omega, fun _ => by omega, by simp⟩
      obtain ⟨b1, b2, b3, b4, b5, b6⟩ := bv
      have ih := hy_l1 a2 h2 T hT ho A0 n v0 n0 n1 k A' v' (i + 1) hl' b1 b2 (by omega) (by omega) (by omega)
      have a1 : thermal_Zone_Active.f k T A' n v' = some A' := by
        rw [thermal_Zone_Active.f, slices_Clone_bool_bool.f]
        simp only [ck, List.length_nil, List.nil_append]
        rw [if_pos (by simp; omega)]
        rfl
      have inner := hy_l2 T hT ho d A' A hl' hA hat T.length k false false 0 (by omega) (by omega) (by omega)
      simp only [Bool.false_or] at inner
      rw [if_pos h, ck_t ⟨h0, h⟩, bind_s hd]
      dsimp only
      rw [bind_s u]
      dsimp only
      rw [bind_s a1, if_pos rfl, if_pos (by omega), if_neg (by omega), if_neg (by omega), wi (v + 1) (by omega) (by omega), if_neg (by omega), wi (v - 1) (by omega) (by omega), if_neg (by omega), thermal_Zone_Level.f, bind_s rfl, decide_eq_true rfl, bind_s rfl, if_neg (by decide), bind_s inner, el_g]
      dsimp only
      rw [if_pos (by simp)]
      cases hx : af T 2 A' T.length 0
      · have := b6 hx
        rw [if_neg (by decide), decide_eq_false (by omega), bind_s rfl, if_neg (by decide), bind_s rfl, el_g, wi (i + 1) (by omega) (by omega)]
        exact ih
      · have := b5 hx
        rw [if_pos rfl, if_neg (by omega), bind_s rfl, if_neg (by decide), bind_s rfl, el_g, wi (i + 1) (by omega) (by omega)]
        exact ih
    · rw [if_neg h]
theorem pureThermalHysteresis : law39_ThermalHysteresis.Pure := by
  intro a l ts _ ha _ _ _
  refine ⟨200, ?_⟩
  rw [law39_ThermalHysteresis.f]
  by_cases h : 20 < (a.length : Int)
  · rw [if_pos h, bind_s rfl, if_pos rfl, bind_s awake]
  · by_cases h2 : 60 < (ts.length : Int)
    · rw [if_neg h, decide_eq_true h2, bind_s rfl, if_pos rfl, bind_s awake]
    · obtain ⟨L, hL, hl6, ho⟩ := tripsOk a 200 (by decide)
      obtain ⟨n, hn, n0, n1⟩ := mod_ 200 l 8 (by omega) (by omega)
      obtain ⟨z1, z2⟩ := nzOk L n 200 (by decide) hl6 ho n0 (by omega)
      rw [if_neg h, decide_eq_false h2, bind_s rfl, if_neg (by decide), bind_s hL, bind_s hn, bind_s z1]
      dsimp only [Option.elim]
      rw [if_pos rfl, bind_s rfl, if_neg (by decide), ck_t ⟨by omega, by omega⟩, bind_s (hy_l1 ts (by omega) L hl6 ho _ n 0 n0 (by omega) 200 _ 0 0 (by simp) (by omega) n0 (by omega) (by omega) (by omega)), el_g, bind_s awake]
/-! ## Allocate -/
theorem actorEta (a : Actor) : (⟨a.Request, a.Min, a.Max⟩ : Actor) = a := rfl
def wa (a : Actor) : Int := mn (mx a.Request a.Min) a.Max
def sh (l : Int) (a : Actor) : Int := mn (mx l a.Min) (wa a)
def tot (l : Int) : List Actor → Int
  | [] => 0
  | a :: r => sh l a + tot l r
def okA (a : Actor) : Prop := 0 ≤ a.Request ∧ 0 ≤ a.Min ∧ a.Min ≤ a.Max ∧ a.Max ≤ 4294967296
theorem sh_bd (l : Int) (a : Actor) (h : okA a) (hl : 0 ≤ l) : a.Min ≤ sh l a ∧ sh l a ≤ wa a ∧ a.Min ≤ wa a ∧ wa a ≤ a.Max ∧ 0 ≤ a.Min ∧ sh l a ≤ 4294967296 := by
  obtain ⟨h1, h2, h3, h4⟩ := h
  have e1 := mx_ge a.Request a.Min
  have e2 := mn_le (mx a.Request a.Min) a.Max
  have e3 := mx_ge l a.Min
  have e4 := mn_le (mx l a.Min) (wa a)
  unfold sh
  unfold wa at *
  omega
theorem tot_bd (l : Int) (hl : 0 ≤ l) : ∀ A : List Actor, (∀ a ∈ A, okA a) → 0 ≤ tot l A ∧ tot l A ≤ 4294967296 * (A.length : Int)
  | [], _ => by simp [tot]
  | a :: r, h => by
    have h1 := tot_bd l hl r (fun x hx => h x (List.mem_cons_of_mem _ hx))
    have h2 := sh_bd l a (h a List.mem_cons_self) hl
    simp only [tot, List.length_cons]
    omega
theorem want_f (k : Nat) (a : Actor) : thermal_want.f k a = some (wa a) := rfl
theorem rwant_f (k : Nat) (a : Actor) : ref39_want.f k a = some (wa a) := rfl
theorem share_f (k : Nat) (a : Actor) (l : Int) : thermal_share.f k a l = some (sh l a) := rfl
theorem okA_drop {A : List Actor} (h : ∀ a ∈ A, okA a) (n : Nat) : ∀ a ∈ A.drop n, okA a := fun a ha => h a (List.mem_of_mem_drop ha)
theorem total_l1 (A : List Actor) (hA : ∀ a ∈ A, okA a) (hl : (A.length : Int) ≤ 32) (l : Int) (h0 : 0 ≤ l) : ∀ (k : Nat) (s i : Int), 0 ≤ i → i ≤ A.length → (A.length : Int) - i < k → 0 ≤ s → s ≤ 4294967296 * i →
    thermal_total.l1 k A l s i = some (s + tot l (A.drop i.toNat))
  | 0, _, _, _, _, hk, _, _ => by omega
  | k + 1, s, i, hi, hi2, hk, hs, hs2 => by
    rw [thermal_total.l1]
    by_cases h : i < (A.length : Int)
    · have hb := sh_bd l _ (hA _ (gd_mem (z := Actor.zero) hi h)) h0
      rw [if_pos h, ck_t ⟨hi, h⟩, share_f, actorEta]
      show thermal_total.l1 k A l (IntKind.u64.wrap (s + sh l (gd Actor.zero A i))) (IntKind.i64.wrap (i + 1)) = _
      rw [wu _ (by omega) (by omega), wi (i + 1) (by omega) (by omega), total_l1 A hA hl l h0 k _ (i + 1) (by omega) (by omega) (by omega) (by omega) (by omega), drop_gd (z := Actor.zero) hi h, tot]
      congr 1; omega
    · rw [if_neg h, drop_end h, tot]; simp
theorem total_f (A : List Actor) (hA : ∀ a ∈ A, okA a) (hl : (A.length : Int) ≤ 32) (l : Int) (h0 : 0 ≤ l) (k : Nat) (hk : 33 < k) : thermal_total.f k A l = some (tot l A) := by
  rw [thermal_total.f, bind_s (total_l1 A hA hl l h0 k 0 0 (by omega) (by omega) (by omega) (by omega) (by omega))]
  simp
theorem at_l1 (A : List Actor) (hA : ∀ a ∈ A, okA a) (hl : (A.length : Int) ≤ 32) (l : Int) (h0 : 0 ≤ l) : ∀ (k : Nat) (L : List Int) (s i : Int), 0 ≤ i → i ≤ A.length → (A.length : Int) - i < k → 0 ≤ s → s ≤ 4294967296 * i → (L.length : Int) = i →
    ref39_at.l1 k A l L s i = some (L ++ (A.drop i.toNat).map (sh l), s + tot l (A.drop i.toNat))
  | 0, _, _, _, _, _, hk, _, _, _ => by omega
  | k + 1, L, s, i, hi, hi2, hk, hs, hs2, hL => by
    rw [ref39_at.l1]
    by_cases h : i < (A.length : Int)
    · have hb := sh_bd l _ (hA _ (gd_mem (z := Actor.zero) hi h)) h0
      have hs : mn (mx l (gd Actor.zero A i).Min) (wa (gd Actor.zero A i)) = sh l (gd Actor.zero A i) := rfl
      rw [if_pos h, ck_t ⟨hi, h⟩, rwant_f, actorEta, bind_s rfl, hs, ck_t (by simp; omega), wu _ (by omega) (by omega), wi (i + 1) (by omega) (by omega), at_l1 A hA hl l h0 k _ _ (i + 1) (by omega) (by omega) (by omega) (by omega) (by omega) (by simp; omega), drop_gd (z := Actor.zero) hi h, tot]
      simp [Int.add_assoc]
    · rw [if_neg h, drop_end h, tot]; simp
theorem at_f (A : List Actor) (hA : ∀ a ∈ A, okA a) (hl : (A.length : Int) ≤ 32) (l : Int) (h0 : 0 ≤ l) (k : Nat) (hk : 33 < k) : ref39_at.f k A l = some (A.map (sh l), tot l A) := by
  rw [ref39_at.f, bind_s (at_l1 A hA hl l h0 k [] 0 0 (by omega) (by omega) (by omega) (by omega) (by omega) (by simp))]
  simp
/-- the search -/
def srch (A : List Actor) (b : Int) : Nat → Int → Int → Int
  | 0, lo, _ => lo
  | n + 1, lo, hi => if lo + 1 < hi then (if tot ((lo + hi) / 2) A ≤ b then srch A b n ((lo + hi) / 2) hi else srch A b n lo ((lo + hi) / 2)) else lo
theorem srch_l1 (A : List Actor) (hA : ∀ a ∈ A, okA a) (hl : (A.length : Int) ≤ 32) (b : Int) : ∀ (n k : Nat) (lo hi : Int), 0 ≤ lo → lo ≤ hi → hi ≤ 4294967296 → hi - lo ≤ 2 ^ n → n + 34 < k →
    thermal_Allocate.l1 k A b lo hi = some (srch A b n lo hi) ∧ (lo < hi → ref39_Allocate.l1 k A b lo hi = some (srch A b n lo hi))
  | _, 0, _, _, _, _, _, _, hk => by omega
  | 0, k + 1, lo, hi, h0, h1, h2, h3, hk => by
    have h3 : hi - lo ≤ 1 := h3
    rw [thermal_Allocate.l1, ref39_Allocate.l1, wu _ (by omega) (by omega), wu (hi - lo) (by omega) (by omega), if_neg (by omega), if_neg (by omega)]
    exact ⟨rfl, fun _ => rfl⟩
  | n + 1, k + 1, lo, hi, h0, h1, h2, h3, hk => by
    have h3 : hi - lo ≤ 2 * 2 ^ n := by rw [Int.pow_succ] at h3; omega
    have hp : (0 : Int) < 2 ^ n := Int.pow_pos (by omega)
    rw [thermal_Allocate.l1, ref39_Allocate.l1, wu (lo + 1) (by omega) (by omega), wu (hi - lo) (by omega) (by omega), wu (lo + hi) (by omega) (by omega), td _ (by omega), wu _ (by omega) (by omega), srch,
      total_f A hA hl _ (by omega) k (by omega), at_f A hA hl _ (by omega) k (by omega)]
    by_cases h : lo + 1 < hi
    · rw [if_pos h, if_pos (show 1 < hi - lo by omega), if_pos h]
      simp only [Option.bind_some]
      by_cases h' : tot ((lo + hi) / 2) A ≤ b
      · rw [if_pos h', if_pos h', if_pos h']
        obtain ⟨e1, e2⟩ := srch_l1 A hA hl b n k ((lo + hi) / 2) hi (by omega) (by omega) (by omega) (by omega) (by omega)
        exact ⟨e1, fun _ => e2 (by omega)⟩
      · rw [if_neg h', if_neg h', if_neg h']
        obtain ⟨e1, e2⟩ := srch_l1 A hA hl b n k lo ((lo + hi) / 2) (by omega) (by omega) (by omega) (by omega) (by omega)
        exact ⟨e1, fun _ => e2 (by omega)⟩
    · rw [if_neg h, if_neg (show ¬ 1 < hi - lo by omega), if_neg h]
      exact ⟨rfl, fun _ => rfl⟩
theorem srch_spec (A : List Actor) (b : Int) : ∀ (n : Nat) (lo hi : Int), 0 ≤ lo → lo < hi → hi - lo ≤ 2 ^ n → tot lo A ≤ b → b < tot hi A →
    lo ≤ srch A b n lo hi ∧ srch A b n lo hi < hi ∧ tot (srch A b n lo hi) A ≤ b ∧ b < tot (srch A b n lo hi + 1) A
  | 0, lo, hi, h0, h1, h3, h4, h5 => by
    have h3 : hi - lo ≤ 1 := h3
    rw [srch]; rw [show hi = lo + 1 by omega] at h5; exact ⟨by omega, by omega, h4, h5⟩
  | n + 1, lo, hi, h0, h1, h3, h4, h5 => by
    have h3 : hi - lo ≤ 2 * 2 ^ n := by rw [Int.pow_succ] at h3; omega
    have hp : (0 : Int) < 2 ^ n := Int.pow_pos (by omega)
    rw [srch]
    by_cases h : lo + 1 < hi
    · rw [if_pos h]
      by_cases h' : tot ((lo + hi) / 2) A ≤ b
      · rw [if_pos h']
        have := srch_spec A b n ((lo + hi) / 2) hi (by omega) (by omega) (by omega) h' h5
        exact ⟨by omega, this.2⟩
      · rw [if_neg h']
        have := srch_spec A b n lo ((lo + hi) / 2) (by omega) (by omega) (by omega) h4 (by omega)
        exact ⟨by omega, by omega, this.2.2⟩
    · rw [if_neg h]; rw [show hi = lo + 1 by omega] at h5; exact ⟨by omega, by omega, h4, h5⟩
/-- what is given at a level, with some rest -/
def dist (l : Int) : Int → List Actor → List Int
  | _, [] => []
  | r, a :: t => if 0 < r ∧ a.Min ≤ l ∧ l < wa a then (sh l a + 1) :: dist l (r - 1) t else sh l a :: dist l r t
theorem dist_len (l : Int) : ∀ (A : List Actor) (r : Int), (dist l r A).length = A.length
  | [], _ => rfl
  | a :: t, r => by rw [dist]; split <;> simp [dist_len l t]
theorem dist_le (l : Int) : ∀ (A : List Actor) (r : Int), r ≤ 0 → dist l r A = A.map (sh l)
  | [], _, _ => rfl
  | a :: t, r, h => by rw [dist, if_neg (by omega), dist_le l t r h]; rfl
theorem dist_l2 (A : List Actor) (hA : ∀ a ∈ A, okA a) (hl : (A.length : Int) ≤ 32) (l : Int) (h0 : 0 ≤ l) : ∀ (k : Nat) (r : Int) (L : List Int) (i : Int), 0 ≤ i → i ≤ A.length → (A.length : Int) - i < k → 0 ≤ r → r < 18446744073709551616 → (L.length : Int) = i →
    thermal_Allocate.l2 k A l r L i = some (L ++ dist l r (A.drop i.toNat))
  | 0, _, _, _, _, _, hk, _, _, _ => by omega
  | k + 1, r, L, i, hi, hi2, hk, hr, hr2, hL => by
    rw [thermal_Allocate.l2]
    by_cases h : i < (A.length : Int)
    · have hb := sh_bd l _ (hA _ (gd_mem (z := Actor.zero) hi h)) h0
      rw [if_pos h, ck_t ⟨hi, h⟩, share_f, want_f, actorEta, drop_gd (z := Actor.zero) hi h, dist, bind_s rfl, bind_s rfl]
      generalize gd Actor.zero A i = a at hb ⊢
      by_cases h1 : 0 < r ∧ a.Min ≤ l ∧ l < wa a
      · rw [if_pos h1.1, if_pos h1.2.1, decide_eq_true h1.2.2, bind_s rfl, if_pos rfl, bind_s rfl, if_pos h1]
        dsimp only
        rw [ck_t (by simp; omega), wu _ (by omega) (by omega), wu _ (by omega) (by omega), wi (i + 1) (by omega) (by omega), dist_l2 A hA hl l h0 k _ _ (i + 1) (by omega) (by omega) (by omega) (by omega) (by omega) (by simp; omega)]
        simp
      · have e : (if 0 < r then (if a.Min ≤ l then (some (decide (l < wa a))) else some false) else some false) = some false := by
          by_cases g1 : 0 < r
          · by_cases g2 : a.Min ≤ l
            · rw [if_pos g1, if_pos g2, decide_eq_false (by omega)]
            · rw [if_pos g1, if_neg g2]
          · rw [if_neg g1]
        rw [bind_s e, if_neg (by decide), bind_s rfl, if_neg h1]
        dsimp only
        rw [ck_t (by simp; omega), wi (i + 1) (by omega) (by omega), dist_l2 A hA hl l h0 k _ _ (i + 1) (by omega) (by omega) (by omega) (by omega) (by omega) (by simp; omega)]
        simp
    · rw [if_neg h, drop_end h, dist]; simp
theorem rdist_l2 (A : List Actor) (hA : ∀ a ∈ A, okA a) (hl : (A.length : Int) ≤ 32) (b l : Int) (h0 : 0 ≤ l) (hb2 : b < 18446744073709551616) : ∀ (k : Nat) (u : Int) (L M : List Int) (i : Int), 0 ≤ i → i ≤ A.length → (A.length : Int) - i < k → 0 ≤ u → (L.length : Int) = i → M = (A.drop i.toNat).map (sh l) →
    ref39_Allocate.l2 k A b l (L ++ M) u i = some (L ++ dist l (b - u) (A.drop i.toNat))
  | 0, _, _, _, _, _, _, hk, _, _, _ => by omega
  | k + 1, u, L, M, i, hi, hi2, hk, hu, hL, hM => by
    rw [ref39_Allocate.l2]
    by_cases h : i < (A.length : Int)
    · have hb := sh_bd l _ (hA _ (gd_mem (z := Actor.zero) hi h)) h0
      by_cases hub : u < b
      · rw [if_pos h, decide_eq_true hub, bind_s rfl, if_pos rfl, ck_t ⟨hi, h⟩, rwant_f, actorEta]
        rw [drop_gd (z := Actor.zero) hi h] at hM ⊢
        generalize gd Actor.zero A i = a at hb hM ⊢
        have hg : gd 0 (L ++ M) i = sh l a := by
          subst hM
          unfold gd
          rw [List.getD_eq_getElem?_getD, List.getElem?_append_right (by omega), show i.toNat - L.length = 0 by omega]
          rfl
        have hlen : ((L ++ M).length : Int) > i := by subst hM; simp; omega
        by_cases h1 : a.Min ≤ l ∧ l < wa a
        · have hs : (L ++ M).set i.toNat (sh l a + 1) = (L ++ [sh l a + 1]) ++ (A.drop (i + 1).toNat).map (sh l) := by
            subst hM
            rw [List.set_append_right _ _ (by omega), show i.toNat - L.length = 0 by omega]
            simp
          rw [if_pos h1.1, bind_s rfl, decide_eq_true h1.2, bind_s rfl, if_pos rfl, ck_t ⟨hi, by omega⟩, hg, wu _ (by omega) (by omega), wu _ (by omega) (by omega), wi (i + 1) (by omega) (by omega), bind_s rfl]
          dsimp only
          rw [hs, rdist_l2 A hA hl b l h0 hb2 k _ _ _ (i + 1) (by omega) (by omega) (by omega) (by omega) (by simp; omega) rfl, dist, if_pos ⟨by omega, h1⟩, show b - (u + 1) = b - u - 1 by omega]
          simp
        · have e : (if a.Min ≤ l then (some (wa a)).bind fun s61 => some (decide (l < s61)) else some false) = some false := by
            by_cases g2 : a.Min ≤ l
            · rw [if_pos g2, bind_s rfl, decide_eq_false (by omega)]
            · rw [if_neg g2]
          have hs : L ++ M = (L ++ [sh l a]) ++ (A.drop (i + 1).toNat).map (sh l) := by subst hM; simp
          rw [bind_s e, if_neg (by decide), bind_s rfl]
          dsimp only
          rw [hs, wi (i + 1) (by omega) (by omega), rdist_l2 A hA hl b l h0 hb2 k _ _ _ (i + 1) (by omega) (by omega) (by omega) (by omega) (by simp; omega) rfl, dist, if_neg (by omega)]
          simp
      · rw [if_pos h, decide_eq_false hub, bind_s rfl, if_neg (by decide), dist_le _ _ _ (by omega), hM]
    · rw [if_neg h, bind_s rfl, if_neg (by decide), hM, drop_end h]; rfl
theorem dist_max : ∀ (A : List Actor) (_ : ∀ a ∈ A, okA a) (r : Int), dist 4294967296 r A = A.map (sh 4294967296)
  | [], _, _ => rfl
  | a :: t, h, r => by
    have hb := sh_bd 4294967296 a (h a List.mem_cons_self) (by omega)
    have := (h a List.mem_cons_self).2.2.2
    rw [dist, if_neg (by omega), dist_max t (fun x hx => h x (List.mem_cons_of_mem _ hx)) r]; rfl
/-! the actors' own test -/
def bad (a : Actor) : Bool := decide (a.Max < a.Min) || decide (4294967296 < a.Max)
def vb : List Actor → Bool
  | [] => true
  | a :: r => !bad a && vb r
theorem vb_ok : ∀ A : List Actor, (∀ a ∈ A, 0 ≤ a.Request ∧ 0 ≤ a.Min) → vb A = true → ∀ a ∈ A, okA a
  | [], _, _ => by intro a h; cases h
  | b :: r, hw, h => by
    simp only [vb, bad, Bool.and_eq_true, Bool.not_eq_true', Bool.or_eq_false_iff, decide_eq_false_iff_not] at h
    intro a ha
    rcases List.mem_cons.1 ha with rfl | ha
    · exact ⟨(hw _ List.mem_cons_self).1, (hw _ List.mem_cons_self).2, by omega, by omega⟩
    · exact vb_ok r (fun x hx => hw x (List.mem_cons_of_mem _ hx)) h.2 a ha
theorem ok_vb : ∀ A : List Actor, (∀ a ∈ A, okA a) → vb A = true
  | [], _ => rfl
  | b :: r, h => by
    obtain ⟨_, _, h3, h4⟩ := h b List.mem_cons_self
    rw [vb, ok_vb r (fun x hx => h x (List.mem_cons_of_mem _ hx))]
    simp [bad]; omega
theorem va1_f (k : Nat) (a : Actor) : thermal_validActors_1.f k a = some (bad a) := by
  rw [thermal_validActors_1.f, bad]
  by_cases h : a.Max < a.Min
  · rw [if_pos h, decide_eq_true h]; rfl
  · rw [if_neg h, decide_eq_false h]; rfl
theorem va_l1 (A : List Actor) (hl : (A.length : Int) ≤ 100) : ∀ (k : Nat) (i : Int), 0 ≤ i → i ≤ A.length → (A.length : Int) - i < k →
    ∃ r, slices_IndexFunc_api_Actor_api_Actor__validActors_1.l1 k A i = some r ∧ ((vb (A.drop i.toNat) = true ∧ r = .go ()) ∨ (vb (A.drop i.toNat) = false ∧ ∃ j, 0 ≤ j ∧ r = .rt (some j)))
  | 0, _, _, _, hk => by omega
  | k + 1, i, h0, h1, hk => by
    rw [slices_IndexFunc_api_Actor_api_Actor__validActors_1.l1]
    by_cases h : i < (A.length : Int)
    · rw [if_pos h, ck_t ⟨h0, h⟩, actorEta, va1_f, bind_s rfl, drop_gd (z := Actor.zero) h0 h, wi (i + 1) (by omega) (by omega), vb]
      cases hb : bad (gd Actor.zero A i)
      · obtain ⟨r, hr, hr'⟩ := va_l1 A hl k (i + 1) (by omega) (by omega) (by omega)
        rw [if_neg (by decide)]
        exact ⟨r, hr, by simpa using hr'⟩
      · rw [if_pos rfl]
        exact ⟨_, rfl, .inr ⟨by simp, i, h0, rfl⟩⟩
    · rw [if_neg h, drop_end h]
      exact ⟨_, rfl, .inl ⟨rfl, rfl⟩⟩
theorem va_f (A : List Actor) (hl : (A.length : Int) ≤ 100) (k : Nat) (hk : 101 < k) : thermal_validActors.f k A = some (decide ((A.length : Int) ≤ 32) && vb A) := by
  rw [thermal_validActors.f]
  by_cases h : (A.length : Int) ≤ 32
  · obtain ⟨r, hr, hr'⟩ := va_l1 A hl k 0 (by omega) (by omega) (by omega)
    rw [if_pos h, decide_eq_true h, slices_ContainsFunc_api_Actor_api_Actor__validActors_1.f, slices_IndexFunc_api_Actor_api_Actor__validActors_1.f, bind_s hr]
    rcases hr' with ⟨h1, rfl⟩ | ⟨h1, j, hj, rfl⟩
    · have h1 : vb A = true := by simpa using h1
      rw [h1, el_g]; rfl
    · have h1 : vb A = false := by simpa using h1
      rw [h1, el_r]
      simp [hj]
  · rw [if_neg h, decide_eq_false h]; rfl
theorem rva_l1 (A : List Actor) (hl : (A.length : Int) ≤ 100) : ∀ (k : Nat) (i : Int), 0 ≤ i → i ≤ A.length → (A.length : Int) - i < k →
    ref39_valid.l1 k A i = some (if vb (A.drop i.toNat) = true then .go () else .rt (some false))
  | 0, _, _, _, hk => by omega
  | k + 1, i, h0, h1, hk => by
    rw [ref39_valid.l1]
    by_cases h : i < (A.length : Int)
    · have e : (if (gd Actor.zero A i).Max < (gd Actor.zero A i).Min then some true else some (decide (4294967296 < (gd Actor.zero A i).Max))) = some (bad (gd Actor.zero A i)) := va1_f 0 _
      rw [if_pos h, ck_t ⟨h0, h⟩, bind_s e, drop_gd (z := Actor.zero) h0 h, wi (i + 1) (by omega) (by omega), vb]
      cases hb : bad (gd Actor.zero A i)
      · rw [if_neg (by decide), rva_l1 A hl k (i + 1) (by omega) (by omega) (by omega)]; simp
      · rw [if_pos rfl]; simp
    · rw [if_neg h, drop_end h]; rfl
theorem rva_f (A : List Actor) (hl : (A.length : Int) ≤ 100) (k : Nat) (hk : 101 < k) : ref39_valid.f k A = some (decide ((A.length : Int) ≤ 32) && vb A) := by
  rw [ref39_valid.f]
  by_cases h : (A.length : Int) ≤ 32
  · rw [if_neg (by omega), decide_eq_true h, bind_s (rva_l1 A hl k 0 (by omega) (by omega) (by omega))]
    have e : A.drop (0 : Int).toNat = A := by simp
    rw [e]
    cases vb A <;> rfl
  · rw [if_pos (by omega), decide_eq_false h]; rfl
def lvl (A : List Actor) (b : Int) : Int := if tot 4294967296 A ≤ b then 4294967296 else srch A b 32 0 4294967296
def alloc (A : List Actor) (b : Int) : List Int × Int :=
  if (decide ((A.length : Int) ≤ 32) && vb A) = true then (if b < tot 0 A then ([], 19) else (dist (lvl A b) (b - tot (lvl A b) A) A, 0)) else ([], 1)
theorem lvl_spec (A : List Actor) (b : Int) (h : ¬ b < tot 0 A) : 0 ≤ lvl A b ∧ lvl A b ≤ 4294967296 ∧ tot (lvl A b) A ≤ b ∧ (lvl A b = 4294967296 ∨ b < tot (lvl A b + 1) A) := by
  unfold lvl
  by_cases h' : tot 4294967296 A ≤ b
  · rw [if_pos h']; exact ⟨by omega, by omega, h', .inl rfl⟩
  · rw [if_neg h']
    have := srch_spec A b 32 0 4294967296 (by omega) (by omega) (by decide) (by omega) (by omega)
    exact ⟨by omega, by omega, this.2.2.1, .inr this.2.2.2⟩
theorem alloc_f (A : List Actor) (hw : ∀ a ∈ A, 0 ≤ a.Request ∧ 0 ≤ a.Min) (hl : (A.length : Int) ≤ 100) (b : Int) (hb : 0 ≤ b) (hb2 : b < 18446744073709551616) (k : Nat) (hk : 101 < k) :
    thermal_Allocate.f k b A = some (alloc A b) ∧ ref39_Allocate.f k b A = some (alloc A b) := by
  rw [thermal_Allocate.f, ref39_Allocate.f, va_f A hl k hk, rva_f A hl k hk, alloc, bind_s rfl, bind_s rfl]
  by_cases hv : (decide ((A.length : Int) ≤ 32) && vb A) = true
  · rw [if_pos hv, if_pos hv, if_pos hv]
    simp only [Bool.and_eq_true, decide_eq_true_eq] at hv
    have hA := vb_ok A hw hv.2
    have hl := hv.1
    rw [total_f A hA hl 0 (by omega) k (by omega), at_f A hA hl 0 (by omega) k (by omega), bind_s rfl, bind_s rfl]
    dsimp only
    by_cases h0 : b < tot 0 A
    · rw [if_pos h0, if_pos h0, if_pos h0]; exact ⟨rfl, rfl⟩
    · obtain ⟨l0, l1, l2, l3⟩ := lvl_spec A b h0
      have t1 := tot_bd (lvl A b) l0 A hA
      rw [if_neg h0, if_neg h0, if_neg h0, total_f A hA hl 4294967296 (by omega) k (by omega), at_f A hA hl 4294967296 (by omega) k (by omega), bind_s rfl, bind_s rfl]
      dsimp only
      by_cases h' : tot 4294967296 A ≤ b
      · have e : lvl A b = 4294967296 := if_pos h'
        have t2 := tot_bd 4294967296 (by omega) A hA
        have e2 : dist 4294967296 (b - tot 4294967296 A) A = A.map (sh 4294967296) := dist_max A hA _
        rw [if_pos h', if_pos h', bind_s rfl, (srch_l1 A hA hl b 32 k 4294967296 4294967296 (by omega) (by omega) (by omega) (by decide) (by omega)).1]
        have es : srch A b 32 4294967296 4294967296 = 4294967296 := by rw [srch, if_neg (by omega)]
        rw [es, bind_s rfl, total_f A hA hl 4294967296 (by omega) k (by omega), bind_s rfl, wu _ (by omega) (by omega), dist_l2 A hA hl _ (by omega) k _ [] 0 (by omega) (by omega) (by omega) (by omega) (by omega) (by simp), e]
        simp [e2]
      · have e : lvl A b = srch A b 32 0 4294967296 := if_neg h'
        obtain ⟨s1, s2⟩ := srch_l1 A hA hl b 32 k 0 4294967296 (by omega) (by omega) (by omega) (by decide) (by omega)
        rw [if_neg h', if_neg h', bind_s rfl, s1, s2 (by omega), ← e, bind_s rfl, bind_s rfl, total_f A hA hl _ l0 k (by omega), at_f A hA hl _ l0 k (by omega), bind_s rfl, bind_s rfl, wu _ (by omega) (by omega), dist_l2 A hA hl _ l0 k _ [] 0 (by omega) (by omega) (by omega) (by omega) (by omega) (by simp)]
        dsimp only
        have e3 := rdist_l2 A hA hl b (lvl A b) l0 hb2 k (tot (lvl A b) A) [] (A.map (sh (lvl A b))) 0 (by omega) (by omega) (by omega) (by omega) (by simp) (by simp)
        rw [List.nil_append] at e3
        rw [e3]
        simp
  · rw [if_neg hv, if_neg hv, if_neg hv]; exact ⟨rfl, rfl⟩
theorem alloc_len (A : List Actor) (b : Int) : ((alloc A b).1.length : Int) ≤ A.length := by
  unfold alloc
  (repeat' split) <;> simp [dist_len]
theorem equ_l1 (a : List Int) (hl : (a.length : Int) ≤ 100) : ∀ (k : Nat) (i : Int), 0 ≤ i → i ≤ a.length → (a.length : Int) - i < k → help_Equal_uint64.l1 k a a i = some (.go ())
  | 0, _, _, _, hk => by omega
  | k + 1, i, h0, h1, hk => by
    rw [help_Equal_uint64.l1]
    by_cases h : i < (a.length : Int)
    · rw [if_pos h, ck_t ⟨h0, h⟩, ck_t ⟨h0, h⟩, wi (i + 1) (by omega) (by omega), if_pos rfl]
      exact equ_l1 a hl k (i + 1) (by omega) (by omega) (by omega)
    · rw [if_neg h]
theorem equ (a : List Int) (hl : (a.length : Int) ≤ 100) (k : Nat) (hk : 102 ≤ k) : help_Equal_uint64.f k a a = some true := by
  rw [help_Equal_uint64.f, if_pos rfl, bind_s (equ_l1 a hl k 0 (by omega) (by omega) (by omega)), el_g]
theorem actors_l1 (a : List Actor) (hw : ∀ x ∈ a, 0 ≤ x.Request ∧ 0 ≤ x.Min ∧ 0 ≤ x.Max) : ∀ (k : Nat) (y : List Actor) (i : Int), 0 ≤ i → (y.length : Int) = i → i ≤ 8 → 8 - i < k → (∀ x ∈ y, okA x ∧ x.Max < 39) → ∃ L, law39_Actors.l1 k a y i = some L ∧ (L.length : Int) ≤ 8 ∧ ∀ x ∈ L, okA x ∧ x.Max < 39
  | 0, _, _, _, _, _, hk, _ => by omega
  | k + 1, y, i, h0, hy, h8, hk, ho => by
    rw [law39_Actors.l1]
    by_cases h : i < (a.length : Int) ∧ i < 8
    · obtain ⟨w1, w2, w3⟩ := hw _ (gd_mem (z := Actor.zero) h0 h.1)
      rw [if_pos h.1, decide_eq_true h.2, bind_s rfl, if_pos rfl, ck_t ⟨h0, h.1⟩, ck_t (by simp; omega), wi (i + 1) (by omega) (by omega), tm _ w1, tm _ w2, tm _ w3, wu _ (by omega) (by omega)]
      refine actors_l1 a hw k _ (i + 1) (by omega) (by simp; omega) (by omega) (by omega) (fun x hx => ?_)
      rcases List.mem_append.1 hx with hx | hx
      · exact ho x hx
      · rw [List.mem_singleton.1 hx]
        refine ⟨⟨?_, ?_, ?_, ?_⟩, ?_⟩ <;> dsimp only <;> omega
    · have hz : (if i < (a.length : Int) then (some (decide (i < 8))) else (some false)) = some false := by
        by_cases h1 : i < (a.length : Int)
        · rw [if_pos h1, decide_eq_false (fun h2 => h ⟨h1, h2⟩)]
        · rw [if_neg h1]
      rw [hz, bind_s rfl, if_neg (by decide)]
      exact ⟨y, rfl, by omega, ho⟩
theorem wfA {a : Actor} (h : a.wf) : 0 ≤ a.Request ∧ 0 ≤ a.Min ∧ 0 ≤ a.Max := ⟨(inK_u64 h.1).1, (inK_u64 h.2.1).1, (inK_u64 h.2.2).1⟩
theorem actors_f (a : List Actor) (hw : ∀ x ∈ a, Actor.wf x) (k : Nat) (hk : 10 ≤ k) : ∃ L, law39_Actors.f k a = some L ∧ (L.length : Int) ≤ 8 ∧ ∀ x ∈ L, okA x ∧ x.Max < 39 := by
  obtain ⟨L, h, h'⟩ := actors_l1 a (fun x hx => wfA (hw x hx)) k [] 0 (by omega) (by simp) (by omega) (by omega) (fun x hx => by cases hx)
  exact ⟨L, by rw [law39_Actors.f, bind_s h], h'⟩
theorem pureThermalAllocateAgrees : law39_ThermalAllocateAgrees.Pure := by
  intro b A hb _ hw
  obtain ⟨b0, b1⟩ := inK_u64 hb
  refine ⟨200, ?_⟩
  rw [law39_ThermalAllocateAgrees.f]
  by_cases h : 40 < (A.length : Int)
  · rw [if_pos h, bind_s awake]
  · obtain ⟨L, hL, hL8, ho⟩ := actors_f A hw 200 (by omega)
    have hwL : ∀ a ∈ L, 0 ≤ a.Request ∧ 0 ≤ a.Min := fun a ha => ⟨(ho a ha).1.1, (ho a ha).1.2.1⟩
    have hwA : ∀ a ∈ A, 0 ≤ a.Request ∧ 0 ≤ a.Min := fun a ha => ⟨(wfA (hw a ha)).1, (wfA (hw a ha)).2.1⟩
    obtain ⟨e1, e2⟩ := alloc_f A hwA (by omega) b b0 b1 200 (by omega)
    obtain ⟨e3, e4⟩ := alloc_f L hwL (by omega) (Int.tmod b 200) (by rw [tm _ b0]; omega) (by rw [tm _ b0]; omega) 200 (by omega)
    obtain ⟨e5, e6⟩ := alloc_f L hwL (by omega) b b0 b1 200 (by omega)
    have l1 := alloc_len A b
    have l2 := alloc_len L (Int.tmod b 200)
    have l3 := alloc_len L b
    rw [if_neg h, bind_s hL, bind_s e1, bind_s e2, bind_s e3, bind_s e4, bind_s e5, bind_s e6, if_pos rfl, if_pos rfl, if_pos rfl, bind_s (equ _ (by omega) 200 (by omega)), if_pos rfl, bind_s (equ _ (by omega) 200 (by omega)), if_pos rfl, bind_s (equ _ (by omega) 200 (by omega)), if_pos rfl, bind_s awake]
/-! ## MoreBudgetHelps -/
theorem sh_mono (l l' : Int) (a : Actor) (h : l ≤ l') : sh l a ≤ sh l' a := by
  have e1 := mx_ge l a.Min
  have e2 := mx_ge l' a.Min
  have e3 := mn_le (mx l a.Min) (wa a)
  have e4 := mn_le (mx l' a.Min) (wa a)
  unfold sh
  omega
theorem sh_step (l l' : Int) (a : Actor) (ha : okA a) (h : l < l') (h1 : a.Min ≤ l) (h2 : l < wa a) : sh l a + 1 ≤ sh l' a := by
  have e1 := mx_ge l a.Min
  have e2 := mx_ge l' a.Min
  have e3 := mn_le (mx l a.Min) (wa a)
  have e4 := mn_le (mx l' a.Min) (wa a)
  unfold sh
  omega
theorem tot_mono (l l' : Int) (h : l ≤ l') : ∀ A : List Actor, tot l A ≤ tot l' A
  | [] => Int.le_refl _
  | a :: t => by have := sh_mono l l' a h; have := tot_mono l l' h t; simp only [tot]; omega
theorem dist_mono (l l' : Int) (h : l ≤ l') : ∀ (A : List Actor) (_ : ∀ a ∈ A, okA a) (r r' : Int) (_ : l = l' → r ≤ r') (j : Nat), (dist l r A).getD j 0 ≤ (dist l' r' A).getD j 0
  | [], _, _, _, _, _ => by simp [dist]
  | a :: t, hA, r, r', hr, j => by
    have ha := hA a List.mem_cons_self
    have ht : ∀ x ∈ t, okA x := fun x hx => hA x (List.mem_cons_of_mem _ hx)
    have h1 := sh_mono l l' a h
    have h2 := sh_step l l' a ha
    by_cases c : 0 < r ∧ a.Min ≤ l ∧ l < wa a <;> by_cases c' : 0 < r' ∧ a.Min ≤ l' ∧ l' < wa a
    · rw [dist, dist, if_pos c, if_pos c']
      cases j with
      | zero => simp; omega
      | succ j => simpa using dist_mono l l' h t ht (r - 1) (r' - 1) (fun e => by have := hr e; omega) j
    · rw [dist, dist, if_pos c, if_neg c']
      have hl : l < l' := by
        by_cases e : l = l'
        · have := hr e; subst e; exact absurd ⟨by omega, c.2⟩ c'
        · omega
      have := h2 hl c.2.1 c.2.2
      cases j with
      | zero => simp; omega
      | succ j => simpa using dist_mono l l' h t ht (r - 1) r' (fun e => by omega) j
    · rw [dist, dist, if_neg c, if_pos c']
      cases j with
      | zero => simp; omega
      | succ j => simpa using dist_mono l l' h t ht r (r' - 1) (fun e => by have := hr e; subst e; omega) j
    · rw [dist, dist, if_neg c, if_neg c']
      cases j with
      | zero => simp; omega
      | succ j => simpa using dist_mono l l' h t ht r r' hr j
theorem lvl_mono (A : List Actor) (b b' : Int) (hb : b ≤ b') (h : ¬ b < tot 0 A) : lvl A b ≤ lvl A b' := by
  obtain ⟨_, l1, l2, _⟩ := lvl_spec A b h
  obtain ⟨m0, m1, m2, m3⟩ := lvl_spec A b' (by omega)
  rcases m3 with m3 | m3
  · omega
  · refine Int.not_lt.1 (fun hlt => ?_)
    have := tot_mono (lvl A b' + 1) (lvl A b) (by omega) A
    omega
theorem mb_l1 (L : List Actor) (x y : List Int × Int) (hx : (x.1.length : Int) = L.length) (hy : (y.1.length : Int) = L.length) (hl : (L.length : Int) ≤ 100) (hm : ∀ j : Nat, x.1.getD j 0 ≤ y.1.getD j 0) : ∀ (k : Nat) (i : Int), 0 ≤ i → i ≤ L.length → (L.length : Int) - i < k → law39_ThermalMoreBudgetHelps.l1 k L y x i = some (.go ())
  | 0, _, _, _, hk => by omega
  | k + 1, i, h0, h1, hk => by
    rw [law39_ThermalMoreBudgetHelps.l1]
    by_cases h : i < (L.length : Int)
    · have := hm i.toNat
      rw [if_pos h, ck_t ⟨h0, by omega⟩, ck_t ⟨h0, by omega⟩, if_neg (by unfold gd; omega), wi (i + 1) (by omega) (by omega)]
      exact mb_l1 L x y hx hy hl hm k (i + 1) (by omega) (by omega) (by omega)
    · rw [if_neg h]
theorem alloc_ok (A : List Actor) (hA : ∀ a ∈ A, okA a) (hl : (A.length : Int) ≤ 32) (b : Int) : alloc A b = if b < tot 0 A then ([], 19) else (dist (lvl A b) (b - tot (lvl A b) A) A, 0) := by
  unfold alloc
  rw [if_pos (by rw [decide_eq_true hl, ok_vb A hA]; rfl)]
theorem pureThermalMoreBudgetHelps : law39_ThermalMoreBudgetHelps.Pure := by
  intro b m A hb hm _ hw
  obtain ⟨b0, b1⟩ := inK_u64 hb
  obtain ⟨m0, m1⟩ := inK_u64 hm
  refine ⟨200, ?_⟩
  rw [law39_ThermalMoreBudgetHelps.f]
  by_cases h : 40 < (A.length : Int)
  · rw [if_pos h, bind_s awake]
  · obtain ⟨L, hL, hL8, ho⟩ := actors_f A hw 200 (by omega)
    have hok : ∀ a ∈ L, okA a := fun a ha => (ho a ha).1
    have hwL : ∀ a ∈ L, 0 ≤ a.Request ∧ 0 ≤ a.Min := fun a ha => ⟨(ho a ha).1.1, (ho a ha).1.2.1⟩
    rw [tm _ b0, tm _ m0, wu _ (by omega) (by omega)]
    obtain ⟨e1, _⟩ := alloc_f L hwL (by omega) (b % 200) (by omega) (by omega) 200 (by omega)
    obtain ⟨e2, _⟩ := alloc_f L hwL (by omega) (b % 200 + m % 20) (by omega) (by omega) 200 (by omega)
    rw [if_neg h, bind_s hL, bind_s e1, bind_s e2]
    rw [alloc_ok L hok (by omega), alloc_ok L hok (by omega)]
    by_cases c : b % 200 < tot 0 L
    · rw [if_pos c, if_neg (by decide), if_pos rfl, bind_s awake]
    · rw [if_neg c, if_neg (show ¬ b % 200 + m % 20 < tot 0 L by omega), if_pos rfl, if_pos rfl]
      have g1 := dist_len (lvl L (b % 200)) L (b % 200 - tot (lvl L (b % 200)) L)
      have g2 := dist_len (lvl L (b % 200 + m % 20)) L (b % 200 + m % 20 - tot (lvl L (b % 200 + m % 20)) L)
      have hm := lvl_mono L (b % 200) (b % 200 + m % 20) (by omega) c
      dsimp only
      rw [if_pos (by rw [g1]), g2, decide_eq_true rfl, bind_s rfl, if_neg (by decide), bind_s (mb_l1 L _ _ (by dsimp only; rw [g1]) (by dsimp only; rw [g2]) (by omega) (fun j => dist_mono _ _ hm L hok _ _ (fun e => by rw [← e]; omega) j) 200 0 (by omega) (by omega) (by omega)), el_g, bind_s awake]
/-! ## FairAgrees -/
theorem fair_l1 (A : List Actor) (G : List Int) (hl : (A.length : Int) ≤ 100) (hG : G.length = A.length) : ∀ (k : Nat) (s i : Int), 0 ≤ i → i ≤ A.length → (A.length : Int) - i < k → ∃ r, thermal_Fair.l1 k A G s i = some r ∧ ref39_Fair.l1 k A G s i = some r ∧ (r = .rt (some false) ∨ ∃ t, r = .go t)
  | 0, _, _, _, _, hk => by omega
  | k + 1, s, i, h0, h1, hk => by
    rw [thermal_Fair.l1, ref39_Fair.l1]
    by_cases h : i < (A.length : Int)
    · have f1 : (0 : Int) ≤ i ∧ i < (A.length : Int) := ⟨h0, h⟩
      have f2 : (0 : Int) ≤ i ∧ i < (G.length : Int) := ⟨h0, by omega⟩
      obtain ⟨r, r1, r2, r3⟩ := fair_l1 A G hl hG k (IntKind.u64.wrap (s + gd 0 G i)) (i + 1) (by omega) (by omega) (by omega)
      rw [if_pos h, if_pos h]
      simp only [ck, if_pos f1, if_pos f2, want_f, rwant_f, Option.bind_some, wi (i + 1) (show -9223372036854775808 ≤ i + 1 by omega) (by omega), r1, r2]
      by_cases c : gd 0 G i < (gd Actor.zero A i).Min
      · simp [c]
      · simp only [c, if_false, Option.bind_some]
        split
        · exact ⟨_, rfl, rfl, .inl rfl⟩
        · exact ⟨_, rfl, rfl, r3⟩
    · rw [if_neg h, if_neg h]; exact ⟨_, rfl, rfl, .inr ⟨s, rfl⟩⟩
theorem fair_l3 (A : List Actor) (G : List Int) (hl : (A.length : Int) ≤ 100) (hG : G.length = A.length) (j : Int) (j0 : 0 ≤ j) (j1 : j < A.length) : ∀ (k : Nat) (i : Int), 0 ≤ i → i ≤ A.length → (A.length : Int) - i < k → ∃ r, thermal_Fair.l3 k A j G i = some r ∧ ref39_Fair.l3 k A j G i = some r ∧ (r = .rt (some (.rt (some false))) ∨ r = .go ())
  | 0, _, _, _, hk => by omega
  | k + 1, i, h0, h1, hk => by
    rw [thermal_Fair.l3, ref39_Fair.l3]
    by_cases h : i < (A.length : Int)
    · have f1 : (0 : Int) ≤ i ∧ i < (A.length : Int) := ⟨h0, h⟩
      have f2 : (0 : Int) ≤ i ∧ i < (G.length : Int) := ⟨h0, by omega⟩
      have f3 : (0 : Int) ≤ j ∧ j < (A.length : Int) := ⟨j0, j1⟩
      have f4 : (0 : Int) ≤ j ∧ j < (G.length : Int) := ⟨j0, by omega⟩
      obtain ⟨r, r1, r2, r3⟩ := fair_l3 A G hl hG j j0 j1 k (i + 1) (by omega) (by omega) (by omega)
      rw [if_pos h, if_pos h]
      simp only [ck, if_pos f1, if_pos f2, if_pos f3, if_pos f4, want_f, rwant_f, Option.bind_some, wi (i + 1) (show -9223372036854775808 ≤ i + 1 by omega) (by omega), r1, r2]
      by_cases c : gd 0 G j < wa (⟨(gd Actor.zero A j).Request, (gd Actor.zero A j).Min, (gd Actor.zero A j).Max⟩ : Actor)
      · by_cases c2 : (gd Actor.zero A i).Min < gd 0 G i
        · simp only [c, c2, if_true, Option.bind_some]
          split
          · exact ⟨_, rfl, rfl, .inl rfl⟩
          · exact ⟨_, rfl, rfl, r3⟩
        · simp [c, c2, r3]
      · simp [c, r3]
    · rw [if_neg h, if_neg h]; exact ⟨_, rfl, rfl, .inr rfl⟩
theorem fair_l2 (A : List Actor) (G : List Int) (hl : (A.length : Int) ≤ 100) (hG : G.length = A.length) : ∀ (k : Nat) (i : Int), 0 ≤ i → i ≤ A.length → 2 * (A.length : Int) - i + 2 < k → ∃ r, thermal_Fair.l2 k A G i = some r ∧ ref39_Fair.l2 k A G i = some r ∧ (r = .rt (some false) ∨ r = .go ())
  | 0, _, _, _, hk => by omega
  | k + 1, i, h0, h1, hk => by
    rw [thermal_Fair.l2, ref39_Fair.l2]
    by_cases h : i < (A.length : Int)
    · obtain ⟨r, r1, r2, r3⟩ := fair_l3 A G hl hG i h0 h k 0 (by omega) (by omega) (by omega)
      obtain ⟨r', r1', r2', r3'⟩ := fair_l2 A G hl hG k (i + 1) (by omega) (by omega) (by omega)
      rw [if_pos h, if_pos h, ck_t ⟨h0, h⟩, r1, r2, wi (i + 1) (by omega) (by omega)]
      rcases r3 with rfl | rfl
      · exact ⟨_, rfl, rfl, .inl rfl⟩
      · exact ⟨r', r1', r2', r3'⟩
    · rw [if_neg h, if_neg h]; exact ⟨_, rfl, rfl, .inr rfl⟩
theorem fair_f (A : List Actor) (hw : ∀ a ∈ A, 0 ≤ a.Request ∧ 0 ≤ a.Min) (hl : (A.length : Int) ≤ 40) (G : List Int) (b : Int) : ∃ r, thermal_Fair.f 200 b A G = some r ∧ ref39_Fair.f 200 b A G = some r := by
  rw [thermal_Fair.f, ref39_Fair.f, va_f A (by omega) 200 (by omega), rva_f A (by omega) 200 (by omega), bind_s rfl]
  by_cases hv : (decide ((A.length : Int) ≤ 32) && vb A) = true
  · by_cases hG : (G.length : Int) = A.length
    · rw [if_pos hv, decide_eq_true hG, bind_s rfl, bind_s rfl, if_neg (by decide), if_neg (by decide)]
      simp only [Bool.and_eq_true, decide_eq_true_eq] at hv
      have hA := vb_ok A hw hv.2
      have hl := hv.1
      obtain ⟨r, r1, r2, r3⟩ := fair_l1 A G (by omega) (by omega) 200 0 0 (by omega) (by omega) (by omega)
      rw [bind_s r1, bind_s r2]
      rcases r3 with rfl | ⟨t, rfl⟩
      · exact ⟨_, rfl, rfl⟩
      · rw [el_g, el_g, total_f A hA hl 4294967296 (by omega) 200 (by omega), at_f A hA hl 4294967296 (by omega) 200 (by omega), bind_s rfl, bind_s rfl]
        dsimp only
        by_cases c : t = mn b (tot 4294967296 A)
        · obtain ⟨r, r1, r2, r3⟩ := fair_l2 A G (by omega) (by omega) 200 0 (by omega) (by omega) (by omega)
          rw [if_pos c, if_pos c, bind_s r1, bind_s r2]
          rcases r3 with rfl | rfl
          · exact ⟨_, rfl, rfl⟩
          · exact ⟨_, rfl, rfl⟩
        · rw [if_neg c, if_neg c]; exact ⟨_, rfl, rfl⟩
    · rw [if_pos hv, decide_eq_false hG]; exact ⟨_, rfl, rfl⟩
  · rw [if_neg hv]; exact ⟨_, rfl, rfl⟩
theorem some_l1 (L : List Actor) (G : List Int) (hl : (L.length : Int) ≤ 100) : ∀ (k : Nat) (M : List Int) (i : Int), 0 ≤ i → i ≤ L.length → (M.length : Int) ≤ i → (L.length : Int) - i < k → ∃ r, law39_ThermalFairAgrees.l1 k L G M i = some r
  | 0, _, _, _, _, _, hk => by omega
  | k + 1, M, i, h0, h1, hM, hk => by
    rw [law39_ThermalFairAgrees.l1]
    by_cases h : i < (L.length : Int) ∧ i < (G.length : Int)
    · rw [if_pos h.1, decide_eq_true h.2, bind_s rfl, if_pos rfl, ck_t ⟨h0, h.2⟩, ck_t (by simp; omega), wi (i + 1) (by omega) (by omega)]
      exact some_l1 L G hl k _ (i + 1) (by omega) (by omega) (by simp; omega) (by omega)
    · have hz : (if i < (L.length : Int) then (some (decide (i < (G.length : Int)))) else (some false)) = some false := by
        by_cases h1 : i < (L.length : Int)
        · rw [if_pos h1, decide_eq_false (fun h2 => h ⟨h1, h2⟩)]
        · rw [if_neg h1]
      rw [hz, bind_s rfl, if_neg (by decide)]
      exact ⟨_, rfl⟩
theorem pureThermalFairAgrees : law39_ThermalFairAgrees.Pure := by
  intro b A G kk mm hb _ hw _ _ _ _
  obtain ⟨b0, b1⟩ := inK_u64 hb
  refine ⟨200, ?_⟩
  rw [law39_ThermalFairAgrees.f]
  by_cases h : 40 < (A.length : Int)
  · rw [if_pos h, bind_s rfl, if_pos rfl, bind_s awake]
  · by_cases h2 : 40 < (G.length : Int)
    · rw [if_neg h, decide_eq_true h2, bind_s rfl, if_pos rfl, bind_s awake]
    · obtain ⟨L, hL, hL8, ho⟩ := actors_f A hw 200 (by omega)
      have hwL : ∀ a ∈ L, 0 ≤ a.Request ∧ 0 ≤ a.Min := fun a ha => ⟨(ho a ha).1.1, (ho a ha).1.2.1⟩
      have hwA : ∀ a ∈ A, 0 ≤ a.Request ∧ 0 ≤ a.Min := fun a ha => ⟨(wfA (hw a ha)).1, (wfA (hw a ha)).2.1⟩
      obtain ⟨S, hS⟩ := some_l1 L G (by omega) 200 [] 0 (by omega) (by omega) (by simp) (by omega)
      obtain ⟨r1, p1, q1⟩ := fair_f A hwA (by omega) G b
      obtain ⟨r2, p2, q2⟩ := fair_f L hwL (by omega) S (Int.tmod b 200)
      obtain ⟨_, e4⟩ := alloc_f L hwL (by omega) (Int.tmod b 200) (by rw [tm _ b0]; omega) (by rw [tm _ b0]; omega) 200 (by omega)
      have hl := alloc_len L (Int.tmod b 200)
      rw [if_neg h, decide_eq_false h2, bind_s rfl, if_neg (by decide), bind_s hL, bind_s hS, bind_s p1, bind_s q1, if_pos (by simp), bind_s p2, bind_s q2]
      simp only [beq_self_eq_true, Bool.not_true, Option.bind_some, Bool.false_eq_true, if_false]
      rw [bind_s e4]
      generalize alloc L (Int.tmod b 200) = z at hl
      by_cases c : z.2 = 0 ∧ ¬ (z.1.length : Int) = 0
      · obtain ⟨i, hi, i0, i1⟩ := mod_ 200 kk z.1.length (by omega) (by omega)
        obtain ⟨j, hj, j0, j1⟩ := mod_ 200 mm z.1.length (by omega) (by omega)
        rw [if_pos c.1, decide_eq_false c.2, bind_s rfl, if_neg (by decide), bind_s hi, bind_s hj, ck_t ⟨i0, i1⟩]
        have fin : ∀ X : List Int, ((thermal_Fair.f 200 (Int.tmod b 200) L X).bind fun s70 => ((ref39_Fair.f 200 (Int.tmod b 200) L X).bind fun s71 => (if (s70 == s71) = true then ((law39_awake.f 200).bind fun s73 => (some s73)) else (some false)))) = some true := by
          intro X
          obtain ⟨r3, p3, q3⟩ := fair_f L hwL (by omega) X (Int.tmod b 200)
          rw [bind_s p3, bind_s q3, if_pos (by simp), bind_s awake]
        by_cases d : 0 < gd 0 z.1 i
        · rw [if_pos d, ck_t ⟨j0, by simpa using j1⟩, bind_s rfl, fin]
        · rw [if_neg d, bind_s rfl, fin]
      · have e : (if z.2 = 0 then (some (decide ((z.1.length : Int) = 0))) else (some true)) = some true := by
          by_cases c1 : z.2 = 0
          · rw [if_pos c1, decide_eq_true (by omega)]
          · rw [if_neg c1]
        rw [bind_s e, if_pos rfl, bind_s awake]
/-! ## AllocateIsFair -/
/-- the sum of a list -/
def su : List Int → Int
  | [] => 0
  | x :: r => x + su r
/-- how many could receive one more -/
def cnt (l : Int) : List Actor → Int
  | [] => 0
  | a :: t => (if a.Min ≤ l ∧ l < wa a then 1 else 0) + cnt l t
theorem cnt_nonneg (l : Int) : ∀ A : List Actor, 0 ≤ cnt l A
  | [] => Int.le_refl _
  | a :: t => by have := cnt_nonneg l t; rw [cnt]; split <;> omega
theorem tot_cnt (l : Int) : ∀ A : List Actor, (∀ a ∈ A, okA a) → tot (l + 1) A = tot l A + cnt l A
  | [], _ => rfl
  | a :: t, h => by
    have ih := tot_cnt l t (fun x hx => h x (List.mem_cons_of_mem _ hx))
    obtain ⟨_, h2, h3, h4⟩ := h a List.mem_cons_self
    have e1 := mx_ge l a.Min
    have e2 := mn_le (mx l a.Min) (wa a)
    have e3 := mx_ge (l + 1) a.Min
    have e4 := mn_le (mx (l + 1) a.Min) (wa a)
    have e5 := mx_ge a.Request a.Min
    have e6 := mn_le (mx a.Request a.Min) a.Max
    have w : wa a = mn (mx a.Request a.Min) a.Max := rfl
    have s1 : sh l a = mn (mx l a.Min) (wa a) := rfl
    have s2 : sh (l + 1) a = mn (mx (l + 1) a.Min) (wa a) := rfl
    simp only [tot, cnt]
    split <;> omega
theorem dist_su_eq (l : Int) : ∀ (A : List Actor) (r : Int), 0 ≤ r → r ≤ cnt l A → su (dist l r A) = tot l A + r
  | [], r, h, h2 => by simp only [cnt] at h2; simp only [dist, su, tot]; omega
  | a :: t, r, h, h2 => by
    simp only [cnt] at h2
    rw [dist]
    by_cases c : 0 < r ∧ a.Min ≤ l ∧ l < wa a
    · rw [if_pos c.2] at h2
      have := dist_su_eq l t (r - 1) (by omega) (by omega)
      rw [if_pos c, su, tot]; omega
    · have hr : r ≤ cnt l t := by
        have := cnt_nonneg l t
        by_cases c2 : a.Min ≤ l ∧ l < wa a
        · omega
        · rw [if_neg c2] at h2; omega
      have := dist_su_eq l t r h hr
      rw [if_neg c, su, tot]; omega
theorem su_map (l : Int) : ∀ A : List Actor, su (A.map (sh l)) = tot l A
  | [] => rfl
  | a :: t => by rw [List.map_cons, su, tot, su_map l t]
theorem dist_el (l : Int) : ∀ (A : List Actor) (r : Int) (j : Nat), j < A.length → (dist l r A).getD j 0 = sh l (A.getD j Actor.zero) ∨ ((dist l r A).getD j 0 = sh l (A.getD j Actor.zero) + 1 ∧ (A.getD j Actor.zero).Min ≤ l ∧ l < wa (A.getD j Actor.zero))
  | [], r, j, h => by simp at h
  | a :: t, r, j, h => by
    rw [dist]
    by_cases c : 0 < r ∧ a.Min ≤ l ∧ l < wa a
    · rw [if_pos c]
      cases j with
      | zero => exact .inr ⟨rfl, c.2⟩
      | succ j => simpa using dist_el l t (r - 1) j (by simpa using h)
    · rw [if_neg c]
      cases j with
      | zero => exact .inl rfl
      | succ j => simpa using dist_el l t r j (by simpa using h)
/-- what is known of each grant at a level -/
def Gr (l : Int) (A : List Actor) (G : List Int) : Prop := G.length = A.length ∧ ∀ j : Int, 0 ≤ j → j < A.length → (gd Actor.zero A j).Min ≤ gd 0 G j ∧ gd 0 G j ≤ wa (gd Actor.zero A j) ∧ 0 ≤ gd 0 G j ∧ gd 0 G j ≤ 4294967296 ∧ (gd 0 G j < wa (gd Actor.zero A j) → l ≤ gd 0 G j) ∧ ((gd Actor.zero A j).Min < gd 0 G j → gd 0 G j ≤ l + 1)
theorem gr_dist (l r : Int) (A : List Actor) (hA : ∀ a ∈ A, okA a) : Gr l A (dist l r A) := by
  refine ⟨dist_len l A r, fun j j0 j1 => ?_⟩
  have h := dist_el l A r j.toNat (by omega)
  have hg : ∀ (z : Int) (L : List Int), L.getD j.toNat z = gd z L j := fun _ _ => rfl
  have hg2 : A.getD j.toNat Actor.zero = gd Actor.zero A j := rfl
  rw [hg, hg2] at h
  obtain ⟨_, h2, h3, h4⟩ := hA _ (gd_mem (z := Actor.zero) j0 j1)
  generalize gd Actor.zero A j = a at h h2 h3 h4 ⊢
  have e1 := mx_ge l a.Min
  have e2 := mn_le (mx l a.Min) (wa a)
  have e5 := mx_ge a.Request a.Min
  have e6 := mn_le (mx a.Request a.Min) a.Max
  have w : wa a = mn (mx a.Request a.Min) a.Max := rfl
  have s1 : sh l a = mn (mx l a.Min) (wa a) := rfl
  omega
theorem su_drop (G : List Int) (i : Int) (h0 : 0 ≤ i) (h1 : i < G.length) : su (G.drop i.toNat) = gd 0 G i + su (G.drop (i + 1).toNat) := by
  rw [drop_gd (z := 0) h0 h1, su]
theorem lwant_f (k : Nat) (a : Actor) : law39_want.f k a = some (wa a) := rfl
theorem ff_l1 (l : Int) (A : List Actor) (G : List Int) (hl : (A.length : Int) ≤ 32) (hG : Gr l A G) (e : Int) : ∀ (m k : Nat) (s i : Int), 0 ≤ i → i + m = A.length → m < k → 0 ≤ s → s ≤ 4294967296 * i →
    thermal_Fair.l1 k A G s i = some (.go (s + su (G.drop i.toNat))) ∧ law39_ThermalAllocateIsFair.l2 k (G, e) A s i = some (.go (s + su (G.drop i.toNat)))
  | _, 0, _, _, _, _, hk, _, _ => by omega
  | 0, k + 1, s, i, h0, h1, hk, hs, hs2 => by
    have hG1 := hG.1
    rw [thermal_Fair.l1, law39_ThermalAllocateIsFair.l2, if_neg (by omega), if_neg (by dsimp only; omega), drop_end (by omega), su, Int.add_zero]
    exact ⟨rfl, rfl⟩
  | m + 1, k + 1, s, i, h0, h1, hk, hs, hs2 => by
    have hi : i < (A.length : Int) := by omega
    have hG1 := hG.1
    obtain ⟨g1, g2, g3, g4, _⟩ := hG.2 i h0 hi
    obtain ⟨i1, i2⟩ := ff_l1 l A G hl hG e m k (s + gd 0 G i) (i + 1) (by omega) (by omega) (by omega) (by omega) (by omega)
    refine ⟨?_, ?_⟩
    · rw [thermal_Fair.l1, if_pos hi, ck_t ⟨h0, hi⟩, ck_t ⟨h0, by omega⟩, if_neg (by omega), want_f, bind_s rfl, actorEta, decide_eq_false (by omega), bind_s rfl, if_neg (by decide), ck_t ⟨h0, by omega⟩, wu (s + gd 0 G i) (by omega) (by omega), wi (i + 1) (by omega) (by omega), su_drop G i h0 (by omega), ← Int.add_assoc]
      exact i1
    · rw [law39_ThermalAllocateIsFair.l2]
      dsimp only
      rw [if_pos (show i < (G.length : Int) by omega), ck_t ⟨h0, by omega⟩, ck_t ⟨h0, by omega⟩, if_neg (by omega), lwant_f, bind_s rfl, actorEta, decide_eq_false (by omega), bind_s rfl, if_neg (by decide), ck_t ⟨h0, by omega⟩, wu (s + gd 0 G i) (by omega) (by omega), wi (i + 1) (by omega) (by omega), su_drop G i h0 (by omega), ← Int.add_assoc]
      exact i2
theorem ff_l3 (l : Int) (A : List Actor) (G : List Int) (hl : (A.length : Int) ≤ 32) (hG : Gr l A G) (j : Int) (j0 : 0 ≤ j) (j1 : j < A.length) : ∀ (m k : Nat) (i : Int), 0 ≤ i → i + m = A.length → m < k → thermal_Fair.l3 k A j G i = some (.go ())
  | _, 0, _, _, _, hk => by omega
  | 0, k + 1, i, h0, h1, hk => by rw [thermal_Fair.l3, if_neg (by omega)]
  | m + 1, k + 1, i, h0, h1, hk => by
    have hi : i < (A.length : Int) := by omega
    have hG1 := hG.1
    obtain ⟨g1, g2, g3, g4, g5, g6⟩ := hG.2 i h0 hi
    obtain ⟨f1, f2, f3, f4, f5, f6⟩ := hG.2 j j0 j1
    rw [thermal_Fair.l3, if_pos hi, ck_t ⟨h0, hi⟩, ck_t ⟨j0, by omega⟩, want_f, bind_s rfl, actorEta, wi (i + 1) (by omega) (by omega)]
    have ih := ff_l3 l A G hl hG j j0 j1 m k (i + 1) (by omega) (by omega) (by omega)
    by_cases c1 : gd 0 G j < wa (gd Actor.zero A j)
    · rw [if_pos c1, ck_t ⟨h0, by omega⟩]
      by_cases c2 : (gd Actor.zero A i).Min < gd 0 G i
      · rw [if_pos c2, wu (gd 0 G j + 1) (by omega) (by omega), decide_eq_false (by omega), bind_s rfl, if_neg (by decide)]; exact ih
      · rw [if_neg c2, bind_s rfl, if_neg (by decide)]; exact ih
    · rw [if_neg c1, bind_s rfl, if_neg (by decide)]; exact ih
theorem ff_l2 (l : Int) (A : List Actor) (G : List Int) (hl : (A.length : Int) ≤ 32) (hG : Gr l A G) : ∀ (m k : Nat) (i : Int), 0 ≤ i → i + m = A.length → m + 34 < k → thermal_Fair.l2 k A G i = some (.go ())
  | _, 0, _, _, _, hk => by omega
  | 0, k + 1, i, h0, h1, hk => by rw [thermal_Fair.l2, if_neg (by omega)]
  | m + 1, k + 1, i, h0, h1, hk => by
    have hi : i < (A.length : Int) := by omega
    rw [thermal_Fair.l2, if_pos hi, ck_t ⟨h0, hi⟩, ff_l3 l A G hl hG i h0 hi A.length k 0 (by omega) (by omega) (by omega), bind_s rfl, el_g, wi (i + 1) (by omega) (by omega)]
    exact ff_l2 l A G hl hG m k (i + 1) (by omega) (by omega) (by omega)
theorem lf_l1 (A : List Actor) (hA : ∀ a ∈ A, okA a) (hl : (A.length : Int) ≤ 32) : ∀ (m k : Nat) (s t i : Int), 0 ≤ i → i + m = A.length → m < k → 0 ≤ s → s ≤ 4294967296 * i → 0 ≤ t → t ≤ 4294967296 * i →
    law39_ThermalAllocateIsFair.l1 k A s t i = some (s + tot 0 (A.drop i.toNat), t + tot 4294967296 (A.drop i.toNat))
  | _, 0, _, _, _, _, _, hk, _, _, _, _ => by omega
  | 0, k + 1, s, t, i, h0, h1, hk, hs, hs2, ht, ht2 => by
    rw [law39_ThermalAllocateIsFair.l1, if_neg (by omega), drop_end (by omega), tot, tot, Int.add_zero, Int.add_zero]
  | m + 1, k + 1, s, t, i, h0, h1, hk, hs, hs2, ht, ht2 => by
    have hi : i < (A.length : Int) := by omega
    obtain ⟨_, h2, h3, h4⟩ := hA _ (gd_mem (z := Actor.zero) h0 hi)
    rw [law39_ThermalAllocateIsFair.l1, if_pos hi, ck_t ⟨h0, hi⟩, lwant_f, bind_s rfl, actorEta, drop_gd (z := Actor.zero) h0 hi]
    generalize gd Actor.zero A i = a at h2 h3 h4 ⊢
    have e1 := mx_ge 0 a.Min
    have e2 := mn_le (mx 0 a.Min) (wa a)
    have e3 := mx_ge 4294967296 a.Min
    have e4 := mn_le (mx 4294967296 a.Min) (wa a)
    have e5 := mx_ge a.Request a.Min
    have e6 := mn_le (mx a.Request a.Min) a.Max
    have w : wa a = mn (mx a.Request a.Min) a.Max := rfl
    have s1 : sh 0 a = mn (mx 0 a.Min) (wa a) := rfl
    have s2 : sh 4294967296 a = mn (mx 4294967296 a.Min) (wa a) := rfl
    rw [wu (s + a.Min) (by omega) (by omega), wu (t + wa a) (by omega) (by omega), wi (i + 1) (by omega) (by omega), lf_l1 A hA hl m k _ _ (i + 1) (by omega) (by omega) (by omega) (by omega) (by omega) (by omega) (by omega), tot, tot]
    congr 2 <;> omega
theorem pureThermalAllocateIsFair : law39_ThermalAllocateIsFair.Pure := by
  intro b0 A hb _ hw
  obtain ⟨c0, c1⟩ := inK_u64 hb
  refine ⟨200, ?_⟩
  rw [law39_ThermalAllocateIsFair.f]
  by_cases h : 40 < (A.length : Int)
  · rw [if_pos h, bind_s awake]
  · obtain ⟨L, hL, hL8, ho⟩ := actors_f A hw 200 (by omega)
    have hok : ∀ a ∈ L, okA a := fun a ha => (ho a ha).1
    have hwL : ∀ a ∈ L, 0 ≤ a.Request ∧ 0 ≤ a.Min := fun a ha => ⟨(ho a ha).1.1, (ho a ha).1.2.1⟩
    obtain ⟨b, hb', b0', b1'⟩ : ∃ b, Int.tmod b0 200 = b ∧ 0 ≤ b ∧ b < 200 := by rw [tm _ c0]; exact ⟨_, rfl, by omega, by omega⟩
    obtain ⟨e1, _⟩ := alloc_f L hwL (by omega) b b0' (by omega) 200 (by omega)
    rw [alloc_ok L hok (by omega)] at e1
    have e : L.drop (0 : Int).toNat = L := by simp
    rw [if_neg h, bind_s hL, hb', bind_s e1, lf_l1 L hok (by omega) L.length 200 0 0 0 (by omega) (by omega) (by omega) (by omega) (by omega) (by omega) (by omega), bind_s rfl, e, Int.zero_add, Int.zero_add]
    dsimp only
    by_cases c : b < tot 0 L
    · rw [if_pos c, if_neg (by decide), if_pos rfl, if_pos c, bind_s awake]
    · obtain ⟨l0, l1, l2, l3⟩ := lvl_spec L b c
      have hG := gr_dist (lvl L b) (b - tot (lvl L b) L) L hok
      have hsu : su (dist (lvl L b) (b - tot (lvl L b) L) L) = mn b (tot 4294967296 L) := by
        have hm := mn_le b (tot 4294967296 L)
        by_cases d : lvl L b = 4294967296
        · rw [d] at l2 ⊢
          rw [dist_max L hok, su_map]; omega
        · have l3 : b < tot (lvl L b + 1) L := by rcases l3 with l3 | l3 <;> first | exact absurd l3 d | exact l3
          have t1 := tot_cnt (lvl L b) L hok
          have t2 := tot_mono (lvl L b + 1) 4294967296 (by omega) L
          rw [dist_su_eq _ L _ (by omega) (by omega)]; omega
      generalize dist (lvl L b) (b - tot (lvl L b) L) L = G at hG hsu
      have hG1 := hG.1
      have eG : G.drop (0 : Int).toNat = G := by simp
      obtain ⟨f1, f2⟩ := ff_l1 (lvl L b) L G (by omega) hG 0 L.length 200 0 0 (by omega) (by omega) (by omega) (by omega) (by omega)
      rw [eG, Int.zero_add] at f1 f2
      have hF : thermal_Fair.f 200 b L G = some true := by
        rw [thermal_Fair.f, va_f L (by omega) 200 (by omega), bind_s rfl, if_pos (by rw [decide_eq_true (by omega), ok_vb L hok]; rfl), decide_eq_true (by omega), bind_s rfl, if_neg (by decide), bind_s f1, el_g, total_f L hok (by omega) 4294967296 (by omega) 200 (by omega), bind_s rfl, if_pos hsu, ff_l2 (lvl L b) L G (by omega) hG L.length 200 0 (by omega) (by omega) (by omega), bind_s rfl, el_g]
      rw [if_neg c, if_pos rfl]
      dsimp only
      rw [if_pos (by omega), bind_s hF, bind_s rfl, if_neg (by decide), bind_s f2, el_g, if_pos (by omega), if_pos hsu, bind_s awake]
end Go.Proofs.Ytkcmohmnmapnbaa.X
