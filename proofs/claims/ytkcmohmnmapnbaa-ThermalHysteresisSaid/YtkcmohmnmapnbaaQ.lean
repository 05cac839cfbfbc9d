/- The thermal laws on the pure side. -/
import Derived.Test.YtkcmohmnmapnbaaFa
import Derived.Test.YtkcmohmnmapnbaaSx11
namespace Go.Proofs.Ytkcmohmnmapnbaa.X
open Go Go.Sx

theorem awake : law39_awake.f 200 = some true := by decide +kernel
theorem mod_ (k : Nat) (a b : Int) (h0 : 0 < b) (h1 : b < 9223372036854775808) : ∃ r, help_Mod.f k a b = some r ∧ 0 ≤ r ∧ r < b := by
  have := wu_lo a
  have h2 := Int.emod_lt_of_pos (IntKind.u64.wrap a) h0
  have h3 := Int.emod_nonneg (IntKind.u64.wrap a) (show b ≠ 0 by omega)
  rw [help_Mod.f, wu b (by omega) (by omega), ck_t (by omega), tm _ this, wi _ (by omega) (by omega)]
  exact ⟨_, rfl, h3, h2⟩

/-! ## Trips -/
theorem trips_l1 (a : List Trip) : ∀ (k : Nat) (y : List Trip) (i : Int), 0 ≤ i → (y.length : Int) = i → i ≤ 6 → 6 - i < k → ∃ L, law39_Trips.l1 k a y i = some L ∧ (L.length : Int) ≤ 6
  | 0, _, _, _, _, _, hk => by omega
  | k + 1, y, i, h0, hy, h6, hk => by
    rw [law39_Trips.l1]
    by_cases h : i < (a.length : Int) ∧ i < 6
    · rw [if_pos h.1, decide_eq_true h.2, bind_s rfl, if_pos rfl, ck_t ⟨h0, h.1⟩]
      obtain ⟨m, hm, _, _⟩ := mod_ k (gd Trip.zero a i).Kind 3 (by omega) (by omega)
      rw [bind_s hm, ck_t (by simp; omega), wi (i + 1) (by omega) (by omega)]
      exact trips_l1 a k _ (i + 1) (by omega) (by simp; omega) (by omega) (by omega)
    · have hz : (if i < (a.length : Int) then (some (decide (i < 6))) else (some false)) = some false := by
        by_cases h1 : i < (a.length : Int)
        · rw [if_pos h1, decide_eq_false (fun h2 => h ⟨h1, h2⟩)]
        · rw [if_neg h1]
      rw [hz, bind_s rfl, if_neg (by decide)]
      exact ⟨y, rfl, by omega⟩
theorem trips (a : List Trip) (k : Nat) (hk : 10 ≤ k) : ∃ L, law39_Trips.f k a = some L ∧ (L.length : Int) ≤ 6 := by
  obtain ⟨L, h, h'⟩ := trips_l1 a k [] 0 (by omega) (by simp) (by omega) (by omega)
  exact ⟨L, by rw [law39_Trips.f, bind_s h], h'⟩
theorem ct_l1 (a : List Trip) (hl : (a.length : Int) ≤ 12) : ∀ (k : Nat) (i : Int), 0 ≤ i → i ≤ a.length → (a.length : Int) - i < k → ∃ r, thermal_CheckTrips.l1 k a i = some r ∧ (r = .go () ∨ r = .rt (some 1))
  | 0, _, _, _, hk => by omega
  | k + 1, i, h0, h1, hk => by
    rw [thermal_CheckTrips.l1]
    by_cases h : i < (a.length : Int)
    · rw [if_pos h, ck_t ⟨h0, h⟩, wi (i + 1) (by omega) (by omega)]
      obtain ⟨r, hr, hr'⟩ := ct_l1 a hl k (i + 1) (by omega) (by omega) (by omega)
      refine bind_q (by (repeat' split) <;> exact ⟨_, rfl⟩) (fun x _ => ?_)
      by_cases hx : x = true
      · rw [if_pos hx]; exact ⟨_, rfl, .inr rfl⟩
      · rw [if_neg hx]; exact ⟨r, hr, hr'⟩
    · rw [if_neg h]; exact ⟨_, rfl, .inl rfl⟩
theorem ct (a : List Trip) (k : Nat) (hk : 14 ≤ k) : ∃ r, thermal_CheckTrips.f k a = some r ∧ (r = 0 ∨ r = 1) ∧ (r = 0 → (a.length : Int) ≤ 12) := by
  rw [thermal_CheckTrips.f]
  by_cases h : 12 < (a.length : Int)
  · rw [if_pos h]; exact ⟨1, rfl, .inr rfl, by omega⟩
  · rw [if_neg h]
    obtain ⟨r, hr, hr'⟩ := ct_l1 a (by omega) k 0 (by omega) (by omega) (by omega)
    rw [bind_s hr]
    rcases hr' with rfl | rfl
    · exact ⟨0, rfl, .inl rfl, by omega⟩
    · exact ⟨1, rfl, .inr rfl, by omega⟩
theorem ref_ct_l1 : ∀ (k : Nat) (a : List Trip) (i : Int), ref39_CheckTrips.l1 k a i = thermal_CheckTrips.l1 k a i
  | 0, _, _ => rfl
  | k + 1, a, i => by simp only [ref39_CheckTrips.l1, thermal_CheckTrips.l1, ref_ct_l1 k]
theorem ref_ct (k : Nat) (a : List Trip) : ref39_CheckTrips.f k a = thermal_CheckTrips.f k a := by simp only [ref39_CheckTrips.f, thermal_CheckTrips.f, ref_ct_l1]
theorem nz (a : List Trip) (l : Int) (k : Nat) (hk : 14 ≤ k) :
    (∃ c, thermal_NewZone.f k a l = some (some (a, List.replicate (a.length : Int).toNat false, l, 0), 0) ∧ ref39_NewZone.f k a l = some (some (List.replicate (a.length : Int).toNat false, l, 0), 0) ∧ thermal_CheckTrips.f k a = some c) ∨
    (∃ c, thermal_NewZone.f k a l = some (none, 1) ∧ ref39_NewZone.f k a l = some (none, 1) ∧ thermal_CheckTrips.f k a = some c) := by
  obtain ⟨c, hc, hc', hl⟩ := ct a k hk
  rw [thermal_NewZone.f, ref39_NewZone.f, ref_ct, hc]
  simp only [Option.bind_some]
  rcases hc' with rfl | rfl
  · have hl := hl rfl
    simp only [if_true]
    by_cases h1 : l < 0
    · exact .inr ⟨0, by simp [h1], by simp [h1], rfl⟩
    · by_cases h2 : 64 < l
      · exact .inr ⟨0, by simp [h1, h2], by simp [h1, h2], rfl⟩
      · refine .inl ⟨0, ?_, ?_, rfl⟩
        · simp only [if_neg h1, decide_eq_false h2, Option.bind_some, Bool.false_eq_true, if_false, slices_Clone_api_Trip_api_Trip.f]
          rw [ck_t (by simp; omega)]
          simp only [Option.bind_some]
          rw [ck_t (by omega)]
          simp
        · simp only [if_neg h1, decide_eq_false h2, Option.bind_some, Bool.false_eq_true, if_false]
          rw [ck_t (by omega)]
  · exact .inr ⟨1, by simp, by simp, rfl⟩

theorem pureThermalTripsAgree : law39_ThermalTripsAgree.Pure := by
  intro a l k x _ ha _ _ _
  refine ⟨200, ?_⟩
  rw [law39_ThermalTripsAgree.f]
  by_cases h : 20 < (a.length : Int)
  · rw [if_pos h, bind_s awake]
  · obtain ⟨L, hL, hl6⟩ := trips a 200 (by decide)
    obtain ⟨X, hX⟩ : ∃ X, (if 0 < (L.length : Int) then ((help_Mod.f 200 x.Kind 5).bind fun s14 => ((help_Mod.f 200 k (L.length : Int)).bind fun s16 => (ck ((0 : Int) ≤ s16 ∧ s16 < (L.length : Int)) (some (L.set s16.toNat (⟨s14, x.Temperature, x.Hysteresis⟩ : Trip)))))) else (some L)) = some X := by
      by_cases h1 : 0 < (L.length : Int)
      · obtain ⟨m1, e1, _, _⟩ := mod_ 200 x.Kind 5 (by omega) (by omega)
        obtain ⟨m2, e2, g1, g2⟩ := mod_ 200 k L.length (by omega) (by omega)
        rw [if_pos h1, bind_s e1, bind_s e2, ck_t ⟨g1, g2⟩]
        exact ⟨_, rfl⟩
      · rw [if_neg h1]; exact ⟨_, rfl⟩
    obtain ⟨m, hm, _, _⟩ := mod_ 200 l 70 (by omega) (by omega)
    rw [if_neg h, bind_s hL, bind_s hX]
    rcases nz a l 200 (by decide) with ⟨c, e1, e2, e3⟩ | ⟨c, e1, e2, e3⟩ <;> rcases nz X (IntKind.i64.wrap (m - 2)) 200 (by decide) with ⟨d, f1, f2, f3⟩ | ⟨d, f1, f2, f3⟩ <;>
      simp [e1, e2, e3, f1, f2, f3, hm, ref_ct, awake]
/-! ## Zone -/
/-- what an update makes of the active points, from point i on -/
def zs (T : List Trip) (t : Int) (L : List Bool) (i : Int) : List Bool :=
  if (gd Trip.zero T i).Temperature ≤ t then L.set i.toNat true
  else if t < IntKind.i64.wrap ((gd Trip.zero T i).Temperature - (gd Trip.zero T i).Hysteresis) then L.set i.toNat false else L
def zu (T : List Trip) (t : Int) : Nat → List Bool → Int → List Bool
  | 0, L, _ => L
  | n + 1, L, i => zu T t n (zs T t L i) (i + 1)
def af (T : List Trip) (m : Int) (L : List Bool) : Nat → Int → Bool
  | 0, _ => false
  | n + 1, i => (decide ((gd Trip.zero T i).Kind = m) && gd false L i) || af T m L n (i + 1)
theorem zs_len (T : List Trip) (t : Int) (L : List Bool) (i : Int) : (zs T t L i).length = L.length := by
  unfold zs; (repeat' split) <;> simp
theorem zs_lt (T : List Trip) (t : Int) (L : List Bool) (i j : Int) (h0 : 0 ≤ i) (h1 : i < L.length) (hj : 0 ≤ j) (h : j < i) : gd false (zs T t L i) j = gd false L j := by
  unfold zs
  (repeat' split) <;> first | rfl | exact gd_set_other h0 h1 hj (by omega)
theorem zu_len (T : List Trip) (t : Int) : ∀ (n : Nat) (L : List Bool) (i : Int), (zu T t n L i).length = L.length
  | 0, _, _ => rfl
  | n + 1, L, i => by rw [zu, zu_len T t n, zs_len]
theorem zu_lt (T : List Trip) (t : Int) : ∀ (n : Nat) (L : List Bool) (i j : Int), 0 ≤ i → i + n ≤ L.length → 0 ≤ j → j < i → gd false (zu T t n L i) j = gd false L j
  | 0, _, _, _, _, _, _, _ => rfl
  | n + 1, L, i, j, h0, h1, hj, h => by
    rw [zu, zu_lt T t n _ (i + 1) j (by omega) (by rw [zs_len]; omega) hj (by omega), zs_lt T t L i j h0 (by omega) hj h]
theorem up_l1 (T : List Trip) (t : Int) (hl : (T.length : Int) ≤ 100) : ∀ (n k : Nat) (L : List Bool) (i : Int), 0 ≤ i → i + n = T.length → L.length = T.length → n < k →
    thermal_Zone_Update.l1 k T t L i = some (zu T t n L i)
  | _, 0, _, _, _, _, _, hk => by omega
  | 0, k + 1, L, i, h0, h1, h2, hk => by rw [thermal_Zone_Update.l1, if_neg (by omega)]; rfl
  | n + 1, k + 1, L, i, h0, h1, h2, hk => by
    rw [thermal_Zone_Update.l1, if_pos (by omega), ck_t ⟨h0, by omega⟩, ck_t ⟨h0, by omega⟩, ck_t ⟨h0, by omega⟩, wi (i + 1) (by omega) (by omega)]
    have e : (if ((gd Trip.zero T i).Temperature) ≤ t then some (L.set i.toNat true) else (if t < (IntKind.i64.wrap (((gd Trip.zero T i).Temperature) - ((gd Trip.zero T i).Hysteresis))) then some (L.set i.toNat false) else (some L))) = some (zs T t L i) := by
      unfold zs; (repeat' split) <;> rfl
    rw [bind_s e, up_l1 T t hl n k _ (i + 1) (by omega) (by omega) (by rw [zs_len]; exact h2) (by omega)]
    rfl
theorem any_l1 (T : List Trip) (m : Int) (L : List Bool) (hL : L.length = T.length) (hl : (T.length : Int) ≤ 100) : ∀ (n k : Nat) (i : Int), 0 ≤ i → i + n = T.length → n < k →
    thermal_Zone_any.l1 k T m L i = some (if af T m L n i = true then .rt (some true) else .go ())
  | _, 0, _, _, _, hk => by omega
  | 0, k + 1, i, h0, h1, hk => by rw [thermal_Zone_any.l1, if_neg (by omega)]; rfl
  | n + 1, k + 1, i, h0, h1, hk => by
    rw [thermal_Zone_any.l1, if_pos (by omega), ck_t ⟨h0, by omega⟩, ck_t ⟨h0, by omega⟩, wi (i + 1) (by omega) (by omega), any_l1 T m L hL hl n k (i + 1) (by omega) (by omega) (by omega)]
    by_cases h : (gd Trip.zero T i).Kind = m
    · have e : af T m L (n + 1) i = (gd false L i || af T m L n (i + 1)) := by simp [af, h]
      rw [if_pos h, bind_s rfl, e]
      cases gd false L i <;> simp
    · have e : af T m L (n + 1) i = af T m L n (i + 1) := by simp [af, h]
      rw [if_neg h, bind_s rfl, e]
      simp
theorem any_f (T : List Trip) (m : Int) (L : List Bool) (hL : L.length = T.length) (hl : (T.length : Int) ≤ 100) (k : Nat) (hk : 102 ≤ k) (x y : Int) : thermal_Zone_any.f k T L x y m = some (af T m L T.length 0) := by
  rw [thermal_Zone_any.f, any_l1 T m L hL hl T.length k 0 (by omega) (by omega) (by omega), bind_s rfl]
  cases af T m L T.length 0 <;> rfl
theorem ref_l1 (T : List Trip) (t : Int) (hl : (T.length : Int) ≤ 100) : ∀ (n k : Nat) (L : List Bool) (p c : Bool) (i : Int), 0 ≤ i → i + n = T.length → L.length = T.length → n < k →
    ref39_Zone_Update.l1 k T t L p c i = some (zu T t n L i, p || af T 2 (zu T t n L i) n i, c || af T 3 (zu T t n L i) n i)
  | _, 0, _, _, _, _, _, _, _, hk => by omega
  | 0, k + 1, L, p, c, i, h0, h1, h2, hk => by rw [ref39_Zone_Update.l1, if_neg (by omega)]; simp [zu, af]
  | n + 1, k + 1, L, p, c, i, h0, h1, h2, hk => by
    have g : gd false (zu T t n (zs T t L i) (i + 1)) i = gd false (zs T t L i) i := zu_lt T t n _ (i + 1) i (by omega) (by rw [zs_len]; omega) h0 (by omega)
    have hz : ((zs T t L i).length : Int) = T.length := by rw [zs_len, h2]
    have e : (if ((gd Trip.zero T i).Temperature) ≤ t then some (L.set i.toNat true) else (if t < (IntKind.i64.wrap (((gd Trip.zero T i).Temperature) - ((gd Trip.zero T i).Hysteresis))) then some (L.set i.toNat false) else (some L))) = some (zs T t L i) := by
      unfold zs; (repeat' split) <;> rfl
    rw [ref39_Zone_Update.l1, if_pos (by omega), ck_t ⟨h0, by omega⟩, ck_t ⟨h0, by omega⟩, ck_t ⟨h0, by omega⟩, wi (i + 1) (by omega) (by omega), bind_s e]
    have f1 : (0 : Int) ≤ i ∧ i < ((zs T t L i).length : Int) := ⟨h0, by omega⟩
    have f2 : (0 : Int) ≤ i ∧ i < (T.length : Int) := ⟨h0, by omega⟩
    simp only [ck, if_pos f1, if_pos f2]
    have ih := fun p c => ref_l1 T t hl n k (zs T t L i) p c (i + 1) (by omega) (by omega) (by rw [zs_len]; exact h2) (by omega)
    simp only [zu, af, g]
    cases p <;> cases c <;> cases gd false (zs T t L i) i <;> simp [ih]
theorem up_f (T : List Trip) (t : Int) (hl : (T.length : Int) ≤ 100) (L : List Bool) (hL : L.length = T.length) (n v : Int) (k : Nat) (hk : 102 ≤ k) :
    ∃ v' w c e, thermal_Zone_Update.f k T L n v t = some (v', (if t < -134217728 ∨ 134217728 < t then L else zu T t T.length L 0), w, c, e) ∧ ref39_Zone_Update.f k T L n v t = some (v', (if t < -134217728 ∨ 134217728 < t then L else zu T t T.length L 0), w, c, e) := by
  rw [thermal_Zone_Update.f, ref39_Zone_Update.f]
  by_cases h : t < -134217728 ∨ 134217728 < t
  · have e : (if t < (-134217728) then (some true) else (some (decide (134217728 < t)))) = some true := by
      by_cases h1 : t < -134217728
      · rw [if_pos h1]
      · rw [if_neg h1, decide_eq_true (by omega)]
    rw [bind_s e, bind_s e, if_pos (show true = true from rfl), if_pos (show true = true from rfl), if_pos h]
    exact ⟨_, _, _, _, rfl, rfl⟩
  · have e : (if t < (-134217728) then (some true) else (some (decide (134217728 < t)))) = some false := by
      rw [if_neg (by omega), decide_eq_false (by omega)]
    have hz := zu_len T t T.length L 0
    rw [bind_s e, bind_s e, if_neg (show ¬ (false = true) by decide), if_neg (show ¬ (false = true) by decide), if_neg h, bind_s (up_l1 T t hl T.length k L 0 (by omega) (by omega) hL (by omega)), bind_s (ref_l1 T t hl T.length k L false false 0 (by omega) (by omega) hL (by omega))]
    rw [any_f T 2 _ (hz.trans hL) hl k hk]
    simp only [Bool.false_or, Option.bind_some]
    cases hx : af T 2 (zu T t T.length L 0) T.length 0
    · simp only [Bool.false_eq_true, if_false, Option.bind_some]
      rw [any_f T 3 _ (hz.trans hL) hl k hk]
      exact ⟨_, _, _, _, rfl, rfl⟩
    · simp only [if_true, Option.bind_some]
      rw [any_f T 3 _ (hz.trans hL) hl k hk]
      exact ⟨_, _, _, _, rfl, rfl⟩
/-! ## ZoneAgrees -/
def okT (x : Trip) : Prop := 1 ≤ x.Kind ∧ x.Kind ≤ 3 ∧ -50 ≤ x.Temperature ∧ x.Temperature ≤ 50 ∧ 0 ≤ x.Hysteresis ∧ x.Hysteresis ≤ 19
theorem tripsOk_l1 (a : List Trip) : ∀ (k : Nat) (y : List Trip) (i : Int), 0 ≤ i → (y.length : Int) = i → i ≤ 6 → 6 - i < k → (∀ x ∈ y, okT x) → ∃ L, law39_Trips.l1 k a y i = some L ∧ (L.length : Int) ≤ 6 ∧ ∀ x ∈ L, okT x
  | 0, _, _, _, _, _, hk, _ => by omega
  | k + 1, y, i, h0, hy, h6, hk, ho => by
    rw [law39_Trips.l1]
    by_cases h : i < (a.length : Int) ∧ i < 6
    · rw [if_pos h.1, decide_eq_true h.2, bind_s rfl, if_pos rfl, ck_t ⟨h0, h.1⟩]
      obtain ⟨m, hm, m0, m1⟩ := mod_ k (gd Trip.zero a i).Kind 3 (by omega) (by omega)
      have u1 := wu_lo (gd Trip.zero a i).Temperature
      have u2 := wu_lo (gd Trip.zero a i).Hysteresis
      rw [bind_s hm, ck_t (by simp; omega), wi (i + 1) (by omega) (by omega), tm _ u1, tm _ u2, wi (1 + m) (by omega) (by omega), wi (_ % 101) (by omega) (by omega), wi (_ - 50) (by omega) (by omega), wi (_ % 20) (by omega) (by omega)]
      refine tripsOk_l1 a k _ (i + 1) (by omega) (by simp; omega) (by omega) (by omega) (fun x hx => ?_)
      rcases List.mem_append.1 hx with hx | hx
      · exact ho x hx
      · rw [List.mem_singleton.1 hx]
        refine ⟨?_, ?_, ?_, ?_, ?_, ?_⟩ <;> dsimp only <;> omega
    · have hz : (if i < (a.length : Int) then (some (decide (i < 6))) else (some false)) = some false := by
        by_cases h1 : i < (a.length : Int)
        · rw [if_pos h1, decide_eq_false (fun h2 => h ⟨h1, h2⟩)]
        · rw [if_neg h1]
      rw [hz, bind_s rfl, if_neg (by decide)]
      exact ⟨y, rfl, by omega, ho⟩
theorem tripsOk (a : List Trip) (k : Nat) (hk : 10 ≤ k) : ∃ L, law39_Trips.f k a = some L ∧ (L.length : Int) ≤ 6 ∧ ∀ x ∈ L, okT x := by
  obtain ⟨L, h, h'⟩ := tripsOk_l1 a k [] 0 (by omega) (by simp) (by omega) (by omega) (fun x hx => by cases hx)
  exact ⟨L, by rw [law39_Trips.f, bind_s h], h'⟩
theorem ctOk_l1 (a : List Trip) (hl : (a.length : Int) ≤ 12) (ho : ∀ x ∈ a, okT x) : ∀ (k : Nat) (i : Int), 0 ≤ i → i ≤ a.length → (a.length : Int) - i < k → thermal_CheckTrips.l1 k a i = some (.go ())
  | 0, _, _, _, hk => by omega
  | k + 1, i, h0, h1, hk => by
    rw [thermal_CheckTrips.l1]
    by_cases h : i < (a.length : Int)
    · obtain ⟨g1, g2, g3, g4, g5, g6⟩ := ho _ (gd_mem (z := Trip.zero) h0 h)
      rw [if_pos h, ck_t ⟨h0, h⟩, wi (i + 1) (by omega) (by omega), if_neg (by omega), if_neg (by omega), if_neg (by omega), if_neg (by omega), if_neg (by omega), decide_eq_false (by omega), bind_s rfl, if_neg (by decide)]
      exact ctOk_l1 a hl ho k (i + 1) (by omega) (by omega) (by omega)
    · rw [if_neg h]
theorem nzOk (a : List Trip) (l : Int) (k : Nat) (hk : 14 ≤ k) (hl : (a.length : Int) ≤ 6) (ho : ∀ x ∈ a, okT x) (l0 : 0 ≤ l) (l1 : l ≤ 64) :
    thermal_NewZone.f k a l = some (some (a, List.replicate (a.length : Int).toNat false, l, 0), 0) ∧ ref39_NewZone.f k a l = some (some (List.replicate (a.length : Int).toNat false, l, 0), 0) := by
  have hc : thermal_CheckTrips.f k a = some 0 := by
    rw [thermal_CheckTrips.f, if_neg (by omega), bind_s (ctOk_l1 a (by omega) ho k 0 (by omega) (by omega) (by omega)), el_g]
  rw [thermal_NewZone.f, ref39_NewZone.f, ref_ct, hc]
  simp only [Option.bind_some, if_true, if_neg (show ¬ l < 0 by omega), decide_eq_false (show ¬ 64 < l by omega), Bool.false_eq_true, if_false, slices_Clone_api_Trip_api_Trip.f]
  refine ⟨?_, ?_⟩
  · rw [ck_t (by simp; omega)]
    simp only [Option.bind_some]
    rw [ck_t (by omega)]
    simp
  · rw [ck_t (by omega)]
theorem eqb_l1 (a : List Bool) (hl : (a.length : Int) ≤ 100) : ∀ (k : Nat) (i : Int), 0 ≤ i → i ≤ a.length → (a.length : Int) - i < k → help_Equal_bool.l1 k a a i = some (.go ())
  | 0, _, _, _, hk => by omega
  | k + 1, i, h0, h1, hk => by
    rw [help_Equal_bool.l1]
    by_cases h : i < (a.length : Int)
    · rw [if_pos h, ck_t ⟨h0, h⟩, ck_t ⟨h0, h⟩, wi (i + 1) (by omega) (by omega), if_pos (by simp)]
      exact eqb_l1 a hl k (i + 1) (by omega) (by omega) (by omega)
    · rw [if_neg h]
theorem eqb (a : List Bool) (hl : (a.length : Int) ≤ 100) (k : Nat) (hk : 102 ≤ k) : help_Equal_bool.f k a a = some true := by
  rw [help_Equal_bool.f, if_pos rfl, bind_s (eqb_l1 a hl k 0 (by omega) (by omega) (by omega)), el_g]
theorem deg (k : Nat) (x i : Int) : ∃ d, law39_degree.f k x i = some d := by
  rw [law39_degree.f]; (repeat' split) <;> exact ⟨_, rfl⟩
theorem za_l2 (a2 : List Int) (h2 : (a2.length : Int) ≤ 60) (T : List Trip) (hT : (T.length : Int) ≤ 6) (A0 : List Bool) (n v0 : Int) : ∀ (k : Nat) (A : List Bool) (v i : Int), A.length = T.length → 0 ≤ i → i ≤ a2.length → (a2.length : Int) - i + 104 < k →
    law39_ThermalZoneAgrees.l2 k a2 (T, A0, n, v0) T (A0, n, v0) A v A v i = some (.go ())
  | 0, _, _, _, _, _, _, hk => by omega
  | k + 1, A, v, i, hA, h0, h1, hk => by
    rw [law39_ThermalZoneAgrees.l2]
    by_cases h : i < (a2.length : Int)
    · obtain ⟨d, hd⟩ := deg k (gd 0 a2 i) i
      obtain ⟨v', w, c, e, u1, u2⟩ := up_f T d (by omega) A hA n v k (by omega)
      obtain ⟨A', hA'⟩ : ∃ A', (if d < -134217728 ∨ 134217728 < d then A else zu T d T.length A 0) = A' := ⟨_, rfl⟩
      rw [hA'] at u1 u2
      have hl' : A'.length = T.length := by
        rw [← hA']; split
        · exact hA
        · rw [zu_len]; exact hA
      have ih := za_l2 a2 h2 T hT A0 n v0 k A' v' (i + 1) hl' (by omega) (by omega) (by omega)
      rw [if_pos h, ck_t ⟨h0, h⟩, bind_s hd]
      dsimp only
      rw [bind_s u1, bind_s u2]
      dsimp only
      have a1 : thermal_Zone_Active.f k T A' n v' = some A' := by
        rw [thermal_Zone_Active.f, slices_Clone_bool_bool.f]
        simp only [ck, List.length_nil, List.nil_append]
        rw [if_pos (by simp; omega)]
        rfl
      have a2' : ref39_Zone_Active.f k T A' n v' = some A' := by
        rw [ref39_Zone_Active.f]
        simp only [ck, List.length_nil, List.nil_append]
        rw [if_pos (by simp; omega)]
      rw [if_pos rfl, if_pos (by simp), if_pos rfl, thermal_Zone_Level.f, ref39_Zone_Level.f, bind_s rfl, bind_s rfl, if_pos rfl, bind_s a1, bind_s a2', bind_s (eqb A' (by omega) k (by omega)), bind_s rfl, if_neg (by decide), wi (i + 1) (by omega) (by omega), ih]
    · rw [if_neg h]
theorem pureThermalZoneAgrees : law39_ThermalZoneAgrees.Pure := by
  intro a l ts _ ha _ _ _
  refine ⟨200, ?_⟩
  rw [law39_ThermalZoneAgrees.f]
  by_cases h : 20 < (a.length : Int)
  · rw [if_pos h, bind_s rfl, if_pos rfl, bind_s awake]
  · by_cases h2 : 60 < (ts.length : Int)
    · rw [if_neg h, decide_eq_true h2, bind_s rfl, if_pos rfl, bind_s awake]
    · obtain ⟨L, hL, hl6, ho⟩ := tripsOk a 200 (by decide)
      obtain ⟨n, hn, n0, n1⟩ := mod_ 200 l 8 (by omega) (by omega)
      obtain ⟨z1, z2⟩ := nzOk L n 200 (by decide) hl6 ho n0 (by omega)
      rw [if_neg h, decide_eq_false h2, bind_s rfl, if_neg (by decide), bind_s hL, bind_s hn, bind_s z1]
      dsimp only [Option.elim]
      rw [bind_s z2]
      dsimp only
      rw [if_pos rfl, if_pos rfl, bind_s rfl, if_neg (by decide), bind_s (za_l2 ts (by omega) L hl6 _ n 0 200 _ 0 0 (by simp) (by omega) (by omega) (by omega)), el_g, bind_s awake]
/-! ## Hysteresis -/
theorem zs_ne (T : List Trip) (t : Int) (L : List Bool) (i j : Int) (h0 : 0 ≤ i) (h1 : i < L.length) (hj : 0 ≤ j) (h : j ≠ i) : gd false (zs T t L i) j = gd false L j := by
  unfold zs
  (repeat' split) <;> first | rfl | exact gd_set_other h0 h1 hj h
theorem zs_at (T : List Trip) (t : Int) (L : List Bool) (i : Int) (h0 : 0 ≤ i) (h1 : i < L.length) : gd false (zs T t L i) i = if (gd Trip.zero T i).Temperature ≤ t then true else if t < IntKind.i64.wrap ((gd Trip.zero T i).Temperature - (gd Trip.zero T i).Hysteresis) then false else gd false L i := by
  unfold zs
  (repeat' split) <;> first | rfl | exact gd_set_same h0 h1
theorem zu_at (T : List Trip) (t : Int) : ∀ (n : Nat) (L : List Bool) (i j : Int), 0 ≤ i → i + n ≤ L.length → i ≤ j → j < i + n →
    gd false (zu T t n L i) j = if (gd Trip.zero T j).Temperature ≤ t then true else if t < IntKind.i64.wrap ((gd Trip.zero T j).Temperature - (gd Trip.zero T j).Hysteresis) then false else gd false L j
  | 0, _, _, _, _, _, _, _ => by omega
  | n + 1, L, i, j, h0, h1, h2, h3 => by
    rw [zu]
    by_cases h : j = i
    · subst h
      rw [zu_lt T t n _ (j + 1) j (by omega) (by rw [zs_len]; omega) h0 (by omega), zs_at T t L j h0 (by omega)]
    · rw [zu_at T t n _ (i + 1) j (by omega) (by rw [zs_len]; omega) (by omega) (by omega), zs_ne T t L i j h0 (by omega) (by omega) h]
theorem hy_l2 (T : List Trip) (hT : (T.length : Int) ≤ 6) (ho : ∀ x ∈ T, okT x) (d : Int) (A' A : List Bool) (hA' : A'.length = T.length) (hA : A.length = T.length)
    (hat : ∀ j : Int, 0 ≤ j → j < T.length → gd false A' j = if (gd Trip.zero T j).Temperature ≤ d then true else if d < (gd Trip.zero T j).Temperature - (gd Trip.zero T j).Hysteresis then false else gd false A j) :
    ∀ (n k : Nat) (p a : Bool) (i : Int), 0 ≤ i → i + n = T.length → n < k → law39_ThermalHysteresis.l2 k T d A' A p a i = some (.go (p || af T 2 A' n i, a || af T 3 A' n i))
  | _, 0, _, _, _, _, _, hk => by omega
  | 0, k + 1, p, a, i, h0, h1, hk => by rw [law39_ThermalHysteresis.l2, if_neg (by omega)]; simp [af]
  | n + 1, k + 1, p, a, i, h0, h1, hk => by
    have o := ho _ (gd_mem (z := Trip.zero) (xs := T) (i := i) h0 (by omega))
    have ht := hat i h0 (by omega)
    have ih := fun p a => hy_l2 T hT ho d A' A hA' hA hat n k p a (i + 1) (by omega) (by omega) (by omega)
    obtain ⟨o1, o2, o3, o4, o5, o6⟩ := o
    have f1 : (0 : Int) ≤ i ∧ i < (T.length : Int) := ⟨h0, by omega⟩
    have f2 : (0 : Int) ≤ i ∧ i < (A'.length : Int) := ⟨h0, by omega⟩
    have f3 : (0 : Int) ≤ i ∧ i < (A.length : Int) := ⟨h0, by omega⟩
    have ew : IntKind.i64.wrap ((gd Trip.zero T i).Temperature - (gd Trip.zero T i).Hysteresis) = (gd Trip.zero T i).Temperature - (gd Trip.zero T i).Hysteresis := wi _ (by omega) (by omega)
    rw [law39_ThermalHysteresis.l2, if_pos f1.2, wi (i + 1) (by omega) (by omega), ew]
    simp only [ck, if_pos f1, if_pos f2, if_pos f3, ht]
    by_cases c1 : (gd Trip.zero T i).Temperature ≤ d
    · have c2 : ¬ d < (gd Trip.zero T i).Temperature - (gd Trip.zero T i).Hysteresis := by omega
      have c3 : ¬ d < (gd Trip.zero T i).Temperature := by omega
      simp only [af, ht]
      cases p <;> cases a <;> simp [c1, c2, c3, ih, Ex.el]
    · by_cases c2 : d < (gd Trip.zero T i).Temperature - (gd Trip.zero T i).Hysteresis
      · have c4 : ¬ (gd Trip.zero T i).Temperature - (gd Trip.zero T i).Hysteresis ≤ d := by omega
        simp only [af, ht]
        cases p <;> cases a <;> simp [c1, c2, c4, ih, Ex.el]
      · have c4 : (gd Trip.zero T i).Temperature - (gd Trip.zero T i).Hysteresis ≤ d := by omega
        have c3 : d < (gd Trip.zero T i).Temperature := by omega
        simp only [af, ht]
        cases p <;> cases a <;> cases gd false A i <;> simp [c1, c2, c3, c4, ih, Ex.el]
theorem up_ex (T : List Trip) (t : Int) (hl : (T.length : Int) ≤ 100) (L : List Bool) (hL : L.length = T.length) (n v : Int) (k : Nat) (hk : 102 ≤ k) (h1 : -134217728 ≤ t) (h2 : t ≤ 134217728) :
    thermal_Zone_Update.f k T L n v t = some ((if af T 2 (zu T t T.length L 0) T.length 0 = true then mn (IntKind.i64.wrap (v + 1)) n else mx (IntKind.i64.wrap (v - 1)) 0), zu T t T.length L 0, (if af T 2 (zu T t T.length L 0) T.length 0 = true then mn (IntKind.i64.wrap (v + 1)) n else mx (IntKind.i64.wrap (v - 1)) 0), af T 3 (zu T t T.length L 0) T.length 0, 0) := by
  have e : (if t < (-134217728) then (some true) else (some (decide (134217728 < t)))) = some false := by
    rw [if_neg (by omega), decide_eq_false (by omega)]
  have hz := zu_len T t T.length L 0
  rw [thermal_Zone_Update.f, bind_s e, if_neg (show ¬ (false = true) by decide), bind_s (up_l1 T t hl T.length k L 0 (by omega) (by omega) hL (by omega)), any_f T 2 _ (hz.trans hL) hl k hk]
  simp only [Option.bind_some]
  cases hx : af T 2 (zu T t T.length L 0) T.length 0
  · simp only [Bool.false_eq_true, if_false, Option.bind_some]
    rw [any_f T 3 _ (hz.trans hL) hl k hk]
    rfl
  · simp only [if_true, Option.bind_some]
    rw [any_f T 3 _ (hz.trans hL) hl k hk]
    rfl
theorem deg0 (k : Nat) (x : Int) : ∃ d, law39_degree.f k x 0 = some d ∧ -80 ≤ d ∧ d ≤ 60 := by
  have u := wu_lo x
  rw [law39_degree.f, if_neg (by decide), tm _ u, wi (_ % 141) (by omega) (by omega), wi (_ - 80) (by omega) (by omega)]
  exact ⟨_, rfl, by omega, by omega⟩
theorem hy_l1 (a2 : List Int) (h2 : (a2.length : Int) ≤ 60) (T : List Trip) (hT : (T.length : Int) ≤ 6) (ho : ∀ x ∈ T, okT x) (A0 : List Bool) (n v0 : Int) (n0 : 0 ≤ n) (n1 : n ≤ 7) : ∀ (k : Nat) (A : List Bool) (v i : Int), A.length = T.length → 0 ≤ v → v ≤ n → 0 ≤ i → i ≤ a2.length → (a2.length : Int) - i + 104 < k →
    law39_ThermalHysteresis.l1 k a2 (T, A0, n, v0) T n A v A v i = some (.go ())
  | 0, _, _, _, _, _, _, _, _, hk => by omega
  | k + 1, A, v, i, hA, v1, v2, h0, h1, hk => by
    rw [law39_ThermalHysteresis.l1]
    by_cases h : i < (a2.length : Int)
    · obtain ⟨d, hd, d0, d1⟩ := deg0 k (gd 0 a2 i)
      have u := up_ex T d (by omega) A hA n v k (by omega) (by omega) (by omega)
      obtain ⟨A', hA'⟩ : ∃ A', zu T d T.length A 0 = A' := ⟨_, rfl⟩
      have hat : ∀ j : Int, 0 ≤ j → j < T.length → gd false A' j = if (gd Trip.zero T j).Temperature ≤ d then true else if d < (gd Trip.zero T j).Temperature - (gd Trip.zero T j).Hysteresis then false else gd false A j := fun j j0 j1 => by
        obtain ⟨o1, o2, o3, o4, o5, o6⟩ := ho _ (gd_mem (z := Trip.zero) (xs := T) j0 j1)
        have := zu_at T d T.length A 0 j (by omega) (by omega) (by omega) (by omega)
        rw [hA', wi ((gd Trip.zero T j).Temperature - (gd Trip.zero T j).Hysteresis) (by omega) (by omega)] at this
        exact this
      have hl' : A'.length = T.length := by rw [← hA', zu_len]; exact hA
      rw [hA', wi (v + 1) (by omega) (by omega), wi (v - 1) (by omega) (by omega)] at u
      obtain ⟨v', hv'⟩ : ∃ v', (if af T 2 A' T.length 0 = true then mn (v + 1) n else mx (v - 1) 0) = v' := ⟨_, rfl⟩
      rw [hv'] at u
      have bv : 0 ≤ v' ∧ v' ≤ n ∧ v' ≤ v + 1 ∧ v - 1 ≤ v' ∧ (af T 2 A' T.length 0 = true → v ≤ v') ∧ (af T 2 A' T.length 0 = false → v' ≤ v) := by
        have p := mn_le (v + 1) n
        have q := mx_ge (v - 1) 0
        cases hx : af T 2 A' T.length 0
        · rw [hx, if_neg (by decide)] at hv'
          refine ⟨by omega, by omega, by omega, by omega, by simp, fun _ => by omega⟩
        · rw [hx, if_pos rfl] at hv'
          refine ⟨by omega, by omega, by omega, by omega, fun _ => by omega, by simp⟩
      obtain ⟨b1, b2, b3, b4, b5, b6⟩ := bv
      have ih := hy_l1 a2 h2 T hT ho A0 n v0 n0 n1 k A' v' (i + 1) hl' b1 b2 (by omega) (by omega) (by omega)
      have a1 : thermal_Zone_Active.f k T A' n v' = some A' := by
        rw [thermal_Zone_Active.f, slices_Clone_bool_bool.f]
        simp only [ck, List.length_nil, List.nil_append]
        rw [if_pos (by simp; omega)]
        rfl
      have inner := hy_l2 T hT ho d A' A hl' hA hat T.length k false false 0 (by omega) (by omega) (by omega)
      simp only [Bool.false_or] at inner
      rw [if_pos h, ck_t ⟨h0, h⟩, bind_s hd]
      dsimp only
      rw [bind_s u]
      dsimp only
      rw [bind_s a1, if_pos rfl, if_pos (by omega), if_neg (by omega), if_neg (by omega), wi (v + 1) (by omega) (by omega), if_neg (by omega), wi (v - 1) (by omega) (by omega), if_neg (by omega), thermal_Zone_Level.f, bind_s rfl, decide_eq_true rfl, bind_s rfl, if_neg (by decide), bind_s inner, el_g]
      dsimp only
      rw [if_pos (by simp)]
      cases hx : af T 2 A' T.length 0
      · have := b6 hx
        rw [if_neg (by decide), decide_eq_false (by omega), bind_s rfl, if_neg (by decide), bind_s rfl, el_g, wi (i + 1) (by omega) (by omega)]
        exact ih
      · have := b5 hx
        rw [if_pos rfl, if_neg (by omega), bind_s rfl, if_neg (by decide), bind_s rfl, el_g, wi (i + 1) (by omega) (by omega)]
        exact ih
    · rw [if_neg h]
theorem pureThermalHysteresis : law39_ThermalHysteresis.Pure := by
  intro a l ts _ ha _ _ _
  refine ⟨200, ?_⟩
  rw [law39_ThermalHysteresis.f]
  by_cases h : 20 < (a.length : Int)
  · rw [if_pos h, bind_s rfl, if_pos rfl, bind_s awake]
  · by_cases h2 : 60 < (ts.length : Int)
    · rw [if_neg h, decide_eq_true h2, bind_s rfl, if_pos rfl, bind_s awake]
    · obtain ⟨L, hL, hl6, ho⟩ := tripsOk a 200 (by decide)
      obtain ⟨n, hn, n0, n1⟩ := mod_ 200 l 8 (by omega) (by omega)
      obtain ⟨z1, z2⟩ := nzOk L n 200 (by decide) hl6 ho n0 (by omega)
      rw [if_neg h, decide_eq_false h2, bind_s rfl, if_neg (by decide), bind_s hL, bind_s hn, bind_s z1]
      dsimp only [Option.elim]
      rw [if_pos rfl, bind_s rfl, if_neg (by decide), ck_t ⟨by omega, by omega⟩, bind_s (hy_l1 ts (by omega) L hl6 ho _ n 0 n0 (by omega) 200 _ 0 0 (by simp) (by omega) n0 (by omega) (by omega) (by omega)), el_g, bind_s awake]
end Go.Proofs.Ytkcmohmnmapnbaa.X
