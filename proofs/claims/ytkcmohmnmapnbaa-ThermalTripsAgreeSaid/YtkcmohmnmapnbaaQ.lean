/- The thermal laws on the pure side. -/
import Derived.Test.YtkcmohmnmapnbaaFa
import Derived.Test.YtkcmohmnmapnbaaSx11
namespace Go.Proofs.Ytkcmohmnmapnbaa.X
open Go Go.Sx

theorem awake : law39_awake.f 200 = some true := by decide +kernel
theorem mod_ (k : Nat) (a b : Int) (h0 : 0 < b) (h1 : b < 9223372036854775808) : ∃ r, help_Mod.f k a b = some r ∧ 0 ≤ r ∧ r < b := by
  have := wu_lo a
  have h2 := Int.emod_lt_of_pos (IntKind.u64.wrap a) h0
  have h3 := Int.emod_nonneg (IntKind.u64.wrap a) (show b ≠ 0 by omega)
  rw [help_Mod.f, wu b (by omega) (by omega), ck_t (by omega), tm _ this, wi _ (by omega) (by omega)]
  exact ⟨_, rfl, h3, h2⟩

/-! ## Trips -/
theorem trips_l1 (a : List Trip) : ∀ (k : Nat) (y : List Trip) (i : Int), 0 ≤ i → (y.length : Int) = i → i ≤ 6 → 6 - i < k → ∃ L, law39_Trips.l1 k a y i = some L ∧ (L.length : Int) ≤ 6
  | 0, _, _, _, _, _, hk => by omega
  | k + 1, y, i, h0, hy, h6, hk => by
    rw [law39_Trips.l1]
    by_cases h : i < (a.length : Int) ∧ i < 6
    · rw [if_pos h.1, decide_eq_true h.2, bind_s rfl, if_pos rfl, ck_t ⟨h0, h.1⟩]
      obtain ⟨m, hm, _, _⟩ := mod_ k (gd Trip.zero a i).Kind 3 (by omega) (by omega)
      rw [bind_s hm, ck_t (by simp; omega), wi (i + 1) (by omega) (by omega)]
      exact trips_l1 a k _ (i + 1) (by omega) (by simp; omega) (by omega) (by omega)
    · have hz : (if i < (a.length : Int) then (some (decide (i < 6))) else (some false)) = some false := by
        by_cases h1 : i < (a.length : Int)
        · rw [if_pos h1, decide_eq_false (fun h2 => h ⟨h1, h2⟩)]
        · rw [if_neg h1]
      rw [hz, bind_s rfl, if_neg (by decide)]
      exact ⟨y, rfl, by omega⟩
theorem trips (a : List Trip) (k : Nat) (hk : 10 ≤ k) : ∃ L, law39_Trips.f k a = some L ∧ (L.length : Int) ≤ 6 := by
  obtain ⟨L, h, h'⟩ := trips_l1 a k [] 0 (by omega) (by simp) (by omega) (by omega)
  exact ⟨L, by rw [law39_Trips.f, bind_s h], h'⟩
theorem ct_l1 (a : List Trip) (hl : (a.length : Int) ≤ 12) : ∀ (k : Nat) (i : Int), 0 ≤ i → i ≤ a.length → (a.length : Int) - i < k → ∃ r, thermal_CheckTrips.l1 k a i = some r ∧ (r = .go () ∨ r = .rt (some 1))
  | 0, _, _, _, hk => by omega
  | k + 1, i, h0, h1, hk => by
    rw [thermal_CheckTrips.l1]
    by_cases h : i < (a.length : Int)
    · rw [if_pos h, ck_t ⟨h0, h⟩, wi (i + 1) (by omega) (by omega)]
      obtain ⟨r, hr, hr'⟩ := ct_l1 a hl k (i + 1) (by omega) (by omega) (by omega)
      refine bind_q (by (repeat' split) <;> exact ⟨_, rfl⟩) (fun x _ => ?_)
      by_cases hx : x = true
      · rw [if_pos hx]; exact ⟨_, rfl, .inr rfl⟩
      · rw [if_neg hx]; exact ⟨r, hr, hr'⟩
    · rw [if_neg h]; exact ⟨_, rfl, .inl rfl⟩
theorem ct (a : List Trip) (k : Nat) (hk : 14 ≤ k) : ∃ r, thermal_CheckTrips.f k a = some r ∧ (r = 0 ∨ r = 1) ∧ (r = 0 → (a.length : Int) ≤ 12) := by
  rw [thermal_CheckTrips.f]
  by_cases h : 12 < (a.length : Int)
  · rw [if_pos h]; exact ⟨1, rfl, .inr rfl, by omega⟩
  · rw [if_neg h]
    obtain ⟨r, hr, hr'⟩ := ct_l1 a (by omega) k 0 (by omega) (by omega) (by omega)
    rw [bind_s hr]
    rcases hr' with rfl | rfl
    · exact ⟨0, rfl, .inl rfl, by omega⟩
    · exact ⟨1, rfl, .inr rfl, by omega⟩
theorem ref_ct_l1 : ∀ (k : Nat) (a : List Trip) (i : Int), ref39_CheckTrips.l1 k a i = thermal_CheckTrips.l1 k a i
  | 0, _, _ => rfl
  | k + 1, a, i => by simp only [ref39_CheckTrips.l1, thermal_CheckTrips.l1, ref_ct_l1 k]
theorem ref_ct (k : Nat) (a : List Trip) : ref39_CheckTrips.f k a = thermal_CheckTrips.f k a := by simp only [ref39_CheckTrips.f, thermal_CheckTrips.f, ref_ct_l1]
theorem nz (a : List Trip) (l : Int) (k : Nat) (hk : 14 ≤ k) :
    (∃ c, thermal_NewZone.f k a l = some (some (a, List.replicate (a.length : Int).toNat false, l, 0), 0) ∧ ref39_NewZone.f k a l = some (some (List.replicate (a.length : Int).toNat false, l, 0), 0) ∧ thermal_CheckTrips.f k a = some c) ∨
    (∃ c, thermal_NewZone.f k a l = some (none, 1) ∧ ref39_NewZone.f k a l = some (none, 1) ∧ thermal_CheckTrips.f k a = some c) := by
  obtain ⟨c, hc, hc', hl⟩ := ct a k hk
  rw [thermal_NewZone.f, ref39_NewZone.f, ref_ct, hc]
  simp only [Option.bind_some]
  rcases hc' with rfl | rfl
  · have hl := hl rfl
    simp only [if_true]
    by_cases h1 : l < 0
    · exact .inr ⟨0, by simp [h1], by simp [h1], rfl⟩
    · by_cases h2 : 64 < l
      · exact .inr ⟨0, by simp [h1, h2], by simp [h1, h2], rfl⟩
      · refine .inl ⟨0, ?_, ?_, rfl⟩
        · simp only [if_neg h1, decide_eq_false h2, Option.bind_some, Bool.false_eq_true, if_false, slices_Clone_api_Trip_api_Trip.f]
          rw [ck_t (by simp; omega)]
          simp only [Option.bind_some]
          rw [ck_t (by omega)]
          simp
        · simp only [if_neg h1, decide_eq_false h2, Option.bind_some, Bool.false_eq_true, if_false]
          rw [ck_t (by omega)]
  · exact .inr ⟨1, by simp, by simp, rfl⟩

theorem pureThermalTripsAgree : law39_ThermalTripsAgree.Pure := by
  intro a l k x _ ha _ _ _
  refine ⟨200, ?_⟩
  rw [law39_ThermalTripsAgree.f]
  by_cases h : 20 < (a.length : Int)
  · rw [if_pos h, bind_s awake]
  · obtain ⟨L, hL, hl6⟩ := trips a 200 (by decide)
    obtain ⟨X, hX⟩ : ∃ X, (if 0 < (L.length : Int) then ((help_Mod.f 200 x.Kind 5).bind fun s14 => ((help_Mod.f 200 k (L.length : Int)).bind fun s16 => (ck ((0 : Int) ≤ s16 ∧ s16 < (L.length : Int)) (some (L.set s16.toNat (⟨s14, x.Temperature, x.Hysteresis⟩ : Trip)))))) else (some L)) = some X := by
      by_cases h1 : 0 < (L.length : Int)
      · obtain ⟨m1, e1, _, _⟩ := mod_ 200 x.Kind 5 (by omega) (by omega)
        obtain ⟨m2, e2, g1, g2⟩ := mod_ 200 k L.length (by omega) (by omega)
        rw [if_pos h1, bind_s e1, bind_s e2, ck_t ⟨g1, g2⟩]
        exact ⟨_, rfl⟩
      · rw [if_neg h1]; exact ⟨_, rfl⟩
    obtain ⟨m, hm, _, _⟩ := mod_ 200 l 70 (by omega) (by omega)
    rw [if_neg h, bind_s hL, bind_s hX]
    rcases nz a l 200 (by decide) with ⟨c, e1, e2, e3⟩ | ⟨c, e1, e2, e3⟩ <;> rcases nz X (IntKind.i64.wrap (m - 2)) 200 (by decide) with ⟨d, f1, f2, f3⟩ | ⟨d, f1, f2, f3⟩ <;>
      simp [e1, e2, e3, f1, f2, f3, hm, ref_ct, awake]
end Go.Proofs.Ytkcmohmnmapnbaa.X
