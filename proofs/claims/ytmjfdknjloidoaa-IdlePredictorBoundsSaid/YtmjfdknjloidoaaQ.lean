/- The idle laws on the pure side: what the table of states made by the law's own helper is, and what the functions under test say of it. -/
import Derived.Test.YtmjfdknjloidoaaFa
import Derived.Test.YtmjfdknjloidoaaSx11
namespace Go.Proofs.Ytmjfdknjloidoaa.X
open Go Go.Sx

/-- a table as the helper makes it -/
structure Good (L : List IdleState) : Prop where
  l1 : (1 : Int) ≤ L.length
  l7 : (L.length : Int) ≤ 7
  z : (gd IdleState.zero L 0).Latency = 0 ∧ (gd IdleState.zero L 0).Residency = 0
  asc : ∀ i : Int, 0 < i → i < L.length → (gd IdleState.zero L (i - 1)).Latency < (gd IdleState.zero L i).Latency ∧ (gd IdleState.zero L (i - 1)).Residency < (gd IdleState.zero L i).Residency ∧ (gd IdleState.zero L i).Power < (gd IdleState.zero L (i - 1)).Power
  bd : ∀ i : Int, 0 ≤ i → i < L.length → 0 ≤ (gd IdleState.zero L i).Latency ∧ (gd IdleState.zero L i).Latency ≤ 40 * i ∧ 0 ≤ (gd IdleState.zero L i).Residency ∧ (gd IdleState.zero L i).Residency ≤ 200 * i ∧ 0 ≤ (gd IdleState.zero L i).Power ∧ (gd IdleState.zero L i).Power ≤ 350

theorem wf_gd {a : List IdleState} (h : ∀ x ∈ a, IdleState.wf x) {i : Int} (h0 : 0 ≤ i) (h1 : i < a.length) : IdleState.wf (gd IdleState.zero a i) := h _ (gd_mem h0 h1)
theorem wf_n {s : IdleState} (h : s.wf) : 0 ≤ s.Latency ∧ 0 ≤ s.Residency ∧ 0 ≤ s.Power := ⟨(inK_u64 h.1).1, (inK_u64 h.2.1).1, (inK_u64 h.2.2).1⟩

theorem st_l1 (a : List IdleState) (ha : ∀ x ∈ a, IdleState.wf x) (n : Int) (hn : n ≤ 7) : ∀ (k : Nat) (y : List IdleState) (p i : Int), (y.length : Int) = n → i < n → -1 ≤ i → i + 1 < k → 0 ≤ p → p ≤ 50 * (n - 1 - i) →
    (∀ j : Int, 0 ≤ j → j < n → (gd IdleState.zero y j).Latency = 0 ∧ (gd IdleState.zero y j).Residency = 0) →
    (∀ j : Int, i < j → j < n → 0 ≤ (gd IdleState.zero y j).Power ∧ (gd IdleState.zero y j).Power < p) → (∀ j : Int, i + 1 < j → j < n → (gd IdleState.zero y j).Power < (gd IdleState.zero y (j - 1)).Power) →
    ∃ L, law37_States.l1 k a y p i = some L ∧ (L.length : Int) = n ∧ (∀ j : Int, 0 ≤ j → j < n → (gd IdleState.zero L j).Latency = 0 ∧ (gd IdleState.zero L j).Residency = 0) ∧
      (∀ j : Int, 0 ≤ j → j < n → 0 ≤ (gd IdleState.zero L j).Power ∧ (gd IdleState.zero L j).Power < 50 * n) ∧ (∀ j : Int, 0 < j → j < n → (gd IdleState.zero L j).Power < (gd IdleState.zero L (j - 1)).Power)
  | 0, _, _, _, _, _, _, hk, _, _, _, _, _ => by omega
  | k + 1, y, p, i, hl, hi, hi', hk, hp0, hp1, hz, hpw, hdec => by
    rw [law37_States.l1]
    by_cases h : 0 ≤ i
    · rw [if_pos h]
      have hx : ∃ x, (if i < (a.length : Int) then (ck ((0 : Int) ≤ i ∧ i < (a.length : Int)) (some (IntKind.u64.wrap (p + (Int.tmod ((gd IdleState.zero a i).Power) 50))))) else (some p)) = some x ∧ p ≤ x ∧ x ≤ p + 49 := by
        by_cases hia : i < (a.length : Int)
        · have hw := (wf_n (wf_gd ha h hia)).2.2
          rw [if_pos hia, ck_t ⟨h, hia⟩, tm _ hw]
          exact ⟨_, rfl, by rw [wu] <;> omega, by rw [wu] <;> omega⟩
        · rw [if_neg hia]; exact ⟨_, rfl, by omega, by omega⟩
      obtain ⟨x, hx, hx0, hx1⟩ := hx
      rw [bind_s hx, ck_t ⟨h, by omega⟩, wu (x + 1) (by omega) (by omega), wi (i - 1) (by omega) (by omega)]
      refine st_l1 a ha n hn k _ _ _ (by simpa using hl) (by omega) (by omega) (by omega) (by omega) (by omega) ?_ ?_ ?_
      · intro j h0 h1
        rw [gd_set h (by omega) h0]
        split
        · exact hz i h (by omega)
        · exact hz j h0 h1
      · intro j h0 h1
        rw [gd_set h (by omega) (by omega)]
        split
        · exact ⟨by show 0 ≤ x; omega, by show x < x + 1; omega⟩
        · have := hpw j (by omega) h1; omega
      · intro j h0 h1
        rw [gd_set h (by omega) (by omega), gd_set h (by omega) (by omega), if_neg (by omega)]
        by_cases hj : j - 1 = i
        · rw [if_pos hj]
          have := hpw j (by omega) h1
          show _ < x
          omega
        · rw [if_neg hj]; exact hdec j (by omega) h1
    · rw [if_neg h]
      refine ⟨y, rfl, hl, hz, fun j h0 h1 => ?_, fun j h0 h1 => hdec j (by omega) h1⟩
      have := hpw j (by omega) h1
      omega

theorem st_l2 (a : List IdleState) (ha : ∀ x ∈ a, IdleState.wf x) (n : Int) (hn : n ≤ 7) (hn1 : 1 ≤ n) (hm : mx 1 (mn (a.length : Int) 7) = n) (hna : 1 < n → n ≤ a.length) : ∀ (k : Nat) (y : List IdleState) (i : Int), (y.length : Int) = n → 1 ≤ i → i ≤ n → n - i < k →
    ((gd IdleState.zero y 0).Latency = 0 ∧ (gd IdleState.zero y 0).Residency = 0) →
    (∀ j : Int, 0 < j → j < i → (gd IdleState.zero y (j - 1)).Latency < (gd IdleState.zero y j).Latency ∧ (gd IdleState.zero y (j - 1)).Residency < (gd IdleState.zero y j).Residency) →
    (∀ j : Int, 0 ≤ j → j < i → 0 ≤ (gd IdleState.zero y j).Latency ∧ (gd IdleState.zero y j).Latency ≤ 40 * j ∧ 0 ≤ (gd IdleState.zero y j).Residency ∧ (gd IdleState.zero y j).Residency ≤ 200 * j) →
    (∀ j : Int, 0 ≤ j → j < n → 0 ≤ (gd IdleState.zero y j).Power ∧ (gd IdleState.zero y j).Power < 50 * n) → (∀ j : Int, 0 < j → j < n → (gd IdleState.zero y j).Power < (gd IdleState.zero y (j - 1)).Power) →
    ∃ L, law37_States.l2 k a y i = some L ∧ Good L ∧ (L.length : Int) = n
  | 0, _, _, _, _, _, hk, _, _, _, _, _ => by omega
  | k + 1, y, i, hl, hi, hi', hk, hz, hasc, hbd, hpw, hdec => by
    rw [law37_States.l2, hm]
    by_cases h : i < n
    · rw [if_pos h]
      have hw := wf_n (wf_gd ha (i := i) (by omega) (by have := hna (by omega); omega))
      have b1 := hbd (i - 1) (by omega) (by omega)
      have e1 : IntKind.i64.wrap (i - 1) = i - 1 := wi _ (by omega) (by omega)
      have e2 : IntKind.i64.wrap (i + 1) = i + 1 := wi _ (by omega) (by omega)
      rw [e1, e2, ck_t ⟨by omega, by omega⟩, ck_t ⟨by omega, by have := hna (by omega); omega⟩, ck_t ⟨by omega, by omega⟩, tm _ hw.1, tm _ hw.2.1]
      generalize hs1 : IdleState.mk _ _ _ = s1
      have hl1 : ((y.set i.toNat s1).length : Int) = n := by simpa using hl
      have g1 : gd IdleState.zero (y.set i.toNat s1) i = s1 := gd_set_same (by omega) (by omega)
      have g2 : gd IdleState.zero (y.set i.toNat s1) (i - 1) = gd IdleState.zero y (i - 1) := gd_set_other (by omega) (by omega) (by omega) (by omega)
      rw [ck_t ⟨by omega, by omega⟩, ck_t ⟨by omega, by omega⟩, g1, g2, List.set_set]
      generalize hs2 : IdleState.mk _ _ _ = s2
      have f1 : s2.Latency = (gd IdleState.zero y (i - 1)).Latency + 1 + (gd IdleState.zero a i).Latency % 40 := by
        rw [← hs2, ← hs1]
        show IntKind.u64.wrap (IntKind.u64.wrap _ + _) = _
        rw [wu (_ + 1) (by omega) (by omega), wu _ (by omega) (by omega)]
      have f2 : s2.Residency = (gd IdleState.zero y (i - 1)).Residency + 1 + (gd IdleState.zero a i).Residency % 200 := by
        rw [← hs2]
        show IntKind.u64.wrap (IntKind.u64.wrap _ + _) = _
        rw [wu (_ + 1) (by omega) (by omega), wu _ (by omega) (by omega)]
      have f3 : s2.Power = (gd IdleState.zero y i).Power := by rw [← hs2, ← hs1]
      have gs : ∀ j : Int, 0 ≤ j → gd IdleState.zero (y.set i.toNat s2) j = if j = i then s2 else gd IdleState.zero y j := fun j hj => gd_set (by omega) (by omega) hj
      have gp : ∀ j : Int, 0 ≤ j → (gd IdleState.zero (y.set i.toNat s2) j).Power = (gd IdleState.zero y j).Power := fun j hj => by
        rw [gs j hj]; split
        · rename_i e; rw [e]; exact f3
        · rfl
      refine st_l2 a ha n hn hn1 hm hna k _ _ (by simpa using hl) (by omega) (by omega) (by omega) ?_ ?_ ?_ ?_ ?_
      · rw [gs 0 (by omega), if_neg (by omega)]; exact hz
      · intro j h0 h1
        rw [gs j (by omega), gs (j - 1) (by omega), if_neg (show ¬ j - 1 = i by omega)]
        by_cases hj : j = i
        · rw [if_pos hj, hj, f1, f2]; omega
        · rw [if_neg hj]; exact hasc j h0 (by omega)
      · intro j h0 h1
        rw [gs j h0]
        by_cases hj : j = i
        · rw [if_pos hj, f1, f2]; omega
        · rw [if_neg hj]; exact hbd j h0 (by omega)
      · intro j h0 h1; rw [gp j h0]; exact hpw j h0 h1
      · intro j h0 h1; rw [gp j (by omega), gp _ (by omega)]; exact hdec j h0 h1
    · rw [if_neg h]
      refine ⟨y, rfl, ⟨by omega, by omega, hz, fun j h0 h1 => ?_, fun j h0 h1 => ?_⟩, hl⟩
      · have := hasc j h0 (by omega); have := hdec j h0 (by omega); omega
      · have := hbd j h0 (by omega); have := hpw j h0 (by omega); omega

theorem states (k : Nat) (hk : 10 ≤ k) (a : List IdleState) (ha : ∀ x ∈ a, IdleState.wf x) : ∃ L, law37_States.f k a = some L ∧ Good L := by
  obtain ⟨n, hm⟩ : ∃ n, mx 1 (mn (a.length : Int) 7) = n := ⟨_, rfl⟩
  have hn : 1 ≤ n ∧ n ≤ 7 ∧ (1 < n → n ≤ a.length) := by
    unfold mx mn at hm
    split at hm <;> split at hm <;> omega
  have hlr : ((List.replicate n.toNat IdleState.zero).length : Int) = n := by simp; omega
  rw [law37_States.f, hm, ck_t ⟨by omega, by omega⟩, wi (n - 1) (by omega) (by omega)]
  obtain ⟨L, h1, h2, h3, h4, h5⟩ := st_l1 a ha n hn.2.1 k (List.replicate n.toNat IdleState.zero) 0 (n - 1) hlr (by omega) (by omega) (by omega) (by omega) (by omega)
    (fun j _ _ => by rw [gd_rep]; exact ⟨rfl, rfl⟩) (fun j _ _ => by omega) (fun j _ _ => by omega)
  rw [bind_s h1]
  obtain ⟨L', g1, g2, g3⟩ := st_l2 a ha n hn.2.1 hn.1 hm hn.2.2 k L 1 h2 (by omega) (by omega) (by omega) (h3 0 (by omega) (by omega)) (fun j _ _ => by omega)
    (fun j h0 h1 => by obtain ⟨e1, e2⟩ := h3 j h0 (by omega); rw [e1, e2]; omega) h4 h5
  exact ⟨L', by rw [bind_s g1], g2⟩

/-! ## Check -/
theorem chk_l1 {L : List IdleState} (g : Good L) : ∀ (k : Nat) (i : Int), 0 ≤ i → i ≤ L.length → (L.length : Int) - i < k → idle_Check.l1 k L i = some (.go ())
  | 0, _, _, _, hk => by omega
  | k + 1, i, h0, h1, hk => by
    rw [idle_Check.l1]
    by_cases h : i < (L.length : Int)
    · have b := g.bd i h0 h
      have l7 := g.l7
      rw [if_pos h, ck_t ⟨h0, h⟩, if_neg (by omega), if_neg (by omega), wi (i + 1) (by omega) (by omega), wi (i - 1) (by omega) (by omega), bind_s (y := false) (by rw [decide_eq_false]; omega), if_neg (by decide)]
      rw [bind_s (y := false), if_neg (by decide)]
      · exact chk_l1 g k (i + 1) (by omega) (by omega) (by omega)
      · by_cases hi : 0 < i
        · have := g.asc i hi h
          rw [if_pos hi, ck_t ⟨by omega, by omega⟩, if_neg (by omega), if_neg (by omega), decide_eq_false (by omega)]
        · rw [if_neg hi]
    · rw [if_neg h]
theorem chk {L : List IdleState} (g : Good L) (k : Nat) (hk : 8 ≤ k) : idle_Check.f k L = some 0 := by
  have l1 := g.l1; have l7 := g.l7
  rw [idle_Check.f, if_neg (by omega), if_neg (by omega), ck_t ⟨by omega, by omega⟩, if_pos g.z.1, bind_s (y := false) (by simp [g.z.2]), if_neg (by decide), bind_s (chk_l1 g k 0 (by omega) (by omega) (by omega)), el_g]
/-- Check always ends -/
theorem chk_any_l1 (a : List IdleState) (hl : (a.length : Int) ≤ 10) : ∀ (k : Nat) (i : Int), 0 ≤ i → i ≤ a.length → (a.length : Int) - i < k → ∃ r, idle_Check.l1 k a i = some r ∧ (r = .go () ∨ r = .rt (some 1))
  | 0, _, _, _, hk => by omega
  | k + 1, i, h0, h1, hk => by
    rw [idle_Check.l1]
    by_cases h : i < (a.length : Int)
    · rw [if_pos h, ck_t ⟨h0, h⟩, wi (i + 1) (by omega) (by omega)]
      obtain ⟨r, hr, hr'⟩ := chk_any_l1 a hl k (i + 1) (by omega) (by omega) (by omega)
      refine bind_q (by (repeat' split) <;> exact ⟨_, rfl⟩) (fun x _ => ?_)
      by_cases hx : x = true
      · rw [if_pos hx]; exact ⟨_, rfl, .inr rfl⟩
      · rw [if_neg hx]
        refine bind_q ?_ (fun y _ => ?_)
        · by_cases hi : 0 < i
          · rw [if_pos hi, wi (i - 1) (by omega) (by omega), ck_t ⟨by omega, by omega⟩]; (repeat' split) <;> exact ⟨_, rfl⟩
          · rw [if_neg hi]; exact ⟨_, rfl⟩
        by_cases hy : y = true
        · rw [if_pos hy]; exact ⟨_, rfl, .inr rfl⟩
        · rw [if_neg hy]; exact ⟨r, hr, hr'⟩
    · rw [if_neg h]; exact ⟨_, rfl, .inl rfl⟩
theorem chk_any (a : List IdleState) (k : Nat) (hk : 12 ≤ k) : ∃ r, idle_Check.f k a = some r ∧ (r = 0 → (a.length : Int) ≤ 10 ∧ 1 ≤ (a.length : Int)) := by
  rw [idle_Check.f]
  by_cases h1 : (a.length : Int) < 1
  · rw [if_pos h1, bind_s rfl, if_pos rfl]; exact ⟨1, rfl, by omega⟩
  · rw [if_neg h1]
    by_cases h2 : 10 < (a.length : Int)
    · rw [if_pos h2, bind_s rfl, if_pos rfl]; exact ⟨1, rfl, by omega⟩
    · rw [if_neg h2, ck_t ⟨by omega, by omega⟩]
      refine bind_q (by (repeat' split) <;> exact ⟨_, rfl⟩) (fun x _ => ?_)
      obtain ⟨r, hr, hr'⟩ := chk_any_l1 a (by omega) k 0 (by omega) (by omega) (by omega)
      by_cases hx : x = true
      · rw [if_pos hx]; exact ⟨_, rfl, by omega⟩
      · rw [if_neg hx, bind_s hr]
        rcases hr' with rfl | rfl
        · exact ⟨0, rfl, by omega⟩
        · exact ⟨1, rfl, by omega⟩

/-! ## Energy -/
theorem en_l1 (a : List IdleState) (m : Int) (hm : m < a.length) (hl : (a.length : Int) ≤ 10) : ∀ (k : Nat) (e i : Int), 1 ≤ i → i ≤ m + 1 → m + 1 - i < k → ∃ r, idle_Energy.l1 k m a e i = some r
  | 0, _, _, _, _, hk => by omega
  | k + 1, e, i, h0, h1, hk => by
    rw [idle_Energy.l1]
    by_cases h : i ≤ m
    · rw [if_pos h, wi (i - 1) (by omega) (by omega), wi (i + 1) (by omega) (by omega), ck_t ⟨by omega, by omega⟩, ck_t ⟨by omega, by omega⟩]
      exact en_l1 a m hm hl k _ _ (by omega) (by omega) (by omega)
    · rw [if_neg h]; exact ⟨_, rfl⟩
theorem en_l1_0 (a : List IdleState) (m e : Int) (k : Nat) (h : m ≤ 0) : idle_Energy.l1 (k + 1) m a e 1 = some e := by rw [idle_Energy.l1, if_neg (by omega)]
theorem energy_any (a : List IdleState) (m t : Int) (k : Nat) (hk : 12 ≤ k) : ∃ r, idle_Energy.f k a m t = some r := by
  obtain ⟨c, hc, hc'⟩ := chk_any a k hk
  rw [idle_Energy.f, bind_s hc]
  by_cases h : c = 0
  · obtain ⟨hl, hl'⟩ := hc' h
    rw [if_pos h]
    by_cases h1 : m < 0
    · rw [if_pos h1, bind_s rfl, if_pos rfl]; exact ⟨_, rfl⟩
    · rw [if_neg h1]
      by_cases h2 : (a.length : Int) ≤ m
      · rw [if_pos h2, bind_s rfl, if_pos rfl]; exact ⟨_, rfl⟩
      · rw [if_neg h2, bind_s rfl]
        split
        · exact ⟨_, rfl⟩
        · rw [ck_t ⟨by omega, by omega⟩]
          obtain ⟨k, rfl⟩ : ∃ j, k = j + 1 := ⟨k - 1, by omega⟩
          by_cases h3 : m = 0
          · rw [bind_s (en_l1_0 a m _ k (by omega))]; exact ⟨_, rfl⟩
          · obtain ⟨r, hr⟩ := en_l1 a m (by omega) hl (k + 1) (IntKind.u64.wrap ((gd IdleState.zero a m).Power * t)) 1 (by omega) (by omega) (by omega)
            rw [bind_s hr]; exact ⟨_, rfl⟩
  · rw [if_neg h]; exact ⟨_, rfl⟩
theorem ref_chk_l1 : ∀ (k : Nat) (a : List IdleState) (i : Int), ref37_Check.l1 k a i = idle_Check.l1 k a i
  | 0, _, _ => rfl
  | k + 1, a, i => by simp only [ref37_Check.l1, idle_Check.l1, ref_chk_l1 k]
theorem ref_chk (k : Nat) (a : List IdleState) : ref37_Check.f k a = idle_Check.f k a := by simp only [ref37_Check.f, idle_Check.f, ref_chk_l1]
theorem ref_en_l1 : ∀ (k : Nat) (m : Int) (a : List IdleState) (e i : Int), ref37_Energy.l1 k m a e i = idle_Energy.l1 k m a e i
  | 0, _, _, _, _ => rfl
  | k + 1, m, a, e, i => by simp only [ref37_Energy.l1, idle_Energy.l1, ref_en_l1 k]
theorem ref_energy (k : Nat) (a : List IdleState) (m t : Int) : ref37_Energy.f k a m t = idle_Energy.f k a m t := by simp only [ref37_Energy.f, idle_Energy.f, ref_chk, ref_en_l1]
theorem awake : law37_awake.f 20 = some true := by decide +kernel
theorem mod_ (k : Nat) (a b : Int) (h0 : 0 < b) (h1 : b < 9223372036854775808) : ∃ r, help_Mod.f k a b = some r ∧ 0 ≤ r ∧ r < b := by
  have := wu_lo a
  have h2 := Int.emod_lt_of_pos (IntKind.u64.wrap a) h0
  have h3 := Int.emod_nonneg (IntKind.u64.wrap a) (show b ≠ 0 by omega)
  rw [help_Mod.f, wu b (by omega) (by omega), ck_t (by omega), tm _ this, wi _ (by omega) (by omega)]
  exact ⟨_, rfl, h3, h2⟩

theorem pureIdleEnergyAgrees : law37_IdleEnergyAgrees.Pure := by
  intro a m t hl ha _ _
  refine ⟨20, ?_⟩
  rw [law37_IdleEnergyAgrees.f]
  by_cases h : 20 < (a.length : Int)
  · rw [if_pos h, bind_s awake]
  · obtain ⟨L, hL, g⟩ := states 20 (by decide) a ha
    have l1 := g.l1; have l7 := g.l7
    obtain ⟨i, hi, _, _⟩ := mod_ 20 m L.length (by omega) (by omega)
    obtain ⟨e1, h1⟩ := energy_any a m t 20 (by decide)
    obtain ⟨e2, h2⟩ := energy_any L i (Int.tmod t 2000) 20 (by decide)
    obtain ⟨e3, h3⟩ := energy_any L m t 20 (by decide)
    rw [if_neg h, bind_s hL, bind_s hi, ref_energy, ref_energy, ref_energy, bind_s h1, bind_s h1, bind_s h2, bind_s h2, bind_s h3, bind_s h3]
    rw [if_pos rfl, if_pos rfl, if_pos rfl, if_pos rfl, if_pos rfl, if_pos rfl, bind_s awake]

/-! ## Select -/
structure Best (L : List IdleState) (t l r : Int) : Prop where
  r0 : 0 ≤ r
  r1 : r < L.length
  ok : (gd IdleState.zero L r).Latency ≤ l ∧ (gd IdleState.zero L r).Residency ≤ t
  no : ∀ j : Int, r < j → j < L.length → (gd IdleState.zero L j).Latency ≤ l → ¬ (gd IdleState.zero L j).Residency ≤ t

theorem sel_l1 {L : List IdleState} (g : Good L) (t l : Int) : ∀ (k : Nat) (b i : Int), 0 ≤ b → b ≤ i → 0 < i → i ≤ L.length → (L.length : Int) - i < k →
    ((gd IdleState.zero L b).Latency ≤ l ∧ (gd IdleState.zero L b).Residency ≤ t) → b < i → (∀ j : Int, b < j → j < i → (gd IdleState.zero L j).Latency ≤ l → ¬ (gd IdleState.zero L j).Residency ≤ t) →
    ∃ r, idle_Select.l1 k L l t b i = some r ∧ Best L t l r
  | 0, _, _, _, _, _, _, hk, _, _, _ => by omega
  | k + 1, b, i, hb, hbi, hi0, hi, hk, hok, hlt, hno => by
    have l7 := g.l7
    rw [idle_Select.l1]
    by_cases h : i < (L.length : Int)
    · rw [if_pos h, ck_t ⟨by omega, h⟩, wi (i + 1) (by omega) (by omega)]
      by_cases h1 : (gd IdleState.zero L i).Latency ≤ l ∧ (gd IdleState.zero L i).Residency ≤ t
      · rw [if_pos h1.1, decide_eq_true h1.2, bind_s rfl, if_pos rfl, bind_s rfl]
        exact sel_l1 g t l k i (i + 1) (by omega) (by omega) (by omega) (by omega) (by omega) h1 (by omega) (fun j h2 h3 => by omega)
      · have hz : (if (gd IdleState.zero L i).Latency ≤ l then some (decide ((gd IdleState.zero L i).Residency ≤ t)) else some false) = some false := by
          by_cases h2 : (gd IdleState.zero L i).Latency ≤ l
          · rw [if_pos h2, decide_eq_false (fun h3 => h1 ⟨h2, h3⟩)]
          · rw [if_neg h2]
        rw [hz, bind_s rfl, if_neg (by decide), bind_s rfl]
        refine sel_l1 g t l k b (i + 1) hb (by omega) (by omega) (by omega) (by omega) hok (by omega) (fun j h2 h3 h4 => ?_)
        by_cases hj : j = i
        · subst hj; exact fun h5 => h1 ⟨h4, h5⟩
        · exact hno j h2 (by omega) h4
    · rw [if_neg h]; exact ⟨b, rfl, hb, by omega, hok, fun j h1 h2 => hno j h1 (by omega)⟩
theorem select {L : List IdleState} (g : Good L) {t l : Int} (ht : 0 ≤ t) (hl : 0 ≤ l) : ∃ r, idle_Select.f 20 L t l = some (r, 0) ∧ Best L t l r := by
  have l1 := g.l1; have l7 := g.l7; have z := g.z
  rw [idle_Select.f, bind_s (chk g 20 (by decide)), if_pos rfl, idle_Select.l1, if_pos (by omega), ck_t ⟨by omega, by omega⟩, if_pos (by omega), decide_eq_true (by omega), bind_s rfl, if_pos rfl, bind_s rfl, wi _ (by omega) (by omega)]
  obtain ⟨r, h1, h2⟩ := sel_l1 g t l 19 0 1 (by omega) (by omega) (by omega) (by omega) (by omega) (by omega) (by omega) (fun j h2 h3 => by omega)
  exact ⟨r, by rw [show (0 : Int) + 1 = 1 from rfl, bind_s h1], h2⟩

theorem lim_l1 {L : List IdleState} (g : Good L) {a b r : Int} (hb : Best L (Int.tmod a 1500) (Int.tmod b 300) r) : ∀ (k : Nat) (i : Int), r < i → i ≤ L.length → (L.length : Int) - i < k → law37_IdleSelectRespectsLimits.l1 k L b a i = some (.go ())
  | 0, _, _, _, hk => by omega
  | k + 1, i, h0, h1, hk => by
    have l7 := g.l7; have r0 := hb.r0
    rw [law37_IdleSelectRespectsLimits.l1]
    by_cases h : i < (L.length : Int)
    · have hn := hb.no i h0 h
      rw [if_pos h, ck_t ⟨by omega, h⟩, wi (i + 1) (by omega) (by omega)]
      have hz : (if (gd IdleState.zero L i).Latency ≤ Int.tmod b 300 then some (decide ((gd IdleState.zero L i).Residency ≤ Int.tmod a 1500)) else some false) = some false := by
        by_cases h2 : (gd IdleState.zero L i).Latency ≤ Int.tmod b 300
        · rw [if_pos h2, decide_eq_false (hn h2)]
        · rw [if_neg h2]
      rw [hz, bind_s rfl, if_neg (by decide)]
      exact lim_l1 g hb k (i + 1) (by omega) (by omega) (by omega)
    · rw [if_neg h]

theorem pureIdleSelectRespectsLimits : law37_IdleSelectRespectsLimits.Pure := by
  intro a t l hl ha ht hlm
  refine ⟨20, ?_⟩
  have ht0 := (inK_u64 ht).1; have hl0 := (inK_u64 hlm).1
  rw [law37_IdleSelectRespectsLimits.f]
  by_cases h : 20 < (a.length : Int)
  · rw [if_pos h, bind_s awake]
  · obtain ⟨L, hL, g⟩ := states 20 (by decide) a ha
    have l1 := g.l1; have l7 := g.l7
    obtain ⟨r, hr, hb⟩ := select g (t := Int.tmod t 1500) (l := Int.tmod l 300) (by rw [tm _ ht0]; omega) (by rw [tm _ hl0]; omega)
    have r0 := hb.r0; have r1 := hb.r1; have ok := hb.ok
    rw [if_neg h, bind_s hL, bind_s hr]
    dsimp only
    rw [if_pos rfl, if_neg (by omega), if_neg (by omega), ck_t ⟨r0, r1⟩, if_neg (by omega), decide_eq_false (by omega), bind_s rfl, if_neg (by decide)]
    rw [wi (r + 1) (by omega) (by omega), bind_s (lim_l1 g hb 20 (r + 1) (by omega) (by omega) (by omega)), el_g, bind_s awake]

/-! ## what Energy comes to -/
def ens (L : List IdleState) : Nat → Int
  | 0 => 0
  | n + 1 => ens L n + ((gd IdleState.zero L n).Power - (gd IdleState.zero L (n + 1)).Power) * (gd IdleState.zero L (n + 1)).Residency
def En (L : List IdleState) (m t : Int) : Int := (gd IdleState.zero L m).Power * t + ens L m.toNat
theorem ens_bd {L : List IdleState} (g : Good L) : ∀ n : Nat, (n : Int) < L.length → 0 ≤ ens L n ∧ ens L n ≤ 490000 * n
  | 0, _ => by simp [ens]
  | n + 1, h => by
    have l7 := g.l7
    have ih := ens_bd g n (by omega)
    have a := g.asc ((n : Int) + 1) (by omega) (by omega)
    have b := g.bd n (by omega) (by omega)
    have c := g.bd ((n : Int) + 1) (by omega) (by omega)
    rw [show (n : Int) + 1 - 1 = n by omega] at a
    have m := mul_bd (A := 350) (B := 1400) (show 0 ≤ (gd IdleState.zero L n).Power - (gd IdleState.zero L (n + 1)).Power by omega) (by omega) c.2.2.1 (by omega)
    simp only [ens]
    push_cast
    omega
theorem en_l1v {L : List IdleState} (g : Good L) (m : Int) (hm : m < L.length) : ∀ (k : Nat) (e : Int) (n : Nat), 0 ≤ e → e ≤ 400000000000000 → (n : Int) ≤ m → m - n < k →
    ∃ r, idle_Energy.l1 k m L (e + ens L n) ((n : Int) + 1) = some r ∧ r = e + ens L m.toNat
  | 0, _, _, _, _, _, hk => by omega
  | k + 1, e, n, he, he', hn, hk => by
    have l7 := g.l7
    rw [idle_Energy.l1]
    by_cases h : (n : Int) + 1 ≤ m
    · rw [if_pos h, wi _ (by omega) (by omega), wi _ (by omega) (by omega), show (n : Int) + 1 - 1 = n by omega, ck_t ⟨by omega, by omega⟩, ck_t ⟨by omega, by omega⟩]
      have ih := ens_bd g n (by omega)
      have a := g.asc ((n : Int) + 1) (by omega) (by omega)
      have b := g.bd n (by omega) (by omega)
      have c := g.bd ((n : Int) + 1) (by omega) (by omega)
      rw [show (n : Int) + 1 - 1 = n by omega] at a
      have mm := mul_bd (A := 350) (B := 1400) (show 0 ≤ (gd IdleState.zero L n).Power - (gd IdleState.zero L (n + 1)).Power by omega) (by omega) c.2.2.1 (by omega)
      rw [wu ((gd IdleState.zero L n).Power - _) (by omega) (by omega), wu (_ * _) (by omega) (by omega), wu (_ + _) (by omega) (by omega)]
      have hh := en_l1v g m hm k e (n + 1) he he' (by push_cast; omega) (by push_cast; omega)
      simp only [ens] at hh
      push_cast at hh
      rw [show e + ens L n + ((gd IdleState.zero L n).Power - (gd IdleState.zero L (n + 1)).Power) * (gd IdleState.zero L (n + 1)).Residency = e + (ens L n + ((gd IdleState.zero L n).Power - (gd IdleState.zero L (n + 1)).Power) * (gd IdleState.zero L (n + 1)).Residency) by omega]
      exact hh
    · rw [if_neg h]
      have : m.toNat = n := by omega
      exact ⟨_, rfl, by rw [this]⟩
theorem energy {L : List IdleState} (g : Good L) {m t : Int} (h0 : 0 ≤ m) (h1 : m < L.length) (ht : 0 ≤ t) (ht' : t ≤ 1099511627776) {k : Nat} (hk : 8 ≤ k) : idle_Energy.f k L m t = some (En L m t, 0) := by
  have b := g.bd m h0 h1
  have l7 := g.l7
  have mm := mul_bd (A := 350) b.2.2.2.2.1 (by omega) ht ht'
  rw [idle_Energy.f, bind_s (chk g k hk), if_pos rfl, if_neg (by omega), if_neg (by omega), decide_eq_false (by omega), bind_s rfl, if_neg (by decide), ck_t ⟨h0, h1⟩, wu _ (by omega) (by omega)]
  obtain ⟨r, hr, e⟩ := en_l1v g m h1 k ((gd IdleState.zero L m).Power * t) 0 (by omega) (by omega) (by omega) (by omega)
  rw [show ens L 0 = 0 from rfl, Int.add_zero, show ((0 : Nat) : Int) + 1 = 1 from rfl] at hr
  rw [bind_s hr, e]
  rfl
theorem En_step (L : List IdleState) (i t : Int) (h : 0 < i) : En L i t = En L (i - 1) t + ((gd IdleState.zero L (i - 1)).Power - (gd IdleState.zero L i).Power) * ((gd IdleState.zero L i).Residency - t) := by
  obtain ⟨n, rfl⟩ : ∃ n : Nat, i = (n : Int) + 1 := ⟨(i - 1).toNat, by omega⟩
  have e1 : ((n : Int) + 1).toNat = n + 1 := by omega
  have e2 : ((n : Int) + 1 - 1).toNat = n := by omega
  simp only [En, e1, e2, ens]
  rw [show (n : Int) + 1 - 1 = n by omega]
  generalize gd IdleState.zero L n = x
  generalize gd IdleState.zero L (n + 1) = y
  simp only [Int.sub_mul, Int.mul_sub]
  omega

/-- the choice is the cheapest of the states whose latency is allowed -/
theorem best_down {L : List IdleState} (g : Good L) {t l r : Int} (hb : Best L t l r) : ∀ (n : Nat) (j : Int), 0 ≤ j → j + n = r → En L r t ≤ En L j t
  | 0, j, _, h => by obtain rfl : j = r := by omega
                     exact Int.le_refl _
  | n + 1, j, h0, h => by
    have ih := best_down g hb n (j + 1) (by omega) (by omega)
    have r1 := hb.r1; have ok := hb.ok
    have st := En_step L (j + 1) t (by omega)
    have a := g.asc (j + 1) (by omega) (by omega)
    have mono : (gd IdleState.zero L (j + 1)).Residency ≤ (gd IdleState.zero L r).Residency := res_mono g n (j + 1) r (by omega) (by omega) r1
    rw [show j + 1 - 1 = j by omega] at st a
    have m := Int.mul_nonneg (show 0 ≤ (gd IdleState.zero L j).Power - (gd IdleState.zero L (j + 1)).Power by omega) (show 0 ≤ t - (gd IdleState.zero L (j + 1)).Residency by omega)
    rw [show (gd IdleState.zero L (j + 1)).Residency - t = -(t - (gd IdleState.zero L (j + 1)).Residency) by omega, Int.mul_neg] at st
    omega
where res_mono {L : List IdleState} (g : Good L) : ∀ (n : Nat) (i j : Int), 0 ≤ i → i + n = j → j < L.length → (gd IdleState.zero L i).Residency ≤ (gd IdleState.zero L j).Residency
  | 0, i, j, _, h, _ => by obtain rfl : i = j := by omega
                           exact Int.le_refl _
  | n + 1, i, j, h0, h, h1 => by
    have ih := res_mono g n i (j - 1) h0 (by omega) (by omega)
    have a := g.asc j (by omega) h1
    omega
theorem lat_mono {L : List IdleState} (g : Good L) : ∀ (n : Nat) (i j : Int), 0 ≤ i → i + n = j → j < L.length → (gd IdleState.zero L i).Latency ≤ (gd IdleState.zero L j).Latency
  | 0, i, j, _, h, _ => by obtain rfl : i = j := by omega
                           exact Int.le_refl _
  | n + 1, i, j, h0, h, h1 => by
    have ih := lat_mono g n i (j - 1) h0 (by omega) (by omega)
    have a := g.asc j (by omega) h1
    omega
theorem best_up {L : List IdleState} (g : Good L) {t l r : Int} (hb : Best L t l r) : ∀ (n : Nat) (j : Int), r + n = j → j < L.length → (gd IdleState.zero L j).Latency ≤ l → En L r t ≤ En L j t
  | 0, j, h, _, _ => by obtain rfl : r = j := by omega
                        exact Int.le_refl _
  | n + 1, j, h, h1, hl => by
    have r0 := hb.r0
    have a := g.asc j (by omega) h1
    have ih := best_up g hb n (j - 1) (by omega) (by omega) (by omega)
    have st := En_step L j t (by omega)
    have hn := hb.no j (by omega) h1 hl
    have m := Int.mul_nonneg (show 0 ≤ (gd IdleState.zero L (j - 1)).Power - (gd IdleState.zero L j).Power by omega) (show 0 ≤ (gd IdleState.zero L j).Residency - t by omega)
    omega
theorem best_all {L : List IdleState} (g : Good L) {t l r : Int} (hb : Best L t l r) {j : Int} (h0 : 0 ≤ j) (h1 : j < L.length) (hl : (gd IdleState.zero L j).Latency ≤ l) : En L r t ≤ En L j t := by
  by_cases h : j ≤ r
  · exact best_down g hb (r - j).toNat j h0 (by omega)
  · exact best_up g hb (j - r).toNat j (by omega) h1 hl

theorem min_l1 {L : List IdleState} (g : Good L) {a b r : Int} (ha : 0 ≤ a) (hb : Best L (Int.tmod a 1500) (Int.tmod b 300) r) : ∀ (k : Nat) (i : Int), 0 ≤ i → i ≤ L.length → (L.length : Int) - i + 8 < k →
    law37_IdleSelectMinimizesEnergy.l1 k L a b (En L r (Int.tmod a 1500), 0) i = some (.go ())
  | 0, _, _, _, hk => by omega
  | k + 1, i, h0, h1, hk => by
    have l7 := g.l7
    have ht : 0 ≤ Int.tmod a 1500 ∧ Int.tmod a 1500 ≤ 1499 := by rw [tm _ ha]; omega
    rw [law37_IdleSelectMinimizesEnergy.l1]
    by_cases h : i < (L.length : Int)
    · rw [if_pos h, bind_s (energy g h0 h ht.1 (by omega) (by omega)), wi (i + 1) (by omega) (by omega)]
      dsimp only
      rw [if_pos rfl, ck_t ⟨h0, h⟩]
      have hz : (if (gd IdleState.zero L i).Latency ≤ Int.tmod b 300 then some (decide (En L i (Int.tmod a 1500) < En L r (Int.tmod a 1500))) else some false) = some false := by
        by_cases h2 : (gd IdleState.zero L i).Latency ≤ Int.tmod b 300
        · have := best_all g hb h0 h h2
          rw [if_pos h2, decide_eq_false (by omega)]
        · rw [if_neg h2]
      rw [hz, bind_s rfl, if_neg (by decide)]
      exact min_l1 g ha hb k (i + 1) (by omega) (by omega) (by omega)
    · rw [if_neg h]
theorem pureIdleSelectMinimizesEnergy : law37_IdleSelectMinimizesEnergy.Pure := by
  intro a t l hl ha ht hlm
  refine ⟨20, ?_⟩
  have ht0 := (inK_u64 ht).1; have hl0 := (inK_u64 hlm).1
  rw [law37_IdleSelectMinimizesEnergy.f]
  by_cases h : 20 < (a.length : Int)
  · rw [if_pos h, bind_s awake]
  · obtain ⟨L, hL, g⟩ := states 20 (by decide) a ha
    have l1 := g.l1; have l7 := g.l7
    have hT : 0 ≤ Int.tmod t 1500 ∧ Int.tmod t 1500 ≤ 1499 := by rw [tm _ ht0]; omega
    obtain ⟨r, hr, hb⟩ := select g (t := Int.tmod t 1500) (l := Int.tmod l 300) (by omega) (by rw [tm _ hl0]; omega)
    have r0 := hb.r0; have r1 := hb.r1
    rw [if_neg h, bind_s hL, bind_s hr]
    dsimp only
    rw [bind_s (energy g r0 r1 hT.1 (by omega) (by decide))]
    dsimp only
    rw [if_pos rfl, decide_eq_true rfl, bind_s rfl, if_neg (by decide), bind_s (min_l1 g ht0 hb 20 0 (by omega) (by omega) (by omega)), el_g, bind_s awake]
theorem pureIdleBreakEven : law37_IdleBreakEven.Pure := by
  intro a m t hl ha hm ht
  refine ⟨20, ?_⟩
  have ht0 := (inK_u64 ht).1
  rw [law37_IdleBreakEven.f]
  by_cases h : 20 < (a.length : Int)
  · rw [if_pos h, bind_s awake]
  · obtain ⟨L, hL, g⟩ := states 20 (by decide) a ha
    have l1 := g.l1; have l7 := g.l7
    rw [if_neg h, bind_s hL]
    by_cases h2 : (L.length : Int) < 2
    · rw [if_pos h2, bind_s awake]
    · obtain ⟨q, hq, q0, q1⟩ := mod_ 20 m ((L.length : Int) - 1) (by omega) (by omega)
      rw [if_neg h2, wi ((L.length : Int) - 1) (by omega) (by omega), bind_s hq, wi (1 + q) (by omega) (by omega), wi (1 + q - 1) (by omega) (by omega)]
      obtain ⟨i, hi⟩ : ∃ i, 1 + q = i := ⟨_, rfl⟩
      rw [hi, ck_t ⟨by omega, by omega⟩]
      have b := g.bd i (by omega) (by omega)
      have b' := g.bd (i - 1) (by omega) (by omega)
      have c := g.asc i (by omega) (by omega)
      obtain ⟨R, hR⟩ : ∃ R, (gd IdleState.zero L i).Residency = R := ⟨_, rfl⟩
      rw [hR]
      rw [hR] at b c
      have d0 := Int.emod_nonneg t (show R ≠ 0 by omega)
      have d1 := Int.emod_lt_of_pos t (show 0 < R by omega)
      rw [tm R ht0, tm 1000 ht0, wu (R + 1) (by omega) (by omega), wu (R + 1 + _) (by omega) (by omega)]
      have E1 := En_step L i R (by omega)
      have E2 := En_step L i (t % R) (by omega)
      have E3 := En_step L i (R + 1 + t % 1000) (by omega)
      rw [hR] at E1 E2 E3
      have P : 0 < (gd IdleState.zero L (i - 1)).Power - (gd IdleState.zero L i).Power := by omega
      have m2 := Int.mul_pos P (show 0 < R - t % R by omega)
      have m3 := Int.mul_pos P (show 0 < -(R - (R + 1 + t % 1000)) by omega)
      rw [Int.mul_neg] at m3
      rw [Int.sub_self, Int.mul_zero, Int.add_zero] at E1
      rw [bind_s (energy g (m := i - 1) (by omega) (by omega) (by omega) (by omega) (by decide)), bind_s (energy g (m := i) (by omega) (by omega) (by omega) (by omega) (by decide)), ck_t (by omega),
        bind_s (energy g (m := i - 1) (by omega) (by omega) (by omega) (by omega) (by decide)), bind_s (energy g (m := i) (by omega) (by omega) (by omega) (by omega) (by decide)),
        bind_s (energy g (m := i - 1) (by omega) (by omega) (by omega) (by omega) (by decide)), bind_s (energy g (m := i) (by omega) (by omega) (by omega) (by omega) (by decide))]
      dsimp only
      rw [if_pos rfl, if_pos rfl, if_pos rfl, if_pos rfl, if_pos rfl, if_pos rfl, if_pos E1.symm, if_pos (by omega), if_pos (by omega), bind_s awake]
/-! ## SelectAgrees -/
theorem sel_any_l1 (a : List IdleState) (hl : (a.length : Int) ≤ 10) (t l : Int) : ∀ (k : Nat) (b i : Int), 0 ≤ i → i ≤ a.length → (a.length : Int) - i < k → ∃ r, idle_Select.l1 k a l t b i = some r
  | 0, _, _, _, _, hk => by omega
  | k + 1, b, i, h0, h1, hk => by
    rw [idle_Select.l1]
    by_cases h : i < (a.length : Int)
    · rw [if_pos h, ck_t ⟨h0, h⟩, wi (i + 1) (by omega) (by omega)]
      refine bind_e (bind_e ?_ fun x _ => ?_) fun x _ => sel_any_l1 a hl t l k _ _ (by omega) (by omega) (by omega)
      · split <;> exact ⟨_, rfl⟩
      · split <;> exact ⟨_, rfl⟩
    · rw [if_neg h]; exact ⟨_, rfl⟩
theorem select_any (a : List IdleState) (t l : Int) (k : Nat) (hk : 12 ≤ k) : ∃ r, idle_Select.f k a t l = some r := by
  obtain ⟨c, hc, hc'⟩ := chk_any a k hk
  rw [idle_Select.f, bind_s hc]
  by_cases h : c = 0
  · rw [if_pos h]
    exact bind_e (sel_any_l1 a (hc' h).1 t l k _ _ (by omega) (by omega) (by omega)) fun x _ => ⟨_, rfl⟩
  · rw [if_neg h]; exact ⟨_, rfl⟩
theorem ref_sel_l1 : ∀ (k : Nat) (a : List IdleState) (l t b i : Int), ref37_Select.l1 k a l t b i = idle_Select.l1 k a l t b i
  | 0, _, _, _, _, _ => rfl
  | k + 1, a, l, t, b, i => by
    simp only [ref37_Select.l1, idle_Select.l1, ref_sel_l1 k]
    by_cases h : (0 : Int) ≤ i ∧ i < (a.length : Int)
    · rw [ck_t h, ck_t h]
    · simp only [ck, if_neg h, Option.bind_none]
theorem ref_select (k : Nat) (a : List IdleState) (t l : Int) : ref37_Select.f k a t l = idle_Select.f k a t l := by simp only [ref37_Select.f, idle_Select.f, ref_chk, ref_sel_l1]
theorem sa_body (X : List IdleState) (a1 a2 : Int) (k : Nat) (hk : 12 ≤ k) : (((idle_Select.f k X (Int.tmod a1 1500) (Int.tmod a2 300)).bind fun s32 => ((ref37_Select.f k X (Int.tmod a1 1500) (Int.tmod a2 300)).bind fun s34 => ((idle_Select.f k X a1 a2).bind fun s36 => ((ref37_Select.f k X a1 a2).bind fun s38 => ((((idle_Check.f k X).bind fun s41 => ((ref37_Check.f k X).bind fun s42 => (if s41 = s42 then (if s32.1 = s34.1 then (if s32.2 = s34.2 then (if s36.1 = s38.1 then (some (!decide (s36.2 = s38.2))) else (some true)) else (some true)) else (some true)) else (some true))))).bind fun x40 => (if x40 = true then (some (.rt (some (.rt (some false))))) else (some (.go ())))))))) : Option (Ex (Unit) (Option (Ex (Unit) (Option (Bool)))))) = some (.go ()) := by
  obtain ⟨r1, h1⟩ := select_any X (Int.tmod a1 1500) (Int.tmod a2 300) k hk
  obtain ⟨r2, h2⟩ := select_any X a1 a2 k hk
  obtain ⟨c, hc, _⟩ := chk_any X k hk
  rw [ref_select, ref_select, bind_s h1, bind_s h1, bind_s h2, bind_s h2, ref_chk, bind_s hc, bind_s hc, if_pos rfl, if_pos rfl, if_pos rfl, if_pos rfl, decide_eq_true rfl]
  rfl
theorem sa_l1 (a0 : List IdleState) (a1 a2 : Int) (s8 : List IdleState) (s16 : Int) (a4 : IdleState) : ∀ (k : Nat) (i : Int), 0 ≤ i → i ≤ 3 → 3 - i + 13 < k → law37_IdleSelectAgrees.l1 k a0 a1 a2 s8 s16 a4 i = some (.go ())
  | 0, _, _, _, hk => by omega
  | k + 1, i, h0, h1, hk => by
    rw [law37_IdleSelectAgrees.l1]
    by_cases h : i < 3
    · rw [if_pos h, wi (i + 1) (by omega) (by omega)]
      have ih := sa_l1 a0 a1 a2 s8 s16 a4 k (i + 1) (by omega) (by omega) (by omega)
      by_cases e0 : i = 0
      · rw [if_pos e0, bind_s (sa_body a0 a1 a2 k (by omega)), el_g, ih]
      · rw [if_neg e0]
        by_cases e1 : i = 1
        · rw [if_pos e1, bind_s (sa_body s8 a1 a2 k (by omega)), el_g, ih]
        · rw [if_neg e1, if_pos (show i = 2 by omega), bind_s (sa_body _ a1 a2 k (by omega)), el_g, ih]
    · rw [if_neg h]
theorem pureIdleSelectAgrees : law37_IdleSelectAgrees.Pure := by
  intro a t l m x hl ha _ _ _ _
  refine ⟨20, ?_⟩
  rw [law37_IdleSelectAgrees.f]
  by_cases h : 20 < (a.length : Int)
  · rw [if_pos h, bind_s awake]
  · obtain ⟨L, hL, g⟩ := states 20 (by decide) a ha
    have l1 := g.l1; have l7 := g.l7
    obtain ⟨i, hi, i0, i1⟩ := mod_ 20 m L.length (by omega) (by omega)
    rw [if_neg h, bind_s hL]
    simp only [List.nil_append, List.length_nil]
    rw [ck_t (by simp; omega), bind_s hi, ck_t ⟨i0, i1⟩]
    rw [bind_s (sa_l1 a t l L i x 20 0 (by omega) (by omega) (by omega)), el_g, bind_s awake]
/-! ## Predictor -/
def sw : Int → List Int → Int
  | y, [] => y
  | y, x :: r => sw (IntKind.u64.wrap (y + x)) r
def mw : Int → List Int → Int
  | y, [] => y
  | y, x :: r => mw (mx y x) r
theorem ie_l1 (xs : List Int) (hl : (xs.length : Int) ≤ 1000) : ∀ (k : Nat) (y i : Int), 0 ≤ i → i ≤ xs.length → (xs.length : Int) - i < k → idle_Predictor_Expected.l1 k xs y i = some (sw y (xs.drop i.toNat))
  | 0, _, _, _, _, hk => by omega
  | k + 1, y, i, h0, h1, hk => by
    rw [idle_Predictor_Expected.l1]
    by_cases h : i < (xs.length : Int)
    · rw [if_pos h, ck_t ⟨h0, h⟩, wi (i + 1) (by omega) (by omega), ie_l1 xs hl k _ _ (by omega) (by omega) (by omega), drop_gd (z := 0) h0 h]
      rfl
    · rw [if_neg h, drop_end h]
      rfl
theorem sm_l1 (xs : List Int) (hl : (xs.length : Int) ≤ 1000) : ∀ (k : Nat) (y i : Int), 0 ≤ i → i ≤ xs.length → (xs.length : Int) - i < k → slices_Max_uint64_uint64.l1 k xs y i = some (mw y (xs.drop i.toNat))
  | 0, _, _, _, _, hk => by omega
  | k + 1, y, i, h0, h1, hk => by
    rw [slices_Max_uint64_uint64.l1]
    by_cases h : i < (xs.length : Int)
    · rw [if_pos h, ck_t ⟨h0, h⟩, wi (i + 1) (by omega) (by omega), sm_l1 xs hl k _ _ (by omega) (by omega) (by omega), drop_gd (z := 0) h0 h]
      rfl
    · rw [if_neg h, drop_end h]
      rfl
theorem re_l1 (xs : List Int) (hl : (xs.length : Int) ≤ 1000) : ∀ (k : Nat) (y m i : Int), 0 ≤ i → i ≤ xs.length → (xs.length : Int) - i < k → ref37_Predictor_Expected.l1 k xs y m i = some (sw y (xs.drop i.toNat), mw m (xs.drop i.toNat))
  | 0, _, _, _, _, _, hk => by omega
  | k + 1, y, m, i, h0, h1, hk => by
    rw [ref37_Predictor_Expected.l1]
    by_cases h : i < (xs.length : Int)
    · rw [if_pos h, ck_t ⟨h0, h⟩, wi (i + 1) (by omega) (by omega), re_l1 xs hl k _ _ _ (by omega) (by omega) (by omega), drop_gd (z := 0) h0 h]
      rfl
    · rw [if_neg h, drop_end h]
      rfl
def Ex8 (xs : List Int) (t : Int) : Int := if (xs.length : Int) < 8 then t else mn t (IntKind.u64.wrap (Int.tdiv (IntKind.u64.wrap (sw 0 xs - mw 0 xs)) 7))
theorem idle_exp (xs : List Int) (t : Int) (k : Nat) (hl : (xs.length : Int) ≤ 50) (hk : 60 ≤ k) (h0 : ∀ x ∈ xs, (0 : Int) ≤ x) : idle_Predictor_Expected.f k xs t = some (Ex8 xs t) := by
  rw [idle_Predictor_Expected.f, Ex8]
  by_cases h : (xs.length : Int) < 8
  · rw [if_pos h, if_pos h]
  · rw [if_neg h, if_neg h, bind_s (ie_l1 xs (by omega) k 0 0 (by omega) (by omega) (by omega)), slices_Max_uint64_uint64.f, if_neg (by omega), ck_t ⟨by omega, by omega⟩, bind_s (sm_l1 xs (by omega) k _ 1 (by omega) (by omega) (by omega))]
    have e : mw 0 xs = mw (gd 0 xs 0) (xs.drop (1 : Int).toNat) := by
      have h1 := h0 _ (gd_mem (z := 0) (xs := xs) (i := 0) (by omega) (by omega))
      have h2 := drop_gd (z := 0) (xs := xs) (i := 0) (by omega) (by omega)
      rw [show (0 : Int).toNat = 0 from rfl, List.drop_zero, show (0 : Int) + 1 = 1 from rfl] at h2
      have h3 : mx 0 (gd 0 xs 0) = gd 0 xs 0 := by unfold mx; split <;> omega
      calc mw 0 xs = mw 0 (gd 0 xs 0 :: xs.drop (1 : Int).toNat) := by rw [← h2]
        _ = _ := by rw [mw, h3]
    rw [e]
    rfl
def lastn (xs : List Int) : List Int := xs.drop (xs.length - 8)
theorem ref_exp (xs : List Int) (t : Int) (k : Nat) (hl : (xs.length : Int) ≤ 50) (hk : 60 ≤ k) : ref37_Predictor_Expected.f k xs t = some (Ex8 (lastn xs) t) := by
  have e0 : (lastn xs).length = xs.length - (xs.length - 8) := by simp [lastn]
  rw [ref37_Predictor_Expected.f, Ex8]
  by_cases h : (xs.length : Int) < 8
  · rw [if_pos h, if_pos (by omega)]
  · have e : xs.drop (((xs.length : Int) - 8).toNat) = lastn xs := by rw [lastn, show ((xs.length : Int) - 8).toNat = xs.length - 8 by omega]
    rw [if_neg h, if_neg (by omega), wi ((xs.length : Int) - 8) (by omega) (by omega), bind_s (re_l1 xs (by omega) k 0 0 _ (by omega) (by omega) (by omega)), e]
theorem lastn_add (xs : List Int) (d : Int) : lastn (xs ++ [d]) = if 8 < (lastn xs ++ [d]).length then (lastn xs ++ [d]).drop 1 else lastn xs ++ [d] := by
  have e0 : (lastn xs).length = xs.length - (xs.length - 8) := by simp [lastn]
  by_cases h : xs.length < 8
  · rw [if_neg (by simp [e0]; omega)]
    simp [lastn, show xs.length + 1 - 8 = 0 by omega, show xs.length - 8 = 0 by omega]
  · rw [if_pos (by simp [e0]; omega)]
    unfold lastn
    rw [List.length_append, List.length_singleton, show xs.length + 1 - 8 = (xs.length - 8) + 1 by omega, ← List.drop_drop, List.drop_append_of_le_length (by omega)]
theorem idle_rec (xs : List Int) (d : Int) (k : Nat) (hl : (xs.length : Int) ≤ 50) : idle_Predictor_Record.f k (lastn xs) d = some (if 1152921504606846976 < d then (lastn xs, 1) else (lastn (xs ++ [d]), 0)) := by
  have e0 : (lastn xs).length = xs.length - (xs.length - 8) := by simp [lastn]
  rw [idle_Predictor_Record.f]
  by_cases h : 1152921504606846976 < d
  · rw [if_pos h, if_pos h]
  · rw [if_neg h, if_neg h, ck_t (by simp [e0]; omega), lastn_add]
    by_cases h2 : 8 < (lastn xs ++ [d]).length
    · rw [if_pos (by omega), if_pos h2, ck_t ⟨by omega, by simp; omega, by omega⟩, slices_Clone_uint64_uint64.f, ck_t (by simp; omega), List.nil_append]
      have e1 : ((lastn xs ++ [d]).drop (1 : Int).toNat).take ((((lastn xs ++ [d]).length : Int).toNat) - (1 : Int).toNat) = (lastn xs ++ [d]).drop 1 := by
        rw [show (1 : Int).toNat = 1 from rfl]
        exact List.take_of_length_le (by simp)
      rw [e1]
      rfl
    · rw [if_neg (by omega), if_neg h2]
      rfl
theorem ref_rec (xs : List Int) (d : Int) (k : Nat) (hl : (xs.length : Int) ≤ 50) : ref37_Predictor_Record.f k xs d = some (if 1152921504606846976 < d then (xs, 1) else (xs ++ [d], 0)) := by
  rw [ref37_Predictor_Record.f]
  by_cases h : 1152921504606846976 < d
  · rw [if_pos h, if_pos h]
  · rw [if_neg h, if_neg h, ck_t (by simp; omega)]
theorem lastn_nn {xs : List Int} (h : ∀ x ∈ xs, (0 : Int) ≤ x) : ∀ x ∈ lastn xs, (0 : Int) ≤ x := fun x hx => h x (List.mem_of_mem_drop hx)
theorem lastn_len (xs : List Int) : (lastn xs).length ≤ 8 := by simp [lastn]; omega

theorem pa_l1 (a0 : List Int) (a1 : Int) (ha : ∀ x ∈ a0, (0 : Int) ≤ x) (hl : (a0.length : Int) ≤ 40) : ∀ (k : Nat) (xs : List Int) (i : Int), 0 ≤ i → i ≤ a0.length → (xs.length : Int) ≤ i → (∀ x ∈ xs, (0 : Int) ≤ x) → (a0.length : Int) - i + 60 < k →
    law37_IdlePredictorAgrees.l1 k a0 a1 (lastn xs) xs i = some (.go ())
  | 0, _, _, _, _, _, _, hk => by omega
  | k + 1, xs, i, h0, h1, hx, hn, hk => by
    rw [law37_IdlePredictorAgrees.l1]
    by_cases h : i < (a0.length : Int)
    · have g0 := ha _ (gd_mem (z := 0) h0 h)
      rw [if_pos h, ck_t ⟨h0, h⟩, wi (i + 1) (by omega) (by omega)]
      obtain ⟨d, hd, d0⟩ : ∃ d, (if 0 < (Int.tmod i 5) then (some (Int.tmod (gd 0 a0 i) 1000)) else (some (gd 0 a0 i))) = some d ∧ 0 ≤ d := by
        split
        · exact ⟨_, rfl, by rw [tm _ g0]; omega⟩
        · exact ⟨_, rfl, g0⟩
      rw [bind_s hd, idle_rec xs d k (by omega), ref_rec xs d k (by omega), bind_s rfl, bind_s rfl]
      by_cases hb : 1152921504606846976 < d
      · rw [if_pos hb, if_pos hb]
        have l8 := lastn_len xs
        dsimp only
        rw [if_pos rfl, bind_s (idle_exp _ _ k (by omega) (by omega) (lastn_nn hn)), bind_s (ref_exp xs _ k (by omega) (by omega)), if_pos rfl, bind_s (idle_exp _ _ k (by omega) (by omega) (lastn_nn hn)), bind_s (ref_exp xs _ k (by omega) (by omega)), decide_eq_true rfl, bind_s rfl]
        exact pa_l1 a0 a1 ha hl k xs (i + 1) (by omega) (by omega) (by omega) hn (by omega)
      · have hn' : ∀ x ∈ xs ++ [d], (0 : Int) ≤ x := fun x hx => by
          rcases List.mem_append.1 hx with hx | hx
          · exact hn x hx
          · rw [List.mem_singleton.1 hx]; exact d0
        have l8 := lastn_len (xs ++ [d])
        have l9 : ((xs ++ [d]).length : Int) ≤ i + 1 := by simp; omega
        rw [if_neg hb, if_neg hb]
        dsimp only
        rw [if_pos rfl, bind_s (idle_exp _ _ k (by omega) (by omega) (lastn_nn hn')), bind_s (ref_exp _ _ k (by omega) (by omega)), if_pos rfl, bind_s (idle_exp _ _ k (by omega) (by omega) (lastn_nn hn')), bind_s (ref_exp _ _ k (by omega) (by omega)), decide_eq_true rfl, bind_s rfl]
        exact pa_l1 a0 a1 ha hl k _ (i + 1) (by omega) (by omega) (by omega) hn' (by omega)
    · rw [if_neg h]
theorem awake_k : law37_awake.f 200 = some true := by decide +kernel
theorem pureIdlePredictorAgrees : law37_IdlePredictorAgrees.Pure := by
  intro a t _ ha _
  refine ⟨200, ?_⟩
  rw [law37_IdlePredictorAgrees.f]
  by_cases h : 40 < (a.length : Int)
  · rw [if_pos h, bind_s awake_k]
  · rw [if_neg h, idle_NewPredictor.f, ref37_NewPredictor.f, bind_s rfl, bind_s rfl]
    have := pa_l1 a t (fun x hx => (inK_u64 (ha x hx)).1) (by omega) 200 [] 0 (by omega) (by omega) (by simp) (fun x h => by cases h) (by omega)
    rw [show lastn [] = ([] : List Int) from rfl] at this
    rw [bind_s this, el_g, bind_s awake_k]
/-! ## Bounds of the predictor -/
def md (d : Int) : Int := Int.tmod d 1125899906842624
theorem md_bd {d : Int} (h : 0 ≤ d) : 0 ≤ md d ∧ md d < 1125899906842624 := by rw [md, tm _ h]; omega
theorem take_gd {z : Int} {xs : List Int} {i : Int} (h0 : 0 ≤ i) (h1 : i < xs.length) : xs.take (i + 1).toNat = xs.take i.toNat ++ [gd z xs i] := by
  rw [show (i + 1).toNat = i.toNat + 1 by omega, List.take_add_one]
  congr 1
  unfold gd
  rw [List.getD_eq_getElem?_getD, List.getElem?_eq_getElem (show i.toNat < xs.length by omega)]
  rfl
theorem pb_l1 (a0 : List Int) (ha : ∀ x ∈ a0, (0 : Int) ≤ x) (hl : (a0.length : Int) ≤ 30) : ∀ (k : Nat) (i : Int), 0 ≤ i → i ≤ a0.length → (a0.length : Int) - i < k →
    law37_IdlePredictorBounds.l1 k a0 (lastn ((a0.take i.toNat).map md)) i = some (.go (lastn (a0.map md)))
  | 0, _, _, _, hk => by omega
  | k + 1, i, h0, h1, hk => by
    rw [law37_IdlePredictorBounds.l1]
    by_cases h : i < (a0.length : Int)
    · have g0 := md_bd (ha _ (gd_mem (z := 0) h0 h))
      have e : Int.tmod (gd 0 a0 i) 1125899906842624 = md (gd 0 a0 i) := rfl
      have ih := pb_l1 a0 ha hl k (i + 1) (by omega) (by omega) (by omega)
      rw [take_gd (z := 0) h0 h, List.map_append, List.map_singleton] at ih
      rw [if_pos h, ck_t ⟨h0, h⟩, wi (i + 1) (by omega) (by omega), e, idle_rec _ _ k (by simp; omega), if_neg (by omega), bind_s rfl]
      dsimp only
      rw [if_pos rfl]
      exact ih
    · rw [if_neg h, List.take_of_length_le (by omega)]
def mnf : Int → List Int → Int
  | y, [] => y
  | y, x :: r => mnf (mn y x) r
theorem pb_l2 (a1 : Int) (a0 : List Int) (D : List Int) (s : Int) (hD : ((a0.drop ((IntKind.i64.wrap ((a0.length : Int) - 8)).toNat)).take (((a0.length : Int).toNat) - ((IntKind.i64.wrap ((a0.length : Int) - 8)).toNat))) = D) (hl : D.length = 8) (hn : ∀ x ∈ D, (0 : Int) ≤ x)
    (hs : ∀ k, help_Mod.f k a1 8 = some s) (s0 : 0 ≤ s) (s1 : s < 8) : ∀ (n : Nat) (k : Nat) (y : List Int) (m M : Int) (i : Nat), i + n = 8 → y.length = i → n < k →
    law37_IdlePredictorBounds.l2 k a1 a0 y m M (i : Int) = some (.go (y ++ (List.range' i n).map (fun j : Nat => md (gd 0 D (((j : Int) + s) % 8))), mnf m ((List.range' i n).map (fun j : Nat => md (gd 0 D (((j : Int) + s) % 8)))), mw M ((List.range' i n).map (fun j : Nat => md (gd 0 D (((j : Int) + s) % 8))))))
  | 0, 0, _, _, _, _, _, _, hk => by omega
  | 0, k + 1, y, m, M, i, h, hy, hk => by
    rw [law37_IdlePredictorBounds.l2, if_neg (by omega)]
    simp [mnf, mw]
  | n + 1, 0, _, _, _, _, _, _, hk => by omega
  | n + 1, k + 1, y, m, M, i, h, hy, hk => by
    have g0 := md_bd (hn _ (gd_mem (z := 0) (xs := D) (i := ((i : Int) + s) % 8) (by omega) (by omega)))
    have e : Int.tmod (gd 0 D (((i : Int) + s) % 8)) 1125899906842624 = md (gd 0 D (((i : Int) + s) % 8)) := rfl
    have ly : lastn y = y := by simp [lastn, show y.length - 8 = 0 by omega]
    have lz : lastn (y ++ [md (gd 0 D (((i : Int) + s) % 8))]) = y ++ [md (gd 0 D (((i : Int) + s) % 8))] := by simp [lastn, show y.length + 1 - 8 = 0 by omega]
    have hrc := idle_rec y (md (gd 0 D (((i : Int) + s) % 8))) k (by omega)
    rw [ly, lz, if_neg (by omega)] at hrc
    have ih := pb_l2 a1 a0 D s hD hl hn hs s0 s1 n k (y ++ [md (gd 0 D (((i : Int) + s) % 8))]) (mn m (md (gd 0 D (((i : Int) + s) % 8)))) (mx M (md (gd 0 D (((i : Int) + s) % 8)))) (i + 1) (by omega) (by simp [hy]) (by omega)
    rw [law37_IdlePredictorBounds.l2, if_pos (by omega), hD, bind_s (hs k), wi ((i : Int) + s) (by omega) (by omega), tm _ (show 0 ≤ (i : Int) + s by omega), ck_t ⟨by omega, by omega⟩, e, bind_s hrc]
    dsimp only
    rw [if_pos rfl, wi ((i : Int) + 1) (by omega) (by omega)]
    rw [show (i : Int) + 1 = ((i + 1 : Nat) : Int) by omega, ih, List.range'_succ, List.map_cons]
    simp [mnf, mw, List.append_assoc]
theorem bounds_8 (x0 x1 x2 x3 x4 x5 x6 x7 : Int) (h0 : 0 ≤ x0 ∧ x0 < 1125899906842624) (h1 : 0 ≤ x1 ∧ x1 < 1125899906842624) (h2 : 0 ≤ x2 ∧ x2 < 1125899906842624) (h3 : 0 ≤ x3 ∧ x3 < 1125899906842624) (h4 : 0 ≤ x4 ∧ x4 < 1125899906842624) (h5 : 0 ≤ x5 ∧ x5 < 1125899906842624) (h6 : 0 ≤ x6 ∧ x6 < 1125899906842624) (h7 : 0 ≤ x7 ∧ x7 < 1125899906842624) :
    ∃ q, (∀ t, Ex8 [x0, x1, x2, x3, x4, x5, x6, x7] t = mn t q) ∧ q = (x0 + x1 + x2 + x3 + x4 + x5 + x6 + x7 - mw 0 [x0, x1, x2, x3, x4, x5, x6, x7]) / 7 ∧
      mnf 1152921504606846976 [x0, x1, x2, x3, x4, x5, x6, x7] ≤ q ∧ q ≤ mw 0 [x0, x1, x2, x3, x4, x5, x6, x7] ∧ q < 1125899906842624 := by
  have hw : ∀ {y}, 0 ≤ y → y < 18446744073709551616 → IntKind.u64.wrap y = y := fun a b => wu _ a b
  have es : sw 0 [x0, x1, x2, x3, x4, x5, x6, x7] = x0 + x1 + x2 + x3 + x4 + x5 + x6 + x7 := by
    simp only [sw]
    rw [hw (y := 0 + x0) (by omega) (by omega), Int.zero_add, hw (y := x0 + x1) (by omega) (by omega), hw (y := x0 + x1 + x2) (by omega) (by omega), hw (y := x0 + x1 + x2 + x3) (by omega) (by omega), hw (y := x0 + x1 + x2 + x3 + x4) (by omega) (by omega),
      hw (y := x0 + x1 + x2 + x3 + x4 + x5) (by omega) (by omega), hw (y := x0 + x1 + x2 + x3 + x4 + x5 + x6) (by omega) (by omega), hw (by omega) (by omega)]
  obtain ⟨M, hM⟩ : ∃ M, mw 0 [x0, x1, x2, x3, x4, x5, x6, x7] = M := ⟨_, rfl⟩
  obtain ⟨m, hm⟩ : ∃ m, mnf 1152921504606846976 [x0, x1, x2, x3, x4, x5, x6, x7] = m := ⟨_, rfl⟩
  have fM : 0 ≤ M ∧ x0 ≤ M ∧ x1 ≤ M ∧ x2 ≤ M ∧ x3 ≤ M ∧ x4 ≤ M ∧ x5 ≤ M ∧ x6 ≤ M ∧ x7 ≤ M ∧ (M = 0 ∨ M = x0 ∨ M = x1 ∨ M = x2 ∨ M = x3 ∨ M = x4 ∨ M = x5 ∨ M = x6 ∨ M = x7) := by
    simp only [mw] at hM
    have p0 := mx_ge 0 x0
    generalize mx 0 x0 = y0 at hM p0
    have p1 := mx_ge y0 x1
    generalize mx y0 x1 = y1 at hM p1
    have p2 := mx_ge y1 x2
    generalize mx y1 x2 = y2 at hM p2
    have p3 := mx_ge y2 x3
    generalize mx y2 x3 = y3 at hM p3
    have p4 := mx_ge y3 x4
    generalize mx y3 x4 = y4 at hM p4
    have p5 := mx_ge y4 x5
    generalize mx y4 x5 = y5 at hM p5
    have p6 := mx_ge y5 x6
    generalize mx y5 x6 = y6 at hM p6
    have p7 := mx_ge y6 x7
    rw [hM] at p7
    refine ⟨by omega, by omega, by omega, by omega, by omega, by omega, by omega, by omega, by omega, ?_⟩
    rcases p7.2.2 with h | h
    · rcases p6.2.2 with h' | h'
      · rcases p5.2.2 with h'' | h''
        · rcases p4.2.2 with g | g
          · rcases p3.2.2 with g' | g'
            · rcases p2.2.2 with g'' | g'' <;> omega
            · omega
          · omega
        · omega
      · omega
    · omega
  have fm : m ≤ x0 ∧ m ≤ x1 ∧ m ≤ x2 ∧ m ≤ x3 ∧ m ≤ x4 ∧ m ≤ x5 ∧ m ≤ x6 ∧ m ≤ x7 := by
    simp only [mnf] at hm
    have p0 := mn_le 1152921504606846976 x0
    generalize mn 1152921504606846976 x0 = y0 at hm p0
    have p1 := mn_le y0 x1
    generalize mn y0 x1 = y1 at hm p1
    have p2 := mn_le y1 x2
    generalize mn y1 x2 = y2 at hm p2
    have p3 := mn_le y2 x3
    generalize mn y2 x3 = y3 at hm p3
    have p4 := mn_le y3 x4
    generalize mn y3 x4 = y4 at hm p4
    have p5 := mn_le y4 x5
    generalize mn y4 x5 = y5 at hm p5
    have p6 := mn_le y5 x6
    generalize mn y5 x6 = y6 at hm p6
    have p7 := mn_le y6 x7
    rw [hm] at p7
    omega
  rw [hM, hm]
  obtain ⟨f0, f1, f2, f3, f4, f5, f6, f7, f8, f9⟩ := fM
  have key : 7 * m ≤ x0 + x1 + x2 + x3 + x4 + x5 + x6 + x7 - M ∧ x0 + x1 + x2 + x3 + x4 + x5 + x6 + x7 - M ≤ 7 * M ∧ 0 ≤ x0 + x1 + x2 + x3 + x4 + x5 + x6 + x7 - M ∧ M < 1125899906842624 := by
    rcases f9 with e | e | e | e | e | e | e | e | e <;> omega
  refine ⟨(x0 + x1 + x2 + x3 + x4 + x5 + x6 + x7 - M) / 7, fun t => ?_, rfl, by omega, by omega, by omega⟩
  unfold Ex8
  rw [if_neg (by simp), es, hM, hw (y := x0 + x1 + x2 + x3 + x4 + x5 + x6 + x7 - M) (by omega) (by omega), td _ (by omega), hw (y := (x0 + x1 + x2 + x3 + x4 + x5 + x6 + x7 - M) / 7) (by omega) (by omega)]
theorem rot_8 (x0 x1 x2 x3 x4 x5 x6 x7 : Int) (s : Int) (s0 : 0 ≤ s) (s1 : s < 8) :
    ∃ y0 y1 y2 y3 y4 y5 y6 y7, (List.range' 0 8).map (fun j : Nat => (gd 0 [x0, x1, x2, x3, x4, x5, x6, x7] (((j : Int) + s) % 8))) = [y0, y1, y2, y3, y4, y5, y6, y7] ∧
      y0 + y1 + y2 + y3 + y4 + y5 + y6 + y7 = x0 + x1 + x2 + x3 + x4 + x5 + x6 + x7 ∧ mw 0 [y0, y1, y2, y3, y4, y5, y6, y7] = mw 0 [x0, x1, x2, x3, x4, x5, x6, x7] ∧
      (∀ P : Int → Prop, P x0 → P x1 → P x2 → P x3 → P x4 → P x5 → P x6 → P x7 → P y0 ∧ P y1 ∧ P y2 ∧ P y3 ∧ P y4 ∧ P y5 ∧ P y6 ∧ P y7) := by
  have hs : s = 0 ∨ s = 1 ∨ s = 2 ∨ s = 3 ∨ s = 4 ∨ s = 5 ∨ s = 6 ∨ s = 7 := by omega
  rcases hs with rfl | rfl | rfl | rfl | rfl | rfl | rfl | rfl
  · exact ⟨x0, x1, x2, x3, x4, x5, x6, x7, rfl, by omega, by simp only [mw], fun P _ _ _ _ _ _ _ _ => by simp only [*, and_self]⟩
  · exact ⟨x1, x2, x3, x4, x5, x6, x7, x0, rfl, by omega, by simp only [mw]; ac_rfl, fun P _ _ _ _ _ _ _ _ => by simp only [*, and_self]⟩
  · exact ⟨x2, x3, x4, x5, x6, x7, x0, x1, rfl, by omega, by simp only [mw]; ac_rfl, fun P _ _ _ _ _ _ _ _ => by simp only [*, and_self]⟩
  · exact ⟨x3, x4, x5, x6, x7, x0, x1, x2, rfl, by omega, by simp only [mw]; ac_rfl, fun P _ _ _ _ _ _ _ _ => by simp only [*, and_self]⟩
  · exact ⟨x4, x5, x6, x7, x0, x1, x2, x3, rfl, by omega, by simp only [mw]; ac_rfl, fun P _ _ _ _ _ _ _ _ => by simp only [*, and_self]⟩
  · exact ⟨x5, x6, x7, x0, x1, x2, x3, x4, rfl, by omega, by simp only [mw]; ac_rfl, fun P _ _ _ _ _ _ _ _ => by simp only [*, and_self]⟩
  · exact ⟨x6, x7, x0, x1, x2, x3, x4, x5, rfl, by omega, by simp only [mw]; ac_rfl, fun P _ _ _ _ _ _ _ _ => by simp only [*, and_self]⟩
  · exact ⟨x7, x0, x1, x2, x3, x4, x5, x6, rfl, by omega, by simp only [mw]; ac_rfl, fun P _ _ _ _ _ _ _ _ => by simp only [*, and_self]⟩
theorem len8 {D : List Int} (h : D.length = 8) : ∃ d0 d1 d2 d3 d4 d5 d6 d7, D = [d0, d1, d2, d3, d4, d5, d6, d7] := by
  match D, h with
  | [d0, d1, d2, d3, d4, d5, d6, d7], _ => exact ⟨_, _, _, _, _, _, _, _, rfl⟩
theorem gd_map {xs : List Int} {i : Int} (h0 : 0 ≤ i) (h1 : i < xs.length) : md (gd 0 xs i) = gd 0 (xs.map md) i := by
  unfold gd
  rw [List.getD_eq_getElem?_getD, List.getD_eq_getElem?_getD, List.getElem?_map, List.getElem?_eq_getElem (show i.toNat < xs.length by omega)]
  rfl
theorem pureIdlePredictorBounds : law37_IdlePredictorBounds.Pure := by
  intro a m t _ ha _ ht
  refine ⟨200, ?_⟩
  have hn : ∀ x ∈ a, (0 : Int) ≤ x := fun x hx => (inK_u64 (ha x hx)).1
  have t0 := (inK_u64 ht).1
  rw [law37_IdlePredictorBounds.f]
  by_cases h : (a.length : Int) < 8
  · rw [if_pos h, bind_s rfl, if_pos rfl, bind_s awake_k]
  · rw [if_neg h]
    by_cases h2 : 30 < (a.length : Int)
    · rw [decide_eq_true h2, bind_s rfl, if_pos rfl, bind_s awake_k]
    · rw [decide_eq_false h2, bind_s rfl, if_neg (by decide), idle_NewPredictor.f, bind_s rfl, bind_s rfl, ck_t ⟨by rw [wi _ (by omega) (by omega)]; omega, by rw [wi _ (by omega) (by omega)]; omega, by omega⟩]
      have e1 := pb_l1 a hn (by omega) 200 0 (by omega) (by omega) (by omega)
      rw [show lastn ((a.take (0 : Int).toNat).map md) = [] by simp [lastn]] at e1
      rw [bind_s e1, el_g]
      obtain ⟨D, hD⟩ : ∃ D, ((a.drop ((IntKind.i64.wrap ((a.length : Int) - 8)).toNat)).take (((a.length : Int).toNat) - ((IntKind.i64.wrap ((a.length : Int) - 8)).toNat))) = D := ⟨_, rfl⟩
      have hD2 : D = a.drop (a.length - 8) := by
        rw [← hD, wi _ (by omega) (by omega), show ((a.length : Int) - 8).toNat = a.length - 8 by omega, List.take_of_length_le (by simp)]
      have hDl : D.length = 8 := by rw [hD2]; simp; omega
      have hDn : ∀ x ∈ D, (0 : Int) ≤ x := fun x hx => hn x (by rw [hD2] at hx; exact List.mem_of_mem_drop hx)
      have eA : lastn (a.map md) = D.map md := by rw [hD2, lastn, List.length_map, List.map_drop]
      obtain ⟨s, hs, s0, s1⟩ := mod_ 0 m 8 (by omega) (by omega)
      have hs' : ∀ k, help_Mod.f k m 8 = some s := fun k => hs
      have e2 := pb_l2 m a D s hD hDl hDn hs' s0 s1 8 200 [] 1152921504606846976 0 0 rfl rfl (by omega)
      rw [show ((0 : Nat) : Int) = 0 from rfl] at e2
      rw [bind_s e2, el_g, eA]
      have eB : (List.range' 0 8).map (fun j : Nat => md (gd 0 D (((j : Int) + s) % 8))) = (List.range' 0 8).map (fun j : Nat => gd 0 (D.map md) (((j : Int) + s) % 8)) :=
        List.map_congr_left fun j hj => gd_map (by omega) (by omega)
      rw [eB, List.nil_append]
      obtain ⟨d0, d1, d2, d3, d4, d5, d6, d7, rfl⟩ := len8 hDl
      have bd : ∀ x ∈ [d0, d1, d2, d3, d4, d5, d6, d7], 0 ≤ md x ∧ md x < 1125899906842624 := fun x hx => md_bd (hDn x hx)
      simp only [List.mem_cons, List.not_mem_nil, or_false, forall_eq_or_imp, forall_eq] at bd
      obtain ⟨b0, b1, b2, b3, b4, b5, b6, b7⟩ := bd
      simp only [List.map_cons, List.map_nil]
      obtain ⟨y0, y1, y2, y3, y4, y5, y6, y7, eL, eS, eM, eP⟩ := rot_8 (md d0) (md d1) (md d2) (md d3) (md d4) (md d5) (md d6) (md d7) s s0 s1
      obtain ⟨c0, c1, c2, c3, c4, c5, c6, c7⟩ := eP (fun x => 0 ≤ x ∧ x < 1125899906842624) b0 b1 b2 b3 b4 b5 b6 b7
      rw [eL]
      obtain ⟨q, hq, q1, q2, q3, q4⟩ := bounds_8 _ _ _ _ _ _ _ _ b0 b1 b2 b3 b4 b5 b6 b7
      obtain ⟨q', hq', q1', q2', q3', q4'⟩ := bounds_8 _ _ _ _ _ _ _ _ c0 c1 c2 c3 c4 c5 c6 c7
      have eq : q' = q := by rw [q1', q1, eS, eM]
      have nA : ∀ x ∈ [md d0, md d1, md d2, md d3, md d4, md d5, md d6, md d7], (0 : Int) ≤ x := by
        simp only [List.mem_cons, List.not_mem_nil, or_false, forall_eq_or_imp, forall_eq]
        exact ⟨b0.1, b1.1, b2.1, b3.1, b4.1, b5.1, b6.1, b7.1⟩
      have nB : ∀ x ∈ [y0, y1, y2, y3, y4, y5, y6, y7], (0 : Int) ≤ x := by
        simp only [List.mem_cons, List.not_mem_nil, or_false, forall_eq_or_imp, forall_eq]
        exact ⟨c0.1, c1.1, c2.1, c3.1, c4.1, c5.1, c6.1, c7.1⟩
      have xq : mn 1152921504606846976 q = q := by unfold mn; split <;> omega
      rw [bind_s (idle_exp _ _ 200 (by simp) (by omega) nA), hq, xq]
      rw [eq] at q2' q3'
      rw [if_pos q2', if_pos (by rw [← eM] at q3; exact q3'), bind_s (idle_exp _ _ 200 (by simp) (by omega) nA), hq, if_pos (by unfold mn; split <;> split <;> omega), bind_s (idle_exp _ _ 200 (by simp) (by omega) nB), bind_s (idle_exp _ _ 200 (by simp) (by omega) nA), hq, hq', eq, if_pos rfl, bind_s awake_k]
end Go.Proofs.Ytmjfdknjloidoaa.X
