/- The laws on the pure side: p37a. -/
import Derived.Test.YtmjfdknjloidoaaFa
import Derived.Test.YtmjfdknjloidoaaSx11
namespace Go.Proofs.Ytmjfdknjloidoaa.X
open Go Go.Sx

/-- a table as the helper makes it -/
structure Good (L : List IdleState) : Prop where
  l1 : (1 : Int) ≤ L.length
  l7 : (L.length : Int) ≤ 7
  z : (gd IdleState.zero L 0).Latency = 0 ∧ (gd IdleState.zero L 0).Residency = 0
  asc : ∀ i : Int, 0 < i → i < L.length → (gd IdleState.zero L (i - 1)).Latency < (gd IdleState.zero L i).Latency ∧ (gd IdleState.zero L (i - 1)).Residency < (gd IdleState.zero L i).Residency ∧ (gd IdleState.zero L i).Power < (gd IdleState.zero L (i - 1)).Power
  bd : ∀ i : Int, 0 ≤ i → i < L.length → 0 ≤ (gd IdleState.zero L i).Latency ∧ (gd IdleState.zero L i).Latency ≤ 40 * i ∧ 0 ≤ (gd IdleState.zero L i).Residency ∧ (gd IdleState.zero L i).Residency ≤ 200 * i ∧ 0 ≤ (gd IdleState.zero L i).Power ∧ (gd IdleState.zero L i).Power ≤ 350

theorem wf_gd {a : List IdleState} (h : ∀ x ∈ a, IdleState.wf x) {i : Int} (h0 : 0 ≤ i) (h1 : i < a.length) : IdleState.wf (gd IdleState.zero a i) := h _ (gd_mem h0 h1)
theorem wf_n {s : IdleState} (h : s.wf) : 0 ≤ s.Latency ∧ 0 ≤ s.Residency ∧ 0 ≤ s.Power := ⟨(inK_u64 h.1).1, (inK_u64 h.2.1).1, (inK_u64 h.2.2).1⟩

theorem st_l1 (a : List IdleState) (ha : ∀ x ∈ a, IdleState.wf x) (n : Int) (hn : n ≤ 7) : ∀ (k : Nat) (y : List IdleState) (p i : Int), (y.length : Int) = n → i < n → -1 ≤ i → i + 1 < k → 0 ≤ p → p ≤ 50 * (n - 1 - i) →
    (∀ j : Int, 0 ≤ j → j < n → (gd IdleState.zero y j).Latency = 0 ∧ (gd IdleState.zero y j).Residency = 0) →
    (∀ j : Int, i < j → j < n → 0 ≤ (gd IdleState.zero y j).Power ∧ (gd IdleState.zero y j).Power < p) → (∀ j : Int, i + 1 < j → j < n → (gd IdleState.zero y j).Power < (gd IdleState.zero y (j - 1)).Power) →
    ∃ L, law37_States.l1 k a y p i = some L ∧ (L.length : Int) = n ∧ (∀ j : Int, 0 ≤ j → j < n → (gd IdleState.zero L j).Latency = 0 ∧ (gd IdleState.zero L j).Residency = 0) ∧
      (∀ j : Int, 0 ≤ j → j < n → 0 ≤ (gd IdleState.zero L j).Power ∧ (gd IdleState.zero L j).Power < 50 * n) ∧ (∀ j : Int, 0 < j → j < n → (gd IdleState.zero L j).Power < (gd IdleState.zero L (j - 1)).Power)
  | 0, _, _, _, _, _, _, hk, _, _, _, _, _ => by omega
  | k + 1, y, p, i, hl, hi, hi', hk, hp0, hp1, hz, hpw, hdec => by
    rw [law37_States.l1]
    by_cases h : 0 ≤ i
    · rw [if_pos h]
      have hx : ∃ x, (if i < (a.length : Int) then (ck ((0 : Int) ≤ i ∧ i < (a.length : Int)) (some (IntKind.u64.wrap (p + (Int.tmod ((gd IdleState.zero a i).Power) 50))))) else (some p)) = some x ∧ p ≤ x ∧ x ≤ p + 49 := by
        by_cases hia : i < (a.length : Int)
        · have hw := (wf_n (wf_gd ha h hia)).2.2
          rw [if_pos hia, ck_t ⟨h, hia⟩, tm _ hw]
          exact ⟨_, rfl, by rw [wu] <;> omega, by rw [wu] <;> omega⟩
        · rw [if_neg hia]; exact ⟨_, rfl, by omega, by omega⟩
      obtain ⟨x, hx, hx0, hx1⟩ := hx
      rw [bind_s hx, ck_t ⟨h, by omega⟩, wu (x + 1) (by omega) (by omega), wi (i - 1) (by omega) (by omega)]
      refine st_l1 a ha n hn k _ _ _ (by simpa using hl) (by omega) (by omega) (by omega) (by omega) (by omega) ?_ ?_ ?_
      · intro j h0 h1
        rw [gd_set h (by omega) h0]
        split
        · exact hz i h (by omega)
        · exact hz j h0 h1
      · intro j h0 h1
        rw [gd_set h (by omega) (by omega)]
        split
        · exact ⟨by show 0 ≤ x; omega, by show x < x + 1; omega⟩
        · have := hpw j (by omega) h1; omega
      · intro j h0 h1
        rw [gd_set h (by omega) (by omega), gd_set h (by omega) (by omega), if_neg (by omega)]
        by_cases hj : j - 1 = i
        · rw [if_pos hj]
          have := hpw j (by omega) h1
          show _ < x
          omega
        · rw [if_neg hj]; exact hdec j (by omega) h1
    · rw [if_neg h]
      refine ⟨y, rfl, hl, hz, fun j h0 h1 => ?_, fun j h0 h1 => hdec j (by omega) h1⟩
      have := hpw j (by omega) h1
      omega

theorem st_l2 (a : List IdleState) (ha : ∀ x ∈ a, IdleState.wf x) (n : Int) (hn : n ≤ 7) (hn1 : 1 ≤ n) (hm : mx 1 (mn (a.length : Int) 7) = n) (hna : 1 < n → n ≤ a.length) : ∀ (k : Nat) (y : List IdleState) (i : Int), (y.length : Int) = n → 1 ≤ i → i ≤ n → n - i < k →
    ((gd IdleState.zero y 0).Latency = 0 ∧ (gd IdleState.zero y 0).Residency = 0) →
    (∀ j : Int, 0 < j → j < i → (gd IdleState.zero y (j - 1)).Latency < (gd IdleState.zero y j).Latency ∧ (gd IdleState.zero y (j - 1)).Residency < (gd IdleState.zero y j).Residency) →
    (∀ j : Int, 0 ≤ j → j < i → 0 ≤ (gd IdleState.zero y j).Latency ∧ (gd IdleState.zero y j).Latency ≤ 40 * j ∧ 0 ≤ (gd IdleState.zero y j).Residency ∧ (gd IdleState.zero y j).Residency ≤ 200 * j) →
    (∀ j : Int, 0 ≤ j → j < n → 0 ≤ (gd IdleState.zero y j).Power ∧ (gd IdleState.zero y j).Power < 50 * n) → (∀ j : Int, 0 < j → j < n → (gd IdleState.zero y j).Power < (gd IdleState.zero y (j - 1)).Power) →
    ∃ L, law37_States.l2 k a y i = some L ∧ Good L ∧ (L.length : Int) = n
  | 0, _, _, _, _, _, hk, _, _, _, _, _ => by omega
  | k + 1, y, i, hl, hi, hi', hk, hz, hasc, hbd, hpw, hdec => by
    rw [law37_States.l2, hm]
    by_cases h : i < n
    · rw [if_pos h]
      have hw := wf_n (wf_gd ha (i := i) (by omega) (by have := hna (by omega); omega))
      have b1 := hbd (i - 1) (by omega) (by omega)
      have e1 : IntKind.i64.wrap (i - 1) = i - 1 := wi _ (by omega) (by omega)
      have e2 : IntKind.i64.wrap (i + 1) = i + 1 := wi _ (by omega) (by omega)
      rw [e1, e2, ck_t ⟨by omega, by omega⟩, ck_t ⟨by omega, by have := hna (by omega); omega⟩, ck_t ⟨by omega, by omega⟩, tm _ hw.1, tm _ hw.2.1]
      generalize hs1 : IdleState.mk _ _ _ = s1
      have hl1 : ((y.set i.toNat s1).length : Int) = n := by simpa using hl
      have g1 : gd IdleState.zero (y.set i.toNat s1) i = s1 := gd_set_same (by omega) (by omega)
      have g2 : gd IdleState.zero (y.set i.toNat s1) (i - 1) = gd IdleState.zero y (i - 1) := gd_set_other (by omega) (by omega) (by omega) (by omega)
      rw [ck_t ⟨by omega, by omega⟩, ck_t ⟨by omega, by omega⟩, g1, g2, List.set_set]
      generalize hs2 : IdleState.mk _ _ _ = s2
      have f1 : s2.Latency = (gd IdleState.zero y (i - 1)).Latency + 1 + (gd IdleState.zero a i).Latency % 40 := by
        rw [← hs2, ← hs1]
        show IntKind.u64.wrap (IntKind.u64.wrap _ + _) = _
        rw [wu (_ + 1) (by omega) (by omega), wu _ (by omega) (by omega)]
      have f2 : s2.Residency = (gd IdleState.zero y (i - 1)).Residency + 1 + (gd IdleState.zero a i).Residency % 200 := by
        rw [← hs2]
        show IntKind.u64.wrap (IntKind.u64.wrap _ + _) = _
        rw [wu (_ + 1) (by omega) (by omega), wu _ (by omega) (by omega)]
      have f3 : s2.Power = (gd IdleState.zero y i).Power := by rw [← hs2, ← hs1]
      have gs : ∀ j : Int, 0 ≤ j → gd IdleState.zero (y.set i.toNat s2) j = if j = i then s2 else gd IdleState.zero y j := fun j hj => gd_set (by omega) (by omega) hj
      have gp : ∀ j : Int, 0 ≤ j → (gd IdleState.zero (y.set i.toNat s2) j).Power = (gd IdleState.zero y j).Power := fun j hj => by
        rw [gs j hj]; split
        · rename_i e; rw [e]; exact f3
        · rfl
      refine st_l2 a ha n hn hn1 hm hna k _ _ (by simpa using hl) (by omega) (by omega) (by omega) ?_ ?_ ?_ ?_ ?_
      · rw [gs 0 (by omega), if_neg (by omega)]; exact hz
      · intro j h0 h1
        rw [gs j (by omega), gs (j - 1) (by omega), if_neg (show ¬ j - 1 = i by omega)]
        by_cases hj : j = i
        · rw [if_pos hj, hj, f1, f2]; omega
        · rw [if_neg hj]; exact hasc j h0 (by omega)
      · intro j h0 h1
        rw [gs j h0]
        by_cases hj : j = i
        · rw [if_pos hj, f1, f2]; omega
        · rw [if_neg hj]; exact hbd j h0 (by omega)
      · intro j h0 h1; rw [gp j h0]; exact hpw j h0 h1
      · intro j h0 h1; rw [gp j (by omega), gp _ (by omega)]; exact hdec j h0 h1
    · rw [if_neg h]
      refine ⟨y, rfl, ⟨by omega, by omega, hz, fun j h0 h1 => ?_, fun j h0 h1 => ?_⟩, hl⟩
      · have := hasc j h0 (by omega); have := hdec j h0 (by omega); omega
      · have := hbd j h0 (by omega); have := hpw j h0 (by omega); omega

theorem states (k : Nat) (hk : 10 ≤ k) (a : List IdleState) (ha : ∀ x ∈ a, IdleState.wf x) : ∃ L, law37_States.f k a = some L ∧ Good L := by
  obtain ⟨n, hm⟩ : ∃ n, mx 1 (mn (a.length : Int) 7) = n := ⟨_, rfl⟩
  have hn : 1 ≤ n ∧ n ≤ 7 ∧ (1 < n → n ≤ a.length) := by
    unfold mx mn at hm
    split at hm <;> split at hm <;> omega
  have hlr : ((List.replicate n.toNat IdleState.zero).length : Int) = n := by simp; omega
  rw [law37_States.f, hm, ck_t ⟨by omega, by omega⟩, wi (n - 1) (by omega) (by omega)]
  obtain ⟨L, h1, h2, h3, h4, h5⟩ := st_l1 a ha n hn.2.1 k (List.replicate n.toNat IdleState.zero) 0 (n - 1) hlr (by omega) (by omega) (by omega) (by omega) (by omega)
    (fun j _ _ => by rw [gd_rep]; exact ⟨rfl, rfl⟩) (fun j _ _ => by omega) (fun j _ _ => by omega)
  rw [bind_s h1]
  obtain ⟨L', g1, g2, g3⟩ := st_l2 a ha n hn.2.1 hn.1 hm hn.2.2 k L 1 h2 (by omega) (by omega) (by omega) (h3 0 (by omega) (by omega)) (fun j _ _ => by omega)
    (fun j h0 h1 => by obtain ⟨e1, e2⟩ := h3 j h0 (by omega); rw [e1, e2]; omega) h4 h5
  exact ⟨L', by rw [bind_s g1], g2⟩

/-! ## Check -/
theorem chk_l1 {L : List IdleState} (g : Good L) : ∀ (k : Nat) (i : Int), 0 ≤ i → i ≤ L.length → (L.length : Int) - i < k → idle_Check.l1 k L i = some (.go ())
  | 0, _, _, _, hk => by omega
  | k + 1, i, h0, h1, hk => by
    rw [idle_Check.l1]
    by_cases h : i < (L.length : Int)
    · have b := g.bd i h0 h
      have l7 := g.l7
      rw [if_pos h, ck_t ⟨h0, h⟩, if_neg (by omega), if_neg (by omega), wi (i + 1) (by omega) (by omega), wi (i - 1) (by omega) (by omega), bind_s (y := false) (by rw [decide_eq_false]; omega), if_neg (by decide)]
      rw [bind_s (y := false), if_neg (by decide)]
      · exact chk_l1 g k (i + 1) (by omega) (by omega) (by omega)
      · by_cases hi : 0 < i
        · have := g.asc i hi h
          rw [if_pos hi, ck_t ⟨by omega, by omega⟩, if_neg (by omega), if_neg (by omega), decide_eq_false (by omega)]
        · rw [if_neg hi]
    · rw [if_neg h]
theorem chk {L : List IdleState} (g : Good L) (k : Nat) (hk : 8 ≤ k) : idle_Check.f k L = some 0 := by
  have l1 := g.l1; have l7 := g.l7
  rw [idle_Check.f, if_neg (by omega), if_neg (by omega), ck_t ⟨by omega, by omega⟩, if_pos g.z.1, bind_s (y := false) (by simp [g.z.2]), if_neg (by decide), bind_s (chk_l1 g k 0 (by omega) (by omega) (by omega)), el_g]
theorem mod_ (k : Nat) (a b : Int) (h0 : 0 < b) (h1 : b < 9223372036854775808) : ∃ r, help_Mod.f k a b = some r ∧ 0 ≤ r ∧ r < b := by
  have := wu_lo a
  have h2 := Int.emod_lt_of_pos (IntKind.u64.wrap a) h0
  have h3 := Int.emod_nonneg (IntKind.u64.wrap a) (show b ≠ 0 by omega)
  rw [help_Mod.f, wu b (by omega) (by omega), ck_t (by omega), tm _ this, wi _ (by omega) (by omega)]
  exact ⟨_, rfl, h3, h2⟩

/-! ## Select -/
structure Best (L : List IdleState) (t l r : Int) : Prop where
  r0 : 0 ≤ r
  r1 : r < L.length
  ok : (gd IdleState.zero L r).Latency ≤ l ∧ (gd IdleState.zero L r).Residency ≤ t
  no : ∀ j : Int, r < j → j < L.length → (gd IdleState.zero L j).Latency ≤ l → ¬ (gd IdleState.zero L j).Residency ≤ t

theorem sel_l1 {L : List IdleState} (g : Good L) (t l : Int) : ∀ (k : Nat) (b i : Int), 0 ≤ b → b ≤ i → 0 < i → i ≤ L.length → (L.length : Int) - i < k →
    ((gd IdleState.zero L b).Latency ≤ l ∧ (gd IdleState.zero L b).Residency ≤ t) → b < i → (∀ j : Int, b < j → j < i → (gd IdleState.zero L j).Latency ≤ l → ¬ (gd IdleState.zero L j).Residency ≤ t) →
    ∃ r, idle_Select.l1 k L l t b i = some r ∧ Best L t l r
  | 0, _, _, _, _, _, _, hk, _, _, _ => by omega
  | k + 1, b, i, hb, hbi, hi0, hi, hk, hok, hlt, hno => by
    have l7 := g.l7
    rw [idle_Select.l1]
    by_cases h : i < (L.length : Int)
    · rw [if_pos h, ck_t ⟨by omega, h⟩, wi (i + 1) (by omega) (by omega)]
      by_cases h1 : (gd IdleState.zero L i).Latency ≤ l ∧ (gd IdleState.zero L i).Residency ≤ t
      · rw [if_pos h1.1, decide_eq_true h1.2, bind_s rfl, if_pos rfl, bind_s rfl]
        exact sel_l1 g t l k i (i + 1) (by omega) (by omega) (by omega) (by omega) (by omega) h1 (by omega) (fun j h2 h3 => by omega)
      · have hz : (if (gd IdleState.zero L i).Latency ≤ l then some (decide ((gd IdleState.zero L i).Residency ≤ t)) else some false) = some false := by
          by_cases h2 : (gd IdleState.zero L i).Latency ≤ l
          · rw [if_pos h2, decide_eq_false (fun h3 => h1 ⟨h2, h3⟩)]
          · rw [if_neg h2]
        rw [hz, bind_s rfl, if_neg (by decide), bind_s rfl]
        refine sel_l1 g t l k b (i + 1) hb (by omega) (by omega) (by omega) (by omega) hok (by omega) (fun j h2 h3 h4 => ?_)
        by_cases hj : j = i
        · subst hj; exact fun h5 => h1 ⟨h4, h5⟩
        · exact hno j h2 (by omega) h4
    · rw [if_neg h]; exact ⟨b, rfl, hb, by omega, hok, fun j h1 h2 => hno j h1 (by omega)⟩
theorem select {L : List IdleState} (g : Good L) {t l : Int} (ht : 0 ≤ t) (hl : 0 ≤ l) : ∃ r, idle_Select.f 20 L t l = some (r, 0) ∧ Best L t l r := by
  have l1 := g.l1; have l7 := g.l7; have z := g.z
  rw [idle_Select.f, bind_s (chk g 20 (by decide)), if_pos rfl, idle_Select.l1, if_pos (by omega), ck_t ⟨by omega, by omega⟩, if_pos (by omega), decide_eq_true (by omega), bind_s rfl, if_pos rfl, bind_s rfl, wi _ (by omega) (by omega)]
  obtain ⟨r, h1, h2⟩ := sel_l1 g t l 19 0 1 (by omega) (by omega) (by omega) (by omega) (by omega) (by omega) (by omega) (fun j h2 h3 => by omega)
  exact ⟨r, by rw [show (0 : Int) + 1 = 1 from rfl, bind_s h1], h2⟩

end Go.Proofs.Ytmjfdknjloidoaa.X
