/- The laws on the pure side: heatlaw5. -/
import Derived.Test.YtakaooegofiloaaQ8
namespace Go.Proofs.Ytakaooegofiloaa.X
open Go Go.Sx

/-! ## the reference's model -/
theorem rfloor_f (k : Nat) (a b : Int) : ref38_floor.f k a b = heat_floorDiv.f k a b := by rw [ref38_floor.f, heat_floorDiv.f]
theorem rtemp1_f {D : List HeatDomain} {L : List HeatLink} {E : List Int} {rel : Int} (hM : Mod D L E rel) (amb j : Int) (j0 : 0 ≤ j) (j1 : j < D.length) (k : Nat) : ref38_Model_Temperature.f k D L amb E rel j = some (tpf D E j) := by
  have hl := hM.len
  rw [ref38_Model_Temperature.f, if_neg (by omega), decide_eq_false (by omega), bind_s rfl, if_neg (by decide), ck_t ⟨j0, by omega⟩, ck_t ⟨j0, j1⟩, rfloor_f, floor_f k _ _ (hM.cap _ (gd_mem j0 j1)) (hM.e64 j), bind_s rfl, tpf]
theorem rtemp_l1 {D : List HeatDomain} {L : List HeatLink} {E : List Int} {rel : Int} (hM : Mod D L E rel) (amb : Int) : ∀ (m k : Nat) (T : List Int) (i : Int), 0 ≤ i → i + m = D.length → (T.length : Int) = i → m < k →
    ref38_Model_temperatures.l1 k D L amb E rel T i = some (T ++ tab (tpf D E) m i)
  | _, 0, _, _, _, _, _, hk => by omega
  | 0, k + 1, T, i, h0, h1, h2, hk => by rw [ref38_Model_temperatures.l1, if_neg (by omega), tab]; simp
  | m + 1, k + 1, T, i, h0, h1, h2, hk => by
    have hi : i < (D.length : Int) := by omega
    have hn := hM.n
    rw [ref38_Model_temperatures.l1, if_pos hi, rtemp1_f hM amb i h0 hi k, bind_s rfl, ck_t (by simp; omega), wi (i + 1) (by omega) (by omega), rtemp_l1 hM amb m k _ (i + 1) (by omega) (by omega) (by simp; omega) (by omega), tab]
    simp
theorem rtemp_f {D : List HeatDomain} {L : List HeatLink} {E : List Int} {rel : Int} (hM : Mod D L E rel) (amb : Int) (k : Nat) (hk : 21 < k) : ref38_Model_temperatures.f k D L amb E rel = some (temps D E) := by
  have hn := hM.n
  rw [ref38_Model_temperatures.f, bind_s (rtemp_l1 hM amb D.length k [] 0 (by omega) (by omega) (by simp) (by omega))]
  simp [temps]
theorem rstep_l1 (D : List HeatDomain) (T p : List Int) (amb : Int) : ∀ (k : Nat) (E : List Int) (rel i : Int), ref38_Model_Step.l1 k D T p amb E rel i = heat_Model_Step.l1 k D T p amb E rel i
  | 0, _, _, _ => rfl
  | k + 1, E, rel, i => by
    rw [ref38_Model_Step.l1, heat_Model_Step.l1]
    simp only [rstep_l1 D T p amb k]
    have e : IntKind.i64.wrap (IntKind.i64.wrap (gd 0 E i + gd 0 p i) - IntKind.i64.wrap ((gd HeatDomain.zero D i).Ambient * IntKind.i64.wrap (gd 0 T i - amb))) = IntKind.i64.wrap (gd 0 E i + IntKind.i64.wrap (gd 0 p i - IntKind.i64.wrap ((gd HeatDomain.zero D i).Ambient * IntKind.i64.wrap (gd 0 T i - amb)))) := by
      show ws (ws _ - _) = ws (_ + ws _)
      rw [ws_subl, ws_addr]; congr 1; omega
    rw [e]
theorem rstep_l2 (L : List HeatLink) (T : List Int) : ∀ (k : Nat) (E : List Int) (i : Int), ref38_Model_Step.l2 k L T E i = heat_Model_Step.l2 k L T E i
  | 0, _, _ => rfl
  | k + 1, E, i => by
    rw [ref38_Model_Step.l2, heat_Model_Step.l2]
    simp only [rstep_l2 L T k]
theorem rp_l1 (p : List Int) (hl : (p.length : Int) ≤ 20) : ∀ (k : Nat) (i : Int), 0 ≤ i → i ≤ p.length → (p.length : Int) - i < k →
    ref38_powers.l1 k p.length p i = some (if pvb (p.drop i.toNat) = true then .go () else .rt (some false))
  | 0, _, _, _, hk => by omega
  | k + 1, i, h0, h1, hk => by
    rw [ref38_powers.l1]
    by_cases h : i < (p.length : Int)
    · have e : (if gd 0 p i < 0 then some true else some (decide (16777216 < gd 0 p i))) = some (!(decide (0 ≤ gd 0 p i) && decide (gd 0 p i ≤ 16777216))) := by
        by_cases c : gd 0 p i < 0
        · rw [if_pos c, decide_eq_false (show ¬ 0 ≤ gd 0 p i by omega)]; rfl
        · rw [if_neg c, decide_eq_true (show 0 ≤ gd 0 p i by omega)]
          by_cases c2 : 16777216 < gd 0 p i
          · rw [decide_eq_true c2, decide_eq_false (by omega)]; rfl
          · rw [decide_eq_false c2, decide_eq_true (by omega)]; rfl
      rw [if_pos h, ck_t ⟨h0, h⟩, bind_s e, drop_gd (z := 0) h0 h, wi (i + 1) (by omega) (by omega), pvb]
      cases hb : (decide (0 ≤ gd 0 p i) && decide (gd 0 p i ≤ 16777216))
      · rw [if_pos (show (!false) = true from rfl)]; rfl
      · rw [if_neg (by decide), rp_l1 p hl k (i + 1) (by omega) (by omega) (by omega), Bool.true_and]
    · rw [if_neg h, drop_end h]; rfl
theorem rp_f (p : List Int) (n : Int) (hn : n ≤ 20) (k : Nat) (hk : 21 < k) : ref38_powers.f k n p = some (decide ((p.length : Int) = n) && pvb p) := by
  rw [ref38_powers.f]
  by_cases h : (p.length : Int) = n
  · rw [if_pos h, decide_eq_true h, ← h, bind_s (rp_l1 p (by omega) k 0 (by omega) (by omega) (by omega))]
    have e : p.drop (0 : Int).toNat = p := by simp
    rw [e]
    cases pvb p <;> rfl
  · rw [if_neg h, decide_eq_false h]; rfl
/-- the two steps agree, whatever the powers -/
theorem steps_f {D : List HeatDomain} {L : List HeatLink} {E : List Int} {rel : Int} (hM : Mod D L E rel) (amb : Int) (p : List Int) (k : Nat) (hk : 21 < k) :
    ∃ E' rel' T e, heat_Model_Step.f k D L amb E rel p = some (rel', E', T, e) ∧ ref38_Model_Step.f k D L amb E rel p = some (rel', E', T, e) ∧ Mod D L E' rel' ∧ T.length ≤ D.length := by
  by_cases c : (decide ((p.length : Int) = D.length) && pvb p) = true
  · have c' : p.length = D.length ∧ pvb p = true := by
      simp only [Bool.and_eq_true, decide_eq_true_eq] at c
      exact ⟨by omega, c.2⟩
    obtain ⟨hn, hl, hD, hL, hlen, hE, hr⟩ := hM
    have hM : Mod D L E rel := ⟨hn, hl, hD, hL, hlen, hE, hr⟩
    have hT : (temps D E).length = D.length := temps_len D E
    obtain ⟨F, f1, f2, f3, f4⟩ := step_l1 D (temps D E) p amb hT c'.1 hn D.length k E rel 0 (by omega) (by omega) hlen hr hE (by omega)
    obtain ⟨G, g1, g2, g3, g4⟩ := step_l2 D.length L hL hl (temps D E) hT L.length k F 0 (by omega) (by omega) f2 f3 (by omega)
    have hM' : Mod D L G (ws (rel + outs D (gd 0 (temps D E)) amb D.length 0)) := ⟨hn, hl, hD, hL, g2, g3, in64_ws _⟩
    refine ⟨G, ws (rel + outs D (gd 0 (temps D E)) amb D.length 0), temps D G, 0, ?_, ?_, hM', by rw [temps_len]; omega⟩
    · rw [heat_Model_Step.f, vp_f p _ hn k hk, bind_s rfl, c, if_pos rfl, temp_f D L amb E rel hlen hn hE hD k hk, bind_s rfl, bind_s f1, bind_s g1, temp_f D L amb G _ g2 hn g3 hD k hk, bind_s rfl]
    · rw [ref38_Model_Step.f, rp_f p _ hn k hk, bind_s rfl, c, if_pos rfl, rtemp_f hM amb k hk, bind_s rfl, rstep_l1, bind_s f1, rstep_l2, bind_s g1]
      dsimp only
      rw [rtemp_f hM' amb k hk, bind_s rfl]
  · refine ⟨E, rel, [], 1, ?_, ?_, hM, by simp⟩
    · rw [heat_Model_Step.f, vp_f p _ hM.n k hk, bind_s rfl, if_neg c]
    · rw [ref38_Model_Step.f, rp_f p _ hM.n k hk, bind_s rfl, if_neg c]
/-! ## the reference's validity -/
def okD (D : List HeatDomain) (j : Int) : Prop := 1 ≤ (gd HeatDomain.zero D j).Ambient ∧ (gd HeatDomain.zero D j).Capacity ≤ 16777216 ∧ (gd HeatDomain.zero D j).Ambient ≤ (gd HeatDomain.zero D j).Capacity
theorem rv_l1 (D : List HeatDomain) (hn : (D.length : Int) ≤ 16) : ∀ (m k : Nat) (R : List Int) (i : Int), 0 ≤ i → i + m = D.length → m < k → R.length = D.length → (∀ j : Int, 0 ≤ j → j < i → gd 0 R j = (gd HeatDomain.zero D j).Capacity - (gd HeatDomain.zero D j).Ambient) →
    ∃ r, ref38_valid.l1 k D R i = some r ∧ ((¬ (∀ j : Int, i ≤ j → j < D.length → okD D j) ∧ r = .rt (some false)) ∨ ((∀ j : Int, i ≤ j → j < D.length → okD D j) ∧ ∃ R', r = .go R' ∧ R'.length = D.length ∧ ∀ j : Int, 0 ≤ j → j < D.length → gd 0 R' j = (gd HeatDomain.zero D j).Capacity - (gd HeatDomain.zero D j).Ambient))
  | _, 0, _, _, _, _, hk, _, _ => by omega
  | 0, k + 1, R, i, h0, h1, hk, hR, hj => by
    rw [ref38_valid.l1, if_neg (by omega)]
    exact ⟨_, rfl, .inr ⟨fun j j0 j1 => by omega, R, rfl, hR, fun j j0 j1 => hj j j0 (by omega)⟩⟩
  | m + 1, k + 1, R, i, h0, h1, hk, hR, hj => by
    have hi : i < (D.length : Int) := by omega
    rw [ref38_valid.l1, if_pos hi, ck_t ⟨h0, hi⟩]
    obtain ⟨b, hb, hb'⟩ : ∃ b, (if (gd HeatDomain.zero D i).Ambient < 1 then some true else if 16777216 < (gd HeatDomain.zero D i).Capacity then some true else some (decide ((gd HeatDomain.zero D i).Capacity < (gd HeatDomain.zero D i).Ambient))) = some b ∧ (b = false ↔ okD D i) := by
      unfold okD
      generalize gd HeatDomain.zero D i = d
      (repeat' split) <;> (refine ⟨_, rfl, ?_⟩; simp; omega)
    rw [bind_s hb]
    cases b
    · have hb' := hb'.1 rfl
      have ho := hb'
      unfold okD at ho
      rw [if_neg (by decide), ck_t ⟨h0, by omega⟩, wi (_ - _) (by omega) (by omega), wi (i + 1) (by omega) (by omega)]
      obtain ⟨r, hr, hr'⟩ := rv_l1 D hn m k (R.set i.toNat ((gd HeatDomain.zero D i).Capacity - (gd HeatDomain.zero D i).Ambient)) (i + 1) (by omega) (by omega) (by omega) (by simpa using hR) (fun j j0 j1 => by
        rw [gd_set h0 (by omega) j0]
        by_cases c : j = i
        · rw [if_pos c, c]
        · rw [if_neg c]; exact hj j j0 (by omega))
      refine ⟨r, hr, ?_⟩
      rcases hr' with ⟨g1, g2⟩ | ⟨g1, g2⟩
      · exact .inl ⟨fun g => g1 (fun j j0 j1 => g j (by omega) j1), g2⟩
      · refine .inr ⟨fun j j0 j1 => ?_, g2⟩
        by_cases c : j = i
        · rw [c]; exact hb'
        · exact g1 j (by omega) j1
    · rw [if_pos rfl]
      exact ⟨_, rfl, .inl ⟨fun g => absurd (hb'.2 (g i (by omega) hi)) (by decide), rfl⟩⟩
theorem rv_l3 (L : List HeatLink) (hl : (L.length : Int) ≤ 25) (i : Int) (hi : i < L.length) : ∀ (m k : Nat) (q : Int), 0 ≤ q → q + m = i → m < k →
    ∃ r, ref38_valid.l3 k i L q = some r ∧ ((¬ (∀ p : Int, q ≤ p → p < i → ¬ conn (gd HeatLink.zero L i) (gd HeatLink.zero L p)) ∧ r = .rt (some (.rt (some false)))) ∨ ((∀ p : Int, q ≤ p → p < i → ¬ conn (gd HeatLink.zero L i) (gd HeatLink.zero L p)) ∧ r = .go ()))
  | _, 0, _, _, _, hk => by omega
  | 0, k + 1, q, h0, h1, hk => by
    rw [ref38_valid.l3, if_neg (by omega)]
    exact ⟨_, rfl, .inr ⟨fun p p0 p1 => by omega, rfl⟩⟩
  | m + 1, k + 1, q, h0, h1, hk => by
    rw [ref38_valid.l3, if_pos (by omega), ck_t ⟨h0, by omega⟩, wi (q + 1) (by omega) (by omega)]
    obtain ⟨b, hb, hb'⟩ : ∃ b, (if (gd HeatLink.zero L q).A = (gd HeatLink.zero L i).A then if (gd HeatLink.zero L q).B = (gd HeatLink.zero L i).B then some true else if (gd HeatLink.zero L q).A = (gd HeatLink.zero L i).B then some (decide ((gd HeatLink.zero L q).B = (gd HeatLink.zero L i).A)) else some false else if (gd HeatLink.zero L q).A = (gd HeatLink.zero L i).B then some (decide ((gd HeatLink.zero L q).B = (gd HeatLink.zero L i).A)) else some false) = some b ∧ (b = false ↔ ¬ conn (gd HeatLink.zero L i) (gd HeatLink.zero L q)) := by
      unfold conn
      generalize gd HeatLink.zero L q = x
      generalize gd HeatLink.zero L i = y
      (repeat' split) <;> (refine ⟨_, rfl, ?_⟩; simp; omega)
    rw [bind_s hb]
    cases b
    · have hb' := hb'.1 rfl
      rw [if_neg (by decide)]
      obtain ⟨r, hr, hr'⟩ := rv_l3 L hl i hi m k (q + 1) (by omega) (by omega) (by omega)
      refine ⟨r, hr, ?_⟩
      rcases hr' with ⟨g1, g2⟩ | ⟨g1, g2⟩
      · exact .inl ⟨fun g => g1 (fun j j0 j1 => g j (by omega) j1), g2⟩
      · refine .inr ⟨fun j j0 j1 => ?_, g2⟩
        by_cases c : j = q
        · rw [c]; exact hb'
        · exact g1 j (by omega) j1
    · rw [if_pos rfl]
      exact ⟨_, rfl, .inl ⟨fun g => absurd (hb'.2 (g q (by omega) (by omega))) (by decide), rfl⟩⟩
/-- a link is valid but for its conductance's upper bound -/
def okr (n : Int) (L : List HeatLink) (m : Int) : Prop := inL n (gd HeatLink.zero L m) ∧ ∀ q : Int, 0 ≤ q → q < m → ¬ conn (gd HeatLink.zero L m) (gd HeatLink.zero L q)
theorem cs_drop_nonneg (L : List HeatLink) (i j : Int) (h0 : 0 ≤ i) (h : ∀ m : Int, i ≤ m → m < L.length → 0 ≤ (gd HeatLink.zero L m).Conductance) : 0 ≤ cs (L.drop i.toNat) j := by
  refine cs_nonneg _ _ ((all_gd HeatLink.zero (L.drop i.toNat) (fun l => 0 ≤ l.Conductance)).2 (fun m m0 m1 => ?_))
  have e : gd HeatLink.zero (L.drop i.toNat) m = gd HeatLink.zero L (i + m) := by
    unfold gd
    rw [List.getD_eq_getElem?_getD, List.getD_eq_getElem?_getD, List.getElem?_drop]
    congr 2; omega
  rw [e]
  exact h _ (by omega) (by simp at m1; omega)
theorem rv_l2 (D : List HeatDomain) (hn : (D.length : Int) ≤ 16) (L : List HeatLink) (hl : (L.length : Int) ≤ 25) : ∀ (m k : Nat) (R : List Int) (i : Int), 0 ≤ i → i + m = L.length → m + 30 < k → R.length = D.length → (∀ j : Int, 0 ≤ j → j < D.length → 0 ≤ gd 0 R j ∧ gd 0 R j ≤ 16777216) →
    ∃ r, ref38_valid.l2 k L D R i = some r ∧ ((¬ ((∀ q : Int, i ≤ q → q < L.length → okr D.length L q) ∧ ∀ j : Int, 0 ≤ j → j < D.length → cs (L.drop i.toNat) j ≤ gd 0 R j) ∧ r = .rt (some false)) ∨ (((∀ q : Int, i ≤ q → q < L.length → okr D.length L q) ∧ ∀ j : Int, 0 ≤ j → j < D.length → cs (L.drop i.toNat) j ≤ gd 0 R j) ∧ r = .go ()))
  | _, 0, _, _, _, _, hk, _, _ => by omega
  | 0, k + 1, R, i, h0, h1, hk, hR, hj => by
    rw [ref38_valid.l2, if_neg (by omega)]
    exact ⟨_, rfl, .inr ⟨⟨fun p p0 p1 => by omega, fun j j0 j1 => by rw [drop_end (by omega), cs]; exact (hj j j0 j1).1⟩, rfl⟩⟩
  | m + 1, k + 1, R, i, h0, h1, hk, hR, hj => by
    have hi : i < (L.length : Int) := by omega
    rw [ref38_valid.l2, if_pos hi, ck_t ⟨h0, hi⟩]
    by_cases c : inL D.length (gd HeatLink.zero L i) ∧ (gd HeatLink.zero L i).Conductance ≤ gd 0 R (gd HeatLink.zero L i).A ∧ (gd HeatLink.zero L i).Conductance ≤ gd 0 R (gd HeatLink.zero L i).B
    · obtain ⟨⟨a0, a1, b0, b1, ab, c0⟩, cA, cB⟩ := c
      obtain ⟨ra0, ra1⟩ := hj _ a0 a1
      obtain ⟨rb0, rb1⟩ := hj _ b0 b1
      have hs : ∀ x : Int, (R.set (gd HeatLink.zero L i).A.toNat x).length = D.length := fun x => by simpa using hR
      rw [if_neg (by omega), if_neg (by omega), if_neg (by omega), if_neg (by omega), if_neg ab, if_neg (by omega), ck_t ⟨a0, by omega⟩, if_neg (by omega), ck_t ⟨b0, by omega⟩, decide_eq_false (by omega), bind_s rfl, if_neg (by decide), ck_t ⟨a0, by omega⟩, ck_t ⟨b0, by rw [hs]; omega⟩, gd_set_other a0 (by omega) b0 (fun e => ab e.symm), wi (gd 0 R _ - _) (by omega) (by omega), wi (gd 0 R _ - _) (by omega) (by omega), wi (i + 1) (by omega) (by omega)]
      obtain ⟨r, hr, hr'⟩ := rv_l3 L hl i hi i.toNat k 0 (by omega) (by omega) (by omega)
      rw [bind_s hr]
      rcases hr' with ⟨g1, rfl⟩ | ⟨g1, rfl⟩
      · rw [el_r]
        exact ⟨_, rfl, .inl ⟨fun g => g1 (g.1 i (by omega) hi).2, rfl⟩⟩
      · rw [el_g]
        have hg : ∀ j : Int, 0 ≤ j → j < D.length → gd 0 ((R.set (gd HeatLink.zero L i).A.toNat (gd 0 R (gd HeatLink.zero L i).A - (gd HeatLink.zero L i).Conductance)).set (gd HeatLink.zero L i).B.toNat (gd 0 R (gd HeatLink.zero L i).B - (gd HeatLink.zero L i).Conductance)) j = gd 0 R j - (if (gd HeatLink.zero L i).A = j ∨ (gd HeatLink.zero L i).B = j then (gd HeatLink.zero L i).Conductance else 0) := by
          intro j j0 j1
          rw [gd_set b0 (by rw [hs]; omega) j0, gd_set a0 (by omega) j0]
          by_cases jB : j = (gd HeatLink.zero L i).B
          · rw [if_pos jB, if_pos (by omega), jB]
          · by_cases jA : j = (gd HeatLink.zero L i).A
            · rw [if_neg jB, if_pos jA, if_pos (by omega), jA]
            · rw [if_neg jB, if_neg jA, if_neg (by omega)]; omega
        obtain ⟨r, hr, hr'⟩ := rv_l2 D hn L hl m k ((R.set (gd HeatLink.zero L i).A.toNat (gd 0 R (gd HeatLink.zero L i).A - (gd HeatLink.zero L i).Conductance)).set (gd HeatLink.zero L i).B.toNat (gd 0 R (gd HeatLink.zero L i).B - (gd HeatLink.zero L i).Conductance)) (i + 1) (by omega) (by omega) (by omega) (by simpa using hR) (fun j j0 j1 => by
          have := hj j j0 j1
          rw [hg j j0 j1]
          by_cases cj : (gd HeatLink.zero L i).A = j ∨ (gd HeatLink.zero L i).B = j
          · rw [if_pos cj]
            rcases cj with cj | cj <;> subst cj <;> omega
          · rw [if_neg cj]; omega)
        refine ⟨r, hr, ?_⟩
        have hd : ∀ j, cs (L.drop i.toNat) j = (if (gd HeatLink.zero L i).A = j ∨ (gd HeatLink.zero L i).B = j then (gd HeatLink.zero L i).Conductance else 0) + cs (L.drop (i + 1).toNat) j := fun j => by rw [drop_gd (z := HeatLink.zero) h0 hi, cs]
        rcases hr' with ⟨g2, g3⟩ | ⟨g2, g3⟩
        · refine .inl ⟨fun g => g2 ⟨fun q q0 q1 => g.1 q (by omega) q1, fun j j0 j1 => ?_⟩, g3⟩
          have := g.2 j j0 j1
          rw [hd j] at this
          rw [hg j j0 j1]; omega
        · refine .inr ⟨⟨fun q q0 q1 => ?_, fun j j0 j1 => ?_⟩, g3⟩
          · by_cases e : q = i
            · rw [e]; exact ⟨⟨a0, a1, b0, b1, ab, c0⟩, g1⟩
            · exact g2.1 q (by omega) q1
          · have := g2.2 j j0 j1
            rw [hg j j0 j1] at this
            rw [hd j]; omega
    · have hfalse : ¬ ((∀ q : Int, i ≤ q → q < L.length → okr D.length L q) ∧ ∀ j : Int, 0 ≤ j → j < D.length → cs (L.drop i.toNat) j ≤ gd 0 R j) := by
        rintro ⟨g1, g2⟩
        have k1 := (g1 i (by omega) hi).1
        refine c ⟨k1, ?_⟩
        have hd : ∀ j, cs (L.drop i.toNat) j = (if (gd HeatLink.zero L i).A = j ∨ (gd HeatLink.zero L i).B = j then (gd HeatLink.zero L i).Conductance else 0) + cs (L.drop (i + 1).toNat) j := fun j => by rw [drop_gd (z := HeatLink.zero) h0 hi, cs]
        have hc := fun j => cs_drop_nonneg L (i + 1) j (by omega) (fun m m0 m1 => by have := (g1 m (by omega) m1).1.2.2.2.2.2; omega)
        have e1 := g2 _ k1.1 k1.2.1
        have e2 := g2 _ k1.2.2.1 k1.2.2.2.1
        rw [hd, if_pos (.inl rfl)] at e1
        rw [hd, if_pos (.inr rfl)] at e2
        have := hc (gd HeatLink.zero L i).A
        have := hc (gd HeatLink.zero L i).B
        omega
      have hb : (if (gd HeatLink.zero L i).A < 0 then some true else if (D.length : Int) ≤ (gd HeatLink.zero L i).A then some true else if (gd HeatLink.zero L i).B < 0 then some true else if (D.length : Int) ≤ (gd HeatLink.zero L i).B then some true else if (gd HeatLink.zero L i).A = (gd HeatLink.zero L i).B then some true else if (gd HeatLink.zero L i).Conductance < 1 then some true else ck (0 ≤ (gd HeatLink.zero L i).A ∧ (gd HeatLink.zero L i).A < (R.length : Int)) (if gd 0 R (gd HeatLink.zero L i).A < (gd HeatLink.zero L i).Conductance then some true else ck (0 ≤ (gd HeatLink.zero L i).B ∧ (gd HeatLink.zero L i).B < (R.length : Int)) (some (decide (gd 0 R (gd HeatLink.zero L i).B < (gd HeatLink.zero L i).Conductance))))) = some true := by
        unfold inL at c
        generalize gd HeatLink.zero L i = l at c ⊢
        by_cases c1 : l.A < 0
        · rw [if_pos c1]
        · by_cases c2 : (D.length : Int) ≤ l.A
          · rw [if_neg c1, if_pos c2]
          · by_cases c3 : l.B < 0
            · rw [if_neg c1, if_neg c2, if_pos c3]
            · by_cases c4 : (D.length : Int) ≤ l.B
              · rw [if_neg c1, if_neg c2, if_neg c3, if_pos c4]
              · by_cases c5 : l.A = l.B
                · rw [if_neg c1, if_neg c2, if_neg c3, if_neg c4, if_pos c5]
                · by_cases c6 : l.Conductance < 1
                  · rw [if_neg c1, if_neg c2, if_neg c3, if_neg c4, if_neg c5, if_pos c6]
                  · rw [if_neg c1, if_neg c2, if_neg c3, if_neg c4, if_neg c5, if_neg c6, ck_t ⟨by omega, by omega⟩]
                    by_cases c7 : gd 0 R l.A < l.Conductance
                    · rw [if_pos c7]
                    · rw [if_neg c7, ck_t ⟨by omega, by omega⟩, decide_eq_true (by omega)]
      rw [bind_s hb, if_pos rfl, bind_s rfl, el_r]
      exact ⟨_, rfl, .inl ⟨hfalse, rfl⟩⟩
theorem cs_mem : ∀ (L : List HeatLink) (l : HeatLink), l ∈ L → (∀ x ∈ L, 0 ≤ x.Conductance) → l.Conductance ≤ cs L l.A
  | [], _, h, _ => by cases h
  | x :: r, l, h, hx => by
    have h0 := cs_nonneg r l.A (fun y hy => hx y (List.mem_cons_of_mem _ hy))
    have h1 := hx x List.mem_cons_self
    rw [cs]
    rcases List.mem_cons.1 h with rfl | h
    · rw [if_pos (.inl rfl)]; omega
    · have := cs_mem r l h (fun y hy => hx y (List.mem_cons_of_mem _ hy))
      split <;> omega
theorem rvalid_f (D : List HeatDomain) (L : List HeatLink) (amb : Int) (hl : (L.length : Int) ≤ 25) (k : Nat) (hk : 60 < k) : ∃ b, ref38_valid.f k D L amb = some b ∧ (b = true ↔ V D L amb) := by
  rw [ref38_valid.f]
  by_cases c : (1 ≤ (D.length : Int) ∧ (D.length : Int) ≤ 16 ∧ -16777216 ≤ amb ∧ amb ≤ 16777216)
  · have hb : (if (D.length : Int) < 1 then some true else if 16 < (D.length : Int) then some true else if amb < -16777216 then some true else some (decide (16777216 < amb))) = some false := by
      rw [if_neg (by omega), if_neg (by omega), if_neg (by omega), decide_eq_false (by omega)]
    rw [bind_s hb, if_neg (by decide), ck_t ⟨by omega, by omega⟩]
    obtain ⟨r, hr, hr'⟩ := rv_l1 D (by omega) D.length k (List.replicate (D.length : Int).toNat 0) 0 (by omega) (by omega) (by omega) (by simp) (fun j j0 j1 => by omega)
    rw [bind_s hr]
    rcases hr' with ⟨g1, rfl⟩ | ⟨g1, R, rfl, hR, hj⟩
    · rw [el_r]
      refine ⟨_, rfl, ?_⟩
      simp only [Bool.false_eq_true, false_iff]
      intro v
      refine g1 (fun j j0 j1 => ?_)
      have := v.amb1 j j0 j1
      unfold okD; omega
    · rw [el_g]
      obtain ⟨r, hr, hr'⟩ := rv_l2 D (by omega) L hl L.length k R 0 (by omega) (by omega) (by omega) hR (fun j j0 j1 => by
        have := hj j j0 j1; have g := g1 j j0 j1; unfold okD at g; omega)
      have e : L.drop (0 : Int).toNat = L := by simp
      rw [e] at hr'
      rw [bind_s hr]
      rcases hr' with ⟨g2, rfl⟩ | ⟨g2, rfl⟩
      · rw [el_r]
        refine ⟨_, rfl, ?_⟩
        simp only [Bool.false_eq_true, false_iff]
        intro v
        refine g2 ⟨fun q q0 q1 => ⟨(v.2.1.1 q q0 q1).1, fun p p0 p1 => v.2.1.2 q p p0 p1 q1⟩, fun j j0 j1 => ?_⟩
        have := v.amb1 j j0 j1
        rw [hj j j0 j1]; omega
      · rw [el_g]
        refine ⟨_, rfl, ?_⟩
        simp only [true_iff]
        have hc := fun j => cs_drop_nonneg L 0 j (by omega) (fun m m0 m1 => by have := (g2.1 m (by omega) m1).1.2.2.2.2.2; omega)
        simp only [e] at hc
        refine ⟨c, ⟨fun q q0 q1 => ⟨(g2.1 q q0 q1).1, ?_⟩, fun q p p0 p1 p2 => (g2.1 q (by omega) p2).2 p p0 p1⟩, fun j j0 j1 => ?_⟩
        · have h1 := (g2.1 q q0 q1).1
          have h2 := g2.2 _ h1.1 h1.2.1
          rw [hj _ h1.1 h1.2.1] at h2
          have h3 := g1 _ h1.1 h1.2.1
          unfold okD at h3
          have h4 := cs_mem L (gd HeatLink.zero L q) (gd_mem q0 q1) (fun l hl => ((all_gd HeatLink.zero L (fun l => 0 ≤ l.Conductance)).2 (fun m m0 m1 => by have := (g2.1 m (by omega) m1).1.2.2.2.2.2; omega)) l hl)
          omega
        · have h2 := g2.2 j j0 j1
          rw [hj j j0 j1] at h2
          have h3 := g1 j j0 j1
          unfold okD at h3
          omega
  · have hb : (if (D.length : Int) < 1 then some true else if 16 < (D.length : Int) then some true else if amb < -16777216 then some true else some (decide (16777216 < amb))) = some true := by
      (repeat' split) <;> first | rfl | (rw [decide_eq_true (by omega)])
    rw [bind_s hb, if_pos rfl]
    refine ⟨_, rfl, ?_⟩
    simp only [Bool.false_eq_true, false_iff]
    exact fun v => c v.1
theorem rnew_l1 (D : List HeatDomain) (amb : Int) : ∀ (k : Nat) (T : List Int) (i : Int), ref38_New.l1 k D amb T i = heat_New.l1 k D amb T i
  | 0, _, _ => rfl
  | k + 1, T, i => by rw [ref38_New.l1, heat_New.l1]; simp only [rnew_l1 D amb k]
theorem rnew_f (D : List HeatDomain) (L : List HeatLink) (amb : Int) (hl : (L.length : Int) ≤ 25) (k : Nat) (hk : 60 < k) :
    (V D L amb ∧ ref38_New.f k D L amb = some (some (amb, init D amb, 0), 0)) ∨ (¬ V D L amb ∧ ref38_New.f k D L amb = some (none, 1)) := by
  obtain ⟨b, hb, hb'⟩ := rvalid_f D L amb hl k hk
  rw [ref38_New.f, bind_s hb]
  cases b
  · right
    exact ⟨fun v => absurd (hb'.2 v) (by decide), by rw [if_neg (by decide)]⟩
  · left
    have v := hb'.1 rfl
    have hn := v.1
    refine ⟨v, ?_⟩
    rw [if_pos rfl, rnew_l1, bind_s (new_l1 D (by omega) amb D.length k [] 0 (by omega) (by omega) (by simp) (by omega))]
    simp [init]
end Go.Proofs.Ytakaooegofiloaa.X
