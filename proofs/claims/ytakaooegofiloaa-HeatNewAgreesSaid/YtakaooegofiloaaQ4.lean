/- The laws on the pure side: heatvalid. -/
import Derived.Test.YtakaooegofiloaaQ3
namespace Go.Proofs.Ytakaooegofiloaa.X
open Go Go.Sx

/-! ## validity, and a new model -/
def V (D : List HeatDomain) (L : List HeatLink) (amb : Int) : Prop :=
  (1 ≤ (D.length : Int) ∧ (D.length : Int) ≤ 16 ∧ -16777216 ≤ amb ∧ amb ≤ 16777216) ∧ ((∀ m : Int, 0 ≤ m → m < L.length → inL D.length (gd HeatLink.zero L m) ∧ (gd HeatLink.zero L m).Conductance ≤ 16777216) ∧ Apart L) ∧
  ∀ j : Int, 0 ≤ j → j < D.length → 1 ≤ (gd HeatDomain.zero D j).Ambient ∧ (gd HeatDomain.zero D j).Capacity ≤ 16777216 ∧ (gd HeatDomain.zero D j).Ambient + cs L j ≤ (gd HeatDomain.zero D j).Capacity
instance connDec (a b : HeatLink) : Decidable (conn a b) := by unfold conn; exact inferInstance
theorem conn_f (k : Nat) (a b : HeatLink) : heat_connects.f k a b = some (decide (conn a b)) := by
  rw [heat_connects.f]
  unfold conn
  by_cases c1 : a.A = b.A <;> by_cases c2 : a.B = b.B <;> by_cases c3 : a.A = b.B <;> by_cases c4 : a.B = b.A <;> grind
theorem linkEta (l : HeatLink) : (⟨l.A, l.B, l.Conductance⟩ : HeatLink) = l := rfl
theorem cl_l1 (P : List HeatLink) (l : HeatLink) (hl : (P.length : Int) ≤ 30) : ∀ (k : Nat) (i : Int), 0 ≤ i → i ≤ P.length → (P.length : Int) - i < k →
    ∃ r, slices_IndexFunc_api_HeatLink_api_HeatLink__validLinks_1.l1 k P l i = some r ∧ (((∀ q : Int, i ≤ q → q < P.length → ¬ conn l (gd HeatLink.zero P q)) ∧ r = .go ()) ∨ ((∃ q : Int, i ≤ q ∧ q < P.length ∧ conn l (gd HeatLink.zero P q)) ∧ ∃ j, 0 ≤ j ∧ r = .rt (some j)))
  | 0, _, _, _, hk => by omega
  | k + 1, i, h0, h1, hk => by
    rw [slices_IndexFunc_api_HeatLink_api_HeatLink__validLinks_1.l1]
    by_cases h : i < (P.length : Int)
    · rw [if_pos h, ck_t ⟨h0, h⟩, linkEta, heat_validLinks_1.f, conn_f, bind_s rfl, bind_s rfl, wi (i + 1) (by omega) (by omega)]
      by_cases c : conn l (gd HeatLink.zero P i)
      · rw [decide_eq_true c, if_pos rfl]
        exact ⟨_, rfl, .inr ⟨⟨i, by omega, h, c⟩, i, h0, rfl⟩⟩
      · obtain ⟨r, hr, hr'⟩ := cl_l1 P l hl k (i + 1) (by omega) (by omega) (by omega)
        rw [decide_eq_false c, if_neg (by decide)]
        refine ⟨r, hr, ?_⟩
        rcases hr' with ⟨h1, h2⟩ | ⟨⟨q, q0, q1, q2⟩, h2⟩
        · refine .inl ⟨fun q q0 q1 => ?_, h2⟩
          by_cases e : q = i
          · rw [e]; exact c
          · exact h1 q (by omega) q1
        · exact .inr ⟨⟨q, by omega, q1, q2⟩, h2⟩
    · rw [if_neg h]
      exact ⟨_, rfl, .inl ⟨fun q q0 q1 => by omega, rfl⟩⟩
/-- a link is valid behind those ahead of it -/
def okl (n : Int) (L : List HeatLink) (m : Int) : Prop := (inL n (gd HeatLink.zero L m) ∧ (gd HeatLink.zero L m).Conductance ≤ 16777216) ∧ ∀ q : Int, 0 ≤ q → q < m → ¬ conn (gd HeatLink.zero L m) (gd HeatLink.zero L q)
theorem gd_take {α : Type} (z : α) (L : List α) (i q : Int) (h0 : 0 ≤ q) (h1 : q < i) : gd z ((L.drop 0).take (i.toNat - 0)) q = gd z L q := by
  unfold gd
  rw [List.drop_zero, List.getD_eq_getElem?_getD, List.getD_eq_getElem?_getD, List.getElem?_take, if_pos (by omega)]
theorem vl_l1 (L : List HeatLink) (hl : (L.length : Int) ≤ 25) (n : Int) : ∀ (k : Nat) (i : Int), 0 ≤ i → i ≤ L.length → (L.length : Int) - i + 30 < k →
    ∃ r, heat_validLinks.l1 k L n i = some r ∧ (((∀ m : Int, i ≤ m → m < L.length → okl n L m) ∧ r = .go ()) ∨ ((¬ ∀ m : Int, i ≤ m → m < L.length → okl n L m) ∧ r = .rt (some false)))
  | 0, _, _, _, hk => by omega
  | k + 1, i, h0, h1, hk => by
    rw [heat_validLinks.l1]
    by_cases h : i < (L.length : Int)
    · rw [if_pos h, ck_t ⟨h0, h⟩, inRange_f, wi (i + 1) (by omega) (by omega), linkEta]
      obtain ⟨b, hb, hb'⟩ : ∃ b, (if (gd HeatLink.zero L i).A < 0 then some true else if n ≤ (gd HeatLink.zero L i).A then some true else if (gd HeatLink.zero L i).B < 0 then some true else if n ≤ (gd HeatLink.zero L i).B then some true else if (gd HeatLink.zero L i).A = (gd HeatLink.zero L i).B then some true else (some (decide (1 ≤ (gd HeatLink.zero L i).Conductance) && decide ((gd HeatLink.zero L i).Conductance ≤ 16777216))).bind fun s28 => some (!s28)) = some b ∧ (b = false ↔ inL n (gd HeatLink.zero L i) ∧ (gd HeatLink.zero L i).Conductance ≤ 16777216) := by
        unfold inL
        generalize gd HeatLink.zero L i = l
        (repeat' split) <;> first | exact ⟨_, rfl, by simp; omega⟩ | (refine ⟨_, rfl, ?_⟩; simp; omega)
      rw [bind_s hb]
      cases b
      · have hb' := hb'.1 rfl
        rw [if_neg (by decide), ck_t ⟨by omega, by omega, by omega⟩]
        have hlen : (((L.drop 0).take (i.toNat - 0)).length : Int) = i := by simp; omega
        obtain ⟨r, hr, hr'⟩ := cl_l1 ((L.drop 0).take (i.toNat - 0)) (gd HeatLink.zero L i) (by omega) k 0 (by omega) (by omega) (by omega)
        rw [slices_ContainsFunc_api_HeatLink_api_HeatLink__validLinks_1.f, slices_IndexFunc_api_HeatLink_api_HeatLink__validLinks_1.f, bind_s hr]
        rcases hr' with ⟨g1, rfl⟩ | ⟨⟨q, q0, q1, q2⟩, j, j0, rfl⟩
        · rw [el_g, bind_s rfl, bind_s rfl, decide_eq_false (by decide), if_neg (by decide)]
          have hi : okl n L i := ⟨hb', fun q q0 q1 => by rw [← gd_take _ L i q q0 q1]; exact g1 q q0 (by omega)⟩
          obtain ⟨r, hr, hr'⟩ := vl_l1 L hl n k (i + 1) (by omega) (by omega) (by omega)
          refine ⟨r, hr, ?_⟩
          rcases hr' with ⟨g2, h2⟩ | ⟨g2, h2⟩
          · refine .inl ⟨fun m m0 m1 => ?_, h2⟩
            by_cases e : m = i
            · rw [e]; exact hi
            · exact g2 m (by omega) m1
          · exact .inr ⟨fun g3 => g2 (fun m m0 m1 => g3 m (by omega) m1), h2⟩
        · rw [el_r, bind_s rfl, bind_s rfl, decide_eq_true j0, if_pos rfl]
          refine ⟨_, rfl, .inr ⟨fun g3 => ?_, rfl⟩⟩
          rw [gd_take _ L i q q0 (by omega)] at q2
          exact (g3 i (by omega) h).2 q q0 (by omega) q2
      · rw [if_pos rfl]
        refine ⟨_, rfl, .inr ⟨fun g => ?_, rfl⟩⟩
        exact absurd (hb'.2 (g i (by omega) h).1) (by decide)
    · rw [if_neg h]
      exact ⟨_, rfl, .inl ⟨fun m m0 m1 => by omega, rfl⟩⟩
theorem vs_l2 (L : List HeatLink) (hl : (L.length : Int) ≤ 25) (hL : ∀ m : Int, 0 ≤ m → m < L.length → 1 ≤ (gd HeatLink.zero L m).Conductance ∧ (gd HeatLink.zero L m).Conductance ≤ 16777216) (j : Int) : ∀ (m k : Nat) (s i : Int), 0 ≤ i → i + m = L.length → m < k → 0 ≤ s → s ≤ 16777216 * (i + 1) →
    heat_valid.l2 k L j s i = some (s + cs (L.drop i.toNat) j)
  | _, 0, _, _, _, _, hk, _, _ => by omega
  | 0, k + 1, s, i, h0, h1, hk, hs, hs2 => by rw [heat_valid.l2, if_neg (by omega), drop_end (by omega), cs, Int.add_zero]
  | m + 1, k + 1, s, i, h0, h1, hk, hs, hs2 => by
    have hi : i < (L.length : Int) := by omega
    have hc := hL i h0 hi
    rw [heat_valid.l2, if_pos hi, ck_t ⟨h0, hi⟩, wi (i + 1) (by omega) (by omega), drop_gd (z := HeatLink.zero) h0 hi, cs, wi (s + _) (by omega) (by omega)]
    by_cases c1 : (gd HeatLink.zero L i).A = j
    · rw [if_pos c1, bind_s rfl, if_pos rfl, bind_s rfl, if_pos (.inl c1), vs_l2 L hl hL j m k _ (i + 1) (by omega) (by omega) (by omega) (by omega) (by omega)]; congr 1; omega
    · by_cases c2 : (gd HeatLink.zero L i).B = j
      · rw [if_neg c1, decide_eq_true c2, bind_s rfl, if_pos rfl, bind_s rfl, if_pos (.inr c2), vs_l2 L hl hL j m k _ (i + 1) (by omega) (by omega) (by omega) (by omega) (by omega)]; congr 1; omega
      · rw [if_neg c1, decide_eq_false c2, bind_s rfl, if_neg (by decide), bind_s rfl, if_neg (by omega), vs_l2 L hl hL j m k _ (i + 1) (by omega) (by omega) (by omega) (by omega) (by omega)]; congr 1; omega
def okd (D : List HeatDomain) (L : List HeatLink) (j : Int) : Prop := 1 ≤ (gd HeatDomain.zero D j).Ambient ∧ (gd HeatDomain.zero D j).Capacity ≤ 16777216 ∧ (gd HeatDomain.zero D j).Ambient + cs L j ≤ (gd HeatDomain.zero D j).Capacity
theorem vd_l1 (D : List HeatDomain) (hD : (D.length : Int) ≤ 16) (L : List HeatLink) (hl : (L.length : Int) ≤ 25) (hL : ∀ m : Int, 0 ≤ m → m < L.length → 1 ≤ (gd HeatLink.zero L m).Conductance ∧ (gd HeatLink.zero L m).Conductance ≤ 16777216) (hc : ∀ j, 0 ≤ cs L j) : ∀ (k : Nat) (i : Int), 0 ≤ i → i ≤ D.length → (D.length : Int) - i + 30 < k →
    ∃ r, heat_valid.l1 k D L i = some r ∧ (((∀ j : Int, i ≤ j → j < D.length → okd D L j) ∧ r = .go ()) ∨ ((¬ ∀ j : Int, i ≤ j → j < D.length → okd D L j) ∧ r = .rt (some false)))
  | 0, _, _, _, hk => by omega
  | k + 1, i, h0, h1, hk => by
    rw [heat_valid.l1]
    by_cases h : i < (D.length : Int)
    · have hci := hc i
      obtain ⟨b, hb, hb'⟩ : ∃ b, ((some (decide (1 ≤ (gd HeatDomain.zero D i).Capacity) && decide ((gd HeatDomain.zero D i).Capacity ≤ 16777216))).bind fun s31 => if s31 = true then (some (decide (1 ≤ (gd HeatDomain.zero D i).Ambient) && decide ((gd HeatDomain.zero D i).Ambient ≤ 16777216))).bind fun s33 => some (!s33) else some true) = some b ∧ (b = false ↔ (1 ≤ (gd HeatDomain.zero D i).Capacity ∧ (gd HeatDomain.zero D i).Capacity ≤ 16777216) ∧ 1 ≤ (gd HeatDomain.zero D i).Ambient ∧ (gd HeatDomain.zero D i).Ambient ≤ 16777216) := by
        generalize gd HeatDomain.zero D i = d
        rw [bind_s rfl]
        by_cases c : (decide (1 ≤ d.Capacity) && decide (d.Capacity ≤ 16777216)) = true
        · rw [if_pos c, bind_s rfl]
          refine ⟨_, rfl, ?_⟩
          simp at c ⊢; omega
        · rw [if_neg c]
          refine ⟨_, rfl, ?_⟩
          simp at c ⊢; omega
      rw [if_pos h, ck_t ⟨h0, h⟩, inRange_f, inRange_f, wi (i + 1) (by omega) (by omega), bind_s hb]
      cases b
      · have hb' := hb'.1 rfl
        rw [if_neg (by decide), vs_l2 L hl hL i L.length k _ 0 (by omega) (by omega) (by omega) (by omega) (by omega), bind_s rfl]
        have e : L.drop (0 : Int).toNat = L := by simp
        rw [e]
        by_cases c : (gd HeatDomain.zero D i).Capacity < (gd HeatDomain.zero D i).Ambient + cs L i
        · rw [if_pos c, bind_s rfl, el_r]
          exact ⟨_, rfl, .inr ⟨fun g => by have := g i (by omega) h; unfold okd at this; omega, rfl⟩⟩
        · rw [if_neg c, bind_s rfl, el_g]
          obtain ⟨r, hr, hr'⟩ := vd_l1 D hD L hl hL hc k (i + 1) (by omega) (by omega) (by omega)
          refine ⟨r, hr, ?_⟩
          rcases hr' with ⟨g2, h2⟩ | ⟨g2, h2⟩
          · refine .inl ⟨fun m m0 m1 => ?_, h2⟩
            by_cases e : m = i
            · rw [e]; unfold okd; omega
            · exact g2 m (by omega) m1
          · exact .inr ⟨fun g3 => g2 (fun m m0 m1 => g3 m (by omega) m1), h2⟩
      · rw [if_pos rfl, bind_s rfl, el_r]
        refine ⟨_, rfl, .inr ⟨fun g => ?_, rfl⟩⟩
        have := g i (by omega) h
        unfold okd at this
        exact absurd (hb'.2 (by omega)) (by decide)
    · rw [if_neg h]
      exact ⟨_, rfl, .inl ⟨fun m m0 m1 => by omega, rfl⟩⟩
theorem all_gd {α : Type} (z : α) (L : List α) (P : α → Prop) : (∀ l ∈ L, P l) ↔ ∀ m : Int, 0 ≤ m → m < L.length → P (gd z L m) := by
  constructor
  · intro h m m0 m1; exact h _ (gd_mem m0 m1)
  · intro h l hl
    obtain ⟨n, hn, rfl⟩ := List.mem_iff_getElem.1 hl
    have := h n (by omega) (by omega)
    unfold gd at this
    simpa [List.getD_eq_getElem?_getD, List.getElem?_eq_getElem hn] using this
theorem valid_f (D : List HeatDomain) (L : List HeatLink) (amb : Int) (hl : (L.length : Int) ≤ 25) (k : Nat) (hk : 60 < k) : ∃ b, heat_valid.f k D L amb = some b ∧ (b = true ↔ V D L amb) := by
  rw [heat_valid.f]
  by_cases c1 : (D.length : Int) < 1
  · rw [if_pos c1, bind_s rfl, if_pos rfl]; exact ⟨_, rfl, by unfold V; simp; omega⟩
  · by_cases c2 : 16 < (D.length : Int)
    · rw [if_neg c1, if_pos c2, bind_s rfl, if_pos rfl]; exact ⟨_, rfl, by unfold V; simp; omega⟩
    · rw [if_neg c1, if_neg c2, inRange_f, bind_s rfl]
      by_cases c3 : (decide (-16777216 ≤ amb) && decide (amb ≤ 16777216)) = true
      · rw [if_pos c3, heat_validLinks.f]
        have c3 : -16777216 ≤ amb ∧ amb ≤ 16777216 := by simpa using c3
        obtain ⟨r, hr, hr'⟩ := vl_l1 L hl D.length k 0 (by omega) (by omega) (by omega)
        rw [bind_s hr]
        rcases hr' with ⟨g1, rfl⟩ | ⟨g1, rfl⟩
        · rw [el_g, bind_s rfl, bind_s rfl, if_neg (by decide)]
          have hL : ∀ m : Int, 0 ≤ m → m < L.length → 1 ≤ (gd HeatLink.zero L m).Conductance ∧ (gd HeatLink.zero L m).Conductance ≤ 16777216 := fun m m0 m1 => ⟨(g1 m m0 m1).1.1.2.2.2.2.2, (g1 m m0 m1).1.2⟩
          obtain ⟨r, hr, hr'⟩ := vd_l1 D (by omega) L hl hL (fun j => cs_nonneg L j ((all_gd HeatLink.zero L (fun l => 0 ≤ l.Conductance)).2 (fun m m0 m1 => by have := hL m m0 m1; omega))) k 0 (by omega) (by omega) (by omega)
          rw [bind_s hr]
          rcases hr' with ⟨g2, rfl⟩ | ⟨g2, rfl⟩
          · rw [el_g]
            exact ⟨_, rfl, by simp only [true_iff]; exact ⟨⟨by omega, by omega, c3⟩, ⟨fun m m0 m1 => (g1 m m0 m1).1, fun m q q0 q1 q2 => (g1 m (by omega) q2).2 q q0 q1⟩, g2⟩⟩
          · rw [el_r]
            exact ⟨_, rfl, by simp only [Bool.false_eq_true, false_iff]; exact fun v => g2 v.2.2⟩
        · rw [el_r, bind_s rfl, bind_s rfl, if_pos (show (!false) = true from rfl)]
          exact ⟨_, rfl, by simp only [Bool.false_eq_true, false_iff]; exact fun v => g1 (fun m m0 m1 => ⟨v.2.1.1 m m0 m1, fun q q0 q1 => v.2.1.2 m q q0 q1 m1⟩)⟩
      · rw [if_neg c3, bind_s rfl, if_pos rfl]
        refine ⟨_, rfl, ?_⟩
        simp at c3
        simp only [Bool.false_eq_true, false_iff]; intro v; have := v.1; omega
theorem Sys.v {D : List HeatDomain} {L : List HeatLink} {amb : Int} (h : Sys D L amb) (b : Int) (b0 : -16777216 ≤ b) (b1 : b ≤ 16777216) : V D L b := by
  obtain ⟨n1, n5, l12, dom, links, apart, _, _⟩ := h
  refine ⟨⟨n1, by omega, b0, b1⟩, ⟨fun m m0 m1 => ?_, apart⟩, fun j j0 j1 => ?_⟩
  · have := links _ (gd_mem (z := HeatLink.zero) m0 m1)
    exact ⟨this.1, by omega⟩
  · have := dom j j0 j1; omega
theorem new_l1 (D : List HeatDomain) (hn : (D.length : Int) ≤ 20) (amb : Int) : ∀ (m k : Nat) (T : List Int) (i : Int), 0 ≤ i → i + m = D.length → (T.length : Int) = i → m < k →
    heat_New.l1 k D amb T i = some (T ++ tab (fun j => ws ((gd HeatDomain.zero D j).Capacity * amb)) m i)
  | _, 0, _, _, _, _, _, hk => by omega
  | 0, k + 1, T, i, h0, h1, h2, hk => by rw [heat_New.l1, if_neg (by omega), tab]; simp
  | m + 1, k + 1, T, i, h0, h1, h2, hk => by
    have hi : i < (D.length : Int) := by omega
    rw [heat_New.l1, if_pos hi, ck_t ⟨h0, hi⟩, ck_t (by simp; omega), wi (i + 1) (by omega) (by omega), new_l1 D hn amb m k _ (i + 1) (by omega) (by omega) (by simp; omega) (by omega), tab]
    simp
def init (D : List HeatDomain) (amb : Int) : List Int := tab (fun j => ws ((gd HeatDomain.zero D j).Capacity * amb)) D.length 0
theorem new_f (D : List HeatDomain) (L : List HeatLink) (amb : Int) (hl : (L.length : Int) ≤ 25) (k : Nat) (hk : 60 < k) :
    (V D L amb ∧ heat_New.f k D L amb = some (some (D, L, amb, init D amb, 0), 0)) ∨ (¬ V D L amb ∧ heat_New.f k D L amb = some (none, 1)) := by
  obtain ⟨b, hb, hb'⟩ := valid_f D L amb hl k hk
  rw [heat_New.f, bind_s hb]
  cases b
  · right
    exact ⟨fun v => absurd (hb'.2 v) (by decide), by rw [if_neg (by decide)]⟩
  · left
    have v := hb'.1 rfl
    have hn := v.1
    refine ⟨v, ?_⟩
    rw [if_pos rfl, slices_Clone_api_HeatDomain_api_HeatDomain.f, slices_Clone_api_HeatLink_api_HeatLink.f, ck_t (by simp; omega), bind_s rfl, ck_t (by simp; omega), bind_s rfl, bind_s (new_l1 D (by omega) amb D.length k [] 0 (by omega) (by omega) (by simp) (by omega))]
    simp [init]
theorem init_gd (D : List HeatDomain) (amb j : Int) (j0 : 0 ≤ j) (j1 : j < D.length) : gd 0 (init D amb) j = ws ((gd HeatDomain.zero D j).Capacity * amb) := by
  rw [init, tab_gd 0 _ _ _ _ j0 j1, Int.zero_add]
theorem tab_in64 (f : Int → Int) (n : Nat) (h : ∀ j, in64 (f j)) : ∀ j, in64 (gd 0 (tab f n 0) j) := by
  intro j
  by_cases hj : 0 ≤ j ∧ j < n
  · rw [tab_gd 0 f n 0 j hj.1 hj.2]; exact h _
  · by_cases h2 : j < 0
    · rw [gd_nat _ _ _ h2]
      by_cases hn : (0 : Int) < n
      · rw [tab_gd 0 f n 0 0 (by omega) hn]; exact h _
      · rw [gd_out _ _ _ (by rw [tab_len]; omega)]; exact ⟨by omega, by omega⟩
    · rw [gd_out _ _ _ (by rw [tab_len]; omega)]; exact ⟨by omega, by omega⟩
/-- a valid model makes steps from its start -/
theorem V.mod {D : List HeatDomain} {L : List HeatLink} {amb : Int} (v : V D L amb) (hl : (L.length : Int) ≤ 20) : Mod D L (init D amb) 0 := by
  obtain ⟨⟨n1, n2, _, _⟩, ⟨l1, _⟩, d1⟩ := v
  have hc : ∀ j, 0 ≤ cs L j := fun j => cs_nonneg L j ((all_gd HeatLink.zero L (fun l => 0 ≤ l.Conductance)).2 (fun m m0 m1 => by have := (l1 m m0 m1).1.2.2.2.2.2; omega))
  refine ⟨by omega, hl, (all_gd HeatDomain.zero D (fun d => 0 < d.Capacity)).2 (fun m m0 m1 => ?_), (all_gd HeatLink.zero L (inL D.length)).2 (fun m m0 m1 => (l1 m m0 m1).1), by rw [init, tab_len], tab_in64 _ _ (fun j => in64_ws _), ⟨by omega, by omega⟩⟩
  have := d1 m m0 m1; have := hc m; omega
end Go.Proofs.Ytakaooegofiloaa.X
