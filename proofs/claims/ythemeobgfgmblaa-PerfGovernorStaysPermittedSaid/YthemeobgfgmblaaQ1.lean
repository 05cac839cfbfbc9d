/- The laws on the pure side: perf. -/
import Derived.Test.YthemeobgfgmblaaFa
import Derived.Test.YthemeobgfgmblaaSx11
namespace Go.Proofs.Ythemeobgfgmblaa.X
open Go Go.Sx

/-! ## operating points -/
abbrev pt (T : List OperatingPoint) (i : Int) : OperatingPoint := gd OperatingPoint.zero T i
def okP (T : List OperatingPoint) (i : Int) : Prop := (1 ≤ (pt T i).Frequency ∧ (pt T i).Frequency ≤ 1099511627776 ∧ (pt T i).Voltage ≤ 1099511627776 ∧ (pt T i).Power ≤ 1099511627776) ∧ (0 < i → (pt T (i - 1)).Frequency < (pt T i).Frequency ∧ (pt T (i - 1)).Voltage ≤ (pt T i).Voltage ∧ (pt T (i - 1)).Power ≤ (pt T i).Power)
def okT (T : List OperatingPoint) : Prop := (1 ≤ (T.length : Int) ∧ (T.length : Int) ≤ 16) ∧ ∀ i : Int, 0 ≤ i → i < T.length → okP T i
theorem okT_mono {T : List OperatingPoint} (h : okT T) : ∀ (n : Nat) (i : Int), 0 ≤ i → i + n < T.length → (pt T i).Power ≤ (pt T (i + n)).Power ∧ (pt T i).Voltage ≤ (pt T (i + n)).Voltage ∧ (pt T i).Frequency + n ≤ (pt T (i + n)).Frequency
  | 0, i, _, _ => by
    rw [show i + ((0 : Nat) : Int) = i by omega]; omega
  | n + 1, i, h0, h1 => by
    have ih := okT_mono h n i h0 (by omega)
    have h2 := (h.2 (i + n + 1) (by omega) (by omega)).2 (by omega)
    rw [show i + (n : Int) + 1 - 1 = i + n by omega] at h2
    rw [show i + ((n + 1 : Nat) : Int) = i + n + 1 by omega]
    omega
theorem okT_le {T : List OperatingPoint} (h : okT T) {i j : Int} (h0 : 0 ≤ i) (hij : i ≤ j) (h1 : j < T.length) : (pt T i).Power ≤ (pt T j).Power ∧ (pt T i).Voltage ≤ (pt T j).Voltage ∧ (pt T i).Frequency ≤ (pt T j).Frequency := by
  have := okT_mono h (j - i).toNat i h0 (by omega)
  rw [show i + ((j - i).toNat : Int) = j by omega] at this
  omega
theorem okT_lt {T : List OperatingPoint} (h : okT T) {i j : Int} (h0 : 0 ≤ i) (hij : i < j) (h1 : j < T.length) : (pt T i).Frequency < (pt T j).Frequency := by
  have := okT_mono h (j - i).toNat i h0 (by omega)
  rw [show i + ((j - i).toNat : Int) = j by omega] at this
  omega
theorem check_l1 (T : List OperatingPoint) (hl : (T.length : Int) ≤ 16) : ∀ (k : Nat) (i : Int), 0 ≤ i → i ≤ T.length → (T.length : Int) - i < k →
    ∃ r, perf_Check.l1 k T i = some r ∧ (((∀ j : Int, i ≤ j → j < T.length → okP T j) ∧ r = .go ()) ∨ ((¬ ∀ j : Int, i ≤ j → j < T.length → okP T j) ∧ r = .rt (some 1)))
  | 0, _, _, _, hk => by omega
  | k + 1, i, h0, h1, hk => by
    rw [perf_Check.l1]
    by_cases h : i < (T.length : Int)
    · rw [if_pos h, ck_t ⟨h0, h⟩, wi (i - 1) (by omega) (by omega), wi (i + 1) (by omega) (by omega)]
      obtain ⟨b, hb, hb'⟩ : ∃ b, (if (gd OperatingPoint.zero T i).Frequency < 1 then some true else if 1099511627776 < (gd OperatingPoint.zero T i).Frequency then some true else if 1099511627776 < (gd OperatingPoint.zero T i).Voltage then some true else some (decide (1099511627776 < (gd OperatingPoint.zero T i).Power))) = some b ∧ (b = false ↔ (1 ≤ (pt T i).Frequency ∧ (pt T i).Frequency ≤ 1099511627776 ∧ (pt T i).Voltage ≤ 1099511627776 ∧ (pt T i).Power ≤ 1099511627776)) := by
        unfold pt
        generalize gd OperatingPoint.zero T i = x
        (repeat' split) <;> (refine ⟨_, rfl, ?_⟩; simp; omega)
      obtain ⟨c, hc, hc'⟩ : ∃ c, (if 0 < i then ck (0 ≤ i - 1 ∧ i - 1 < (T.length : Int)) (if (gd OperatingPoint.zero T i).Frequency ≤ (gd OperatingPoint.zero T (i - 1)).Frequency then some true else if (gd OperatingPoint.zero T i).Voltage < (gd OperatingPoint.zero T (i - 1)).Voltage then some true else some (decide ((gd OperatingPoint.zero T i).Power < (gd OperatingPoint.zero T (i - 1)).Power))) else some false) = some c ∧ (c = false ↔ (0 < i → (pt T (i - 1)).Frequency < (pt T i).Frequency ∧ (pt T (i - 1)).Voltage ≤ (pt T i).Voltage ∧ (pt T (i - 1)).Power ≤ (pt T i).Power)) := by
        unfold pt
        by_cases g : 0 < i
        · rw [if_pos g, ck_t ⟨by omega, by omega⟩]
          generalize gd OperatingPoint.zero T i = x
          generalize gd OperatingPoint.zero T (i - 1) = y
          (repeat' split) <;> (refine ⟨_, rfl, ?_⟩; simp; omega)
        · rw [if_neg g]; exact ⟨_, rfl, by simp [g]⟩
      rw [bind_s hb]
      cases b
      · rw [if_neg (by decide), bind_s hc]
        cases c
        · rw [if_neg (by decide)]
          obtain ⟨r, hr, hr'⟩ := check_l1 T hl k (i + 1) (by omega) (by omega) (by omega)
          refine ⟨r, hr, ?_⟩
          rcases hr' with ⟨g1, g2⟩ | ⟨g1, g2⟩
          · refine .inl ⟨fun j j0 j1 => ?_, g2⟩
            by_cases e : j = i
            · rw [e]; exact ⟨hb'.1 rfl, hc'.1 rfl⟩
            · exact g1 j (by omega) j1
          · exact .inr ⟨fun g => g1 (fun j j0 j1 => g j (by omega) j1), g2⟩
        · rw [if_pos rfl]
          exact ⟨_, rfl, .inr ⟨fun g => absurd (hc'.2 (g i (by omega) h).2) (by decide), rfl⟩⟩
      · rw [if_pos rfl]
        exact ⟨_, rfl, .inr ⟨fun g => absurd (hb'.2 (g i (by omega) h).1) (by decide), rfl⟩⟩
    · rw [if_neg h]
      exact ⟨_, rfl, .inl ⟨fun j j0 j1 => by omega, rfl⟩⟩
theorem check_f (T : List OperatingPoint) (k : Nat) (hk : 20 < k) : (okT T ∧ perf_Check.f k T = some 0) ∨ (¬ okT T ∧ perf_Check.f k T = some 1) := by
  rw [perf_Check.f]
  by_cases c : 1 ≤ (T.length : Int) ∧ (T.length : Int) ≤ 16
  · obtain ⟨r, hr, hr'⟩ := check_l1 T c.2 k 0 (by omega) (by omega) (by omega)
    rw [if_neg (by omega), decide_eq_false (by omega), bind_s rfl, if_neg (by decide), bind_s hr]
    rcases hr' with ⟨g1, rfl⟩ | ⟨g1, rfl⟩
    · exact .inl ⟨⟨c, g1⟩, rfl⟩
    · exact .inr ⟨fun g => g1 g.2, rfl⟩
  · have hz : (if (T.length : Int) < 1 then (some true) else (some (decide (16 < (T.length : Int))))) = some true := by
      split
      · rfl
      · rw [decide_eq_true (by omega)]
    rw [hz, bind_s rfl, if_pos rfl]
    exact .inr ⟨fun g => c g.1, rfl⟩
theorem rcheck_l1 (T : List OperatingPoint) : ∀ (k : Nat) (i : Int), ref36_Check.l1 k T i = perf_Check.l1 k T i
  | 0, _ => rfl
  | k + 1, i => by rw [ref36_Check.l1, perf_Check.l1]; simp only [rcheck_l1 T k]
theorem rcheck_f (T : List OperatingPoint) (k : Nat) : ref36_Check.f k T = perf_Check.f k T := by rw [ref36_Check.f, perf_Check.f, rcheck_l1]
/-! the table made valid -/
theorem gd_app2 {α : Type} (z : α) (L : List α) (x : α) (j : Int) (h0 : 0 ≤ j) : gd z (L ++ [x]) j = if j < L.length then gd z L j else if j = L.length then x else z := by
  unfold gd
  simp only [List.getD_eq_getElem?_getD]
  by_cases h : j < L.length
  · rw [if_pos h, List.getElem?_append_left (by omega)]
  · rw [if_neg h, List.getElem?_append_right (by omega)]
    by_cases h2 : j = L.length
    · rw [if_pos h2, show j.toNat - L.length = 0 by omega]; rfl
    · rw [if_neg h2, List.getElem?_eq_none (by simp; omega)]; rfl
/-- small points of a valid table -/
def okS (T : List OperatingPoint) : Prop := ∀ i : Int, 0 ≤ i → i < T.length → (1 ≤ (pt T i).Frequency ∧ (pt T i).Frequency ≤ 100 * (i + 1) ∧ 0 ≤ (pt T i).Voltage ∧ (pt T i).Voltage ≤ 100 * (i + 1) ∧ 0 ≤ (pt T i).Power ∧ (pt T i).Power ≤ 100 * (i + 1)) ∧ (0 < i → (pt T (i - 1)).Frequency < (pt T i).Frequency ∧ (pt T (i - 1)).Voltage ≤ (pt T i).Voltage ∧ (pt T (i - 1)).Power ≤ (pt T i).Power)
theorem okS.t {T : List OperatingPoint} (h : okS T) (h1 : 1 ≤ (T.length : Int)) (h2 : (T.length : Int) ≤ 16) : okT T := by
  refine ⟨⟨h1, h2⟩, fun i i0 i1 => ?_⟩
  obtain ⟨a, b⟩ := h i i0 i1
  exact ⟨by omega, b⟩
theorem table_l1 (raw : List OperatingPoint) (hw : ∀ i, 0 ≤ (pt raw i).Frequency ∧ 0 ≤ (pt raw i).Voltage ∧ 0 ≤ (pt raw i).Power) : ∀ (m k : Nat) (T : List OperatingPoint) (i : Int), 1 ≤ i → i + m = 8 → (T.length : Int) = i → m < k → okS T →
    ∃ T', law36_Table.l1 k raw T i = some T' ∧ 1 ≤ (T'.length : Int) ∧ (T'.length : Int) ≤ 8 ∧ okS T'
  | _, 0, _, _, _, _, _, hk, _ => by omega
  | 0, k + 1, T, i, h0, h1, h2, hk, hS => by
    have hz : (if i < (raw.length : Int) then (some (decide (i < 8))) else (some false)) = some false := by
      split
      · rw [decide_eq_false (by omega)]
      · rfl
    rw [law36_Table.l1, hz, bind_s rfl, if_neg (by decide)]
    exact ⟨T, rfl, by omega, by omega, hS⟩
  | m + 1, k + 1, T, i, h0, h1, h2, hk, hS => by
    rw [law36_Table.l1]
    by_cases c : i < (raw.length : Int)
    · obtain ⟨w1, w2, w3⟩ := hw i
      have s := (hS (i - 1) (by omega) (by omega)).1
      unfold pt at w1 w2 w3 s
      rw [if_pos c, decide_eq_true (by omega), bind_s rfl, if_pos rfl, wi (i - 1) (by omega) (by omega), ck_t ⟨by omega, by omega⟩, ck_t ⟨by omega, c⟩, ck_t (by simp; omega), tm _ w1, tm _ w2, tm _ w3, wu (_ + 1) (by omega) (by omega), wu (_ + _) (by omega) (by omega), wu (_ + _) (by omega) (by omega), wu (_ + _) (by omega) (by omega), wi (i + 1) (by omega) (by omega)]
      refine table_l1 raw hw m k _ (i + 1) (by omega) (by omega) (by simp; omega) (by omega) (fun j j0 j1 => ?_)
      have j1 : j < T.length + 1 := by simpa using j1
      unfold pt
      rw [gd_app2 _ _ _ j j0]
      by_cases e : j < T.length
      · rw [if_pos e]
        have := hS j j0 e
        unfold pt at this
        refine ⟨this.1, fun hj => ?_⟩
        rw [gd_app2 _ _ _ _ (by omega), if_pos (by omega)]
        exact this.2 hj
      · have e2 : j = i := by omega
        subst e2
        rw [if_neg e, if_pos (by omega)]
        refine ⟨by dsimp only; omega, fun _ => ?_⟩
        rw [gd_app2 _ _ _ _ (by omega), if_pos (by omega)]
        dsimp only
        omega
    · rw [if_neg c, bind_s rfl, if_neg (by decide)]
      exact ⟨T, rfl, by omega, by omega, hS⟩
theorem wfP {x : OperatingPoint} (h : x.wf) : 0 ≤ x.Frequency ∧ 0 ≤ x.Voltage ∧ 0 ≤ x.Power := ⟨(inK_u64 h.1).1, (inK_u64 h.2.1).1, (inK_u64 h.2.2).1⟩
theorem gd_P {α : Type} (z : α) (P : α → Prop) (hz : P z) (L : List α) (h : ∀ x ∈ L, P x) (j : Int) : P (gd z L j) := by
  unfold gd
  rw [List.getD_eq_getElem?_getD]
  cases e : L[j.toNat]? with
  | none => exact hz
  | some x => exact h x (List.mem_of_getElem? e)
theorem table_f (raw : List OperatingPoint) (hw : ∀ x ∈ raw, OperatingPoint.wf x) (k : Nat) (hk : 10 < k) : ∃ T, law36_Table.f k raw = some T ∧ 1 ≤ (T.length : Int) ∧ (T.length : Int) ≤ 8 ∧ okS T := by
  have hw' : ∀ i, 0 ≤ (pt raw i).Frequency ∧ 0 ≤ (pt raw i).Voltage ∧ 0 ≤ (pt raw i).Power := fun i => gd_P OperatingPoint.zero (fun x => 0 ≤ x.Frequency ∧ 0 ≤ x.Voltage ∧ 0 ≤ x.Power) (by decide) raw (fun x hx => wfP (hw x hx)) i
  have one : ∀ x : OperatingPoint, (1 ≤ x.Frequency ∧ x.Frequency ≤ 100 ∧ 0 ≤ x.Voltage ∧ x.Voltage ≤ 100 ∧ 0 ≤ x.Power ∧ x.Power ≤ 100) → okS [x] := by
    intro x hx i i0 i1
    have : i = 0 := by simp at i1; omega
    subst this
    exact ⟨hx, fun h => by omega⟩
  rw [law36_Table.f]
  by_cases c : 0 < (raw.length : Int)
  · obtain ⟨w1, w2, w3⟩ := hw' 0
    unfold pt at w1 w2 w3
    rw [if_pos c, ck_t ⟨by omega, c⟩, ck_t ⟨by omega, by simp⟩, bind_s rfl, tm _ w1, tm _ w2, tm _ w3, wu (1 + _) (by omega) (by omega)]
    obtain ⟨T, t1, t2⟩ := table_l1 raw hw' 7 k [⟨1 + (gd OperatingPoint.zero raw 0).Frequency % 100, (gd OperatingPoint.zero raw 0).Voltage % 100, (gd OperatingPoint.zero raw 0).Power % 100⟩] 1 (by omega) (by omega) (by simp) (by omega) (one _ (by dsimp only; omega))
    have t1' : law36_Table.l1 k raw ([(⟨1, 5, 0⟩ : OperatingPoint)].set (0 : Int).toNat (⟨1 + (gd OperatingPoint.zero raw 0).Frequency % 100, (gd OperatingPoint.zero raw 0).Voltage % 100, (gd OperatingPoint.zero raw 0).Power % 100⟩)) 1 = some T := t1
    exact ⟨T, by rw [bind_s t1'], t2⟩
  · obtain ⟨T, t1, t2⟩ := table_l1 raw hw' 7 k [⟨1, 5, 0⟩] 1 (by omega) (by omega) (by simp) (by omega) (one _ (by decide))
    rw [if_neg c, bind_s rfl, bind_s t1]
    exact ⟨T, rfl, t2⟩
/-! the governor -/
theorem lowest_l1 (T : List OperatingPoint) (cur up ld : Int) (hc : 0 ≤ cur ∧ cur < T.length) (hl : (T.length : Int) ≤ 16) : ∀ (m k : Nat) (p : Int), 0 ≤ p → p + m = cur → m < k →
    ∃ r, perf_Governor_lowest.l1 k cur T up ld p = some r ∧ p ≤ r ∧ r ≤ cur ∧ (∀ j : Int, p ≤ j → j < r → IntKind.u64.wrap (IntKind.u64.wrap up * (pt T j).Frequency) < IntKind.u64.wrap (ld * (pt T cur).Frequency)) ∧ (r < cur → ¬ IntKind.u64.wrap (IntKind.u64.wrap up * (pt T r).Frequency) < IntKind.u64.wrap (ld * (pt T cur).Frequency))
  | _, 0, _, _, _, hk => by omega
  | 0, k + 1, p, h0, h1, hk => by
    rw [perf_Governor_lowest.l1, if_neg (by omega), bind_s rfl, if_neg (by decide)]
    exact ⟨p, rfl, by omega, by omega, fun j j0 j1 => by omega, fun h => by omega⟩
  | m + 1, k + 1, p, h0, h1, hk => by
    rw [perf_Governor_lowest.l1, if_pos (by omega), ck_t hc, ck_t ⟨h0, by omega⟩]
    by_cases c : IntKind.u64.wrap (IntKind.u64.wrap up * (gd OperatingPoint.zero T p).Frequency) < IntKind.u64.wrap (ld * (gd OperatingPoint.zero T cur).Frequency)
    · rw [decide_eq_true c, bind_s rfl, if_pos rfl, wi (p + 1) (by omega) (by omega)]
      obtain ⟨r, r1, r2, r3, r4, r5⟩ := lowest_l1 T cur up ld hc hl m k (p + 1) (by omega) (by omega) (by omega)
      refine ⟨r, r1, by omega, r3, fun j j0 j1 => ?_, r5⟩
      by_cases e : j = p
      · rw [e]; exact c
      · exact r4 j (by omega) j1
    · rw [decide_eq_false c, bind_s rfl, if_neg (by decide)]
      exact ⟨p, rfl, by omega, by omega, fun j j0 j1 => by omega, fun _ => c⟩
/-- a sample leaves the governor between its limits -/
theorem sample_in (T : List OperatingPoint) (up dn sa lo hi cur q x : Int) (hl : (T.length : Int) ≤ 16) (h0 : 0 ≤ lo) (h1 : lo ≤ cur) (h2 : cur ≤ hi) (h3 : hi < T.length) (x0 : 0 ≤ x) (x1 : x ≤ 100) (k : Nat) (hk : 18 < k) :
    ∃ c q', perf_Governor_Sample.f k T up dn sa lo hi cur q x = some (c, q', c, 0) ∧ lo ≤ c ∧ c ≤ hi := by
  obtain ⟨r, r1, r2, r3, _⟩ := lowest_l1 T cur up (IntKind.u64.wrap x) ⟨by omega, by omega⟩ hl (cur - lo).toNat k lo h0 (by omega) (by omega)
  have hL : perf_Governor_lowest.f k T up dn sa lo hi cur 0 (IntKind.u64.wrap x) = some r := by rw [perf_Governor_lowest.f, bind_s r1]
  rw [perf_Governor_Sample.f, if_neg (by omega), decide_eq_false (by omega), bind_s rfl, if_neg (by decide)]
  by_cases c1 : up < x
  · rw [if_pos c1, bind_s rfl]; exact ⟨_, _, rfl, by dsimp only; omega, by dsimp only; omega⟩
  · by_cases c2 : dn ≤ x
    · rw [if_neg c1, if_pos c2, bind_s rfl]; exact ⟨_, _, rfl, by dsimp only; omega, by dsimp only; omega⟩
    · by_cases c3 : IntKind.i64.wrap (q + 1) < sa
      · rw [if_neg c1, if_neg c2, if_pos c3, bind_s rfl]; exact ⟨_, _, rfl, by dsimp only; omega, by dsimp only; omega⟩
      · rw [if_neg c1, if_neg c2, if_neg c3, bind_s hL, bind_s rfl]; exact ⟨_, _, rfl, by dsimp only; omega, by dsimp only; omega⟩
theorem pnew_f (T : List OperatingPoint) (h : okT T) (k : Nat) (hk : 20 < k) : perf_New.f k T ⟨80, 30, 2⟩ = some (some (T, 80, 30, 2, 0, (T.length : Int) - 1, 0, 0), 0) := by
  obtain ⟨_, c⟩ | ⟨c, _⟩ := check_f T k hk
  · have hl := h.1
    rw [perf_New.f, bind_s c, if_pos rfl]
    dsimp only
    rw [if_neg (by decide), if_neg (by decide), if_neg (by decide), if_neg (by decide), if_neg (by decide), decide_eq_false (by decide), bind_s rfl, if_neg (by decide), slices_Clone_api_OperatingPoint_api_OperatingPoint.f, ck_t (by simp; omega), bind_s rfl, wi ((T.length : Int) - 1) (by omega) (by omega)]
    simp
  · exact absurd h c
end Go.Proofs.Ythemeobgfgmblaa.X
