/- The laws on the pure side: heatstep. -/
import Derived.Test.YtakaooegofiloaaQ1
namespace Go.Proofs.Ytakaooegofiloaa.X
open Go Go.Sx

/-! ## the model's step -/
def in64 (x : Int) : Prop := -9223372036854775808 ≤ x ∧ x < 9223372036854775808
theorem in64_ws (x : Int) : in64 (ws x) := ⟨ws_lo x, ws_hi x⟩
theorem ws_id {x : Int} (h : in64 x) : ws x = x := ws_in h.1 h.2
/-- the temperature of domain j -/
def tpf (D : List HeatDomain) (E : List Int) (j : Int) : Int := gd 0 E j / (gd HeatDomain.zero D j).Capacity
theorem floor_f (k : Nat) (a b : Int) (hb : 0 < b) (ha : in64 a) : heat_floorDiv.f k a b = some (a / b) := by
  have := floorW a b hb ha.1 ha.2
  rw [heat_floorDiv.f, ck_t (by omega), ← this]
  by_cases h : Int.tmod a b < 0
  · rw [if_pos h, if_pos h]; rfl
  · rw [if_neg h, if_neg h]; rfl
theorem temp_l1 (D : List HeatDomain) (E : List Int) (hl : E.length = D.length) (hn : (D.length : Int) ≤ 20) (hE : ∀ j, in64 (gd 0 E j)) (hD : ∀ d ∈ D, 0 < d.Capacity) : ∀ (m k : Nat) (T : List Int) (i : Int), 0 ≤ i → i + m = D.length → (T.length : Int) = i → m < k →
    heat_Model_temperatures.l1 k D E T i = some (T ++ tab (tpf D E) m i)
  | _, 0, _, _, _, _, _, hk => by omega
  | 0, k + 1, T, i, h0, h1, h2, hk => by rw [heat_Model_temperatures.l1, if_neg (by omega), tab]; simp
  | m + 1, k + 1, T, i, h0, h1, h2, hk => by
    have hi : i < (D.length : Int) := by omega
    rw [heat_Model_temperatures.l1, if_pos hi, ck_t ⟨h0, hi⟩, ck_t ⟨h0, by omega⟩, floor_f k _ _ (hD _ (gd_mem h0 hi)) (hE i), bind_s rfl, ck_t (by simp; omega), wi (i + 1) (by omega) (by omega), temp_l1 D E hl hn hE hD m k _ (i + 1) (by omega) (by omega) (by simp; omega) (by omega), tab]
    simp [tpf]
def temps (D : List HeatDomain) (E : List Int) : List Int := tab (tpf D E) D.length 0
theorem temps_len (D : List HeatDomain) (E : List Int) : (temps D E).length = D.length := tab_len _ _ _
theorem temps_gd (D : List HeatDomain) (E : List Int) (j : Int) (h0 : 0 ≤ j) (h1 : j < D.length) : gd 0 (temps D E) j = tpf D E j := by
  rw [temps, tab_gd 0 _ _ _ _ h0 h1, Int.zero_add]
theorem temp_f (D : List HeatDomain) (L : List HeatLink) (amb : Int) (E : List Int) (rel : Int) (hl : E.length = D.length) (hn : (D.length : Int) ≤ 20) (hE : ∀ j, in64 (gd 0 E j)) (hD : ∀ d ∈ D, 0 < d.Capacity) (k : Nat) (hk : 21 < k) :
    heat_Model_temperatures.f k D L amb E rel = some (temps D E) := by
  rw [heat_Model_temperatures.f, bind_s (temp_l1 D E hl hn hE hD D.length k [] 0 (by omega) (by omega) (by simp) (by omega))]
  simp [temps]
/-- what goes out of the domains from i on -/
def outs (D : List HeatDomain) (t : Int → Int) (amb : Int) : Nat → Int → Int
  | 0, _ => 0
  | m + 1, i => (gd HeatDomain.zero D i).Ambient * (t i - amb) + outs D t amb m (i + 1)
theorem gd_nil {α : Type} (z : α) (j : Int) : gd z [] j = z := by simp [gd]
theorem gd_out {α : Type} (z : α) (xs : List α) (j : Int) (h : (xs.length : Int) ≤ j) : gd z xs j = z := by
  unfold gd; rw [List.getD_eq_getElem?_getD, List.getElem?_eq_none (by omega)]; rfl
theorem gd_in64 {E : List Int} (h : ∀ x ∈ E, in64 x) (j : Int) : in64 (gd 0 E j) := by
  unfold gd
  rw [List.getD_eq_getElem?_getD]
  cases e : E[j.toNat]? with
  | none => exact ⟨by simp, by simp⟩
  | some x => exact h x (List.mem_of_getElem? e)
theorem gd_nat {α : Type} (z : α) (xs : List α) (j : Int) (h : j < 0) : gd z xs j = gd z xs 0 := by
  unfold gd; rw [show j.toNat = (0 : Int).toNat by omega]
theorem in64_set {E : List Int} (hE : ∀ j, in64 (gd 0 E j)) {i : Int} (h0 : 0 ≤ i) (h1 : i < E.length) {x : Int} (hx : in64 x) : ∀ j, in64 (gd 0 (E.set i.toNat x) j) := by
  intro j
  by_cases hj : 0 ≤ j
  · rw [gd_set h0 h1 hj]; split
    · exact hx
    · exact hE j
  · rw [gd_nat _ _ _ (by omega), gd_set h0 h1 (Int.le_refl 0)]; split
    · exact hx
    · exact hE 0
theorem step_l1 (D : List HeatDomain) (T p : List Int) (amb : Int) (hT : T.length = D.length) (hp : p.length = D.length) (hn : (D.length : Int) ≤ 20) : ∀ (m k : Nat) (E : List Int) (rel i : Int), 0 ≤ i → i + m = D.length → E.length = D.length → in64 rel → (∀ j, in64 (gd 0 E j)) → m < k →
    ∃ F, heat_Model_Step.l1 k D T p amb E rel i = some (F, ws (rel + outs D (gd 0 T) amb m i)) ∧ F.length = D.length ∧ (∀ j, in64 (gd 0 F j)) ∧
      ∀ j : Int, 0 ≤ j → j < D.length → gd 0 F j = if i ≤ j then ws (gd 0 E j + gd 0 p j - (gd HeatDomain.zero D j).Ambient * (gd 0 T j - amb)) else gd 0 E j
  | _, 0, _, _, _, _, _, _, _, _, hk => by omega
  | 0, k + 1, E, rel, i, h0, h1, h2, hr, hE, hk => by
    rw [heat_Model_Step.l1, if_neg (by omega)]
    exact ⟨E, by rw [outs, Int.add_zero, ws_id hr], h2, hE, fun j j0 j1 => by rw [if_neg (by omega)]⟩
  | m + 1, k + 1, E, rel, i, h0, h1, h2, hr, hE, hk => by
    have hi : i < (D.length : Int) := by omega
    rw [heat_Model_Step.l1, if_pos hi, ck_t ⟨h0, hi⟩, ck_t ⟨h0, by omega⟩, ck_t ⟨h0, by omega⟩, ck_t ⟨h0, by omega⟩, wi (i + 1) (by omega) (by omega)]
    obtain ⟨F, f1, f2, f3, f4⟩ := step_l1 D T p amb hT hp hn m k (E.set i.toNat (ws (gd 0 E i + ws (gd 0 p i - ws ((gd HeatDomain.zero D i).Ambient * ws (gd 0 T i - amb)))))) (ws (rel + ws ((gd HeatDomain.zero D i).Ambient * ws (gd 0 T i - amb)))) (i + 1) (by omega) (by omega) (by simpa using h2) (in64_ws _) (in64_set hE h0 (by omega) (in64_ws _)) (by omega)
    refine ⟨F, ?_, f2, f3, fun j j0 j1 => ?_⟩
    · refine f1.trans ?_
      rw [outs, ws_addl]
      simp only [ws_mulr]
      rw [show rel + ws ((gd HeatDomain.zero D i).Ambient * (gd 0 T i - amb)) + outs D (gd 0 T) amb m (i + 1) = ws ((gd HeatDomain.zero D i).Ambient * (gd 0 T i - amb)) + (rel + outs D (gd 0 T) amb m (i + 1)) by omega, ws_addl]
      congr 3; omega
    · rw [f4 j j0 j1]
      by_cases c : i ≤ j
      · rw [if_pos c]
        by_cases c2 : i + 1 ≤ j
        · rw [if_pos c2, gd_set_other h0 (by omega) j0 (by omega)]
        · obtain rfl : i = j := by omega
          rw [if_neg c2, gd_set_same h0 (by omega)]
          simp only [ws_mulr, ws_addr, ws_subr]
          congr 1; omega
      · rw [if_neg c, if_neg (by omega), gd_set_other h0 (by omega) j0 (by omega)]
theorem step_l2 (n : Nat) (L : List HeatLink) (hL : ∀ l ∈ L, inL n l) (hLl : (L.length : Int) ≤ 20) (T : List Int) (hT : T.length = n) : ∀ (m k : Nat) (F : List Int) (i : Int), 0 ≤ i → i + m = L.length → F.length = n → (∀ j, in64 (gd 0 F j)) → m < k →
    ∃ G, heat_Model_Step.l2 k L T F i = some G ∧ G.length = n ∧ (∀ j, in64 (gd 0 G j)) ∧ ∀ j : Int, 0 ≤ j → j < n → gd 0 G j = ws (gd 0 F j + fl (L.drop i.toNat) (gd 0 T) j)
  | _, 0, _, _, _, _, _, _, hk => by omega
  | 0, k + 1, F, i, h0, h1, h2, hF, hk => by
    rw [heat_Model_Step.l2, if_neg (by omega)]
    exact ⟨F, rfl, h2, hF, fun j j0 j1 => by rw [drop_end (by omega), fl, Int.add_zero, ws_id (hF j)]⟩
  | m + 1, k + 1, F, i, h0, h1, h2, hF, hk => by
    have hi : i < (L.length : Int) := by omega
    obtain ⟨a0, a1, b0, b1, hab, hc⟩ := hL _ (gd_mem (z := HeatLink.zero) h0 hi)
    rw [heat_Model_Step.l2, if_pos hi, ck_t ⟨h0, hi⟩, ck_t ⟨a0, by omega⟩, ck_t ⟨b0, by omega⟩, ck_t ⟨a0, by omega⟩, ck_t ⟨b0, by simp; omega⟩, wi (i + 1) (by omega) (by omega), drop_gd (z := HeatLink.zero) h0 hi]
    generalize gd HeatLink.zero L i = l at a0 a1 b0 b1 hab hc ⊢
    rw [gd_set_other a0 (by omega) b0 (fun e => hab e.symm)]
    have hs : ∀ x : Int, (F.set l.A.toNat x).length = n := fun x => by simpa using h2
    obtain ⟨G, g1, g2, g3, g4⟩ := step_l2 n L hL hLl T hT m k ((F.set l.A.toNat (ws (gd 0 F l.A - ws (l.Conductance * ws (gd 0 T l.A - gd 0 T l.B))))).set l.B.toNat (ws (gd 0 F l.B + ws (l.Conductance * ws (gd 0 T l.A - gd 0 T l.B))))) (i + 1) (by omega) (by omega) (by simpa using h2) (in64_set (in64_set hF a0 (by omega) (in64_ws _)) b0 (by rw [hs]; omega) (in64_ws _)) (by omega)
    refine ⟨G, g1, g2, g3, fun j j0 j1 => ?_⟩
    rw [g4 j j0 j1, gd_set b0 (by rw [hs]; omega) j0, gd_set a0 (by omega) j0, fl]
    generalize fl (L.drop (i + 1).toNat) (gd 0 T) j = z
    by_cases hB : j = l.B
    · subst hB
      rw [if_pos rfl, if_pos rfl, if_neg hab]
      simp only [ws_mulr, ws_addr, ws_addl]
      congr 1; omega
    · by_cases hA : j = l.A
      · subst hA
        rw [if_neg hB, if_pos rfl, if_neg (fun e => hB e.symm), if_pos rfl]
        simp only [ws_mulr, ws_addl]
        rw [show gd 0 F l.A - ws (l.Conductance * (gd 0 T l.A - gd 0 T l.B)) + z = gd 0 F l.A + z - ws (l.Conductance * (gd 0 T l.A - gd 0 T l.B)) by omega, ws_subr]
        congr 1; omega
      · rw [if_neg hB, if_neg hA, if_neg (fun e => hB e.symm), if_neg (fun e => hA e.symm)]
        congr 1; omega
theorem fl_cong (n : Int) (s t : Int → Int) (h : ∀ j : Int, 0 ≤ j → j < n → s j = t j) : ∀ (L : List HeatLink) (_ : ∀ l ∈ L, inL n l) (j : Int), fl L s j = fl L t j
  | [], _, _ => rfl
  | l :: r, hL, j => by
    obtain ⟨a0, a1, b0, b1, _⟩ := hL l List.mem_cons_self
    rw [fl, fl, h _ a0 a1, h _ b0 b1, fl_cong n s t h r (fun x hx => hL x (List.mem_cons_of_mem _ hx)) j]
theorem outs_cong (D : List HeatDomain) (s t : Int → Int) (amb : Int) : ∀ (m : Nat) (i : Int), 0 ≤ i → (∀ j : Int, 0 ≤ j → j < i + m → s j = t j) → outs D s amb m i = outs D t amb m i
  | 0, _, _, _ => rfl
  | m + 1, i, h0, h => by rw [outs, outs, h i h0 (by omega), outs_cong D s t amb m (i + 1) (by omega) (fun j j0 j1 => h j j0 (by omega))]
/-! powers -/
def pvb : List Int → Bool
  | [] => true
  | x :: r => (decide (0 ≤ x) && decide (x ≤ 16777216)) && pvb r
theorem pvb_of : ∀ p : List Int, (∀ x ∈ p, 0 ≤ x ∧ x ≤ 16777216) → pvb p = true
  | [], _ => rfl
  | x :: r, h => by
    have := h x List.mem_cons_self
    rw [pvb, pvb_of r (fun y hy => h y (List.mem_cons_of_mem _ hy)), decide_eq_true this.1, decide_eq_true this.2]; rfl
theorem inRange_f (k : Nat) (x lo : Int) : heat_inRange.f k x lo = some (decide (lo ≤ x) && decide (x ≤ 16777216)) := by
  rw [heat_inRange.f]
  by_cases h : lo ≤ x
  · rw [if_pos h, decide_eq_true h]; rfl
  · rw [if_neg h, decide_eq_false h]; rfl
theorem vp_l1 (p : List Int) (hl : (p.length : Int) ≤ 20) : ∀ (k : Nat) (i : Int), 0 ≤ i → i ≤ p.length → (p.length : Int) - i < k →
    ∃ r, slices_IndexFunc_int64_int64__validPower_1.l1 k p i = some r ∧ ((pvb (p.drop i.toNat) = true ∧ r = .go ()) ∨ (pvb (p.drop i.toNat) = false ∧ ∃ j, 0 ≤ j ∧ r = .rt (some j)))
  | 0, _, _, _, hk => by omega
  | k + 1, i, h0, h1, hk => by
    rw [slices_IndexFunc_int64_int64__validPower_1.l1]
    by_cases h : i < (p.length : Int)
    · rw [if_pos h, ck_t ⟨h0, h⟩, heat_validPower_1.f, inRange_f, bind_s rfl, bind_s rfl, drop_gd (z := 0) h0 h, wi (i + 1) (by omega) (by omega), pvb]
      cases hb : (decide (0 ≤ gd 0 p i) && decide (gd 0 p i ≤ 16777216))
      · rw [if_pos (show (!false) = true from rfl)]
        exact ⟨_, rfl, .inr ⟨rfl, i, h0, rfl⟩⟩
      · obtain ⟨r, hr, hr'⟩ := vp_l1 p hl k (i + 1) (by omega) (by omega) (by omega)
        rw [if_neg (by decide)]
        exact ⟨r, hr, by simpa using hr'⟩
    · rw [if_neg h, drop_end h]
      exact ⟨_, rfl, .inl ⟨rfl, rfl⟩⟩
theorem vp_f (p : List Int) (n : Int) (hn : n ≤ 20) (k : Nat) (hk : 21 < k) : heat_validPower.f k n p = some (decide ((p.length : Int) = n) && pvb p) := by
  rw [heat_validPower.f]
  by_cases h : (p.length : Int) = n
  · obtain ⟨r, hr, hr'⟩ := vp_l1 p (by omega) k 0 (by omega) (by omega) (by omega)
    rw [if_pos h, decide_eq_true h, slices_ContainsFunc_int64_int64__validPower_1.f, slices_IndexFunc_int64_int64__validPower_1.f, bind_s hr]
    rcases hr' with ⟨h1, rfl⟩ | ⟨h1, j, hj, rfl⟩
    · have h1 : pvb p = true := by simpa using h1
      rw [h1, el_g]; rfl
    · have h1 : pvb p = false := by simpa using h1
      rw [h1, el_r]
      simp [hj]
  · rw [if_neg h, decide_eq_false h]; rfl
/-- the energy of domain j after a step, over the integers -/
def nxt (D : List HeatDomain) (L : List HeatLink) (amb : Int) (E p : List Int) (j : Int) : Int :=
  gd 0 E j + gd 0 p j - (gd HeatDomain.zero D j).Ambient * (tpf D E j - amb) + fl L (tpf D E) j
/-- a model that can make steps -/
structure Mod (D : List HeatDomain) (L : List HeatLink) (E : List Int) (rel : Int) : Prop where
  n : (D.length : Int) ≤ 20
  l : (L.length : Int) ≤ 20
  cap : ∀ d ∈ D, 0 < d.Capacity
  links : ∀ l ∈ L, inL D.length l
  len : E.length = D.length
  e64 : ∀ j, in64 (gd 0 E j)
  r64 : in64 rel
theorem step_f {D : List HeatDomain} {L : List HeatLink} {E : List Int} {rel : Int} (h : Mod D L E rel) (amb : Int) (p : List Int) (hp : p.length = D.length) (hv : pvb p = true) (k : Nat) (hk : 21 < k) :
    ∃ E', heat_Model_Step.f k D L amb E rel p = some (ws (rel + outs D (tpf D E) amb D.length 0), E', temps D E', 0) ∧ Mod D L E' (ws (rel + outs D (tpf D E) amb D.length 0)) ∧ ∀ j : Int, 0 ≤ j → j < D.length → gd 0 E' j = ws (nxt D L amb E p j) := by
  obtain ⟨hn, hl, hD, hL, hlen, hE, hr⟩ := h
  have hT : (temps D E).length = D.length := temps_len D E
  obtain ⟨F, f1, f2, f3, f4⟩ := step_l1 D (temps D E) p amb hT hp hn D.length k E rel 0 (by omega) (by omega) hlen hr hE (by omega)
  obtain ⟨G, g1, g2, g3, g4⟩ := step_l2 D.length L hL hl (temps D E) hT L.length k F 0 (by omega) (by omega) f2 f3 (by omega)
  have ho : outs D (gd 0 (temps D E)) amb D.length 0 = outs D (tpf D E) amb D.length 0 := outs_cong D _ _ amb _ 0 (by omega) (fun j j0 j1 => temps_gd D E j j0 (by omega))
  rw [ho] at f1
  rw [heat_Model_Step.f, vp_f p _ hn k hk, bind_s rfl, hv, decide_eq_true (by omega), Bool.and_self, if_pos rfl, temp_f D L amb E rel hlen hn hE hD k hk, bind_s rfl, bind_s f1, bind_s g1, temp_f D L amb G _ g2 hn g3 hD k hk, bind_s rfl]
  refine ⟨G, rfl, ⟨hn, hl, hD, hL, g2, g3, in64_ws _⟩, fun j j0 j1 => ?_⟩
  have e : L.drop (0 : Int).toNat = L := by simp
  rw [g4 j j0 j1, f4 j j0 j1, if_pos j0, e, fl_cong D.length _ (tpf D E) (fun i i0 i1 => temps_gd D E i i0 i1) L hL j, ws_addl, temps_gd D E j j0 j1, nxt]
end Go.Proofs.Ytakaooegofiloaa.X
