/- The laws on the pure side: heatlaw1. -/
import Derived.Test.YtakaooegofiloaaQ4
namespace Go.Proofs.Ytakaooegofiloaa.X
open Go Go.Sx

/-! ## sums -/
def sm (f : Int → Int) : Nat → Int → Int
  | 0, _ => 0
  | m + 1, i => f i + sm f m (i + 1)
theorem sm_add (f g : Int → Int) : ∀ (m : Nat) (i : Int), sm (fun j => f j + g j) m i = sm f m i + sm g m i
  | 0, _ => rfl
  | m + 1, i => by simp only [sm, sm_add f g m]; omega
theorem sm_sub (f g : Int → Int) : ∀ (m : Nat) (i : Int), sm (fun j => f j - g j) m i = sm f m i - sm g m i
  | 0, _ => rfl
  | m + 1, i => by simp only [sm, sm_sub f g m]; omega
theorem sm_zero : ∀ (m : Nat) (i : Int), sm (fun _ => 0) m i = 0
  | 0, _ => rfl
  | m + 1, i => by simp only [sm, sm_zero m]; omega
theorem sm_cong (f g : Int → Int) : ∀ (m : Nat) (i : Int), 0 ≤ i → (∀ j : Int, 0 ≤ j → j < i + m → f j = g j) → sm f m i = sm g m i
  | 0, _, _, _ => rfl
  | m + 1, i, h0, h => by rw [sm, sm, h i h0 (by omega), sm_cong f g m (i + 1) (by omega) (fun j j0 j1 => h j j0 (by omega))]
theorem sm_ws (f : Int → Int) : ∀ (m : Nat) (i a : Int), ws (a + sm (fun j => ws (f j)) m i) = ws (a + sm f m i)
  | 0, _, _ => rfl
  | m + 1, i, a => by
    rw [sm, sm, show a + (ws (f i) + sm (fun j => ws (f j)) m (i + 1)) = ws (f i) + (a + sm (fun j => ws (f j)) m (i + 1)) by omega, ws_addl, show f i + (a + sm (fun j => ws (f j)) m (i + 1)) = f i + a + sm (fun j => ws (f j)) m (i + 1) by omega, sm_ws f m (i + 1)]
    congr 1; omega
theorem sm_one (b x : Int) : ∀ (m : Nat) (i : Int), sm (fun j => if b = j then x else 0) m i = if i ≤ b ∧ b < i + m then x else 0
  | 0, i => by rw [sm, if_neg (by omega)]
  | m + 1, i => by
    simp only [sm]
    rw [sm_one b x m (i + 1)]
    by_cases h : b = i
    · rw [if_pos h, if_neg (by omega), if_pos (by omega)]; omega
    · rw [if_neg h]
      by_cases h2 : i + 1 ≤ b ∧ b < i + 1 + m
      · rw [if_pos h2, if_pos (by omega)]; omega
      · rw [if_neg h2, if_neg (by omega)]; omega
theorem outs_sm (D : List HeatDomain) (t : Int → Int) (amb : Int) : ∀ (m : Nat) (i : Int), outs D t amb m i = sm (fun j => (gd HeatDomain.zero D j).Ambient * (t j - amb)) m i
  | 0, _ => rfl
  | m + 1, i => by rw [outs, sm, outs_sm D t amb m]
theorem fl_sum (n : Nat) (t : Int → Int) : ∀ (L : List HeatLink) (_ : ∀ l ∈ L, inL n l), sm (fl L t) n 0 = 0
  | [], _ => sm_zero n 0
  | l :: r, h => by
    obtain ⟨a0, a1, b0, b1, _⟩ := h l List.mem_cons_self
    have e : fl (l :: r) t = fun j => ((fun j => if l.B = j then l.Conductance * (t l.A - t l.B) else 0) j - (fun j => if l.A = j then l.Conductance * (t l.A - t l.B) else 0) j) + fl r t j := by funext j; rw [fl]
    rw [e, sm_add, sm_sub, sm_one, sm_one, fl_sum n t r (fun x hx => h x (List.mem_cons_of_mem _ hx)), if_pos (by omega), if_pos (by omega)]
    omega
/-! ## powers made valid -/
theorem powers_l1 (raw : List Int) (n most : Int) (hn : n ≤ 20) (h0 : 0 ≤ most) (h1 : most < 1000000000000) : ∀ (m k : Nat) (P : List Int) (i : Int), 0 ≤ i → i + m = n → (P.length : Int) = n → m < k → (∀ x ∈ P, 0 ≤ x ∧ x ≤ most) →
    ∃ Q, law38_Powers.l1 k n raw most P i = some Q ∧ (Q.length : Int) = n ∧ ∀ x ∈ Q, 0 ≤ x ∧ x ≤ most
  | _, 0, _, _, _, _, _, hk, _ => by omega
  | 0, k + 1, P, i, i0, i1, hP, hk, hx => by
    rw [law38_Powers.l1, if_neg (by omega), bind_s rfl, if_neg (by decide)]
    exact ⟨P, rfl, hP, hx⟩
  | m + 1, k + 1, P, i, i0, i1, hP, hk, hx => by
    rw [law38_Powers.l1, if_pos (by omega)]
    by_cases c : i < (raw.length : Int)
    · have u := wu_lo (gd 0 raw i)
      have v0 := Int.emod_nonneg (IntKind.u64.wrap (gd 0 raw i)) (show most + 1 ≠ 0 by omega)
      have v1 := Int.emod_lt_of_pos (IntKind.u64.wrap (gd 0 raw i)) (show 0 < most + 1 by omega)
      rw [decide_eq_true c, bind_s rfl, if_pos rfl, ck_t ⟨i0, c⟩, wi (most + 1) (by omega) (by omega), wu (most + 1) (by omega) (by omega), ck_t (by omega), ck_t ⟨i0, by omega⟩, tm _ u, wi (i + 1) (by omega) (by omega), wi (_ % _) (by omega) (by omega)]
      refine powers_l1 raw n most hn h0 h1 m k _ (i + 1) (by omega) (by omega) (by simpa using hP) (by omega) (fun x hx' => ?_)
      rcases List.mem_or_eq_of_mem_set hx' with h | h
      · exact hx x h
      · omega
    · rw [decide_eq_false c, bind_s rfl, if_neg (by decide)]
      exact ⟨P, rfl, hP, hx⟩
theorem powers_f (raw : List Int) (n most : Int) (n0 : 0 ≤ n) (hn : n ≤ 20) (h0 : 0 ≤ most) (h1 : most < 1000000000000) (k : Nat) (hk : 21 < k) :
    ∃ Q, law38_Powers.f k raw n most = some Q ∧ (Q.length : Int) = n ∧ ∀ x ∈ Q, 0 ≤ x ∧ x ≤ most := by
  obtain ⟨Q, q1, q2⟩ := powers_l1 raw n most hn h0 h1 n.toNat k (List.replicate n.toNat 0) 0 (by omega) (by omega) (by simp; omega) (by omega) (fun x hx => by rw [List.eq_of_mem_replicate hx]; omega)
  exact ⟨Q, by rw [law38_Powers.f, ck_t ⟨n0, by omega⟩, bind_s q1], q2⟩
theorem energy_f (D : List HeatDomain) (L : List HeatLink) (amb : Int) (E : List Int) (rel j : Int) (hl : E.length = D.length) (k : Nat) : heat_Model_Energy.f k D L amb E rel j = some (if 0 ≤ j ∧ j < D.length then gd 0 E j else 0) := by
  rw [heat_Model_Energy.f]
  by_cases c : 0 ≤ j ∧ j < D.length
  · rw [if_neg (by omega), decide_eq_false (by omega), bind_s rfl, if_neg (by decide), ck_t (by omega), if_pos c]
  · by_cases c2 : j < 0
    · rw [if_pos c2, bind_s rfl, if_pos rfl, if_neg c]
    · rw [if_neg c2, decide_eq_true (by omega), bind_s rfl, if_pos rfl, if_neg c]
theorem energy_in (D : List HeatDomain) (L : List HeatLink) (amb : Int) (E : List Int) (rel j : Int) (hl : E.length = D.length) (k : Nat) (j0 : 0 ≤ j) (j1 : j < D.length) : heat_Model_Energy.f k D L amb E rel j = some (gd 0 E j) := by
  rw [energy_f D L amb E rel j hl k, if_pos ⟨j0, j1⟩]
theorem awake : law38_awake.f 200 = some true := by decide +kernel
/-! ## HeatConservation -/
/-- all energy -/
def whole_ (D : List HeatDomain) (E : List Int) : Int := sm (gd 0 E) D.length 0
theorem step_whole {D : List HeatDomain} {L : List HeatLink} {E E' p : List Int} {rel amb : Int} (h : Mod D L E rel) (he : ∀ j : Int, 0 ≤ j → j < D.length → gd 0 E' j = ws (nxt D L amb E p j)) (a : Int) :
    ws (a + whole_ D E') = ws (a + whole_ D E + sm (gd 0 p) D.length 0 - outs D (tpf D E) amb D.length 0) := by
  have e1 : whole_ D E' = sm (fun j => ws (nxt D L amb E p j)) D.length 0 := sm_cong _ _ _ _ (by omega) (fun j j0 j1 => he j j0 (by omega))
  have e2 : nxt D L amb E p = fun j => (fun j => (fun j => gd 0 E j + gd 0 p j) j - (fun j => (gd HeatDomain.zero D j).Ambient * (tpf D E j - amb)) j) j + fl L (tpf D E) j := rfl
  rw [e1, sm_ws, e2, sm_add, sm_sub, sm_add, fl_sum D.length _ L h.links, outs_sm]
  unfold whole_
  congr 1; omega
theorem hc_l1 (D : List HeatDomain) (L : List HeatLink) (amb : Int) (hn : (D.length : Int) ≤ 20) : ∀ (m k : Nat) (s i : Int), 0 ≤ i → i + m = D.length → m < k → in64 s →
    law38_HeatConservation.l1 k (D, L, amb) s i = some (ws (s + sm (fun j => (gd HeatDomain.zero D j).Capacity * amb) m i))
  | _, 0, _, _, _, _, hk, _ => by omega
  | 0, k + 1, s, i, h0, h1, hk, hs => by rw [law38_HeatConservation.l1, if_neg (by dsimp only; omega), sm, Int.add_zero, ws_id hs]
  | m + 1, k + 1, s, i, h0, h1, hk, hs => by
    rw [law38_HeatConservation.l1]
    dsimp only
    rw [if_pos (by omega), ck_t ⟨h0, by omega⟩, wi (i + 1) (by omega) (by omega), hc_l1 D L amb hn m k _ (i + 1) (by omega) (by omega) (by omega) (in64_ws _), sm]
    show some (ws (ws (s + ws _) + _)) = _
    rw [ws_addl, show s + ws ((gd HeatDomain.zero D i).Capacity * amb) + sm (fun j => (gd HeatDomain.zero D j).Capacity * amb) m (i + 1) = ws ((gd HeatDomain.zero D i).Capacity * amb) + (s + sm (fun j => (gd HeatDomain.zero D j).Capacity * amb) m (i + 1)) by omega, ws_addl]
    congr 2; omega
theorem hc_l3 (D : List HeatDomain) (L : List HeatLink) (amb amb' : Int) (P E E0 : List Int) (rel0 : Int) (x : Int × List Int × List Int × Int) (hx : x.2.1 = E) (hP : P.length = D.length) (hE : E.length = D.length) (hn : (D.length : Int) ≤ 20) : ∀ (m k : Nat) (s t i : Int), 0 ≤ i → i + m = D.length → m < k → in64 s → in64 t →
    law38_HeatConservation.l3 k (D, L, amb) P (D, L, amb', E0, rel0) x s t i = some (ws (s + sm (gd 0 P) m i), ws (t + sm (gd 0 E) m i))
  | _, 0, _, _, _, _, _, hk, _, _ => by omega
  | 0, k + 1, s, t, i, h0, h1, hk, hs, ht => by rw [law38_HeatConservation.l3, if_neg (by dsimp only; omega), sm, sm, Int.add_zero, Int.add_zero, ws_id hs, ws_id ht]
  | m + 1, k + 1, s, t, i, h0, h1, hk, hs, ht => by
    rw [law38_HeatConservation.l3]
    dsimp only
    rw [if_pos (by omega), ck_t ⟨h0, by omega⟩, hx, energy_in D L amb' E _ i hE k h0 (by omega), bind_s rfl, wi (i + 1) (by omega) (by omega), hc_l3 D L amb amb' P E E0 rel0 x hx hP hE hn m k _ _ (i + 1) (by omega) (by omega) (by omega) (in64_ws _) (in64_ws _), sm, sm]
    show some (ws (ws (s + gd 0 P i) + _), ws (ws (t + gd 0 E i) + _)) = _
    rw [ws_addl, ws_addl]
    congr 3 <;> omega
theorem hc_l2 (a3 : List (List Int)) (h3 : (a3.length : Int) ≤ 40) (D : List HeatDomain) (L : List HeatLink) (amb : Int) (E0 : List Int) (rel0 : Int) : ∀ (m k : Nat) (E : List Int) (rel tot i : Int), 0 ≤ i → i + m = a3.length → m + 30 < k → Mod D L E rel → tot = ws (whole_ D E + rel) →
    law38_HeatConservation.l2 k a3 (D, L, amb) (D, L, amb, E0, rel0) E rel tot i = some (.go ())
  | _, 0, _, _, _, _, _, _, hk, _, _ => by omega
  | 0, k + 1, E, rel, tot, i, h0, h1, hk, hM, ht => by rw [law38_HeatConservation.l2, if_neg (by omega)]
  | m + 1, k + 1, E, rel, tot, i, h0, h1, hk, hM, ht => by
    have hn := hM.n
    obtain ⟨P, p1, p2, p3⟩ := powers_f (gd [] a3 i) D.length 1000 (by omega) hn (by omega) (by omega) k (by omega)
    obtain ⟨E', e1, e2, e3⟩ := step_f hM amb P (by omega) (pvb_of P (fun x hx => by have := p3 x hx; omega)) k (by omega)
    rw [law38_HeatConservation.l2]
    dsimp only
    rw [if_pos (by omega), ck_t ⟨h0, by omega⟩, bind_s p1, bind_s e1]
    dsimp only
    rw [if_pos rfl, heat_Model_Released.f, bind_s rfl, hc_l3 D L amb amb P E' E0 rel0 (ws (rel + outs D (tpf D E) amb D.length 0), E', temps D E', 0) rfl (by omega) e2.len hn D.length k _ _ 0 (by omega) (by omega) (by omega) (by rw [ht]; exact in64_ws _) (in64_ws _), bind_s rfl]
    dsimp only
    have key : ws (ws (rel + outs D (tpf D E) amb D.length 0) + sm (gd 0 E') D.length 0) = ws (tot + sm (gd 0 P) D.length 0) := by
      rw [ws_addl, ht, ws_addl]
      have := step_whole hM e3 (rel + outs D (tpf D E) amb D.length 0)
      unfold whole_ at this ⊢
      rw [this]; congr 1; omega
    rw [if_pos key, bind_s rfl, el_g]
    dsimp only
    rw [wi (i + 1) (by omega) (by omega)]
    refine hc_l2 a3 h3 D L amb E0 rel0 m k _ _ _ (i + 1) (by omega) (by omega) (by omega) e2 ?_
    rw [← key]; unfold whole_; congr 1; omega
theorem pureHeatConservation : law38_HeatConservation.Pure := by
  intro a b c a3 _ _ _ _ _ _ _
  refine ⟨200, ?_⟩
  rw [law38_HeatConservation.f]
  by_cases h : 40 < (a3.length : Int)
  · rw [if_pos h, bind_s awake]
  · obtain ⟨D, L, amb, s1, s2, _⟩ := some_f a b c 200 (by omega)
    have hv := s2.v amb (by have := s2.a0; omega) (by have := s2.a1; omega)
    have hn := s2.n5; have hl := s2.l12
    obtain ⟨_, n1⟩ | ⟨n1, _⟩ := new_f D L amb (by omega) 200 (by omega)
    · have hM := hv.mod (by omega)
      rw [if_neg h, bind_s s1]
      dsimp only
      rw [bind_s n1]
      dsimp only [Option.elim]
      rw [if_pos rfl, bind_s rfl, if_neg (by decide), hc_l1 D L amb (by omega) D.length 200 0 0 (by omega) (by omega) (by omega) ⟨by omega, by omega⟩, bind_s rfl, hc_l2 a3 (by omega) D L amb _ 0 a3.length 200 _ _ _ 0 (by omega) (by omega) (by omega) hM ?_, bind_s rfl, el_g, bind_s awake]
      have e : whole_ D (init D amb) = sm (fun j => ws ((gd HeatDomain.zero D j).Capacity * amb)) D.length 0 := sm_cong _ _ _ _ (by omega) (fun j j0 j1 => init_gd D amb j j0 (by omega))
      have h2 := sm_ws (fun j => (gd HeatDomain.zero D j).Capacity * amb) D.length 0 0
      rw [e]
      simp only [Int.zero_add, Int.add_zero] at h2 ⊢
      exact h2.symm
    · exact absurd hv n1
end Go.Proofs.Ytakaooegofiloaa.X
