/- The laws on the pure side: heatlaw3. -/
import Derived.Test.YtakaooegofiloaaQ6
namespace Go.Proofs.Ytakaooegofiloaa.X
open Go Go.Sx

/-! ## HeatShift -/
/-- the second model is the first one, warmer by u degrees -/
def Shift (D : List HeatDomain) (u : Int) (E F : List Int) : Prop := ∀ j : Int, 0 ≤ j → j < D.length → gd 0 F j = gd 0 E j + (gd HeatDomain.zero D j).Capacity * u
theorem shift_t {D : List HeatDomain} {u : Int} {E F : List Int} (h : Shift D u E F) {j : Int} (j0 : 0 ≤ j) (j1 : j < D.length) (hC : 1 ≤ (gd HeatDomain.zero D j).Capacity) : tpf D F j = tpf D E j + u := by
  unfold tpf
  rw [h j j0 j1, Int.add_mul_ediv_left _ _ (by omega)]
theorem fl_shift (n u : Int) (s t : Int → Int) (h : ∀ j : Int, 0 ≤ j → j < n → s j = t j + u) : ∀ (L : List HeatLink) (_ : ∀ l ∈ L, inL n l) (j : Int), fl L s j = fl L t j
  | [], _, _ => rfl
  | l :: r, hL, j => by
    obtain ⟨a0, a1, b0, b1, _⟩ := hL l List.mem_cons_self
    rw [fl, fl, h _ a0 a1, h _ b0 b1, fl_shift n u s t h r (fun x hx => hL x (List.mem_cons_of_mem _ hx)) j, show t l.A + u - (t l.B + u) = t l.A - t l.B by omega]
theorem shift_nxt {D : List HeatDomain} {L : List HeatLink} {a : Int} (v : V D L a) {u : Int} {E F : List Int} (h : Shift D u E F) (amb : Int) (p : List Int) (j : Int) (j0 : 0 ≤ j) (j1 : j < D.length) : nxt D L (amb + u) F p j = nxt D L amb E p j + (gd HeatDomain.zero D j).Capacity * u := by
  have hL := (all_gd HeatLink.zero L (inL D.length)).2 (fun m m0 m1 => (v.2.1.1 m m0 m1).1)
  unfold nxt
  rw [fl_shift D.length u (tpf D F) (tpf D E) (fun i i0 i1 => shift_t h i0 i1 (v.amb1 i i0 i1).2.2.1) L hL j, shift_t h j0 j1 (v.amb1 j j0 j1).2.2.1, h j j0 j1, show tpf D E j + u - (amb + u) = tpf D E j - amb by omega]
  omega
theorem shift_outs {D : List HeatDomain} {L : List HeatLink} {a : Int} (v : V D L a) {u : Int} {E F : List Int} (h : Shift D u E F) (amb : Int) : outs D (tpf D F) (amb + u) D.length 0 = outs D (tpf D E) amb D.length 0 := by
  rw [outs_sm, outs_sm]
  exact sm_cong _ _ _ _ (by omega) (fun j j0 j1 => by rw [shift_t h j0 (by omega) (v.amb1 j j0 (by omega)).2.2.1, show tpf D E j + u - (amb + u) = tpf D E j - amb by omega])
theorem sh_l2 (D : List HeatDomain) (L : List HeatLink) (amb u w : Int) (hu : ws w = u) (E F E0 F0 : List Int) (rel e0 f0 : Int) (v : V D L amb) (hE : E.length = D.length) (hF : F.length = D.length) (hS : Shift D u E F) (hI : ∀ j, in64 (gd 0 F j)) (ht : ∀ j : Int, 0 ≤ j → j < D.length → in64 (tpf D F j)) (hn : (D.length : Int) ≤ 20) : ∀ (m k : Nat) (i : Int), 0 ≤ i → i + m = D.length → m + 21 < k →
    law38_HeatShift.l2 k (D, L, amb) (rel, F, temps D F, 0) (rel, E, temps D E, 0) w (D, L, amb + u, F0, f0) (D, L, amb, E0, e0) i = some (.go (E, rel, F, rel))
  | _, 0, _, _, _, hk => by omega
  | 0, k + 1, i, h0, h1, hk => by rw [law38_HeatShift.l2, if_neg (by dsimp only; omega)]
  | m + 1, k + 1, i, h0, h1, hk => by
    have hi : i < (D.length : Int) := by omega
    have e1 : tpf D F i = ws (tpf D E i + u) := by rw [← shift_t hS h0 hi (v.amb1 i h0 hi).2.2.1, ws_id (ht i h0 hi)]
    have e2 : gd 0 F i = ws (gd 0 E i + ws ((gd HeatDomain.zero D i).Capacity * u)) := by rw [ws_addr, ← hS i h0 hi, ws_id (hI i)]
    have e3 : IntKind.i64.wrap w = u := hu
    rw [law38_HeatShift.l2]
    dsimp only
    rw [if_pos hi, ck_t ⟨h0, by rw [temps_len]; exact hi⟩, ck_t ⟨h0, by rw [temps_len]; exact hi⟩, temps_gd D E i h0 hi, temps_gd D F i h0 hi, e3, if_pos e1, energy_in D L _ F _ i hF k h0 hi, energy_in D L _ E _ i hE k h0 hi, bind_s rfl, bind_s rfl, ck_t ⟨h0, hi⟩, decide_eq_true e2, bind_s rfl, if_neg (by decide), wi (i + 1) (by omega) (by omega)]
    exact sh_l2 D L amb u w hu E F E0 F0 rel e0 f0 v hE hF hS hI ht hn m k (i + 1) (by omega) (by omega) (by omega)
theorem sh_l1 (a3 : List (List Int)) (h3 : (a3.length : Int) ≤ 30) (D : List HeatDomain) (L : List HeatLink) (amb u w : Int) (hu : ws w = u) (u0 : 0 ≤ u) (u1 : u ≤ 65535) (v : V D L amb) (v2 : V D L (amb + u)) (hl : (L.length : Int) ≤ 20) (E0 F0 : List Int) (e0 f0 : Int) : ∀ (m k : Nat) (E F : List Int) (rel i : Int), 0 ≤ i → i + m = a3.length → m + 70 < k → Mod D L E rel → Mod D L F rel → Shift D u E F → Inv D amb (amb + 200) E →
    law38_HeatShift.l1 k a3 (D, L, amb) (D, L, amb, E0, e0) (D, L, amb + u, F0, f0) w E rel F rel i = some (.go ())
  | _, 0, _, _, _, _, _, _, hk, _, _, _, _ => by omega
  | 0, k + 1, E, F, rel, i, h0, h1, hk, hM, hM2, hS, hI => by rw [law38_HeatShift.l1, if_neg (by omega)]
  | m + 1, k + 1, E, F, rel, i, h0, h1, hk, hM, hM2, hS, hI => by
    have hn := hM.n; have ha := v.1
    obtain ⟨P, p1, p2, p3⟩ := powers_f (gd [] a3 i) D.length 200 (by omega) hn (by omega) (by omega) k (by omega)
    obtain ⟨R, r1, r2, r3, r4⟩ := bound_f v (by omega) P (by omega) (fun x hx => by have := p3 x hx; omega) k (by omega)
    have hp3 : ∀ x ∈ P, 0 ≤ x ∧ x ≤ 16777216 := fun x hx => by have := p3 x hx; omega
    obtain ⟨E', e1, e2, e3, e4⟩ := step_inv hM v (amb := amb) (b := amb + 200) (by omega) (by omega) (by omega) P hI (by omega) hp3 (fun j j0 j1 => by
      have := (gd_pv (by omega) p3 j).2; have A1 := (v.amb1 j j0 j1).1
      rw [show amb + 200 - amb = 200 by omega]; omega) k (by omega)
    obtain ⟨F', f1, f2, f3⟩ := step_f hM2 (amb + u) P (by omega) (pvb_of P hp3) k (by omega)
    rw [shift_outs v hS amb] at f1 f2
    have hS' : Shift D u E' F' := by
      intro j j0 j1
      obtain ⟨A0, A1, C0, C1, CA, c0⟩ := v.amb1 j j0 j1
      have := e4 j j0 j1
      have g1 := mul_in C0 C1 (show -134217729 ≤ amb by omega) (show amb ≤ 134217729 by omega)
      have g2 := mul_in C0 C1 (show -134217729 ≤ amb + 200 + 1 by omega) (show amb + 200 + 1 ≤ 134217729 by omega)
      have g3 := mul_in C0 C1 (show -134217729 ≤ u by omega) (show u ≤ 134217729 by omega)
      rw [f3 j j0 j1, shift_nxt v hS amb P j j0 j1, ← e3 j j0 j1, ws_in (by omega) (by omega)]
    have ht : ∀ j : Int, 0 ≤ j → j < D.length → in64 (tpf D F' j) := fun j j0 j1 => by
      have C0 := (v.amb1 j j0 j1).2.2.1
      have := inv_t e4 j0 j1 C0
      rw [shift_t hS' j0 j1 C0]
      exact ⟨by omega, by omega⟩
    have e3' : IntKind.i64.wrap w = u := hu
    rw [law38_HeatShift.l1]
    dsimp only
    rw [if_pos (by omega), ck_t ⟨h0, by omega⟩, bind_s p1, bind_s e1, bind_s f1, bind_s (r1 amb v), e3', wi (amb + u) (by omega) (by omega), bind_s (r1 _ v2)]
    dsimp only
    rw [if_pos rfl, if_pos rfl, if_pos rfl, if_pos rfl, temps_len, temps_len, if_pos rfl, if_pos rfl, wi (amb + R + u) (by omega) (by omega), if_pos (by omega), heat_Model_Released.f, heat_Model_Released.f, bind_s rfl, bind_s rfl, decide_eq_true rfl, bind_s rfl, if_neg (by decide), sh_l2 D L amb u w hu E' F' E0 F0 _ e0 f0 v e2.len f2.len hS' f2.e64 ht hn D.length k 0 (by omega) (by omega) (by omega), bind_s rfl, el_g]
    dsimp only
    rw [wi (i + 1) (by omega) (by omega)]
    exact sh_l1 a3 h3 D L amb u w hu u0 u1 v v2 hl E0 F0 e0 f0 m k E' F' _ (i + 1) (by omega) (by omega) (by omega) e2 f2 hS' e4
theorem pureHeatShift : law38_HeatShift.Pure := by
  intro a b c a3 w _ _ _ _ _ _ _ hw
  have w0 : (0 : Int) ≤ w := hw.1
  have w1 : w ≤ 65535 := hw.2
  refine ⟨200, ?_⟩
  rw [law38_HeatShift.f]
  by_cases h : 30 < (a3.length : Int)
  · rw [if_pos h, bind_s awake]
  · obtain ⟨D, L, amb, s1, s2, _⟩ := some_f a b c 200 (by omega)
    have am0 := s2.a0; have am1 := s2.a1
    have hv := s2.v amb (by omega) (by omega)
    have hv2 := s2.v (amb + w) (by omega) (by omega)
    have hn := s2.n5; have hl := s2.l12
    obtain ⟨_, n1⟩ | ⟨n1, _⟩ := new_f D L amb (by omega) 200 (by omega)
    · obtain ⟨_, n2⟩ | ⟨n2, _⟩ := new_f D L (amb + w) (by omega) 200 (by omega)
      · have hM := hv.mod (by omega)
        have hM2 := hv2.mod (by omega)
        have hS : Shift D w (init D amb) (init D (amb + w)) := by
          intro j j0 j1
          obtain ⟨A0, A1, C0, C1, CA, c0⟩ := hv.amb1 j j0 j1
          have g1 := mul_in C0 C1 (show -134217729 ≤ amb by omega) (show amb ≤ 134217729 by omega)
          have g2 := mul_in C0 C1 (show -134217729 ≤ amb + w by omega) (show amb + w ≤ 134217729 by omega)
          rw [init_gd D _ j j0 j1, init_gd D _ j j0 j1, ws_in (by omega) (by omega), ws_in (by omega) (by omega), Int.mul_add]
        rw [if_neg h, bind_s s1]
        dsimp only
        rw [bind_s n1, wi w (by omega) (by omega), wi (amb + w) (by omega) (by omega)]
        dsimp only [Option.elim]
        rw [bind_s n2]
        dsimp only [Option.elim]
        rw [if_pos rfl, if_pos rfl, bind_s rfl, if_neg (by decide), sh_l1 a3 (by omega) D L amb w w (ws_in (by omega) (by omega)) w0 w1 hv hv2 (by omega) _ _ 0 0 a3.length 200 _ _ 0 0 (by omega) (by omega) (by omega) hM hM2 hS (inv_init hv _ (by omega)), bind_s rfl, el_g, bind_s awake]
      · exact absurd hv2 n2
    · exact absurd hv n1
/-! ## HeatCopies -/
theorem eqi_l1 (a : List Int) (hl : (a.length : Int) ≤ 100) : ∀ (k : Nat) (i : Int), 0 ≤ i → i ≤ a.length → (a.length : Int) - i < k → help_Equal_int64.l1 k a a i = some (.go ())
  | 0, _, _, _, hk => by omega
  | k + 1, i, h0, h1, hk => by
    rw [help_Equal_int64.l1]
    by_cases h : i < (a.length : Int)
    · rw [if_pos h, ck_t ⟨h0, h⟩, ck_t ⟨h0, h⟩, wi (i + 1) (by omega) (by omega), if_pos rfl]
      exact eqi_l1 a hl k (i + 1) (by omega) (by omega) (by omega)
    · rw [if_neg h]
theorem eqi (a : List Int) (k : Nat) (hl : (a.length : Int) ≤ 100) (hk : (a.length : Int) < k) : help_Equal_int64.f k a a = some true := by
  rw [help_Equal_int64.f, if_pos rfl, bind_s (eqi_l1 a hl k 0 (by omega) (by omega) (by omega)), el_g]
theorem cp_l1 (a3 : List (List Int)) (h3 : (a3.length : Int) ≤ 20) (D : List HeatDomain) (L : List HeatLink) (amb : Int) (E0 : List Int) (r0 : Int) : ∀ (m k : Nat) (E : List Int) (rel i : Int), 0 ≤ i → i + m = a3.length → m + 30 < k → Mod D L E rel →
    ∃ E' rel', law38_HeatCopies.l1 k a3 (D, L, amb) (D, L, amb, E0, r0) (D, L, amb, E0, r0) E rel E rel i = some (E', rel', E', rel') ∧ Mod D L E' rel'
  | _, 0, _, _, _, _, _, hk, _ => by omega
  | 0, k + 1, E, rel, i, h0, h1, hk, hM => by
    rw [law38_HeatCopies.l1, if_neg (by omega)]
    exact ⟨E, rel, rfl, hM⟩
  | m + 1, k + 1, E, rel, i, h0, h1, hk, hM => by
    have hn := hM.n
    obtain ⟨P, p1, p2, p3⟩ := powers_f (gd [] a3 i) D.length 200 (by omega) hn (by omega) (by omega) k (by omega)
    obtain ⟨E', e1, e2, e3⟩ := step_f hM amb P (by omega) (pvb_of P (fun x hx => by have := p3 x hx; omega)) k (by omega)
    rw [law38_HeatCopies.l1]
    dsimp only
    rw [if_pos (by omega), ck_t ⟨h0, by omega⟩, bind_s p1, bind_s e1, bind_s p1, bind_s e1, wi (i + 1) (by omega) (by omega)]
    exact cp_l1 a3 h3 D L amb E0 r0 m k E' _ (i + 1) (by omega) (by omega) (by omega) e2
theorem cp_l23 (a4 : List (List Int)) (h4 : (a4.length : Int) ≤ 20) (D : List HeatDomain) (L : List HeatLink) (amb : Int) (E0 : List Int) (r0 : Int) (s : Int × List Int × Int) (hs : s.1 = amb) : ∀ (m k : Nat) (E : List Int) (rel i : Int), 0 ≤ i → i + m = a4.length → m + 30 < k → Mod D L E rel →
    ∃ E' rel', law38_HeatCopies.l2 k a4 (D, L, amb) (D, L, amb, E0, r0) s (D, L, amb, E0, r0) E rel E rel i = some (.go (E', rel', E', rel')) ∧ law38_HeatCopies.l3 k a4 (D, L, amb) (D, L, amb, E0, r0) E rel i = some (.go (E', rel')) ∧ Mod D L E' rel'
  | _, 0, _, _, _, _, _, hk, _ => by omega
  | 0, k + 1, E, rel, i, h0, h1, hk, hM => by
    rw [law38_HeatCopies.l2, law38_HeatCopies.l3, if_neg (by omega), if_neg (by omega)]
    exact ⟨E, rel, rfl, rfl, hM⟩
  | m + 1, k + 1, E, rel, i, h0, h1, hk, hM => by
    have hn := hM.n
    obtain ⟨P, p1, p2, p3⟩ := powers_f (gd [] a4 i) D.length 200 (by omega) hn (by omega) (by omega) k (by omega)
    obtain ⟨E', e1, e2, e3⟩ := step_f hM amb P (by omega) (pvb_of P (fun x hx => by have := p3 x hx; omega)) k (by omega)
    have hq := eqi (temps D E') k (by rw [temps_len]; omega) (by rw [temps_len]; omega)
    rw [law38_HeatCopies.l2, law38_HeatCopies.l3]
    dsimp only
    rw [if_pos (by omega), if_pos (by omega), ck_t ⟨h0, by omega⟩, ck_t ⟨h0, by omega⟩, bind_s p1, bind_s p1, hs, bind_s e1, bind_s e1]
    dsimp only
    rw [bind_s e1, if_pos rfl, if_pos rfl, bind_s hq, bind_s rfl, if_neg (by decide), wi (i + 1) (by omega) (by omega)]
    exact cp_l23 a4 h4 D L amb E0 r0 s hs m k E' _ (i + 1) (by omega) (by omega) (by omega) e2
theorem cp_l4 (D : List HeatDomain) (L : List HeatLink) (amb : Int) (E0 : List Int) (r0 : Int) (s : Int × List Int × Int) (E : List Int) (rel : Int) (hE : E.length = D.length) (hn : (D.length : Int) ≤ 20) : ∀ (m k : Nat) (i : Int), 0 ≤ i → i + m = D.length → m < k →
    law38_HeatCopies.l4 k (D, L, amb) (D, L, amb, E0, r0) (E, rel) (D, L, amb, E0, r0) (E, rel, E, rel) s i = some (.go ())
  | _, 0, _, _, _, hk => by omega
  | 0, k + 1, i, h0, h1, hk => by rw [law38_HeatCopies.l4, if_neg (by dsimp only; omega)]
  | m + 1, k + 1, i, h0, h1, hk => by
    have hi : i < (D.length : Int) := by omega
    rw [law38_HeatCopies.l4]
    dsimp only
    rw [if_pos hi, energy_in D L amb E _ i hE k h0 hi, energy_in D L _ E _ i hE k h0 hi, bind_s rfl, bind_s rfl, if_pos rfl, bind_s rfl, bind_s rfl, decide_eq_true rfl, bind_s rfl, if_neg (by decide), wi (i + 1) (by omega) (by omega)]
    exact cp_l4 D L amb E0 r0 s E rel hE hn m k (i + 1) (by omega) (by omega) (by omega)
theorem pureHeatCopies : law38_HeatCopies.Pure := by
  intro a b c a3 a4 _ _ _ _ _ _ _ _ _
  refine ⟨200, ?_⟩
  rw [law38_HeatCopies.f]
  by_cases h : 20 < (a3.length : Int) ∨ 20 < (a4.length : Int)
  · have hz : (if 20 < (a3.length : Int) then (some true) else (some (decide (20 < (a4.length : Int))))) = some true := by
      split
      · rfl
      · rw [decide_eq_true (by omega)]
    rw [hz, bind_s rfl, if_pos rfl, bind_s awake]
  · obtain ⟨D, L, amb, s1, s2, _⟩ := some_f a b c 200 (by omega)
    have hv := s2.v amb (by have := s2.a0; omega) (by have := s2.a1; omega)
    have hn := s2.n5; have hl := s2.l12
    obtain ⟨_, n1⟩ | ⟨n1, _⟩ := new_f D L amb (by omega) 200 (by omega)
    · have hM := hv.mod (by omega)
      obtain ⟨E1, r1, l1, m1⟩ := cp_l1 a3 (by omega) D L amb (init D amb) 0 a3.length 200 _ 0 0 (by omega) (by omega) (by omega) hM
      have hc : heat_Model_Copy.f 200 D L amb E1 r1 = some (amb, E1, r1) := by
        have := m1.len
        rw [heat_Model_Copy.f, slices_Clone_int64_int64.f, ck_t (by simp; omega)]; rfl
      obtain ⟨E2, r2, l2, l3, m2⟩ := cp_l23 a4 (by omega) D L amb (init D amb) 0 (amb, E1, r1) rfl a4.length 200 E1 r1 0 (by omega) (by omega) (by omega) m1
      rw [if_neg (by omega), decide_eq_false (by omega), bind_s rfl, if_neg (by decide), bind_s s1]
      dsimp only
      rw [bind_s n1]
      dsimp only [Option.elim]
      rw [bind_s n1]
      dsimp only [Option.elim]
      rw [if_pos rfl, if_pos rfl, bind_s rfl, if_neg (by decide), bind_s l1]
      dsimp only
      rw [bind_s hc]
      dsimp only
      rw [bind_s l2, el_g, bind_s l3, el_g, cp_l4 D L amb _ 0 _ E2 r2 m2.len (by omega) D.length 200 0 (by omega) (by omega) (by omega), bind_s rfl, el_g, heat_Model_Released.f, bind_s rfl, bind_s rfl, if_pos rfl, bind_s awake]
    · exact absurd hv n1
end Go.Proofs.Ytakaooegofiloaa.X
