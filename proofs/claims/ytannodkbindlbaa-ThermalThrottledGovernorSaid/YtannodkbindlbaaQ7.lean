/- The laws on the pure side: th1. -/
import Derived.Test.YtannodkbindlbaaQ6
namespace Go.Proofs.Ytannodkbindlbaa.X
open Go Go.Sx

theorem awake : law39_awake.f 400 = some true := by decide +kernel
theorem domEta (d : HeatDomain) : (⟨d.Capacity, d.Ambient⟩ : HeatDomain) = d := rfl
/-! ## the sustainable power -/
theorem V.one {d : HeatDomain} {amb : Int} (h1 : 1 ≤ d.Ambient) (h2 : d.Ambient ≤ d.Capacity) (h3 : d.Capacity ≤ 16777216) (a0 : -16777216 ≤ amb) (a1 : amb ≤ 16777216) : V [d] [] amb := by
  refine ⟨⟨by simp, by simp, a0, a1⟩, ⟨fun m m0 m1 => by simp at m1; omega, fun m q q0 q1 q2 => by simp at q2; omega⟩, fun j j0 j1 => ?_⟩
  have : j = 0 := by simp at j1; omega
  subst this
  have e : gd HeatDomain.zero [d] 0 = d := rfl
  rw [e]; simp only [cs]; omega
theorem sust_f (d : HeatDomain) (amb top : Int) (v : V [d] [] amb) (h0 : amb ≤ top) (h1 : top ≤ 33554432) (k : Nat) (hk : 60 < k) : thermal_Sustainable.f k d amb top = some (ws (d.Ambient * (top - amb)), 0) := by
  have ha := v.1
  obtain ⟨_, n1⟩ | ⟨n1, _⟩ := new_f [d] [] amb (by simp) k hk
  · rw [thermal_Sustainable.f, bind_s n1]
    dsimp only [Option.elim]
    rw [bind_s rfl, if_pos rfl, if_neg (by omega), decide_eq_false (by omega), bind_s rfl, if_neg (by decide), wi (top - amb) (by omega) (by omega)]
  · exact absurd v n1
/-- the one domain of a model with one domain -/
theorem one_dom {D : List HeatDomain} {L : List HeatLink} {amb : Int} (s : Sys D L amb) (h : (D.length : Int) = 1) : ∃ d, D = [d] ∧ 1 ≤ d.Ambient ∧ d.Ambient ≤ 6 ∧ d.Ambient ≤ d.Capacity ∧ d.Capacity ≤ 73 := by
  have hd := s.dom 0 (by omega) (by omega)
  match D, h with
  | [d], _ =>
    have e : gd HeatDomain.zero [d] 0 = d := rfl
    rw [e] at hd
    exact ⟨d, rfl, by omega⟩
theorem sust_in {d : HeatDomain} {n : Int} (h1 : 1 ≤ d.Ambient) (h2 : d.Ambient ≤ 6) (n0 : 0 ≤ n) (n1 : n ≤ 60) : 0 ≤ d.Ambient * n ∧ d.Ambient * n ≤ 360 ∧ ws (d.Ambient * n) = d.Ambient * n := by
  have := mul_bd (show 0 ≤ d.Ambient by omega) h2 n0 n1
  exact ⟨this.1, by omega, ws_in (by omega) (by omega)⟩
/-- one step of a model with one domain -/
theorem one_step {d : HeatDomain} {E : List Int} {rel amb b p : Int} (hM : Mod [d] [] E rel) (v : V [d] [] amb) (am : -100 ≤ amb) (mb : amb ≤ b) (b1 : b ≤ 1000) (hI : Inv [d] amb b E) (p0 : 0 ≤ p) (p1 : p ≤ 16777216) (pb : p ≤ d.Ambient * (b - amb)) (k : Nat) (hk : 21 < k) :
    ∃ E' rel' t, heat_Model_Step.f k [d] [] amb E rel [p] = some (rel', E', [t], 0) ∧ Mod [d] [] E' rel' ∧ Inv [d] amb b E' ∧ t ≤ b := by
  obtain ⟨E', e1, e2, e3, e4⟩ := step_inv hM v (amb := amb) (b := b) (by omega) mb (by omega) [p] hI rfl (fun x hx => by rw [List.mem_singleton.1 hx]; omega) (fun j j0 j1 => by
    have : j = 0 := by simp at j1; omega
    subst this; exact pb) k hk
  refine ⟨E', _, tpf [d] E' 0, e1, e2, e4, ?_⟩
  exact (inv_t e4 (j := 0) (by omega) (by simp) (v.amb1 0 (by omega) (by simp)).2.2.1).2
/-! ## ThermalKeepsLimit -/
theorem kl_l1 {amb : Int} (a3 : List Int) (h3 : (a3.length : Int) ≤ 60) (d : HeatDomain) (v : V [d] [] amb) (am : -100 ≤ amb) (a1 : amb ≤ 100) (hA : 1 ≤ d.Ambient ∧ d.Ambient ≤ 6) (E0 : List Int) (r0 : Int) (D : List HeatDomain) (L : List HeatLink) (w n : Int) (hw : IntKind.i64.wrap (Int.tmod (IntKind.u64.wrap w) 50) = n) (n0 : 0 ≤ n) (n1 : n ≤ 60) : ∀ (m k : Nat) (E : List Int) (rel i : Int), 0 ≤ i → i + m = a3.length → m + 60 < k → Mod [d] [] E rel → Inv [d] amb (amb + n) E →
    law39_ThermalKeepsLimit.l1 k a3 (d.Ambient * n, 0) ([d], [], amb, E0, r0) (D, L, amb) w E rel i = some (.go ())
  | _, 0, _, _, _, _, _, hk, _, _ => by omega
  | 0, k + 1, E, rel, i, h0, h1, hk, hM, hI => by rw [law39_ThermalKeepsLimit.l1, if_neg (by omega)]
  | m + 1, k + 1, E, rel, i, h0, h1, hk, hM, hI => by
    obtain ⟨s0, s1, s2⟩ := sust_in hA.1 hA.2 n0 n1
    obtain ⟨P, p1, p2, p3⟩ := powers_f [gd 0 a3 i] 1 (d.Ambient * n) (by omega) (by omega) (by omega) (by omega) k (by omega)
    obtain ⟨x, rfl⟩ : ∃ x, P = [x] := by
      match P, p2 with
      | [x], _ => exact ⟨x, rfl⟩
    have hx := p3 x List.mem_cons_self
    obtain ⟨q, hq, q0, q1⟩ : ∃ q, (if Int.tmod i 3 = 0 then (ck ((0 : Int) ≤ 0 ∧ 0 < (([x] : List Int).length : Int)) (some ([x].set (0 : Int).toNat (d.Ambient * n)))) else (some [x])) = some [q] ∧ 0 ≤ q ∧ q ≤ d.Ambient * n := by
      by_cases c : Int.tmod i 3 = 0
      · rw [if_pos c, ck_t ⟨by omega, by simp⟩]; exact ⟨d.Ambient * n, rfl, s0, Int.le_refl _⟩
      · rw [if_neg c]; exact ⟨x, rfl, hx.1, hx.2⟩
    obtain ⟨E', rel', t, e1, e2, e3, e4⟩ := one_step hM v am (b := amb + n) (by omega) (by omega) hI q0 (by omega) (by rw [show amb + n - amb = n by omega]; exact q1) k (by omega)
    rw [law39_ThermalKeepsLimit.l1]
    dsimp only
    rw [if_pos (by omega), ck_t ⟨h0, by omega⟩, bind_s p1, bind_s hq, bind_s e1]
    dsimp only
    have g : gd 0 [t] 0 = t := rfl
    rw [if_pos rfl, if_pos (by simp), ck_t ⟨by omega, by simp⟩, hw, wi (amb + n) (by omega) (by omega), g, decide_eq_false (by omega), bind_s rfl, if_neg (by decide), wi (i + 1) (by omega) (by omega)]
    exact kl_l1 a3 h3 d v am a1 hA E0 r0 D L w n hw n0 n1 m k E' rel' (i + 1) (by omega) (by omega) (by omega) e2 e3
theorem pureThermalKeepsLimit : law39_ThermalKeepsLimit.Pure := by
  intro d0 b w a3 _ _ _ _ _
  refine ⟨400, ?_⟩
  rw [law39_ThermalKeepsLimit.f]
  by_cases h : 60 < (a3.length : Int)
  · rw [if_pos h, bind_s awake]
  · obtain ⟨D, L, amb, s1, s2, s3⟩ := some_f [d0] [] b 400 (by omega)
    have a0 := s2.a0; have a1 := s2.a1
    obtain ⟨d, rfl, A0, A1, C0, C1⟩ := one_dom s2 (by rw [s3]; rfl)
    have v := V.one (amb := amb) A0 C0 (by omega) (by omega) (by omega)
    have u := wu_lo w
    obtain ⟨n, hw, n0, n1⟩ : ∃ n, IntKind.i64.wrap (Int.tmod (IntKind.u64.wrap w) 50) = n ∧ 0 ≤ n ∧ n ≤ 60 := by
      rw [tm _ u, wi _ (by omega) (by omega)]; exact ⟨_, rfl, by omega, by omega⟩
    obtain ⟨t0, t1, t2⟩ := sust_in (d := d) A0 A1 n0 n1
    obtain ⟨_, n1'⟩ | ⟨n1', _⟩ := new_f [d] [] amb (by simp) 400 (by omega)
    · have hM := v.mod (by simp)
      have g : gd HeatDomain.zero [d] 0 = d := rfl
      rw [if_neg h, bind_s s1]
      dsimp only
      rw [ck_t ⟨by omega, by simp⟩, g, domEta, hw, wi (amb + n) (by omega) (by omega), sust_f d amb (amb + n) v (by omega) (by omega) 400 (by omega), bind_s rfl, bind_s n1', show amb + n - amb = n by omega, t2]
      dsimp only [Option.elim]
      rw [if_pos rfl, if_pos rfl, decide_eq_false (by omega), bind_s rfl, if_neg (by decide), kl_l1 a3 (by omega) d v a0 a1 ⟨A0, A1⟩ _ 0 [d] L w n hw n0 n1 a3.length 400 _ 0 0 (by omega) (by omega) (by omega) hM (inv_init v _ (by omega)), bind_s rfl, el_g, bind_s awake]
    · exact absurd v n1'
/-! ## ThermalBudgetKeepsLimit -/
theorem su_drop (G : List Int) (i : Int) (h0 : 0 ≤ i) (h1 : i < G.length) : su (G.drop i.toNat) = gd 0 G i + su (G.drop (i + 1).toNat) := by
  rw [drop_gd (z := 0) h0 h1, su]
theorem su_nonneg : ∀ G : List Int, (∀ x ∈ G, 0 ≤ x) → 0 ≤ su G
  | [], _ => Int.le_refl _
  | x :: r, h => by
    have := su_nonneg r (fun y hy => h y (List.mem_cons_of_mem _ hy))
    have := h x List.mem_cons_self
    rw [su]; omega
theorem bl_l2 (G : List Int) (e : Int) (hG : (G.length : Int) ≤ 40) (hg : ∀ x ∈ G, 0 ≤ x ∧ x ≤ 4294967296) (a4 : List Int) (y : Int) (y0 : 0 ≤ y) (y1 : y < a4.length) : ∀ (m k : Nat) (s i : Int), 0 ≤ i → i + m = G.length → m < k → 0 ≤ s → s ≤ 4294967296 * i →
    ∃ p, law39_ThermalBudgetKeepsLimit.l2 k (G, e) y a4 s i = some (.go p) ∧ s ≤ p ∧ p ≤ s + su (G.drop i.toNat)
  | _, 0, _, _, _, _, hk, _, _ => by omega
  | 0, k + 1, s, i, h0, h1, hk, hs, hs2 => by
    rw [law39_ThermalBudgetKeepsLimit.l2, if_neg (by dsimp only; omega)]
    exact ⟨s, rfl, Int.le_refl _, by rw [drop_end (by omega), su]; omega⟩
  | m + 1, k + 1, s, i, h0, h1, hk, hs, hs2 => by
    have hi : i < (G.length : Int) := by omega
    obtain ⟨g0, g1⟩ := hg _ (gd_mem (z := 0) h0 hi)
    have u := wu_lo (Int.tmod i 8)
    have u2 := wu_lo (shrw .u64 (IntKind.u64.wrap (gd 0 a4 y)) (IntKind.u64.wrap (Int.tmod i 8)) + gd 0 G i)
    rw [law39_ThermalBudgetKeepsLimit.l2]
    dsimp only
    rw [if_pos hi, ck_t ⟨h0, hi⟩, if_neg (by omega), ck_t ⟨y0, y1⟩, ck_t u, wu (gd 0 G i + 1) (by omega) (by omega), ck_t (by omega), tm _ u2]
    have r0 := Int.emod_nonneg (IntKind.u64.wrap (shrw .u64 (IntKind.u64.wrap (gd 0 a4 y)) (IntKind.u64.wrap (Int.tmod i 8)) + gd 0 G i)) (show gd 0 G i + 1 ≠ 0 by omega)
    have r1 := Int.emod_lt_of_pos (IntKind.u64.wrap (shrw .u64 (IntKind.u64.wrap (gd 0 a4 y)) (IntKind.u64.wrap (Int.tmod i 8)) + gd 0 G i)) (show 0 < gd 0 G i + 1 by omega)
    rw [wi (_ % _) (by omega) (by omega), wi (s + _) (by omega) (by omega), wi (i + 1) (by omega) (by omega)]
    obtain ⟨p, p1, p2, p3⟩ := bl_l2 G e hG hg a4 y y0 y1 m k _ (i + 1) (by omega) (by omega) (by omega) (show 0 ≤ s + IntKind.u64.wrap (shrw .u64 (IntKind.u64.wrap (gd 0 a4 y)) (IntKind.u64.wrap (Int.tmod i 8)) + gd 0 G i) % (gd 0 G i + 1) by omega) (by omega)
    exact ⟨p, p1, by omega, by rw [su_drop G i h0 hi]; omega⟩
theorem bl_l1 {amb : Int} (a4 : List Int) (h4 : (a4.length : Int) ≤ 40) (G : List Int) (hG : (G.length : Int) ≤ 40) (hg : ∀ x ∈ G, 0 ≤ x ∧ x ≤ 4294967296) (d : HeatDomain) (v : V [d] [] amb) (am : -100 ≤ amb) (a1 : amb ≤ 100) (hA : 1 ≤ d.Ambient ∧ d.Ambient ≤ 6) (E0 : List Int) (r0 : Int) (D : List HeatDomain) (L : List HeatLink) (w n : Int) (hw : IntKind.i64.wrap (Int.tmod (IntKind.u64.wrap w) 60) = n) (n0 : 0 ≤ n) (n1 : n ≤ 60) (hsu : su G ≤ d.Ambient * n) : ∀ (m k : Nat) (E : List Int) (rel i : Int), 0 ≤ i → i + m = a4.length → m + 60 < k → Mod [d] [] E rel → Inv [d] amb (amb + n) E →
    law39_ThermalBudgetKeepsLimit.l1 k a4 (G, 0) ([d], [], amb, E0, r0) (D, L, amb) w E rel i = some (.go ())
  | _, 0, _, _, _, _, _, hk, _, _ => by omega
  | 0, k + 1, E, rel, i, h0, h1, hk, hM, hI => by rw [law39_ThermalBudgetKeepsLimit.l1, if_neg (by omega)]
  | m + 1, k + 1, E, rel, i, h0, h1, hk, hM, hI => by
    obtain ⟨s0, s1, s2⟩ := sust_in hA.1 hA.2 n0 n1
    obtain ⟨p, p1, p2, p3⟩ := bl_l2 G 0 hG hg a4 i h0 (by omega) G.length k 0 0 (by omega) (by omega) (by omega) (by omega) (by omega)
    have e : G.drop (0 : Int).toNat = G := by simp
    rw [e] at p3
    obtain ⟨E', rel', t, e1, e2, e3, e4⟩ := one_step hM v am (b := amb + n) (by omega) (by omega) hI p2 (by omega) (by rw [show amb + n - amb = n by omega]; omega) k (by omega)
    rw [law39_ThermalBudgetKeepsLimit.l1]
    dsimp only
    rw [if_pos (by omega), bind_s p1, el_g, bind_s e1]
    dsimp only
    have g : gd 0 [t] 0 = t := rfl
    rw [if_pos rfl, if_pos (by simp), ck_t ⟨by omega, by simp⟩, hw, wi (amb + n) (by omega) (by omega), g, decide_eq_false (by omega), bind_s rfl, if_neg (by decide), bind_s rfl, el_g, wi (i + 1) (by omega) (by omega)]
    exact bl_l1 a4 h4 G hG hg d v am a1 hA E0 r0 D L w n hw n0 n1 hsu m k E' rel' (i + 1) (by omega) (by omega) (by omega) e2 e3
theorem dist_in (l r : Int) (A : List Actor) (hA : ∀ a ∈ A, okA a) (h0 : 0 ≤ l) : ∀ x ∈ dist l r A, 0 ≤ x ∧ x ≤ 4294967296 := by
  intro x hx
  obtain ⟨j, hj, rfl⟩ := List.mem_iff_getElem.1 hx
  rw [dist_len] at hj
  have h := dist_wa l h0 A hA r j hj
  rw [List.getD_eq_getElem?_getD, List.getD_eq_getElem?_getD, List.getElem?_eq_getElem hj, List.getElem?_eq_getElem (by rw [dist_len]; exact hj)] at h
  have ho := hA A[j] (List.getElem_mem hj)
  have hb := sh_bd 0 A[j] ho (by omega)
  obtain ⟨_, h2, h3, h4⟩ := ho
  simp only [Option.getD_some] at h
  omega
theorem pureThermalBudgetKeepsLimit : law39_ThermalBudgetKeepsLimit.Pure := by
  intro d0 b w a3 a4 _ _ _ _ hw3 _ _
  refine ⟨400, ?_⟩
  rw [law39_ThermalBudgetKeepsLimit.f]
  by_cases h : 40 < (a3.length : Int) ∨ 40 < (a4.length : Int)
  · have hz : (if 40 < (a3.length : Int) then (some true) else (some (decide (40 < (a4.length : Int))))) = some true := by
      split
      · rfl
      · rw [decide_eq_true (by omega)]
    rw [hz, bind_s rfl, if_pos rfl, bind_s awake]
  · obtain ⟨D, L, amb, s1, s2, s3⟩ := some_f [d0] [] b 400 (by omega)
    have a0 := s2.a0; have a1 := s2.a1
    obtain ⟨d, rfl, A0, A1, C0, C1⟩ := one_dom s2 (by rw [s3]; rfl)
    have v := V.one (amb := amb) A0 C0 (by omega) (by omega) (by omega)
    have u := wu_lo w
    obtain ⟨n, hw, n0, n1⟩ : ∃ n, IntKind.i64.wrap (Int.tmod (IntKind.u64.wrap w) 60) = n ∧ 0 ≤ n ∧ n ≤ 60 := by
      rw [tm _ u, wi _ (by omega) (by omega)]; exact ⟨_, rfl, by omega, by omega⟩
    obtain ⟨t0, t1, t2⟩ := sust_in (d := d) A0 A1 n0 n1
    obtain ⟨A, hA, hA8, ho⟩ := actors_f a3 hw3 400 (by omega)
    have hok : ∀ a ∈ A, okA a := fun a ha => (ho a ha).1
    have hal := alloc_f A (fun a ha => ⟨(ho a ha).1.1, (ho a ha).1.2.1⟩) (by omega) (d.Ambient * n) t0 (by omega) 400 (by omega)
    rw [alloc_ok A hok (by omega)] at hal
    obtain ⟨_, n1'⟩ | ⟨n1', _⟩ := new_f [d] [] amb (by simp) 400 (by omega)
    · have hM := v.mod (by simp)
      have g : gd HeatDomain.zero [d] 0 = d := rfl
      rw [if_neg (by omega), decide_eq_false (by omega), bind_s rfl, if_neg (by decide), bind_s s1]
      dsimp only
      rw [ck_t ⟨by omega, by simp⟩, g, domEta, hw, wi (amb + n) (by omega) (by omega), sust_f d amb (amb + n) v (by omega) (by omega) 400 (by omega), bind_s rfl, bind_s n1', show amb + n - amb = n by omega, t2]
      dsimp only [Option.elim]
      rw [if_pos rfl, if_pos rfl, decide_eq_false (by omega), bind_s rfl, if_neg (by decide), bind_s hA, wu (d.Ambient * n) (by omega) (by omega), bind_s hal]
      by_cases c : d.Ambient * n < tot 0 A
      · rw [if_pos c, if_neg (by decide), if_pos rfl, bind_s awake]
      · obtain ⟨l0, l1, l2, l3⟩ := lvl_spec A (d.Ambient * n) c
        have hlen := dist_len (lvl A (d.Ambient * n)) A (d.Ambient * n - tot (lvl A (d.Ambient * n)) A)
        have hsu := dist_su (lvl A (d.Ambient * n)) A (d.Ambient * n - tot (lvl A (d.Ambient * n)) A) (by omega)
        rw [if_neg c, if_pos rfl]
        dsimp only
        rw [hlen, if_pos rfl, bl_l1 a4 (by omega) _ (by rw [hlen]; omega) (dist_in _ _ A hok l0) d v a0 a1 ⟨A0, A1⟩ _ 0 [d] L w n hw n0 n1 (by omega) a4.length 400 _ 0 0 (by omega) (by omega) (by omega) hM (inv_init v _ (by omega)), bind_s rfl, el_g, bind_s awake]
    · exact absurd v n1'
end Go.Proofs.Ytannodkbindlbaa.X
