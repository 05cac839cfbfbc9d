/- The laws on the pure side: heatlaw2. -/
import Derived.Test.YtakaooegofiloaaQ5
namespace Go.Proofs.Ytakaooegofiloaa.X
open Go Go.Sx

/-! ## the bound -/
theorem bound_l1 (D : List HeatDomain) (p : List Int) (hn : (D.length : Int) ≤ 20) (hp : p.length = D.length) (hpv : ∀ j, 0 ≤ gd 0 p j ∧ gd 0 p j ≤ 16777216) (hA : ∀ j : Int, 0 ≤ j → j < D.length → 1 ≤ (gd HeatDomain.zero D j).Ambient ∧ (gd HeatDomain.zero D j).Ambient ≤ 16777216) : ∀ (m k : Nat) (R i : Int), 0 ≤ i → i + m = D.length → m < k → 0 ≤ R → R ≤ 33554432 → (∀ j : Int, 0 ≤ j → j < i → gd 0 p j ≤ (gd HeatDomain.zero D j).Ambient * R) →
    ∃ R', heat_Bound.l1 k D p R i = some R' ∧ 0 ≤ R' ∧ R' ≤ 33554432 ∧ ∀ j : Int, 0 ≤ j → j < D.length → gd 0 p j ≤ (gd HeatDomain.zero D j).Ambient * R'
  | _, 0, _, _, _, _, hk, _, _, _ => by omega
  | 0, k + 1, R, i, h0, h1, hk, r0, r1, hj => by
    rw [heat_Bound.l1, if_neg (by omega)]
    exact ⟨R, rfl, r0, r1, fun j j0 j1 => hj j j0 (by omega)⟩
  | m + 1, k + 1, R, i, h0, h1, hk, r0, r1, hj => by
    obtain ⟨a0, a1⟩ := hA i h0 (by omega)
    obtain ⟨p0, p1⟩ := hpv i
    have e0 : 0 ≤ (gd 0 p i + (gd HeatDomain.zero D i).Ambient - 1) / (gd HeatDomain.zero D i).Ambient := Int.ediv_nonneg (by omega) (by omega)
    have e1 : (gd 0 p i + (gd HeatDomain.zero D i).Ambient - 1) / (gd HeatDomain.zero D i).Ambient ≤ gd 0 p i + (gd HeatDomain.zero D i).Ambient - 1 := Int.ediv_le_self _ (by omega)
    have e2 := Int.lt_mul_ediv_self_add (x := gd 0 p i + (gd HeatDomain.zero D i).Ambient - 1) (show 0 < (gd HeatDomain.zero D i).Ambient by omega)
    rw [heat_Bound.l1, if_pos (by omega), ck_t ⟨h0, by omega⟩, ck_t ⟨h0, by omega⟩, ck_t (by omega), wi (gd 0 p i + _) (by omega) (by omega), wi (_ - 1) (by omega) (by omega), td _ (by omega), wi (_ / _) (by omega) (by omega), wi (i + 1) (by omega) (by omega)]
    have hm := mx_ge R ((gd 0 p i + (gd HeatDomain.zero D i).Ambient - 1) / (gd HeatDomain.zero D i).Ambient)
    refine bound_l1 D p hn hp hpv hA m k _ (i + 1) (by omega) (by omega) (by omega) (by omega) (by omega) (fun j j0 j1 => ?_)
    by_cases c : j = i
    · subst c
      have := Int.mul_le_mul_of_nonneg_left hm.2.1 (show 0 ≤ (gd HeatDomain.zero D j).Ambient by omega)
      omega
    · have g0 := (hA j j0 (by omega)).1
      have := Int.mul_le_mul_of_nonneg_left hm.1 (show 0 ≤ (gd HeatDomain.zero D j).Ambient by omega)
      have := hj j j0 (by omega)
      omega
theorem gd_pv {p : List Int} {M : Int} (hM : 0 ≤ M) (h : ∀ x ∈ p, 0 ≤ x ∧ x ≤ M) (j : Int) : 0 ≤ gd 0 p j ∧ gd 0 p j ≤ M := by
  unfold gd
  rw [List.getD_eq_getElem?_getD]
  cases e : p[j.toNat]? with
  | none => exact ⟨by simp, by simpa using hM⟩
  | some x => exact h x (List.mem_of_getElem? e)
theorem V.amb1 {D : List HeatDomain} {L : List HeatLink} {amb : Int} (v : V D L amb) (j : Int) (j0 : 0 ≤ j) (j1 : j < D.length) : 1 ≤ (gd HeatDomain.zero D j).Ambient ∧ (gd HeatDomain.zero D j).Ambient ≤ 16777216 ∧ 1 ≤ (gd HeatDomain.zero D j).Capacity ∧ (gd HeatDomain.zero D j).Capacity ≤ 16777216 ∧ (gd HeatDomain.zero D j).Ambient + cs L j ≤ (gd HeatDomain.zero D j).Capacity ∧ 0 ≤ cs L j := by
  obtain ⟨_, ⟨l1, _⟩, d1⟩ := v
  have hc := cs_nonneg L j ((all_gd HeatLink.zero L (fun l => 0 ≤ l.Conductance)).2 (fun m m0 m1 => by have := (l1 m m0 m1).1.2.2.2.2.2; omega))
  have := d1 j j0 j1
  omega
theorem bound_f {D : List HeatDomain} {L : List HeatLink} {amb : Int} (v : V D L amb) (hl : (L.length : Int) ≤ 25) (p : List Int) (hp : p.length = D.length) (hpv : ∀ x ∈ p, 0 ≤ x ∧ x ≤ 16777216) (k : Nat) (hk : 60 < k) :
    ∃ R, (∀ a, V D L a → heat_Bound.f k D L a p = some (a + R, 0)) ∧ 0 ≤ R ∧ R ≤ 33554432 ∧ ∀ j : Int, 0 ≤ j → j < D.length → gd 0 p j ≤ (gd HeatDomain.zero D j).Ambient * R := by
  have hn := v.1
  obtain ⟨R, r1, r2, r3, r4⟩ := bound_l1 D p (by omega) hp (gd_pv (by omega) hpv) (fun j j0 j1 => ⟨(v.amb1 j j0 j1).1, (v.amb1 j j0 j1).2.1⟩) D.length k 0 0 (by omega) (by omega) (by omega) (by omega) (by omega) (fun j j0 j1 => by omega)
  refine ⟨R, fun a va => ?_, r2, r3, r4⟩
  have ha := va.1
  obtain ⟨b, hb, hb'⟩ := valid_f D L a hl k hk
  rw [heat_Bound.f, bind_s hb, hb'.2 va, if_pos rfl, vp_f p D.length (by omega) k (by omega), bind_s rfl, bind_s rfl, pvb_of p hpv, decide_eq_true (by omega), Bool.and_self, if_neg (by decide), bind_s r1, wi _ (by omega) (by omega)]
/-! ## between the ambient temperature and a bound -/
def Inv (D : List HeatDomain) (amb b : Int) (E : List Int) : Prop := ∀ j : Int, 0 ≤ j → j < D.length → (gd HeatDomain.zero D j).Capacity * amb ≤ gd 0 E j ∧ gd 0 E j < (gd HeatDomain.zero D j).Capacity * (b + 1)
theorem inv_t {D : List HeatDomain} {amb b : Int} {E : List Int} (h : Inv D amb b E) {j : Int} (j0 : 0 ≤ j) (j1 : j < D.length) (hC : 1 ≤ (gd HeatDomain.zero D j).Capacity) : amb ≤ tpf D E j ∧ tpf D E j ≤ b := by
  obtain ⟨h1, h2⟩ := h j j0 j1
  unfold tpf
  have e1 := Int.le_ediv_of_mul_le (show 0 < (gd HeatDomain.zero D j).Capacity by omega) (show amb * (gd HeatDomain.zero D j).Capacity ≤ gd 0 E j by rw [Int.mul_comm]; exact h1)
  have e2 := Int.ediv_lt_of_lt_mul (show 0 < (gd HeatDomain.zero D j).Capacity by omega) (show gd 0 E j < (b + 1) * (gd HeatDomain.zero D j).Capacity by rw [Int.mul_comm]; exact h2)
  omega
theorem mul_in {C x X : Int} (hC : 1 ≤ C) (hC2 : C ≤ 16777216) (h0 : -X ≤ x) (h1 : x ≤ X) : -(16777216 * X) ≤ C * x ∧ C * x ≤ 16777216 * X := by
  have hX : 0 ≤ X := by omega
  have a1 := Int.mul_le_mul_of_nonneg_left h1 (show 0 ≤ C by omega)
  have a2 := Int.mul_le_mul_of_nonneg_left h0 (show 0 ≤ C by omega)
  have a3 := Int.mul_le_mul_of_nonneg_right hC2 hX
  rw [Int.mul_neg] at a2
  omega
theorem inv_step {D : List HeatDomain} {L : List HeatLink} {a : Int} (v : V D L a) {amb b : Int} (m0 : -134217728 ≤ amb) (mb : amb ≤ b) (b1 : b ≤ 134217728) {E p : List Int} (h : Inv D amb b E) (hp : ∀ j : Int, 0 ≤ j → j < D.length → 0 ≤ gd 0 p j ∧ gd 0 p j ≤ (gd HeatDomain.zero D j).Ambient * (b - amb)) (j : Int) (j0 : 0 ≤ j) (j1 : j < D.length) :
    (gd HeatDomain.zero D j).Capacity * amb ≤ nxt D L amb E p j ∧ nxt D L amb E p j < (gd HeatDomain.zero D j).Capacity * (b + 1) ∧ ws (nxt D L amb E p j) = nxt D L amb E p j := by
  have hL := (all_gd HeatLink.zero L (inL D.length)).2 (fun m m0 m1 => (v.2.1.1 m m0 m1).1)
  obtain ⟨A0, A1, C0, C1, CA, c0⟩ := v.amb1 j j0 j1
  obtain ⟨t0, t1⟩ := inv_t h j0 j1 C0
  have f1 := fl_hi D.length b (tpf D E) (fun i i0 i1 => (inv_t h i0 i1 (v.amb1 i i0 i1).2.2.1).2) L hL j
  have f0 := fl_lo D.length amb (tpf D E) (fun i i0 i1 => (inv_t h i0 i1 (v.amb1 i i0 i1).2.2.1).1) L hL j
  have hd := Int.mul_ediv_add_emod (gd 0 E j) (gd HeatDomain.zero D j).Capacity
  have r0 := Int.emod_nonneg (gd 0 E j) (show (gd HeatDomain.zero D j).Capacity ≠ 0 by omega)
  have r1 := Int.emod_lt_of_pos (gd 0 E j) (show 0 < (gd HeatDomain.zero D j).Capacity by omega)
  obtain ⟨p0, p1⟩ := hp j j0 j1
  have s := stay (gd HeatDomain.zero D j).Capacity (gd HeatDomain.zero D j).Ambient (cs L j) amb b (tpf D E j) (gd 0 E j % (gd HeatDomain.zero D j).Capacity) (gd 0 p j) (fl L (tpf D E) j) CA t0 t1 r0 r1 p0 p1 f0 f1
  have e : nxt D L amb E p j = (gd HeatDomain.zero D j).Capacity * tpf D E j + gd 0 E j % (gd HeatDomain.zero D j).Capacity + gd 0 p j - (gd HeatDomain.zero D j).Ambient * (tpf D E j - amb) + fl L (tpf D E) j := by
    unfold nxt
    have : (gd HeatDomain.zero D j).Capacity * tpf D E j + gd 0 E j % (gd HeatDomain.zero D j).Capacity = gd 0 E j := hd
    omega
  rw [← e] at s
  have g1 := mul_in C0 C1 (show -134217729 ≤ amb by omega) (show amb ≤ 134217729 by omega)
  have g2 := mul_in C0 C1 (show -134217729 ≤ b + 1 by omega) (show b + 1 ≤ 134217729 by omega)
  exact ⟨s.1, s.2, ws_in (by omega) (by omega)⟩
theorem inv_init {D : List HeatDomain} {L : List HeatLink} {amb : Int} (v : V D L amb) (b : Int) (hb : amb ≤ b) : Inv D amb b (init D amb) := by
  intro j j0 j1
  have ha := v.1
  obtain ⟨A0, A1, C0, C1, CA, c0⟩ := v.amb1 j j0 j1
  have g1 := mul_in C0 C1 (show -134217729 ≤ amb by omega) (show amb ≤ 134217729 by omega)
  have := Int.mul_le_mul_of_nonneg_left hb (show 0 ≤ (gd HeatDomain.zero D j).Capacity by omega)
  rw [init_gd D amb j j0 j1, ws_in (by omega) (by omega), Int.mul_add, Int.mul_one]
  omega
/-- a step between the bounds -/
theorem step_inv {D : List HeatDomain} {L : List HeatLink} {E : List Int} {rel a : Int} (hM : Mod D L E rel) (v : V D L a) {amb b : Int} (m0 : -134217728 ≤ amb) (mb : amb ≤ b) (b1 : b ≤ 134217728) (p : List Int) (h : Inv D amb b E) (hlen : p.length = D.length) (hp : ∀ x ∈ p, 0 ≤ x ∧ x ≤ 16777216) (hpb : ∀ j : Int, 0 ≤ j → j < D.length → gd 0 p j ≤ (gd HeatDomain.zero D j).Ambient * (b - amb)) (k : Nat) (hk : 21 < k) :
    ∃ E', heat_Model_Step.f k D L amb E rel p = some (ws (rel + outs D (tpf D E) amb D.length 0), E', temps D E', 0) ∧ Mod D L E' (ws (rel + outs D (tpf D E) amb D.length 0)) ∧ (∀ j : Int, 0 ≤ j → j < D.length → gd 0 E' j = nxt D L amb E p j) ∧ Inv D amb b E' := by
  obtain ⟨E', e1, e2, e3⟩ := step_f hM amb p hlen (pvb_of p hp) k hk
  have hq := fun j j0 j1 => inv_step v m0 mb b1 h (fun j j0 j1 => ⟨(gd_pv (by omega) hp j).1, hpb j j0 j1⟩) j j0 j1
  have e4 : ∀ j : Int, 0 ≤ j → j < D.length → gd 0 E' j = nxt D L amb E p j := fun j j0 j1 => by rw [e3 j j0 j1]; exact (hq j j0 j1).2.2
  exact ⟨E', e1, e2, e4, fun j j0 j1 => by rw [e4 j j0 j1]; exact ⟨(hq j j0 j1).1, (hq j j0 j1).2.1⟩⟩
theorem temperature_f {D : List HeatDomain} {L : List HeatLink} {E : List Int} {rel : Int} (hM : Mod D L E rel) (amb j : Int) (j0 : 0 ≤ j) (j1 : j < D.length) (k : Nat) (hk : 21 < k) : heat_Model_Temperature.f k D L amb E rel j = some (tpf D E j) := by
  rw [heat_Model_Temperature.f, if_neg (by omega), decide_eq_false (by omega), bind_s rfl, if_neg (by decide), temp_f D L amb E rel hM.len hM.n hM.e64 hM.cap k hk, bind_s rfl, ck_t ⟨j0, by rw [temps_len]; exact j1⟩, temps_gd D E j j0 j1]
/-! ## HeatBoundHolds -/
theorem bh_l2 (D : List HeatDomain) (L : List HeatLink) (amb : Int) (top : List Int) (ht : top.length = D.length) (hn : (D.length : Int) ≤ 20) (ht0 : ∀ x ∈ top, 0 ≤ x ∧ x ≤ 300) : ∀ (m k : Nat) (P : List Int) (i : Int), 0 ≤ i → i + m = D.length → m < k → P.length = D.length → (∀ x ∈ P, 0 ≤ x ∧ x ≤ 300) → (∀ j : Int, 0 ≤ j → j < i → gd 0 P j ≤ gd 0 top j) →
    ∃ Q, law38_HeatBoundHolds.l2 k (D, L, amb) top P i = some Q ∧ Q.length = D.length ∧ (∀ x ∈ Q, 0 ≤ x ∧ x ≤ 300) ∧ ∀ j : Int, 0 ≤ j → j < D.length → gd 0 Q j ≤ gd 0 top j
  | _, 0, _, _, _, _, hk, _, _, _ => by omega
  | 0, k + 1, P, i, h0, h1, hk, hP, hx, hj => by
    rw [law38_HeatBoundHolds.l2, if_neg (by dsimp only; omega)]
    exact ⟨P, rfl, hP, hx, fun j j0 j1 => hj j j0 (by omega)⟩
  | m + 1, k + 1, P, i, h0, h1, hk, hP, hx, hj => by
    rw [law38_HeatBoundHolds.l2]
    dsimp only
    rw [if_pos (by omega), ck_t ⟨h0, by omega⟩, ck_t ⟨h0, by omega⟩, wi (i + 1) (by omega) (by omega)]
    have hm := mn_le (gd 0 P i) (gd 0 top i)
    have t0 := gd_pv (by omega) ht0 i
    have q0 := gd_pv (by omega) hx i
    refine bh_l2 D L amb top ht hn ht0 m k _ (i + 1) (by omega) (by omega) (by omega) (by simpa using hP) (fun x hx' => ?_) (fun j j0 j1 => ?_)
    · rcases List.mem_or_eq_of_mem_set hx' with h | h
      · exact hx x h
      · omega
    · rw [gd_set h0 (by omega) j0]
      by_cases c : j = i
      · rw [if_pos c, c]; omega
      · rw [if_neg c]; exact hj j j0 (by omega)
theorem bh_l3 (D : List HeatDomain) (L : List HeatLink) (amb b : Int) (E E0 : List Int) (rel rel0 : Int) (hM : Mod D L E rel) (x : Int × List Int × List Int × Int) (hx1 : x.1 = rel) (hx : x.2.1 = E) (hx2 : x.2.2.1 = temps D E) (hI : Inv D amb b E) (hC : ∀ j : Int, 0 ≤ j → j < D.length → 1 ≤ (gd HeatDomain.zero D j).Capacity) : ∀ (m k : Nat) (i : Int), 0 ≤ i → i + m = D.length → m + 21 < k →
    law38_HeatBoundHolds.l3 k (D, L, amb) x (b, 0) (D, L, amb, E0, rel0) i = some (.go (E, rel))
  | _, 0, _, _, _, hk => by omega
  | 0, k + 1, i, h0, h1, hk => by rw [law38_HeatBoundHolds.l3, if_neg (by dsimp only; omega), hx, hx1]
  | m + 1, k + 1, i, h0, h1, hk => by
    have hi : i < (D.length : Int) := by omega
    have hn := hM.n
    have ht := inv_t hI h0 hi (hC i h0 hi)
    rw [law38_HeatBoundHolds.l3]
    dsimp only
    rw [if_pos hi, hx2, ck_t ⟨h0, by rw [temps_len]; exact hi⟩, temps_gd D E i h0 hi, if_neg (by omega), if_neg (by omega), hx, hx1, temperature_f hM amb i h0 hi k (by omega), bind_s rfl, decide_eq_true rfl, bind_s rfl, if_neg (by decide), wi (i + 1) (by omega) (by omega)]
    exact bh_l3 D L amb b E E0 rel rel0 hM x hx1 hx hx2 hI hC m k (i + 1) (by omega) (by omega) (by omega)
theorem bh_l1 (a4 : List (List Int)) (h4 : (a4.length : Int) ≤ 60) (D : List HeatDomain) (L : List HeatLink) (amb R : Int) (v : V D L amb) (E0 : List Int) (rel0 : Int) (top : List Int) (ht : top.length = D.length) (ht0 : ∀ x ∈ top, 0 ≤ x ∧ x ≤ 300) (r0 : 0 ≤ R) (r1 : R ≤ 33554432) (hR : ∀ j : Int, 0 ≤ j → j < D.length → gd 0 top j ≤ (gd HeatDomain.zero D j).Ambient * R) : ∀ (m k : Nat) (E : List Int) (rel i : Int), 0 ≤ i → i + m = a4.length → m + 60 < k → Mod D L E rel → Inv D amb (amb + R) E →
    law38_HeatBoundHolds.l1 k a4 (D, L, amb) top (D, L, amb, E0, rel0) (amb + R, 0) E rel i = some (.go ())
  | _, 0, _, _, _, _, _, hk, _, _ => by omega
  | 0, k + 1, E, rel, i, h0, h1, hk, hM, hI => by rw [law38_HeatBoundHolds.l1, if_neg (by omega)]
  | m + 1, k + 1, E, rel, i, h0, h1, hk, hM, hI => by
    have hn := hM.n; have ha := v.1
    obtain ⟨P, p1, p2, p3⟩ := powers_f (gd [] a4 i) D.length 300 (by omega) hn (by omega) (by omega) k (by omega)
    obtain ⟨Q, q1, q2, q3, q4⟩ := bh_l2 D L amb top ht hn ht0 D.length k P 0 (by omega) (by omega) (by omega) (by omega) p3 (fun j j0 j1 => by omega)
    obtain ⟨E', e1, e2, _, e4⟩ := step_inv hM v (amb := amb) (b := amb + R) (by omega) (by omega) (by omega) Q hI q2 (fun x hx => by have := q3 x hx; omega) (fun j j0 j1 => by
      have := q4 j j0 j1; have := hR j j0 j1
      rw [show amb + R - amb = R by omega]; omega) k (by omega)
    rw [law38_HeatBoundHolds.l1]
    dsimp only
    rw [if_pos (by omega), ck_t ⟨h0, by omega⟩, bind_s p1, bind_s q1, bind_s e1]
    dsimp only
    rw [if_pos rfl, temps_len, decide_eq_true rfl, bind_s rfl, if_neg (by decide), bh_l3 D L amb (amb + R) E' E0 _ rel0 e2 _ rfl rfl rfl e4 (fun j j0 j1 => (v.amb1 j j0 j1).2.2.1) D.length k 0 (by omega) (by omega) (by omega), bind_s rfl, el_g]
    dsimp only
    rw [wi (i + 1) (by omega) (by omega)]
    exact bh_l1 a4 h4 D L amb R v E0 rel0 top ht ht0 r0 r1 hR m k E' _ (i + 1) (by omega) (by omega) (by omega) e2 e4
theorem pureHeatBoundHolds : law38_HeatBoundHolds.Pure := by
  intro a b c a3 a4 _ _ _ _ _ _ _ _ _
  refine ⟨200, ?_⟩
  rw [law38_HeatBoundHolds.f]
  by_cases h : 60 < (a4.length : Int)
  · rw [if_pos h, bind_s awake]
  · obtain ⟨D, L, amb, s1, s2, _⟩ := some_f a b c 200 (by omega)
    have hv := s2.v amb (by have := s2.a0; omega) (by have := s2.a1; omega)
    have hn := s2.n5; have hl := s2.l12
    obtain ⟨_, n1⟩ | ⟨n1, _⟩ := new_f D L amb (by omega) 200 (by omega)
    · have hM := hv.mod (by omega)
      obtain ⟨P, p1, p2, p3⟩ := powers_f a3 D.length 300 (by omega) (by omega) (by omega) (by omega) 200 (by omega)
      obtain ⟨R, r1, r2, r3, r4⟩ := bound_f hv (by omega) P (by omega) (fun x hx => by have := p3 x hx; omega) 200 (by omega)
      rw [if_neg h, bind_s s1]
      dsimp only
      rw [bind_s n1]
      dsimp only [Option.elim]
      rw [bind_s p1, bind_s (r1 amb hv)]
      dsimp only
      rw [if_pos rfl, if_pos rfl, bind_s rfl, if_neg (by decide), bh_l1 a4 (by omega) D L amb R hv _ 0 P (by omega) p3 r2 r3 r4 a4.length 200 _ 0 0 (by omega) (by omega) (by omega) hM (inv_init hv _ (by omega)), bind_s rfl, el_g, bind_s awake]
    · exact absurd hv n1
end Go.Proofs.Ytakaooegofiloaa.X
