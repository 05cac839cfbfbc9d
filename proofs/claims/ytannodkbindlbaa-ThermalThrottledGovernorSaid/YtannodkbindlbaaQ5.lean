/- The laws on the pure side: heatsum. -/
import Derived.Test.YtannodkbindlbaaQ4
namespace Go.Proofs.Ytannodkbindlbaa.X
open Go Go.Sx

/-! ## sums -/
def sm (f : Int → Int) : Nat → Int → Int
  | 0, _ => 0
  | m + 1, i => f i + sm f m (i + 1)
theorem sm_add (f g : Int → Int) : ∀ (m : Nat) (i : Int), sm (fun j => f j + g j) m i = sm f m i + sm g m i
  | 0, _ => rfl
  | m + 1, i => by simp only [sm, sm_add f g m]; omega
theorem sm_sub (f g : Int → Int) : ∀ (m : Nat) (i : Int), sm (fun j => f j - g j) m i = sm f m i - sm g m i
  | 0, _ => rfl
  | m + 1, i => by simp only [sm, sm_sub f g m]; omega
theorem sm_zero : ∀ (m : Nat) (i : Int), sm (fun _ => 0) m i = 0
  | 0, _ => rfl
  | m + 1, i => by simp only [sm, sm_zero m]; omega
theorem sm_cong (f g : Int → Int) : ∀ (m : Nat) (i : Int), 0 ≤ i → (∀ j : Int, 0 ≤ j → j < i + m → f j = g j) → sm f m i = sm g m i
  | 0, _, _, _ => rfl
  | m + 1, i, h0, h => by rw [sm, sm, h i h0 (by omega), sm_cong f g m (i + 1) (by omega) (fun j j0 j1 => h j j0 (by omega))]
theorem sm_ws (f : Int → Int) : ∀ (m : Nat) (i a : Int), ws (a + sm (fun j => ws (f j)) m i) = ws (a + sm f m i)
  | 0, _, _ => rfl
  | m + 1, i, a => by
    rw [sm, sm, show a + (ws (f i) + sm (fun j => ws (f j)) m (i + 1)) = ws (f i) + (a + sm (fun j => ws (f j)) m (i + 1)) by omega, ws_addl, show f i + (a + sm (fun j => ws (f j)) m (i + 1)) = f i + a + sm (fun j => ws (f j)) m (i + 1) by omega, sm_ws f m (i + 1)]
    congr 1; omega
theorem sm_one (b x : Int) : ∀ (m : Nat) (i : Int), sm (fun j => if b = j then x else 0) m i = if i ≤ b ∧ b < i + m then x else 0
  | 0, i => by rw [sm, if_neg (by omega)]
  | m + 1, i => by
    simp only [sm]
    rw [sm_one b x m (i + 1)]
    by_cases h : b = i
    · rw [if_pos h, if_neg (by omega), if_pos (by omega)]; omega
    · rw [if_neg h]
      by_cases h2 : i + 1 ≤ b ∧ b < i + 1 + m
      · rw [if_pos h2, if_pos (by omega)]; omega
      · rw [if_neg h2, if_neg (by omega)]; omega
theorem outs_sm (D : List HeatDomain) (t : Int → Int) (amb : Int) : ∀ (m : Nat) (i : Int), outs D t amb m i = sm (fun j => (gd HeatDomain.zero D j).Ambient * (t j - amb)) m i
  | 0, _ => rfl
  | m + 1, i => by rw [outs, sm, outs_sm D t amb m]
theorem fl_sum (n : Nat) (t : Int → Int) : ∀ (L : List HeatLink) (_ : ∀ l ∈ L, inL n l), sm (fl L t) n 0 = 0
  | [], _ => sm_zero n 0
  | l :: r, h => by
    obtain ⟨a0, a1, b0, b1, _⟩ := h l List.mem_cons_self
    have e : fl (l :: r) t = fun j => ((fun j => if l.B = j then l.Conductance * (t l.A - t l.B) else 0) j - (fun j => if l.A = j then l.Conductance * (t l.A - t l.B) else 0) j) + fl r t j := by funext j; rw [fl]
    rw [e, sm_add, sm_sub, sm_one, sm_one, fl_sum n t r (fun x hx => h x (List.mem_cons_of_mem _ hx)), if_pos (by omega), if_pos (by omega)]
    omega
/-! ## powers made valid -/
theorem powers_l1 (raw : List Int) (n most : Int) (hn : n ≤ 20) (h0 : 0 ≤ most) (h1 : most < 1000000000000) : ∀ (m k : Nat) (P : List Int) (i : Int), 0 ≤ i → i + m = n → (P.length : Int) = n → m < k → (∀ x ∈ P, 0 ≤ x ∧ x ≤ most) →
    ∃ Q, law38_Powers.l1 k n raw most P i = some Q ∧ (Q.length : Int) = n ∧ ∀ x ∈ Q, 0 ≤ x ∧ x ≤ most
  | _, 0, _, _, _, _, _, hk, _ => by omega
  | 0, k + 1, P, i, i0, i1, hP, hk, hx => by
    rw [law38_Powers.l1, if_neg (by omega), bind_s rfl, if_neg (by decide)]
    exact ⟨P, rfl, hP, hx⟩
  | m + 1, k + 1, P, i, i0, i1, hP, hk, hx => by
    rw [law38_Powers.l1, if_pos (by omega)]
    by_cases c : i < (raw.length : Int)
    · have u := wu_lo (gd 0 raw i)
      have v0 := Int.emod_nonneg (IntKind.u64.wrap (gd 0 raw i)) (show most + 1 ≠ 0 by omega)
      have v1 := Int.emod_lt_of_pos (IntKind.u64.wrap (gd 0 raw i)) (show 0 < most + 1 by omega)
      rw [decide_eq_true c, bind_s rfl, if_pos rfl, ck_t ⟨i0, c⟩, wi (most + 1) (by omega) (by omega), wu (most + 1) (by omega) (by omega), ck_t (by omega), ck_t ⟨i0, by omega⟩, tm _ u, wi (i + 1) (by omega) (by omega), wi (_ % _) (by omega) (by omega)]
      refine powers_l1 raw n most hn h0 h1 m k _ (i + 1) (by omega) (by omega) (by simpa using hP) (by omega) (fun x hx' => ?_)
      rcases List.mem_or_eq_of_mem_set hx' with h | h
      · exact hx x h
      · omega
    · rw [decide_eq_false c, bind_s rfl, if_neg (by decide)]
      exact ⟨P, rfl, hP, hx⟩
theorem powers_f (raw : List Int) (n most : Int) (n0 : 0 ≤ n) (hn : n ≤ 20) (h0 : 0 ≤ most) (h1 : most < 1000000000000) (k : Nat) (hk : 21 < k) :
    ∃ Q, law38_Powers.f k raw n most = some Q ∧ (Q.length : Int) = n ∧ ∀ x ∈ Q, 0 ≤ x ∧ x ≤ most := by
  obtain ⟨Q, q1, q2⟩ := powers_l1 raw n most hn h0 h1 n.toNat k (List.replicate n.toNat 0) 0 (by omega) (by omega) (by simp; omega) (by omega) (fun x hx => by rw [List.eq_of_mem_replicate hx]; omega)
  exact ⟨Q, by rw [law38_Powers.f, ck_t ⟨n0, by omega⟩, bind_s q1], q2⟩
theorem gd_pv {p : List Int} {M : Int} (hM : 0 ≤ M) (h : ∀ x ∈ p, 0 ≤ x ∧ x ≤ M) (j : Int) : 0 ≤ gd 0 p j ∧ gd 0 p j ≤ M := by
  unfold gd
  rw [List.getD_eq_getElem?_getD]
  cases e : p[j.toNat]? with
  | none => exact ⟨by simp, by simpa using hM⟩
  | some x => exact h x (List.mem_of_getElem? e)
theorem V.amb1 {D : List HeatDomain} {L : List HeatLink} {amb : Int} (v : V D L amb) (j : Int) (j0 : 0 ≤ j) (j1 : j < D.length) : 1 ≤ (gd HeatDomain.zero D j).Ambient ∧ (gd HeatDomain.zero D j).Ambient ≤ 16777216 ∧ 1 ≤ (gd HeatDomain.zero D j).Capacity ∧ (gd HeatDomain.zero D j).Capacity ≤ 16777216 ∧ (gd HeatDomain.zero D j).Ambient + cs L j ≤ (gd HeatDomain.zero D j).Capacity ∧ 0 ≤ cs L j := by
  obtain ⟨_, ⟨l1, _⟩, d1⟩ := v
  have hc := cs_nonneg L j ((all_gd HeatLink.zero L (fun l => 0 ≤ l.Conductance)).2 (fun m m0 m1 => by have := (l1 m m0 m1).1.2.2.2.2.2; omega))
  have := d1 j j0 j1
  omega
/-! ## between the ambient temperature and a bound -/
def Inv (D : List HeatDomain) (amb b : Int) (E : List Int) : Prop := ∀ j : Int, 0 ≤ j → j < D.length → (gd HeatDomain.zero D j).Capacity * amb ≤ gd 0 E j ∧ gd 0 E j < (gd HeatDomain.zero D j).Capacity * (b + 1)
theorem inv_t {D : List HeatDomain} {amb b : Int} {E : List Int} (h : Inv D amb b E) {j : Int} (j0 : 0 ≤ j) (j1 : j < D.length) (hC : 1 ≤ (gd HeatDomain.zero D j).Capacity) : amb ≤ tpf D E j ∧ tpf D E j ≤ b := by
  obtain ⟨h1, h2⟩ := h j j0 j1
  unfold tpf
  have e1 := Int.le_ediv_of_mul_le (show 0 < (gd HeatDomain.zero D j).Capacity by omega) (show amb * (gd HeatDomain.zero D j).Capacity ≤ gd 0 E j by rw [Int.mul_comm]; exact h1)
  have e2 := Int.ediv_lt_of_lt_mul (show 0 < (gd HeatDomain.zero D j).Capacity by omega) (show gd 0 E j < (b + 1) * (gd HeatDomain.zero D j).Capacity by rw [Int.mul_comm]; exact h2)
  omega
theorem mul_in {C x X : Int} (hC : 1 ≤ C) (hC2 : C ≤ 16777216) (h0 : -X ≤ x) (h1 : x ≤ X) : -(16777216 * X) ≤ C * x ∧ C * x ≤ 16777216 * X := by
  have hX : 0 ≤ X := by omega
  have a1 := Int.mul_le_mul_of_nonneg_left h1 (show 0 ≤ C by omega)
  have a2 := Int.mul_le_mul_of_nonneg_left h0 (show 0 ≤ C by omega)
  have a3 := Int.mul_le_mul_of_nonneg_right hC2 hX
  rw [Int.mul_neg] at a2
  omega
theorem inv_step {D : List HeatDomain} {L : List HeatLink} {a : Int} (v : V D L a) {amb b : Int} (m0 : -134217728 ≤ amb) (mb : amb ≤ b) (b1 : b ≤ 134217728) {E p : List Int} (h : Inv D amb b E) (hp : ∀ j : Int, 0 ≤ j → j < D.length → 0 ≤ gd 0 p j ∧ gd 0 p j ≤ (gd HeatDomain.zero D j).Ambient * (b - amb)) (j : Int) (j0 : 0 ≤ j) (j1 : j < D.length) :
    (gd HeatDomain.zero D j).Capacity * amb ≤ nxt D L amb E p j ∧ nxt D L amb E p j < (gd HeatDomain.zero D j).Capacity * (b + 1) ∧ ws (nxt D L amb E p j) = nxt D L amb E p j := by
  have hL := (all_gd HeatLink.zero L (inL D.length)).2 (fun m m0 m1 => (v.2.1.1 m m0 m1).1)
  obtain ⟨A0, A1, C0, C1, CA, c0⟩ := v.amb1 j j0 j1
  obtain ⟨t0, t1⟩ := inv_t h j0 j1 C0
  have f1 := fl_hi D.length b (tpf D E) (fun i i0 i1 => (inv_t h i0 i1 (v.amb1 i i0 i1).2.2.1).2) L hL j
  have f0 := fl_lo D.length amb (tpf D E) (fun i i0 i1 => (inv_t h i0 i1 (v.amb1 i i0 i1).2.2.1).1) L hL j
  have hd := Int.mul_ediv_add_emod (gd 0 E j) (gd HeatDomain.zero D j).Capacity
  have r0 := Int.emod_nonneg (gd 0 E j) (show (gd HeatDomain.zero D j).Capacity ≠ 0 by omega)
  have r1 := Int.emod_lt_of_pos (gd 0 E j) (show 0 < (gd HeatDomain.zero D j).Capacity by omega)
  obtain ⟨p0, p1⟩ := hp j j0 j1
  have s := stay (gd HeatDomain.zero D j).Capacity (gd HeatDomain.zero D j).Ambient (cs L j) amb b (tpf D E j) (gd 0 E j % (gd HeatDomain.zero D j).Capacity) (gd 0 p j) (fl L (tpf D E) j) CA t0 t1 r0 r1 p0 p1 f0 f1
  have e : nxt D L amb E p j = (gd HeatDomain.zero D j).Capacity * tpf D E j + gd 0 E j % (gd HeatDomain.zero D j).Capacity + gd 0 p j - (gd HeatDomain.zero D j).Ambient * (tpf D E j - amb) + fl L (tpf D E) j := by
    unfold nxt
    have : (gd HeatDomain.zero D j).Capacity * tpf D E j + gd 0 E j % (gd HeatDomain.zero D j).Capacity = gd 0 E j := hd
    omega
  rw [← e] at s
  have g1 := mul_in C0 C1 (show -134217729 ≤ amb by omega) (show amb ≤ 134217729 by omega)
  have g2 := mul_in C0 C1 (show -134217729 ≤ b + 1 by omega) (show b + 1 ≤ 134217729 by omega)
  exact ⟨s.1, s.2, ws_in (by omega) (by omega)⟩
theorem inv_init {D : List HeatDomain} {L : List HeatLink} {amb : Int} (v : V D L amb) (b : Int) (hb : amb ≤ b) : Inv D amb b (init D amb) := by
  intro j j0 j1
  have ha := v.1
  obtain ⟨A0, A1, C0, C1, CA, c0⟩ := v.amb1 j j0 j1
  have g1 := mul_in C0 C1 (show -134217729 ≤ amb by omega) (show amb ≤ 134217729 by omega)
  have := Int.mul_le_mul_of_nonneg_left hb (show 0 ≤ (gd HeatDomain.zero D j).Capacity by omega)
  rw [init_gd D amb j j0 j1, ws_in (by omega) (by omega), Int.mul_add, Int.mul_one]
  omega
/-- a step between the bounds -/
theorem step_inv {D : List HeatDomain} {L : List HeatLink} {E : List Int} {rel a : Int} (hM : Mod D L E rel) (v : V D L a) {amb b : Int} (m0 : -134217728 ≤ amb) (mb : amb ≤ b) (b1 : b ≤ 134217728) (p : List Int) (h : Inv D amb b E) (hlen : p.length = D.length) (hp : ∀ x ∈ p, 0 ≤ x ∧ x ≤ 16777216) (hpb : ∀ j : Int, 0 ≤ j → j < D.length → gd 0 p j ≤ (gd HeatDomain.zero D j).Ambient * (b - amb)) (k : Nat) (hk : 21 < k) :
    ∃ E', heat_Model_Step.f k D L amb E rel p = some (ws (rel + outs D (tpf D E) amb D.length 0), E', temps D E', 0) ∧ Mod D L E' (ws (rel + outs D (tpf D E) amb D.length 0)) ∧ (∀ j : Int, 0 ≤ j → j < D.length → gd 0 E' j = nxt D L amb E p j) ∧ Inv D amb b E' := by
  obtain ⟨E', e1, e2, e3⟩ := step_f hM amb p hlen (pvb_of p hp) k hk
  have hq := fun j j0 j1 => inv_step v m0 mb b1 h (fun j j0 j1 => ⟨(gd_pv (by omega) hp j).1, hpb j j0 j1⟩) j j0 j1
  have e4 : ∀ j : Int, 0 ≤ j → j < D.length → gd 0 E' j = nxt D L amb E p j := fun j j0 j1 => by rw [e3 j j0 j1]; exact (hq j j0 j1).2.2
  exact ⟨E', e1, e2, e4, fun j j0 j1 => by rw [e4 j j0 j1]; exact ⟨(hq j j0 j1).1, (hq j j0 j1).2.1⟩⟩
end Go.Proofs.Ytannodkbindlbaa.X
