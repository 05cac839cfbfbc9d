/- The laws on the pure side: heatsome. -/
import Derived.Test.YtakaooegofiloaaQ2
namespace Go.Proofs.Ytakaooegofiloaa.X
open Go Go.Sx

/-! ## the arguments made valid -/
theorem mod_ (k : Nat) (a b : Int) (h0 : 0 < b) (h1 : b < 9223372036854775808) : ∃ r, help_Mod.f k a b = some r ∧ 0 ≤ r ∧ r < b := by
  have := wu_lo a
  have h2 := Int.emod_lt_of_pos (IntKind.u64.wrap a) h0
  have h3 := Int.emod_nonneg (IntKind.u64.wrap a) (show b ≠ 0 by omega)
  rw [help_Mod.f, wu b (by omega) (by omega), ck_t (by omega), tm _ this, wi _ (by omega) (by omega)]
  exact ⟨_, rfl, h3, h2⟩
def conn (a b : HeatLink) : Prop := a.A = b.A ∧ a.B = b.B ∨ a.A = b.B ∧ a.B = b.A
/-- no two links connect the same domains -/
def Apart (L : List HeatLink) : Prop := ∀ m q : Int, 0 ≤ q → q < m → m < L.length → ¬ conn (gd HeatLink.zero L m) (gd HeatLink.zero L q)
theorem cs_app : ∀ (L : List HeatLink) (l : HeatLink) (j : Int), cs (L ++ [l]) j = cs L j + (if l.A = j ∨ l.B = j then l.Conductance else 0)
  | [], l, j => by simp [cs]
  | x :: r, l, j => by rw [List.cons_append, cs, cs, cs_app r l j]; omega
theorem gd_app1 {α : Type} (z : α) (L : List α) (x : α) (j : Int) (h0 : 0 ≤ j) : gd z (L ++ [x]) j = if j < L.length then gd z L j else if j = L.length then x else z := by
  unfold gd
  simp only [List.getD_eq_getElem?_getD]
  by_cases h : j < L.length
  · rw [if_pos h, List.getElem?_append_left (by omega)]
  · rw [if_neg h, List.getElem?_append_right (by omega)]
    by_cases h2 : j = L.length
    · rw [if_pos h2, show j.toNat - L.length = 0 by omega]; rfl
    · rw [if_neg h2, List.getElem?_eq_none (by simp; omega)]; rfl
structure Dom0 (n : Int) (D : List HeatDomain) (L : List HeatLink) : Prop where
  len : (D.length : Int) = n
  dom : ∀ j : Int, 0 ≤ j → j < n → 1 ≤ (gd HeatDomain.zero D j).Ambient ∧ (gd HeatDomain.zero D j).Ambient ≤ 6 ∧ (gd HeatDomain.zero D j).Ambient + cs L j ≤ (gd HeatDomain.zero D j).Capacity ∧ (gd HeatDomain.zero D j).Capacity ≤ (gd HeatDomain.zero D j).Ambient + 7 + cs L j
  links : ∀ l ∈ L, inL n l ∧ l.Conductance ≤ 5
  apart : Apart L
theorem cs_le5 : ∀ (L : List HeatLink) (j : Int), (∀ l ∈ L, 1 ≤ l.Conductance ∧ l.Conductance ≤ 5) → 0 ≤ cs L j ∧ cs L j ≤ 5 * L.length
  | [], _, _ => by simp [cs]
  | l :: r, j, h => by
    have := cs_le5 r j (fun x hx => h x (List.mem_cons_of_mem _ hx))
    have := h l List.mem_cons_self
    simp only [cs, List.length_cons]; split <;> omega
theorem some_l1 (a : List HeatDomain) (n : Int) (hn : n = mx 1 (mn a.length 5)) : ∀ (m k : Nat) (y : List HeatDomain) (i : Int), 0 ≤ i → i + m = n → (y.length : Int) = n → m < k →
    ∃ D, law38_Some.l1 k a y i = some D ∧ (D.length : Int) = n ∧ ∀ j : Int, 0 ≤ j → j < n → (j < i → gd HeatDomain.zero D j = gd HeatDomain.zero y j) ∧
      (i ≤ j → 1 ≤ (gd HeatDomain.zero D j).Ambient ∧ (gd HeatDomain.zero D j).Ambient ≤ 6 ∧ (gd HeatDomain.zero D j).Ambient ≤ (gd HeatDomain.zero D j).Capacity ∧ (gd HeatDomain.zero D j).Capacity ≤ (gd HeatDomain.zero D j).Ambient + 7)
  | _, 0, _, _, _, _, _, hk => by omega
  | 0, k + 1, y, i, h0, h1, hy, hk => by
    rw [law38_Some.l1, ← hn, if_neg (by omega)]
    exact ⟨y, rfl, hy, fun j j0 j1 => ⟨fun _ => rfl, fun h => by omega⟩⟩
  | m + 1, k + 1, y, i, h0, h1, hy, hk => by
    have hi : i < n := by omega
    have hn5 : n ≤ 5 := by have := mx_ge 1 (mn a.length 5); have := mn_le a.length 5; omega
    have key : ∀ x : HeatDomain, 1 ≤ x.Ambient → x.Ambient ≤ 6 → x.Ambient ≤ x.Capacity → x.Capacity ≤ x.Ambient + 7 → ∃ D, law38_Some.l1 k a (y.set i.toNat x) (IntKind.i64.wrap (i + 1)) = some D ∧ (D.length : Int) = n ∧ ∀ j : Int, 0 ≤ j → j < n → (j < i → gd HeatDomain.zero D j = gd HeatDomain.zero y j) ∧
      (i ≤ j → 1 ≤ (gd HeatDomain.zero D j).Ambient ∧ (gd HeatDomain.zero D j).Ambient ≤ 6 ∧ (gd HeatDomain.zero D j).Ambient ≤ (gd HeatDomain.zero D j).Capacity ∧ (gd HeatDomain.zero D j).Capacity ≤ (gd HeatDomain.zero D j).Ambient + 7) := by
      intro x x1 x2 x3 x4
      rw [wi (i + 1) (by omega) (by omega)]
      obtain ⟨D, d1, d2, d3⟩ := some_l1 a n hn m k (y.set i.toNat x) (i + 1) (by omega) (by omega) (by simpa using hy) (by omega)
      refine ⟨D, d1, d2, fun j j0 j1 => ?_⟩
      obtain ⟨e1, e2⟩ := d3 j j0 j1
      refine ⟨fun h => by rw [e1 (by omega), gd_set_other h0 (by omega) j0 (by omega)], fun h => ?_⟩
      by_cases hj : i + 1 ≤ j
      · exact e2 hj
      · obtain rfl : i = j := by omega
        rw [e1 (by omega), gd_set_same h0 (by omega)]
        exact ⟨x1, x2, x3, x4⟩
    rw [law38_Some.l1, ← hn, if_pos hi, ck_t ⟨h0, by omega⟩]
    by_cases c : i < (a.length : Int)
    · have hs : ∀ x : HeatDomain, ((y.set i.toNat x).length : Int) = n := fun x => by simpa using hy
      have hg : ∀ x : HeatDomain, gd HeatDomain.zero (y.set i.toNat x) i = x := fun x => gd_set_same h0 (by omega)
      have u1 := wu_lo (gd HeatDomain.zero a i).Ambient
      have u2 := wu_lo (gd HeatDomain.zero a i).Capacity
      rw [if_pos c, ck_t ⟨h0, c⟩]
      simp only [List.set_set, hg, hs]
      rw [ck_t ⟨h0, hi⟩, ck_t ⟨h0, hi⟩, bind_s rfl, tm _ u1, tm _ u2, wi (_ % 6) (by omega) (by omega), wi (_ % 8) (by omega) (by omega), wi (1 + _) (by omega) (by omega), wi (_ + _) (by omega) (by omega)]
      exact key _ (by dsimp only; omega) (by dsimp only; omega) (by dsimp only; omega) (by dsimp only; omega)
    · rw [if_neg c, bind_s rfl]
      exact key ⟨1, 1⟩ (by decide) (by decide) (by decide) (by decide)
/-- does no link of the list connect these domains? -/
def ncb (A B : Int) : List HeatLink → Bool
  | [] => true
  | x :: r => !(decide (x.A = A) && decide (x.B = B) || decide (x.A = B) && decide (x.B = A)) && ncb A B r
theorem ncb_iff (A B c : Int) : ∀ L : List HeatLink, ncb A B L = true → ∀ q : Int, 0 ≤ q → q < L.length → ¬ conn ⟨A, B, c⟩ (gd HeatLink.zero L q)
  | [], _, q, q0, q1 => by simp at q1; omega
  | x :: r, h, q, q0, q1 => by
    rw [ncb, Bool.and_eq_true] at h
    by_cases e : q = 0
    · subst e
      have h1 := h.1
      simp only [Bool.not_eq_true', Bool.or_eq_false_iff, Bool.and_eq_false_iff, decide_eq_false_iff_not] at h1
      show ¬ conn _ x
      unfold conn
      simp only
      omega
    · have := ncb_iff A B c r h.2 (q - 1) (by omega) (by simp at q1; omega)
      have e2 : gd HeatLink.zero (x :: r) q = gd HeatLink.zero r (q - 1) := by
        unfold gd; rw [show q.toNat = (q - 1).toNat + 1 by omega, List.getD_cons_succ]
      rw [e2]; exact this
theorem some_l3 (L : List HeatLink) (hl : (L.length : Int) ≤ 20) (A B : Int) : ∀ (m k : Nat) (ok : Bool) (i : Int), 0 ≤ i → i + m = L.length → m < k → law38_Some.l3 k L A B ok i = some (ok && ncb A B (L.drop i.toNat))
  | _, 0, _, _, _, _, hk => by omega
  | 0, k + 1, ok, i, h0, h1, hk => by rw [law38_Some.l3, if_neg (by omega), drop_end (by omega), ncb, Bool.and_true]
  | m + 1, k + 1, ok, i, h0, h1, hk => by
    have hi : i < (L.length : Int) := by omega
    have ih := fun ok => some_l3 L hl A B m k ok (i + 1) (by omega) (by omega) (by omega)
    rw [law38_Some.l3, if_pos hi, ck_t ⟨h0, hi⟩, wi (i + 1) (by omega) (by omega), drop_gd (z := HeatLink.zero) h0 hi, ncb]
    generalize gd HeatLink.zero L i = l
    cases ok
    · simp [ih]
    · by_cases c1 : l.A = A <;> by_cases c2 : l.B = B <;> by_cases c3 : l.A = B <;> by_cases c4 : l.B = A <;> simp only [c1, c2, c3, c4, if_true, if_false, decide_true, decide_false, Bool.and_true, Bool.and_false, Bool.true_and, Bool.false_and, Bool.not_true, Bool.not_false, Option.bind_some, ih, Bool.or_true, Bool.or_false, Bool.true_or, ite_self, Bool.not_eq_true] <;> grind
theorem some_l2 (a : List HeatDomain) (b : List HeatLink) (n : Int) (hn : n = mx 1 (mn a.length 5)) : ∀ (m k : Nat) (D : List HeatDomain) (L : List HeatLink) (i : Int), 0 ≤ i → i + m = 12 → (L.length : Int) ≤ i → Dom0 n D L → m + 14 < k →
    ∃ D' L', law38_Some.l2 k b a D L i = some (D', L') ∧ (L'.length : Int) ≤ 12 ∧ Dom0 n D' L'
  | _, 0, _, _, _, _, _, _, _, hk => by omega
  | 0, k + 1, D, L, i, h0, h1, hL, hI, hk => by
    have hz : (if i < (b.length : Int) then (some (decide (i < 12))) else (some false)) = some false := by
      split
      · rw [decide_eq_false (by omega)]
      · rfl
    rw [law38_Some.l2, hz, bind_s rfl, if_neg (by decide)]
    exact ⟨D, L, rfl, by omega, hI⟩
  | m + 1, k + 1, D, L, i, h0, h1, hL, hI, hk => by
    have hn5 : 1 ≤ n ∧ n ≤ 5 := by have := mx_ge 1 (mn a.length 5); have := mn_le a.length 5; omega
    by_cases c : i < (b.length : Int)
    · rw [law38_Some.l2, if_pos c, decide_eq_true (by omega), bind_s rfl, if_pos rfl, ck_t ⟨h0, c⟩, ← hn, wi (i + 1) (by omega) (by omega)]
      obtain ⟨A, hA, A0, A1⟩ := mod_ k (gd HeatLink.zero b i).A n (by omega) (by omega)
      obtain ⟨B, hB, B0, B1⟩ := mod_ k (gd HeatLink.zero b i).B n (by omega) (by omega)
      have u1 := wu_lo (gd HeatLink.zero b i).Conductance
      rw [bind_s hA, bind_s hB, some_l3 L (by omega) A B L.length k _ 0 (by omega) (by omega) (by omega), bind_s rfl, tm _ u1, wi (_ % 5) (by omega) (by omega), wi (1 + _) (by omega) (by omega)]
      obtain ⟨c', hc', c0, c1⟩ : ∃ c, c = 1 + IntKind.u64.wrap (gd HeatLink.zero b i).Conductance % 5 ∧ 1 ≤ c ∧ c ≤ 5 := ⟨_, rfl, by omega, by omega⟩
      rw [← hc']
      have e : L.drop (0 : Int).toNat = L := by simp
      rw [e]
      by_cases d : (!decide (A = B) && ncb A B L) = true
      · rw [if_pos d]
        simp only [Bool.and_eq_true, Bool.not_eq_true', decide_eq_false_iff_not] at d
        obtain ⟨hlen, hdom, hlinks, hap⟩ := hI
        have hcsA := cs_le5 L A (fun l hl => ⟨(hlinks l hl).1.2.2.2.2.2, (hlinks l hl).2⟩)
        have hcsB := cs_le5 L B (fun l hl => ⟨(hlinks l hl).1.2.2.2.2.2, (hlinks l hl).2⟩)
        have hdA := hdom A A0 A1
        have hdB := hdom B B0 B1
        have hs : ∀ x : HeatDomain, ((D.set A.toNat x).length : Int) = n := fun x => by simpa using hlen
        rw [ck_t (by simp; omega), ck_t ⟨A0, by omega⟩, ck_t ⟨B0, by rw [hs]; exact B1⟩, bind_s rfl]
        dsimp only
        rw [gd_set_other A0 (by omega) B0 (fun e => d.1 e.symm), wi (_ + c') (by omega) (by omega), wi (_ + c') (by omega) (by omega)]
        refine some_l2 a b n hn m k _ _ (i + 1) (by omega) (by omega) (by simp; omega) ⟨by simpa using hlen, fun j j0 j1 => ?_, fun l hl => ?_, fun p q q0 q1 q2 => ?_⟩ (by omega)
        · have := hdom j j0 j1
          rw [gd_set B0 (by rw [hs]; exact B1) j0, gd_set A0 (by omega) j0, cs_app]
          by_cases jB : j = B
          · subst jB; rw [if_pos rfl, if_pos (.inr rfl)]; dsimp only; omega
          · by_cases jA : j = A
            · subst jA; rw [if_neg jB, if_pos rfl, if_pos (.inl rfl)]; dsimp only; omega
            · rw [if_neg jB, if_neg jA, if_neg (by dsimp only; omega)]; omega
        · rcases List.mem_append.1 hl with hl | hl
          · exact hlinks l hl
          · rw [List.mem_singleton.1 hl]
            exact ⟨⟨A0, A1, B0, B1, d.1, c0⟩, c1⟩
        · have q2 : p < L.length + 1 := by simpa using q2
          rw [gd_app1 _ _ _ _ (by omega), gd_app1 _ _ _ _ q0, if_pos (show q < L.length by omega)]
          by_cases pl : p < L.length
          · rw [if_pos pl]; exact hap p q q0 q1 pl
          · rw [if_neg pl, if_pos (by omega)]
            exact ncb_iff A B c' L d.2 q q0 (by omega)
      · rw [if_neg d, bind_s rfl]
        exact some_l2 a b n hn m k D L (i + 1) (by omega) (by omega) (by omega) hI (by omega)
    · rw [law38_Some.l2, if_neg c, bind_s rfl, if_neg (by decide)]
      exact ⟨D, L, rfl, by omega, hI⟩
/-- a valid model -/
structure Sys (D : List HeatDomain) (L : List HeatLink) (amb : Int) : Prop where
  n1 : 1 ≤ (D.length : Int)
  n5 : (D.length : Int) ≤ 5
  l12 : (L.length : Int) ≤ 12
  dom : ∀ j : Int, 0 ≤ j → j < D.length → 1 ≤ (gd HeatDomain.zero D j).Ambient ∧ (gd HeatDomain.zero D j).Ambient ≤ 6 ∧ (gd HeatDomain.zero D j).Ambient + cs L j ≤ (gd HeatDomain.zero D j).Capacity ∧ (gd HeatDomain.zero D j).Capacity ≤ 73 ∧ 0 ≤ cs L j
  links : ∀ l ∈ L, inL D.length l ∧ l.Conductance ≤ 5
  apart : Apart L
  a0 : -100 ≤ amb
  a1 : amb ≤ 100
theorem some_f (a : List HeatDomain) (b : List HeatLink) (c : Int) (k : Nat) (hk : 30 < k) : ∃ D L amb, law38_Some.f k a b c = some (D, L, amb) ∧ Sys D L amb ∧ (D.length : Int) = mx 1 (mn a.length 5) := by
  obtain ⟨n, hn⟩ : ∃ n, n = mx 1 (mn a.length 5) := ⟨_, rfl⟩
  have hn5 : 1 ≤ n ∧ n ≤ 5 := by have := mx_ge 1 (mn a.length 5); have := mn_le a.length 5; omega
  obtain ⟨D, d1, d2, d3⟩ := some_l1 a n hn n.toNat k (List.replicate n.toNat HeatDomain.zero) 0 (by omega) (by omega) (by simp; omega) (by omega)
  obtain ⟨D', L, s1, s2, s3⟩ := some_l2 a b n hn 12 k D [] 0 (by omega) (by omega) (by simp) ⟨d2, fun j j0 j1 => by have := (d3 j j0 j1).2 j0; simp only [cs]; omega, fun l hl => (by cases hl), fun p q q0 q1 q2 => by simp at q2; omega⟩ (by omega)
  have u1 := wu_lo c
  rw [law38_Some.f, ← hn, ck_t ⟨by omega, by omega⟩, bind_s d1, bind_s s1, tm _ u1, wi (_ % 201) (by omega) (by omega), wi (_ - 100) (by omega) (by omega)]
  refine ⟨D', L, _, rfl, ⟨by rw [s3.len]; omega, by rw [s3.len]; omega, s2, fun j j0 j1 => ?_, fun l hl => ?_, s3.apart, by omega, by omega⟩, s3.len⟩
  · have := s3.dom j j0 (by rw [← s3.len]; exact j1)
    have := cs_le5 L j (fun l hl => ⟨(s3.links l hl).1.2.2.2.2.2, (s3.links l hl).2⟩)
    omega
  · rw [s3.len]; exact s3.links l hl
end Go.Proofs.Ytakaooegofiloaa.X
