/- The laws on the pure side: p37b. -/
import Derived.Test.YtmjfdknjloidoaaQ1
namespace Go.Proofs.Ytmjfdknjloidoaa.X
open Go Go.Sx

/-! ## limits -/
theorem awake100 : law37_awake.f 100 = some true := by decide +kernel
theorem awake200 : law37_awake.f 200 = some true := by decide +kernel
theorem awake20 : law37_awake.f 20 = some true := by decide +kernel
theorem set_f (k : Nat) (A : List (Int × Int)) (x v : Int) (h0 : 0 ≤ x) (h1 : x < 32) : idle_Limits_Set.f k A x v = some (mput A x v, 0) := by
  rw [idle_Limits_Set.f, idle_isClient.f, if_pos h0, decide_eq_true h1, bind_s rfl, if_pos rfl]
theorem limit_f (k : Nat) (A : List (Int × Int)) (h : A ≠ []) : idle_Limits_Limit.f k A = some (mmin A) := by
  rw [idle_Limits_Limit.f, if_neg (fun e => h (List.eq_nil_of_length_eq_zero (by omega)))]
theorem mput_old {A : List (Int × Int)} {x v : Int} : ∀ {p : Int × Int}, p ∈ mput A x v → p ∈ A ∨ p = (x, v) := by
  induction A with
  | nil => intro p h; simp [mput] at h; exact .inr h
  | cons q A ih =>
    intro p h
    rw [mput] at h
    split at h
    · rcases List.mem_cons.1 h with h | h
      · exact .inr h
      · exact .inl (List.mem_cons_of_mem _ h)
    · rcases List.mem_cons.1 h with h | h
      · exact .inl (h ▸ List.mem_cons_self)
      · rcases ih h with h | h
        · exact .inl (List.mem_cons_of_mem _ h)
        · exact .inr h
theorem mput_new {A : List (Int × Int)} {x v : Int} : (x, v) ∈ mput A x v := by
  induction A with
  | nil => simp [mput]
  | cons q A ih =>
    rw [mput]
    split
    · exact List.mem_cons_self
    · exact List.mem_cons_of_mem _ ih
theorem mput_keep {A : List (Int × Int)} {x v : Int} : ∀ {p : Int × Int}, p ∈ A → p.1 ≠ x → p ∈ mput A x v := by
  induction A with
  | nil => intro p h; cases h
  | cons q A ih =>
    intro p h hx
    rw [mput]
    split
    · rename_i c
      rcases List.mem_cons.1 h with h | h
      · subst h; exact absurd c hx
      · exact List.mem_cons_of_mem _ h
    · rcases List.mem_cons.1 h with h | h
      · exact h ▸ List.mem_cons_self
      · exact List.mem_cons_of_mem _ (ih h hx)
/-- every request is the one of its client -/
def Val (L : List Int) (A : List (Int × Int)) : Prop := ∀ p ∈ A, 0 ≤ p.1 ∧ p.1 < L.length ∧ p.2 = gd 0 L p.1
theorem Val.put {L : List Int} {A : List (Int × Int)} (h : Val L A) {x : Int} (h0 : 0 ≤ x) (h1 : x < L.length) : Val L (mput A x (gd 0 L x)) := by
  intro p hp
  rcases mput_old hp with hp | rfl
  · exact h p hp
  · exact ⟨h0, h1, rfl⟩
theorem Val.keep {L : List Int} {A : List (Int × Int)} {x j : Int} (h : (j, gd 0 L j) ∈ A) : (j, gd 0 L j) ∈ mput A x (gd 0 L x) := by
  by_cases c : j = x
  · rw [c]; exact mput_new
  · exact mput_keep h c
theorem lm_l1 (L : List Int) (a1 s : Int) (hs : ∀ k, help_Mod.f k a1 (L.length : Int) = some s) (s0 : 0 ≤ s) (s1 : s < L.length) (hl : (L.length : Int) ≤ 20) : ∀ (n k : Nat) (A B : List (Int × Int)) (i : Int), 0 ≤ i → i + n = L.length → n < k → Val L A → Val L B → (∀ j : Int, 0 ≤ j → j < i → (j, gd 0 L j) ∈ A) → (∀ j : Int, 0 ≤ j → j < i → ((j + s) % L.length, gd 0 L ((j + s) % L.length)) ∈ B) →
    ∃ A' B', law37_IdleLimitIsMinimum.l1 k L a1 A B i = some (.go (A', B')) ∧ Val L A' ∧ Val L B' ∧ (∀ j : Int, 0 ≤ j → j < L.length → (j, gd 0 L j) ∈ A') ∧ (∀ j : Int, 0 ≤ j → j < L.length → ((j + s) % L.length, gd 0 L ((j + s) % L.length)) ∈ B')
  | _, 0, _, _, _, _, _, hk, _, _, _, _ => by omega
  | 0, k + 1, A, B, i, i0, i1, hk, hA, hB, cA, cB => by
    rw [law37_IdleLimitIsMinimum.l1, if_neg (by omega)]
    exact ⟨A, B, rfl, hA, hB, fun j j0 j1 => cA j j0 (by omega), fun j j0 j1 => cB j j0 (by omega)⟩
  | n + 1, k + 1, A, B, i, i0, i1, hk, hA, hB, cA, cB => by
    have h : i < (L.length : Int) := by omega
    have m0 := Int.emod_nonneg (i + s) (show (L.length : Int) ≠ 0 by omega)
    have m1 := Int.emod_lt_of_pos (i + s) (show 0 < (L.length : Int) by omega)
    rw [law37_IdleLimitIsMinimum.l1, if_pos h, bind_s (hs k), ck_t (by omega), ck_t ⟨i0, h⟩, wi (i + s) (by omega) (by omega), tm _ (by omega), bind_s (set_f k A i _ i0 (by omega)), if_pos rfl, ck_t ⟨m0, m1⟩, bind_s (set_f k B _ _ m0 (by omega)), bind_s rfl]
    dsimp only
    rw [decide_eq_true rfl, if_neg (by decide), wi (i + 1) (by omega) (by omega)]
    refine lm_l1 L a1 s hs s0 s1 hl n k _ _ (i + 1) (by omega) (by omega) (by omega) (hA.put i0 h) (hB.put m0 m1) (fun j j0 j1 => ?_) (fun j j0 j1 => ?_)
    · by_cases c : j = i
      · rw [c]; exact mput_new
      · exact Val.keep (cA j j0 (by omega))
    · by_cases c : j = i
      · rw [c]; exact mput_new
      · exact Val.keep (cB j j0 (by omega))
theorem mmin_le {L : List Int} (A B : List (Int × Int)) (hB : Val L B) (cA : ∀ j : Int, 0 ≤ j → j < L.length → (j, gd 0 L j) ∈ A) : mmin A ≤ mmin B := by
  rcases (mmin_spec B).2.2 with e | ⟨p, hp, e⟩
  · rw [e]; exact (mmin_spec A).1
  · obtain ⟨h0, h1, h2⟩ := hB p hp
    rw [e, h2]
    exact (mmin_spec A).2.1 _ (cA p.1 h0 h1)
theorem lm_l2 (L : List Int) (hl : (L.length : Int) ≤ 20) (X : List (Int × Int) × List (Int × Int)) (hne : X.1 ≠ []) (hm : ∀ j : Int, 0 ≤ j → j < L.length → mmin X.1 ≤ gd 0 L j) : ∀ (n k : Nat) (b : Bool) (i : Int), 0 ≤ i → i + n = L.length → n < k →
    ∃ r, law37_IdleLimitIsMinimum.l2 k L X b i = some (.go r) ∧ (b = true → r = true) ∧ ((∃ j : Int, i ≤ j ∧ j < L.length ∧ mmin X.1 = gd 0 L j) → r = true)
  | _, 0, _, _, _, _, hk => by omega
  | 0, k + 1, b, i, i0, i1, hk => by
    rw [law37_IdleLimitIsMinimum.l2, if_neg (by omega)]
    exact ⟨b, rfl, fun h => h, fun ⟨j, j0, j1, _⟩ => by omega⟩
  | n + 1, k + 1, b, i, i0, i1, hk => by
    have h : i < (L.length : Int) := by omega
    have := hm i i0 h
    rw [law37_IdleLimitIsMinimum.l2, if_pos h, bind_s (limit_f k X.1 hne), ck_t ⟨i0, h⟩, if_neg (by omega), bind_s (limit_f k X.1 hne)]
    cases b
    · rw [if_neg (by decide), bind_s rfl, el_g, wi (i + 1) (by omega) (by omega)]
      obtain ⟨r, r1, r2, r3⟩ := lm_l2 L hl X hne hm n k (decide (mmin X.1 = gd 0 L i)) (i + 1) (by omega) (by omega) (by omega)
      refine ⟨r, r1, fun h => (by cases h), fun ⟨j, j0, j1, j2⟩ => ?_⟩
      by_cases c : j = i
      · subst c; exact r2 (decide_eq_true j2)
      · exact r3 ⟨j, by omega, j1, j2⟩
    · rw [if_pos rfl, bind_s rfl, el_g, wi (i + 1) (by omega) (by omega)]
      obtain ⟨r, r1, r2, r3⟩ := lm_l2 L hl X hne hm n k true (i + 1) (by omega) (by omega) (by omega)
      exact ⟨r, r1, r2, fun _ => r2 rfl⟩
theorem pureIdleLimitIsMinimum : law37_IdleLimitIsMinimum.Pure := by
  intro L a1 h1 h2 h3
  refine ⟨100, ?_⟩
  rw [law37_IdleLimitIsMinimum.f]
  by_cases h : 20 < (L.length : Int)
  · rw [if_pos h, bind_s awake100]
  · rw [if_neg h, idle_NewLimits.f, bind_s rfl, bind_s rfl]
    by_cases z : (L.length : Int) = 0
    · have : L = [] := List.eq_nil_of_length_eq_zero (by omega)
      subst this
      rw [law37_IdleLimitIsMinimum.l1, if_neg (by decide), bind_s rfl, el_g, if_pos (by decide), idle_Limits_Limit.f, if_pos (by decide), bind_s rfl, if_pos rfl, bind_s awake100]
    · have hmod : ∀ k, help_Mod.f k a1 (L.length : Int) = some (IntKind.u64.wrap a1 % (L.length : Int)) := by
        intro k
        have := wu_lo a1
        have g2 := Int.emod_lt_of_pos (IntKind.u64.wrap a1) (show 0 < (L.length : Int) by omega)
        have g3 := Int.emod_nonneg (IntKind.u64.wrap a1) (show (L.length : Int) ≠ 0 by omega)
        rw [help_Mod.f, wu (L.length : Int) (by omega) (by omega), ck_t (by omega), tm _ this, wi _ (by omega) (by omega)]
      have s0 := Int.emod_nonneg (IntKind.u64.wrap a1) (show (L.length : Int) ≠ 0 by omega)
      have s1 := Int.emod_lt_of_pos (IntKind.u64.wrap a1) (show 0 < (L.length : Int) by omega)
      obtain ⟨A, B, e, vA, vB, cA, cB⟩ := lm_l1 L a1 _ hmod s0 s1 (by omega) L.length 100 [] [] 0 (by omega) (by omega) (by omega) (fun p hp => by cases hp) (fun p hp => by cases hp) (fun j j0 j1 => by omega) (fun j j0 j1 => by omega)
      generalize hs : IntKind.u64.wrap a1 % (L.length : Int) = s at s0 s1 cB
      have cB' : ∀ j : Int, 0 ≤ j → j < L.length → (j, gd 0 L j) ∈ B := by
        intro j j0 j1
        by_cases c : s ≤ j
        · have := cB (j - s) (by omega) (by omega)
          rwa [show j - s + s = j by omega, Int.emod_eq_of_lt j0 j1] at this
        · have := cB (j - s + L.length) (by omega) (by omega)
          rwa [show j - s + L.length + s = j + L.length by omega, Int.add_emod_right, Int.emod_eq_of_lt j0 j1] at this
      have nA : A ≠ [] := fun e => by have := cA 0 (by omega) (by omega); rw [e] at this; cases this
      have nB : B ≠ [] := fun e => by have := cB' 0 (by omega) (by omega); rw [e] at this; cases this
      have hAB : mmin B = mmin A := Int.le_antisymm (mmin_le B A vA cB') (mmin_le A B vB cA)
      have hle : ∀ j : Int, 0 ≤ j → j < L.length → mmin A ≤ gd 0 L j := fun j j0 j1 => (mmin_spec A).2.1 _ (cA j j0 j1)
      have hex : ∃ j : Int, 0 ≤ j ∧ j < L.length ∧ mmin A = gd 0 L j := by
        rcases (mmin_spec A).2.2 with e | ⟨p, hp, e⟩
        · have a := hle 0 (by omega) (by omega)
          have b := (inK_u64 (h2 _ (gd_mem (z := (0 : Int)) (i := 0) (by omega) (by omega)))).2
          exact ⟨0, by omega, by omega, by omega⟩
        · obtain ⟨q0, q1, q2⟩ := vA p hp
          exact ⟨p.1, q0, q1, by rw [e, q2]⟩
      obtain ⟨r, r1, _, r3⟩ := lm_l2 L (by omega) (A, B) nA hle L.length 100 false 0 (by omega) (by omega) (by omega)
      have r4 := r3 hex
      subst r4
      rw [bind_s e, el_g, if_neg z, bind_s r1, el_g, if_pos rfl, bind_s (limit_f 100 B nB), bind_s (limit_f 100 A nA), if_pos hAB, bind_s awake100]
/-! ## tighter limits -/
theorem best_le {L : List IdleState} {t l r t' l' r' : Int} (h : Best L t l r) (h' : Best L t' l' r') (ht : t' ≤ t) (hl : l' ≤ l) : r' ≤ r := by
  by_cases c : r < r'
  · exact absurd (Int.le_trans h'.ok.2 ht) (h.no r' c h'.r1 (Int.le_trans h'.ok.1 hl))
  · omega
theorem pureIdleTighterIsShallower : law37_IdleTighterIsShallower.Pure := by
  intro a0 a1 a2 a3 a4 h1 h2 h3 h4 h5 h6
  refine ⟨20, ?_⟩
  rw [law37_IdleTighterIsShallower.f]
  by_cases h : 20 < (a0.length : Int)
  · rw [if_pos h, bind_s awake20]
  · obtain ⟨L, s1, g⟩ := states 20 (by decide) a0 h2
    have w1 := (inK_u64 h3).1
    have w2 := (inK_u64 h4).1
    have w3 := (inK_u64 h5).1
    have w4 := (inK_u64 h6).1
    rw [if_neg h, bind_s s1, idle_NewLimits.f, bind_s rfl, bind_s (set_f 20 [] 3 _ (by decide) (by decide)), if_pos rfl]
    rw [tm _ w1, tm _ w3, tm _ w4, tm _ w2]
    have x0 := Int.emod_nonneg a1 (show (1500 : Int) ≠ 0 by decide)
    have x1 := Int.emod_lt_of_pos a1 (show (0 : Int) < 1500 by decide)
    have u0 := Int.emod_nonneg a3 (show (300 : Int) ≠ 0 by decide)
    have u1 := Int.emod_lt_of_pos a3 (show (0 : Int) < 300 by decide)
    have v0 := Int.emod_nonneg a4 (show (300 : Int) ≠ 0 by decide)
    have v1 := Int.emod_lt_of_pos a4 (show (0 : Int) < 300 by decide)
    generalize a1 % 1500 = x at x0 x1
    generalize a3 % 300 = u at u0 u1
    generalize a4 % 300 = v at v0 v1
    have e1 : mput [] 3 u = [(3, u)] := rfl
    have e2 : mput [(3, u)] 7 v = [(3, u), (7, v)] := rfl
    have e3 : mdel [(3, u), (7, v)] 7 = [(3, u)] := rfl
    have m1 : mmin [(3, u)] = u := by show mn u 18446744073709551615 = u; unfold mn; split <;> omega
    have m2 : mmin [(3, u), (7, v)] ≤ u := (mmin_spec [(3, u), (7, v)]).2.1 (3, u) (by simp)
    have m3 : 0 ≤ mmin [(3, u), (7, v)] := by
      rcases (mmin_spec [(3, u), (7, v)]).2.2 with e | ⟨p, hp, e⟩
      · omega
      · rw [e]; simp at hp; rcases hp with rfl | rfl
        · exact u0
        · exact v0
    have y0 := Int.emod_nonneg a2 (show x + 1 ≠ 0 by omega)
    have y1 := Int.emod_lt_of_pos a2 (show 0 < x + 1 by omega)
    obtain ⟨a, p1, p2⟩ := select g (t := x) (l := u) x0 u0
    obtain ⟨b, q1, q2⟩ := select g (t := x - a2 % (x + 1)) (l := u) (by omega) u0
    obtain ⟨c, r1, r2⟩ := select g (t := x) (l := mmin [(3, u), (7, v)]) x0 m3
    have hrem : idle_Limits_Remove.f 20 [(3, u), (7, v)] 7 = some ([(3, u)], 0) := by
      rw [idle_Limits_Remove.f, idle_isClient.f, if_pos (by decide), decide_eq_true (by decide), bind_s rfl, if_pos rfl]; rfl
    dsimp only
    rw [e1, bind_s (limit_f 20 [(3, u)] (by simp)), m1, bind_s p1, wu (x + 1) (by omega) (by omega), ck_t (by omega), bind_s (limit_f 20 [(3, u)] (by simp)), m1, wu (x - a2 % (x + 1)) (by omega) (by omega), bind_s q1, bind_s (set_f 20 [(3, u)] 7 v (by decide) (by decide)), if_pos rfl, e2]
    dsimp only
    rw [bind_s (limit_f 20 [(3, u), (7, v)] (by simp)), bind_s r1, bind_s hrem, if_pos rfl]
    dsimp only
    rw [bind_s (limit_f 20 [(3, u)] (by simp)), m1, bind_s p1, if_pos rfl, if_pos rfl, if_pos rfl, if_pos rfl, if_pos (best_le p2 q2 (by omega) (Int.le_refl _)), if_pos (best_le p2 r2 (Int.le_refl _) m2), if_pos rfl, bind_s awake20]
end Go.Proofs.Ytmjfdknjloidoaa.X
