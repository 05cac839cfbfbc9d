/- The laws on the pure side: allocb. -/
import Derived.Test.YtannodkbindlbaaQ5
namespace Go.Proofs.Ytannodkbindlbaa.X
open Go Go.Sx

/-! ## Allocate -/
theorem actorEta (a : Actor) : (⟨a.Request, a.Min, a.Max⟩ : Actor) = a := rfl
def wa (a : Actor) : Int := mn (mx a.Request a.Min) a.Max
def sh (l : Int) (a : Actor) : Int := mn (mx l a.Min) (wa a)
def tot (l : Int) : List Actor → Int
  | [] => 0
  | a :: r => sh l a + tot l r
def okA (a : Actor) : Prop := 0 ≤ a.Request ∧ 0 ≤ a.Min ∧ a.Min ≤ a.Max ∧ a.Max ≤ 4294967296
theorem sh_bd (l : Int) (a : Actor) (h : okA a) (hl : 0 ≤ l) : a.Min ≤ sh l a ∧ sh l a ≤ wa a ∧ a.Min ≤ wa a ∧ wa a ≤ a.Max ∧ 0 ≤ a.Min ∧ sh l a ≤ 4294967296 := by
  obtain ⟨h1, h2, h3, h4⟩ := h
  have e1 := mx_ge a.Request a.Min
  have e2 := mn_le (mx a.Request a.Min) a.Max
  have e3 := mx_ge l a.Min
  have e4 := mn_le (mx l a.Min) (wa a)
  unfold sh
  unfold wa at *
  omega
theorem tot_bd (l : Int) (hl : 0 ≤ l) : ∀ A : List Actor, (∀ a ∈ A, okA a) → 0 ≤ tot l A ∧ tot l A ≤ 4294967296 * (A.length : Int)
  | [], _ => by simp [tot]
  | a :: r, h => by
    have h1 := tot_bd l hl r (fun x hx => h x (List.mem_cons_of_mem _ hx))
    have h2 := sh_bd l a (h a List.mem_cons_self) hl
    simp only [tot, List.length_cons]
    omega
theorem want_f (k : Nat) (a : Actor) : thermal_want.f k a = some (wa a) := rfl
theorem share_f (k : Nat) (a : Actor) (l : Int) : thermal_share.f k a l = some (sh l a) := rfl
theorem okA_drop {A : List Actor} (h : ∀ a ∈ A, okA a) (n : Nat) : ∀ a ∈ A.drop n, okA a := fun a ha => h a (List.mem_of_mem_drop ha)
theorem total_l1 (A : List Actor) (hA : ∀ a ∈ A, okA a) (hl : (A.length : Int) ≤ 32) (l : Int) (h0 : 0 ≤ l) : ∀ (k : Nat) (s i : Int), 0 ≤ i → i ≤ A.length → (A.length : Int) - i < k → 0 ≤ s → s ≤ 4294967296 * i →
    thermal_total.l1 k A l s i = some (s + tot l (A.drop i.toNat))
  | 0, _, _, _, _, hk, _, _ => by omega
  | k + 1, s, i, hi, hi2, hk, hs, hs2 => by
    rw [thermal_total.l1]
    by_cases h : i < (A.length : Int)
    · have hb := sh_bd l _ (hA _ (gd_mem (z := Actor.zero) hi h)) h0
      rw [if_pos h, ck_t ⟨hi, h⟩, share_f, actorEta]
      show thermal_total.l1 k A l (IntKind.u64.wrap (s + sh l (gd Actor.zero A i))) (IntKind.i64.wrap (i + 1)) = _
      rw [wu _ (by omega) (by omega), wi (i + 1) (by omega) (by omega), total_l1 A hA hl l h0 k _ (i + 1) (by omega) (by omega) (by omega) (by omega) (by omega), drop_gd (z := Actor.zero) hi h, tot]
      congr 1; omega
    · rw [if_neg h, drop_end h, tot]; simp
theorem total_f (A : List Actor) (hA : ∀ a ∈ A, okA a) (hl : (A.length : Int) ≤ 32) (l : Int) (h0 : 0 ≤ l) (k : Nat) (hk : 33 < k) : thermal_total.f k A l = some (tot l A) := by
  rw [thermal_total.f, bind_s (total_l1 A hA hl l h0 k 0 0 (by omega) (by omega) (by omega) (by omega) (by omega))]
  simp
/-- the search -/
def srch (A : List Actor) (b : Int) : Nat → Int → Int → Int
  | 0, lo, _ => lo
  | n + 1, lo, hi => if lo + 1 < hi then (if tot ((lo + hi) / 2) A ≤ b then srch A b n ((lo + hi) / 2) hi else srch A b n lo ((lo + hi) / 2)) else lo
theorem srch_l1 (A : List Actor) (hA : ∀ a ∈ A, okA a) (hl : (A.length : Int) ≤ 32) (b : Int) : ∀ (n k : Nat) (lo hi : Int), 0 ≤ lo → lo ≤ hi → hi ≤ 4294967296 → hi - lo ≤ 2 ^ n → n + 34 < k →
    thermal_Allocate.l1 k A b lo hi = some (srch A b n lo hi)
  | _, 0, _, _, _, _, _, _, hk => by omega
  | 0, k + 1, lo, hi, h0, h1, h2, h3, hk => by
    have h3 : hi - lo ≤ 1 := h3
    rw [thermal_Allocate.l1, wu _ (by omega) (by omega), if_neg (by omega)]
    rfl
  | n + 1, k + 1, lo, hi, h0, h1, h2, h3, hk => by
    have h3 : hi - lo ≤ 2 * 2 ^ n := by rw [Int.pow_succ] at h3; omega
    have hp : (0 : Int) < 2 ^ n := Int.pow_pos (by omega)
    rw [thermal_Allocate.l1, wu (lo + 1) (by omega) (by omega), wu (lo + hi) (by omega) (by omega), td _ (by omega), wu _ (by omega) (by omega), srch,
      total_f A hA hl _ (by omega) k (by omega)]
    by_cases h : lo + 1 < hi
    · rw [if_pos h, if_pos h]
      simp only [Option.bind_some]
      by_cases h' : tot ((lo + hi) / 2) A ≤ b
      · rw [if_pos h', if_pos h']
        exact srch_l1 A hA hl b n k ((lo + hi) / 2) hi (by omega) (by omega) (by omega) (by omega) (by omega)
      · rw [if_neg h', if_neg h']
        exact srch_l1 A hA hl b n k lo ((lo + hi) / 2) (by omega) (by omega) (by omega) (by omega) (by omega)
    · rw [if_neg h, if_neg h]
theorem srch_spec (A : List Actor) (b : Int) : ∀ (n : Nat) (lo hi : Int), 0 ≤ lo → lo < hi → hi - lo ≤ 2 ^ n → tot lo A ≤ b → b < tot hi A →
    lo ≤ srch A b n lo hi ∧ srch A b n lo hi < hi ∧ tot (srch A b n lo hi) A ≤ b ∧ b < tot (srch A b n lo hi + 1) A
  | 0, lo, hi, h0, h1, h3, h4, h5 => by
    have h3 : hi - lo ≤ 1 := h3
    rw [srch]; rw [show hi = lo + 1 by omega] at h5; exact ⟨by omega, by omega, h4, h5⟩
  | n + 1, lo, hi, h0, h1, h3, h4, h5 => by
    have h3 : hi - lo ≤ 2 * 2 ^ n := by rw [Int.pow_succ] at h3; omega
    have hp : (0 : Int) < 2 ^ n := Int.pow_pos (by omega)
    rw [srch]
    by_cases h : lo + 1 < hi
    · rw [if_pos h]
      by_cases h' : tot ((lo + hi) / 2) A ≤ b
      · rw [if_pos h']
        have := srch_spec A b n ((lo + hi) / 2) hi (by omega) (by omega) (by omega) h' h5
        exact ⟨by omega, this.2⟩
      · rw [if_neg h']
        have := srch_spec A b n lo ((lo + hi) / 2) (by omega) (by omega) (by omega) h4 (by omega)
        exact ⟨by omega, by omega, this.2.2⟩
    · rw [if_neg h]; rw [show hi = lo + 1 by omega] at h5; exact ⟨by omega, by omega, h4, h5⟩
/-- what is given at a level, with some rest -/
def dist (l : Int) : Int → List Actor → List Int
  | _, [] => []
  | r, a :: t => if 0 < r ∧ a.Min ≤ l ∧ l < wa a then (sh l a + 1) :: dist l (r - 1) t else sh l a :: dist l r t
theorem dist_len (l : Int) : ∀ (A : List Actor) (r : Int), (dist l r A).length = A.length
  | [], _ => rfl
  | a :: t, r => by rw [dist]; split <;> simp [dist_len l t]
theorem dist_le (l : Int) : ∀ (A : List Actor) (r : Int), r ≤ 0 → dist l r A = A.map (sh l)
  | [], _, _ => rfl
  | a :: t, r, h => by rw [dist, if_neg (by omega), dist_le l t r h]; rfl
theorem dist_l2 (A : List Actor) (hA : ∀ a ∈ A, okA a) (hl : (A.length : Int) ≤ 32) (l : Int) (h0 : 0 ≤ l) : ∀ (k : Nat) (r : Int) (L : List Int) (i : Int), 0 ≤ i → i ≤ A.length → (A.length : Int) - i < k → 0 ≤ r → r < 18446744073709551616 → (L.length : Int) = i →
    thermal_Allocate.l2 k A l r L i = some (L ++ dist l r (A.drop i.toNat))
  | 0, _, _, _, _, _, hk, _, _, _ => by omega
  | k + 1, r, L, i, hi, hi2, hk, hr, hr2, hL => by
    rw [thermal_Allocate.l2]
    by_cases h : i < (A.length : Int)
    · have hb := sh_bd l _ (hA _ (gd_mem (z := Actor.zero) hi h)) h0
      rw [if_pos h, ck_t ⟨hi, h⟩, share_f, want_f, actorEta, drop_gd (z := Actor.zero) hi h, dist, bind_s rfl, bind_s rfl]
      generalize gd Actor.zero A i = a at hb ⊢
      by_cases h1 : 0 < r ∧ a.Min ≤ l ∧ l < wa a
      · rw [if_pos h1.1, if_pos h1.2.1, decide_eq_true h1.2.2, bind_s rfl, if_pos rfl, bind_s rfl, if_pos h1]
        dsimp only
        rw [ck_t (by simp; omega), wu _ (by omega) (by omega), wu _ (by omega) (by omega), wi (i + 1) (by omega) (by omega), dist_l2 A hA hl l h0 k _ _ (i + 1) (by omega) (by omega) (by omega) (by omega) (by omega) (by simp; omega)]
        simp
      · have e : (if 0 < r then (if a.Min ≤ l then (some (decide (l < wa a))) else some false) else some false) = some false := by
          by_cases g1 : 0 < r
          · by_cases g2 : a.Min ≤ l
            · rw [if_pos g1, if_pos g2, decide_eq_false (by omega)]
            · rw [if_pos g1, if_neg g2]
          · rw [if_neg g1]
        rw [bind_s e, if_neg (by decide), bind_s rfl, if_neg h1]
        dsimp only
        rw [ck_t (by simp; omega), wi (i + 1) (by omega) (by omega), dist_l2 A hA hl l h0 k _ _ (i + 1) (by omega) (by omega) (by omega) (by omega) (by omega) (by simp; omega)]
        simp
    · rw [if_neg h, drop_end h, dist]; simp
theorem dist_max : ∀ (A : List Actor) (_ : ∀ a ∈ A, okA a) (r : Int), dist 4294967296 r A = A.map (sh 4294967296)
  | [], _, _ => rfl
  | a :: t, h, r => by
    have hb := sh_bd 4294967296 a (h a List.mem_cons_self) (by omega)
    have := (h a List.mem_cons_self).2.2.2
    rw [dist, if_neg (by omega), dist_max t (fun x hx => h x (List.mem_cons_of_mem _ hx)) r]; rfl
/-! the actors' own test -/
def bad (a : Actor) : Bool := decide (a.Max < a.Min) || decide (4294967296 < a.Max)
def vb : List Actor → Bool
  | [] => true
  | a :: r => !bad a && vb r
theorem vb_ok : ∀ A : List Actor, (∀ a ∈ A, 0 ≤ a.Request ∧ 0 ≤ a.Min) → vb A = true → ∀ a ∈ A, okA a
  | [], _, _ => by intro a h; cases h
  | b :: r, hw, h => by
    simp only [vb, bad, Bool.and_eq_true, Bool.not_eq_true', Bool.or_eq_false_iff, decide_eq_false_iff_not] at h
    intro a ha
    rcases List.mem_cons.1 ha with rfl | ha
    · exact ⟨(hw _ List.mem_cons_self).1, (hw _ List.mem_cons_self).2, by omega, by omega⟩
    · exact vb_ok r (fun x hx => hw x (List.mem_cons_of_mem _ hx)) h.2 a ha
theorem ok_vb : ∀ A : List Actor, (∀ a ∈ A, okA a) → vb A = true
  | [], _ => rfl
  | b :: r, h => by
    obtain ⟨_, _, h3, h4⟩ := h b List.mem_cons_self
    rw [vb, ok_vb r (fun x hx => h x (List.mem_cons_of_mem _ hx))]
    simp [bad]; omega
theorem va1_f (k : Nat) (a : Actor) : thermal_validActors_1.f k a = some (bad a) := by
  rw [thermal_validActors_1.f, bad]
  by_cases h : a.Max < a.Min
  · rw [if_pos h, decide_eq_true h]; rfl
  · rw [if_neg h, decide_eq_false h]; rfl
theorem va_l1 (A : List Actor) (hl : (A.length : Int) ≤ 100) : ∀ (k : Nat) (i : Int), 0 ≤ i → i ≤ A.length → (A.length : Int) - i < k →
    ∃ r, slices_IndexFunc_api_Actor_api_Actor__validActors_1.l1 k A i = some r ∧ ((vb (A.drop i.toNat) = true ∧ r = .go ()) ∨ (vb (A.drop i.toNat) = false ∧ ∃ j, 0 ≤ j ∧ r = .rt (some j)))
  | 0, _, _, _, hk => by omega
  | k + 1, i, h0, h1, hk => by
    rw [slices_IndexFunc_api_Actor_api_Actor__validActors_1.l1]
    by_cases h : i < (A.length : Int)
    · rw [if_pos h, ck_t ⟨h0, h⟩, actorEta, va1_f, bind_s rfl, drop_gd (z := Actor.zero) h0 h, wi (i + 1) (by omega) (by omega), vb]
      cases hb : bad (gd Actor.zero A i)
      · obtain ⟨r, hr, hr'⟩ := va_l1 A hl k (i + 1) (by omega) (by omega) (by omega)
        rw [if_neg (by decide)]
        exact ⟨r, hr, by simpa using hr'⟩
      · rw [if_pos rfl]
        exact ⟨_, rfl, .inr ⟨by simp, i, h0, rfl⟩⟩
    · rw [if_neg h, drop_end h]
      exact ⟨_, rfl, .inl ⟨rfl, rfl⟩⟩
theorem va_f (A : List Actor) (hl : (A.length : Int) ≤ 100) (k : Nat) (hk : 101 < k) : thermal_validActors.f k A = some (decide ((A.length : Int) ≤ 32) && vb A) := by
  rw [thermal_validActors.f]
  by_cases h : (A.length : Int) ≤ 32
  · obtain ⟨r, hr, hr'⟩ := va_l1 A hl k 0 (by omega) (by omega) (by omega)
    rw [if_pos h, decide_eq_true h, slices_ContainsFunc_api_Actor_api_Actor__validActors_1.f, slices_IndexFunc_api_Actor_api_Actor__validActors_1.f, bind_s hr]
    rcases hr' with ⟨h1, rfl⟩ | ⟨h1, j, hj, rfl⟩
    · have h1 : vb A = true := by simpa using h1
      rw [h1, el_g]; rfl
    · have h1 : vb A = false := by simpa using h1
      rw [h1, el_r]
      simp [hj]
  · rw [if_neg h, decide_eq_false h]; rfl
def lvl (A : List Actor) (b : Int) : Int := if tot 4294967296 A ≤ b then 4294967296 else srch A b 32 0 4294967296
def alloc (A : List Actor) (b : Int) : List Int × Int :=
  if (decide ((A.length : Int) ≤ 32) && vb A) = true then (if b < tot 0 A then ([], 19) else (dist (lvl A b) (b - tot (lvl A b) A) A, 0)) else ([], 1)
theorem lvl_spec (A : List Actor) (b : Int) (h : ¬ b < tot 0 A) : 0 ≤ lvl A b ∧ lvl A b ≤ 4294967296 ∧ tot (lvl A b) A ≤ b ∧ (lvl A b = 4294967296 ∨ b < tot (lvl A b + 1) A) := by
  unfold lvl
  by_cases h' : tot 4294967296 A ≤ b
  · rw [if_pos h']; exact ⟨by omega, by omega, h', .inl rfl⟩
  · rw [if_neg h']
    have := srch_spec A b 32 0 4294967296 (by omega) (by omega) (by decide) (by omega) (by omega)
    exact ⟨by omega, by omega, this.2.2.1, .inr this.2.2.2⟩
theorem alloc_len (A : List Actor) (b : Int) : ((alloc A b).1.length : Int) ≤ A.length := by
  unfold alloc
  (repeat' split) <;> simp [dist_len]
theorem actors_l1 (a : List Actor) (hw : ∀ x ∈ a, 0 ≤ x.Request ∧ 0 ≤ x.Min ∧ 0 ≤ x.Max) : ∀ (k : Nat) (y : List Actor) (i : Int), 0 ≤ i → (y.length : Int) = i → i ≤ 8 → 8 - i < k → (∀ x ∈ y, okA x ∧ x.Max < 39) → ∃ L, law39_Actors.l1 k a y i = some L ∧ (L.length : Int) ≤ 8 ∧ ∀ x ∈ L, okA x ∧ x.Max < 39
  | 0, _, _, _, _, _, hk, _ => by omega
  | k + 1, y, i, h0, hy, h8, hk, ho => by
    rw [law39_Actors.l1]
    by_cases h : i < (a.length : Int) ∧ i < 8
    · obtain ⟨w1, w2, w3⟩ := hw _ (gd_mem (z := Actor.zero) h0 h.1)
      rw [if_pos h.1, decide_eq_true h.2, bind_s rfl, if_pos rfl, ck_t ⟨h0, h.1⟩, ck_t (by simp; omega), wi (i + 1) (by omega) (by omega), tm _ w1, tm _ w2, tm _ w3, wu _ (by omega) (by omega)]
      refine actors_l1 a hw k _ (i + 1) (by omega) (by simp; omega) (by omega) (by omega) (fun x hx => ?_)
      rcases List.mem_append.1 hx with hx | hx
      · exact ho x hx
      · rw [List.mem_singleton.1 hx]
        refine ⟨⟨?_, ?_, ?_, ?_⟩, ?_⟩ <;> dsimp only <;> omega
    · have hz : (if i < (a.length : Int) then (some (decide (i < 8))) else (some false)) = some false := by
        by_cases h1 : i < (a.length : Int)
        · rw [if_pos h1, decide_eq_false (fun h2 => h ⟨h1, h2⟩)]
        · rw [if_neg h1]
      rw [hz, bind_s rfl, if_neg (by decide)]
      exact ⟨y, rfl, by omega, ho⟩
theorem wfA {a : Actor} (h : a.wf) : 0 ≤ a.Request ∧ 0 ≤ a.Min ∧ 0 ≤ a.Max := ⟨(inK_u64 h.1).1, (inK_u64 h.2.1).1, (inK_u64 h.2.2).1⟩
theorem actors_f (a : List Actor) (hw : ∀ x ∈ a, Actor.wf x) (k : Nat) (hk : 10 ≤ k) : ∃ L, law39_Actors.f k a = some L ∧ (L.length : Int) ≤ 8 ∧ ∀ x ∈ L, okA x ∧ x.Max < 39 := by
  obtain ⟨L, h, h'⟩ := actors_l1 a (fun x hx => wfA (hw x hx)) k [] 0 (by omega) (by simp) (by omega) (by omega) (fun x hx => by cases hx)
  exact ⟨L, by rw [law39_Actors.f, bind_s h], h'⟩
/-! ## MoreBudgetHelps -/
theorem sh_mono (l l' : Int) (a : Actor) (h : l ≤ l') : sh l a ≤ sh l' a := by
  have e1 := mx_ge l a.Min
  have e2 := mx_ge l' a.Min
  have e3 := mn_le (mx l a.Min) (wa a)
  have e4 := mn_le (mx l' a.Min) (wa a)
  unfold sh
  omega
theorem sh_step (l l' : Int) (a : Actor) (ha : okA a) (h : l < l') (h1 : a.Min ≤ l) (h2 : l < wa a) : sh l a + 1 ≤ sh l' a := by
  have e1 := mx_ge l a.Min
  have e2 := mx_ge l' a.Min
  have e3 := mn_le (mx l a.Min) (wa a)
  have e4 := mn_le (mx l' a.Min) (wa a)
  unfold sh
  omega
theorem tot_mono (l l' : Int) (h : l ≤ l') : ∀ A : List Actor, tot l A ≤ tot l' A
  | [] => Int.le_refl _
  | a :: t => by have := sh_mono l l' a h; have := tot_mono l l' h t; simp only [tot]; omega
theorem dist_mono (l l' : Int) (h : l ≤ l') : ∀ (A : List Actor) (_ : ∀ a ∈ A, okA a) (r r' : Int) (_ : l = l' → r ≤ r') (j : Nat), (dist l r A).getD j 0 ≤ (dist l' r' A).getD j 0
  | [], _, _, _, _, _ => by simp [dist]
  | a :: t, hA, r, r', hr, j => by
    have ha := hA a List.mem_cons_self
    have ht : ∀ x ∈ t, okA x := fun x hx => hA x (List.mem_cons_of_mem _ hx)
    have h1 := sh_mono l l' a h
    have h2 := sh_step l l' a ha
    by_cases c : 0 < r ∧ a.Min ≤ l ∧ l < wa a <;> by_cases c' : 0 < r' ∧ a.Min ≤ l' ∧ l' < wa a
    · rw [dist, dist, if_pos c, if_pos c']
      cases j with
      | zero => simp; omega
      | succ j => simpa using dist_mono l l' h t ht (r - 1) (r' - 1) (fun e => by have := hr e; omega) j
    · rw [dist, dist, if_pos c, if_neg c']
      have hl : l < l' := by
        by_cases e : l = l'
        · have := hr e; subst e; exact absurd ⟨by omega, c.2⟩ c'
        · omega
      have := h2 hl c.2.1 c.2.2
      cases j with
      | zero => simp; omega
      | succ j => simpa using dist_mono l l' h t ht (r - 1) r' (fun e => by omega) j
    · rw [dist, dist, if_neg c, if_pos c']
      cases j with
      | zero => simp; omega
      | succ j => simpa using dist_mono l l' h t ht r (r' - 1) (fun e => by have := hr e; subst e; omega) j
    · rw [dist, dist, if_neg c, if_neg c']
      cases j with
      | zero => simp; omega
      | succ j => simpa using dist_mono l l' h t ht r r' hr j
theorem lvl_mono (A : List Actor) (b b' : Int) (hb : b ≤ b') (h : ¬ b < tot 0 A) : lvl A b ≤ lvl A b' := by
  obtain ⟨_, l1, l2, _⟩ := lvl_spec A b h
  obtain ⟨m0, m1, m2, m3⟩ := lvl_spec A b' (by omega)
  rcases m3 with m3 | m3
  · omega
  · refine Int.not_lt.1 (fun hlt => ?_)
    have := tot_mono (lvl A b' + 1) (lvl A b) (by omega) A
    omega
theorem alloc_ok (A : List Actor) (hA : ∀ a ∈ A, okA a) (hl : (A.length : Int) ≤ 32) (b : Int) : alloc A b = if b < tot 0 A then ([], 19) else (dist (lvl A b) (b - tot (lvl A b) A) A, 0) := by
  unfold alloc
  rw [if_pos (by rw [decide_eq_true hl, ok_vb A hA]; rfl)]
theorem alloc_f (A : List Actor) (hw : ∀ a ∈ A, 0 ≤ a.Request ∧ 0 ≤ a.Min) (hl : (A.length : Int) ≤ 100) (b : Int) (hb : 0 ≤ b) (hb2 : b < 18446744073709551616) (k : Nat) (hk : 101 < k) :
    thermal_Allocate.f k b A = some (alloc A b) := by
  rw [thermal_Allocate.f, va_f A hl k hk, alloc, bind_s rfl]
  by_cases hv : (decide ((A.length : Int) ≤ 32) && vb A) = true
  · rw [if_pos hv, if_pos hv]
    simp only [Bool.and_eq_true, decide_eq_true_eq] at hv
    have hA := vb_ok A hw hv.2
    have hl := hv.1
    rw [total_f A hA hl 0 (by omega) k (by omega), bind_s rfl]
    by_cases h0 : b < tot 0 A
    · rw [if_pos h0, if_pos h0]
    · obtain ⟨l0, l1, l2, l3⟩ := lvl_spec A b h0
      have t1 := tot_bd (lvl A b) l0 A hA
      rw [if_neg h0, if_neg h0, total_f A hA hl 4294967296 (by omega) k (by omega), bind_s rfl]
      by_cases h' : tot 4294967296 A ≤ b
      · have e : lvl A b = 4294967296 := if_pos h'
        have t2 := tot_bd 4294967296 (by omega) A hA
        rw [if_pos h', bind_s rfl, srch_l1 A hA hl b 32 k 4294967296 4294967296 (by omega) (by omega) (by omega) (by decide) (by omega)]
        have es : srch A b 32 4294967296 4294967296 = 4294967296 := by rw [srch, if_neg (by omega)]
        rw [es, bind_s rfl, total_f A hA hl 4294967296 (by omega) k (by omega), bind_s rfl, wu _ (by omega) (by omega), dist_l2 A hA hl _ (by omega) k _ [] 0 (by omega) (by omega) (by omega) (by omega) (by omega) (by simp), e]
        simp
      · have e : lvl A b = srch A b 32 0 4294967296 := if_neg h'
        have s1 := srch_l1 A hA hl b 32 k 0 4294967296 (by omega) (by omega) (by omega) (by decide) (by omega)
        rw [if_neg h', bind_s rfl, s1, ← e, bind_s rfl, total_f A hA hl _ l0 k (by omega), bind_s rfl, wu _ (by omega) (by omega), dist_l2 A hA hl _ l0 k _ [] 0 (by omega) (by omega) (by omega) (by omega) (by omega) (by simp)]
        simp
  · rw [if_neg hv, if_neg hv]
/-- the sum of a list -/
def su : List Int → Int
  | [] => 0
  | x :: r => x + su r
theorem dist_su (l : Int) : ∀ (A : List Actor) (r : Int), 0 ≤ r → su (dist l r A) ≤ tot l A + r
  | [], r, h => by simp [dist, su, tot]; exact h
  | a :: t, r, h => by
    rw [dist]
    by_cases c : 0 < r ∧ a.Min ≤ l ∧ l < wa a
    · have := dist_su l t (r - 1) (by omega)
      rw [if_pos c, su, tot]; omega
    · have := dist_su l t r h
      rw [if_neg c, su, tot]; omega
theorem dist_wa (l : Int) (h0 : 0 ≤ l) : ∀ (A : List Actor) (_ : ∀ a ∈ A, okA a) (r : Int) (j : Nat), j < A.length → (A.getD j Actor.zero).Min ≤ (dist l r A).getD j 0 ∧ (dist l r A).getD j 0 ≤ wa (A.getD j Actor.zero)
  | [], _, _, j, h => by simp at h
  | a :: t, hA, r, j, h => by
    have hb := sh_bd l a (hA a List.mem_cons_self) h0
    have ht : ∀ x ∈ t, okA x := fun x hx => hA x (List.mem_cons_of_mem _ hx)
    have e3 := mx_ge l a.Min
    have e4 := mn_le (mx l a.Min) (wa a)
    have hsh : sh l a = mn (mx l a.Min) (wa a) := rfl
    rw [dist]
    by_cases c : 0 < r ∧ a.Min ≤ l ∧ l < wa a
    · rw [if_pos c]
      cases j with
      | zero => simp only [List.getD_cons_zero]; omega
      | succ j => simpa using dist_wa l h0 t ht (r - 1) j (by simpa using h)
    · rw [if_neg c]
      cases j with
      | zero => simp only [List.getD_cons_zero]; omega
      | succ j => simpa using dist_wa l h0 t ht r j (by simpa using h)
end Go.Proofs.Ytannodkbindlbaa.X
