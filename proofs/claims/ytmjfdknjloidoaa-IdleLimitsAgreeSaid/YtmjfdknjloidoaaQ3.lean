/- The laws on the pure side: p37c. -/
import Derived.Test.YtmjfdknjloidoaaQ2
namespace Go.Proofs.Ytmjfdknjloidoaa.X
open Go Go.Sx

/-! ## limits against the reference -/
def Uniq : List (Int × Int) → Prop
  | [] => True
  | p :: r => (∀ q ∈ r, q.1 ≠ p.1) ∧ Uniq r
theorem mput_mem {x v : Int} : ∀ {A : List (Int × Int)}, Uniq A → ∀ p, p ∈ mput A x v ↔ p = (x, v) ∨ (p ∈ A ∧ p.1 ≠ x)
  | [], _, p => by simp [mput]
  | q :: r, h, p => by
    rw [mput]
    split
    · rename_i c
      rw [List.mem_cons, List.mem_cons]
      constructor
      · rintro (h1 | h1)
        · exact .inl h1
        · exact .inr ⟨.inr h1, by have := h.1 p h1; omega⟩
      · rintro (h1 | ⟨h1 | h1, h2⟩)
        · exact .inl h1
        · subst h1; exact absurd c h2
        · exact .inr h1
    · rename_i c
      rw [List.mem_cons, List.mem_cons, mput_mem h.2 p]
      constructor
      · rintro (h1 | h1 | ⟨h1, h2⟩)
        · subst h1; exact .inr ⟨.inl rfl, c⟩
        · exact .inl h1
        · exact .inr ⟨.inr h1, h2⟩
      · rintro (h1 | ⟨h1 | h1, h2⟩)
        · exact .inr (.inl h1)
        · exact .inl h1
        · exact .inr (.inr ⟨h1, h2⟩)
theorem Uniq.put {x v : Int} : ∀ {A : List (Int × Int)}, Uniq A → Uniq (mput A x v)
  | [], _ => ⟨(fun q h => by cases h), trivial⟩
  | q :: r, h => by
    rw [mput]
    split
    · rename_i c; exact ⟨fun p hp => by have := h.1 p hp; show p.1 ≠ x; omega, h.2⟩
    · rename_i c
      refine ⟨fun p hp => ?_, h.2.put⟩
      rcases (mput_mem h.2 p).1 hp with rfl | ⟨hp, _⟩
      · exact fun e => c e.symm
      · exact h.1 p hp
theorem mdel_mem {x : Int} : ∀ {A : List (Int × Int)}, Uniq A → ∀ p, p ∈ mdel A x ↔ p ∈ A ∧ p.1 ≠ x
  | [], _, p => by simp [mdel]
  | q :: r, h, p => by
    rw [mdel]
    split
    · rename_i c
      rw [List.mem_cons]
      constructor
      · intro h1; exact ⟨.inr h1, by have := h.1 p h1; omega⟩
      · rintro ⟨h1 | h1, h2⟩
        · subst h1; exact absurd c h2
        · exact h1
    · rename_i c
      rw [List.mem_cons, List.mem_cons, mdel_mem h.2 p]
      constructor
      · rintro (h1 | ⟨h1, h2⟩)
        · subst h1; exact ⟨.inl rfl, c⟩
        · exact ⟨.inr h1, h2⟩
      · rintro ⟨h1 | h1, h2⟩
        · exact .inl h1
        · exact .inr ⟨h1, h2⟩
theorem Uniq.del {x : Int} : ∀ {A : List (Int × Int)}, Uniq A → Uniq (mdel A x)
  | [], h => h
  | q :: r, h => by
    rw [mdel]
    split
    · exact h.2
    · exact ⟨fun p hp => h.1 p ((mdel_mem h.2 p).1 hp).1, h.2.del⟩
theorem mget_some {x : Int} : ∀ {A : List (Int × Int)}, (mget A x).isSome = true ↔ ∃ p ∈ A, p.1 = x
  | [] => by simp [mget]
  | q :: r => by
    rw [mget]
    split
    · rename_i c; simp [c]
    · rename_i c; rw [mget_some]; simp [c]
/-- the reference's state is the program's -/
structure Agr (A : List (Int × Int)) (H : List Bool) (W : List Int) : Prop where
  u : Uniq A
  lh : H.length = 32
  lw : W.length = 32
  fwd : ∀ p ∈ A, 0 ≤ p.1 ∧ p.1 < 32 ∧ gd false H p.1 = true ∧ gd 0 W p.1 = p.2 ∧ p.2 ≤ 18446744073709551615
  bwd : ∀ j : Int, 0 ≤ j → j < 32 → gd false H j = true → (j, gd 0 W j) ∈ A
theorem Agr.set {A : List (Int × Int)} {H : List Bool} {W : List Int} (h : Agr A H W) {x v : Int} (h0 : 0 ≤ x) (h1 : x < 32) (hv : v ≤ 18446744073709551615) : Agr (mput A x v) (H.set x.toNat true) (W.set x.toNat v) := by
  have lh := h.lh; have lw := h.lw
  refine ⟨h.u.put, by simp [lh], by simp [lw], fun p hp => ?_, fun j j0 j1 hj => ?_⟩
  · rcases (mput_mem h.u p).1 hp with rfl | ⟨hp, hx⟩
    · exact ⟨h0, h1, gd_set_same h0 (by omega), gd_set_same h0 (by omega), hv⟩
    · obtain ⟨q0, q1, q2, q3, q4⟩ := h.fwd p hp
      exact ⟨q0, q1, by rw [gd_set_other h0 (by omega) q0 hx]; exact q2, by rw [gd_set_other h0 (by omega) q0 hx]; exact q3, q4⟩
  · refine (mput_mem h.u _).2 ?_
    by_cases c : j = x
    · subst c; rw [gd_set_same h0 (by omega)]; exact .inl rfl
    · rw [gd_set_other h0 (by omega) j0 c] at hj ⊢
      exact .inr ⟨h.bwd j j0 j1 hj, c⟩
theorem Agr.del {A : List (Int × Int)} {H : List Bool} {W : List Int} (h : Agr A H W) {x : Int} (h0 : 0 ≤ x) (h1 : x < 32) : Agr (mdel A x) (H.set x.toNat false) W := by
  have lh := h.lh
  refine ⟨h.u.del, by simp [lh], h.lw, fun p hp => ?_, fun j j0 j1 hj => ?_⟩
  · obtain ⟨hp, hx⟩ := (mdel_mem h.u p).1 hp
    obtain ⟨q0, q1, q2, q3, q4⟩ := h.fwd p hp
    exact ⟨q0, q1, by rw [gd_set_other h0 (by omega) q0 hx]; exact q2, q3, q4⟩
  · by_cases c : j = x
    · subst c; rw [gd_set_same h0 (by omega)] at hj; cases hj
    · rw [gd_set_other h0 (by omega) j0 c] at hj
      exact (mdel_mem h.u _).2 ⟨h.bwd j j0 j1 hj, c⟩
theorem has_iff {A : List (Int × Int)} {H : List Bool} {W : List Int} (h : Agr A H W) {x : Int} (h0 : 0 ≤ x) (h1 : x < 32) : (mget A x).isSome = true ↔ gd false H x = true := by
  rw [mget_some]
  constructor
  · rintro ⟨p, hp, rfl⟩; exact (h.fwd p hp).2.2.1
  · intro e; exact ⟨_, h.bwd x h0 h1 e, rfl⟩
/-- what the reference's loop knows -/
def LI (H : List Bool) (W : List Int) (i y : Int) (b : Bool) : Prop :=
  (b = false → y = 1152921504606846976 ∧ ∀ j : Int, 0 ≤ j → j < i → gd false H j = false) ∧
  (b = true → (∀ j : Int, 0 ≤ j → j < i → gd false H j = true → y ≤ gd 0 W j) ∧ ∃ j : Int, 0 ≤ j ∧ j < i ∧ gd false H j = true ∧ y = gd 0 W j)
theorem li_step {H : List Bool} {W : List Int} {i y : Int} {b : Bool} (h : LI H W i y b) (i0 : 0 ≤ i) :
    LI H W (i + 1) (if gd false H i = true ∧ (b = false ∨ gd 0 W i < y) then gd 0 W i else y) (if gd false H i = true ∧ (b = false ∨ gd 0 W i < y) then true else b) := by
  obtain ⟨h1, h2⟩ := h
  split
  · rename_i c
    refine ⟨fun e => (by cases e), fun _ => ⟨fun j j0 j1 hj => ?_, ⟨i, i0, by omega, c.1, rfl⟩⟩⟩
    by_cases e : j = i
    · rw [e]; exact Int.le_refl _
    · rcases c.2 with e2 | e2
      · have := (h1 e2).2 j j0 (by omega); rw [this] at hj; cases hj
      · cases b with
        | false => have := (h1 rfl).2 j j0 (by omega); rw [this] at hj; cases hj
        | true => have := (h2 rfl).1 j j0 (by omega) hj; omega
  · rename_i c
    refine ⟨fun e => ⟨(h1 e).1, fun j j0 j1 => ?_⟩, fun e => ⟨fun j j0 j1 hj => ?_, ?_⟩⟩
    · by_cases e2 : j = i
      · subst e2
        cases hh : gd false H j with
        | false => rfl
        | true => exact absurd ⟨hh, .inl e⟩ c
      · exact (h1 e).2 j j0 (by omega)
    · by_cases e2 : j = i
      · subst e2
        exact Int.not_lt.1 (fun e3 => c ⟨hj, .inr e3⟩)
      · exact (h2 e).1 j j0 (by omega) hj
    · obtain ⟨j, j0, j1, j2⟩ := (h2 e).2
      exact ⟨j, j0, by omega, j2⟩
theorem rl_l1 (H : List Bool) (W : List Int) : ∀ (n k : Nat) (y i : Int) (b : Bool), 0 ≤ i → i + n = 32 → n < k → LI H W i y b → ∃ r b', ref37_Limits_Limit.l1 k H W y b i = some r ∧ LI H W 32 r b'
  | _, 0, _, _, _, _, _, hk, _ => by omega
  | 0, k + 1, y, i, b, i0, i1, hk, h => by
    have e : i = 32 := by omega
    subst e
    rw [ref37_Limits_Limit.l1, if_neg (by omega)]
    exact ⟨y, b, rfl, h⟩
  | n + 1, k + 1, y, i, b, i0, i1, hk, h => by
    have hs := li_step h i0
    have hX : ((((ck ((0 : Int) ≤ i ∧ i < 32) (if (gd false H i = true) then (if b = true then (some (true, (decide ((gd 0 W i) < y)))) else (some (false, true))) else (some (b, false))))).bind fun x16 => (if x16.2 = true then (ck ((0 : Int) ≤ i ∧ i < 32) (some ((gd 0 W i), true))) else (some (y, x16.1))))) = some ((if gd false H i = true ∧ (b = false ∨ gd 0 W i < y) then gd 0 W i else y), (if gd false H i = true ∧ (b = false ∨ gd 0 W i < y) then true else b)) := by
      rw [ck_t ⟨i0, by omega⟩, ck_t ⟨i0, by omega⟩]
      cases hh : gd false H i with
      | false => simp
      | true =>
        cases b with
        | false => simp
        | true =>
          by_cases c : gd 0 W i < y
          · simp [c]
          · simp [c]
    rw [ref37_Limits_Limit.l1, if_pos (by omega), bind_s hX, wi (i + 1) (by omega) (by omega)]
    exact rl_l1 H W n k _ (i + 1) _ (by omega) (by omega) (by omega) hs
theorem limits_eq {A : List (Int × Int)} {H : List Bool} {W : List Int} (h : Agr A H W) (k : Nat) (hk : 32 < k) : ∃ r, idle_Limits_Limit.f k A = some r ∧ ref37_Limits_Limit.f k H W = some r := by
  obtain ⟨r, b, r1, r2, r3⟩ := rl_l1 H W 32 k 1152921504606846976 0 false (by omega) (by omega) hk ⟨fun _ => ⟨rfl, fun j j0 j1 => by omega⟩, fun e => (by cases e)⟩
  refine ⟨r, ?_, by rw [ref37_Limits_Limit.f, bind_s r1]⟩
  by_cases e : A = []
  · subst e
    rw [idle_Limits_Limit.f, if_pos (by decide)]
    cases b with
    | false => rw [(r2 rfl).1]
    | true =>
      obtain ⟨j, j0, j1, j2, _⟩ := (r3 rfl).2
      have := h.bwd j j0 j1 j2
      cases this
  · rw [limit_f k A e]
    obtain ⟨p, hp⟩ := List.exists_mem_of_ne_nil A e
    obtain ⟨q0, q1, q2, q3, q4⟩ := h.fwd p hp
    cases b with
    | false => have := (r2 rfl).2 p.1 q0 q1; rw [this] at q2; cases q2
    | true =>
      obtain ⟨g1, j, j0, j1, j2, j3⟩ := r3 rfl
      have le1 : mmin A ≤ r := by rw [j3]; exact (mmin_spec A).2.1 _ (h.bwd j j0 j1 j2)
      have le2 : r ≤ mmin A := by
        rcases (mmin_spec A).2.2 with e2 | ⟨p', hp', e2⟩
        · have := (h.fwd _ (h.bwd j j0 j1 j2)).2.2.2.2
          rw [e2, j3]; exact this
        · obtain ⟨t0, t1, t2, t3, t4⟩ := h.fwd p' hp'
          have := g1 p'.1 t0 t1 t2
          rw [e2, ← t3]; exact this
      rw [Int.le_antisymm le1 le2]
theorem client_f (k : Nat) (x : Int) : idle_isClient.f k x = some (decide (0 ≤ x ∧ x < 32)) := by
  rw [idle_isClient.f]
  by_cases h : 0 ≤ x
  · rw [if_pos h]; simp [h]
  · rw [if_neg h]; simp [h]
theorem rem_f {A : List (Int × Int)} {H : List Bool} {W : List Int} (h : Agr A H W) (x : Int) (k : Nat) : ∃ A' H' e, idle_Limits_Remove.f k A x = some (A', e) ∧ ref37_Limits_Remove.f k H W x = some (H', e) ∧ Agr A' H' W := by
  rw [idle_Limits_Remove.f, ref37_Limits_Remove.f, client_f, bind_s rfl]
  by_cases c : 0 ≤ x ∧ x < 32
  · rw [decide_eq_true c, if_pos rfl, if_neg (show ¬ x < 0 by omega), decide_eq_false (show ¬ 32 ≤ x by omega), bind_s rfl, if_neg (show ¬ (false = true) by decide), ck_t c]
    by_cases g : gd false H x = true
    · rw [if_pos ((has_iff h c.1 c.2).2 g), if_pos g]
      exact ⟨_, _, _, rfl, rfl, h.del c.1 c.2⟩
    · rw [if_neg (fun e => g ((has_iff h c.1 c.2).1 e)), if_neg g]
      exact ⟨_, _, _, rfl, rfl, h⟩
  · have hz : (if x < 0 then (some true) else (some (decide (32 ≤ x)))) = some true := by
      split
      · rfl
      · rw [decide_eq_true (by omega)]
    rw [decide_eq_false c, if_neg (by decide), hz, bind_s rfl, if_pos rfl]
    exact ⟨_, _, _, rfl, rfl, h⟩
theorem sets_f {A : List (Int × Int)} {H : List Bool} {W : List Int} (h : Agr A H W) (x v : Int) (hv : v ≤ 18446744073709551615) (k : Nat) : ∃ A' H' W' e, idle_Limits_Set.f k A x v = some (A', e) ∧ ref37_Limits_Set.f k H W x v = some (H', W', e) ∧ Agr A' H' W' := by
  rw [idle_Limits_Set.f, ref37_Limits_Set.f, client_f, bind_s rfl]
  by_cases c : 0 ≤ x ∧ x < 32
  · rw [decide_eq_true c, if_pos rfl, if_neg (show ¬ x < 0 by omega), decide_eq_false (show ¬ 32 ≤ x by omega), bind_s rfl, if_neg (by decide), ck_t c]
    exact ⟨_, _, _, _, rfl, rfl, h.set c.1 c.2 hv⟩
  · have hz : (if x < 0 then (some true) else (some (decide (32 ≤ x)))) = some true := by
      split
      · rfl
      · rw [decide_eq_true (by omega)]
    rw [decide_eq_false c, if_neg (by decide), hz, bind_s rfl, if_pos rfl]
    exact ⟨_, _, _, _, rfl, rfl, h⟩
theorem la_l1 (a0 : List Request) (hw : ∀ x ∈ a0, Request.wf x) (hl : (a0.length : Int) ≤ 60) : ∀ (n k : Nat) (A : List (Int × Int)) (H : List Bool) (W : List Int) (i : Int), 0 ≤ i → i + n = a0.length → n + 40 < k → Agr A H W → law37_IdleLimitsAgree.l1 k a0 A H W i = some (.go ())
  | _, 0, _, _, _, _, _, _, hk, _ => by omega
  | 0, k + 1, A, H, W, i, i0, i1, hk, h => by rw [law37_IdleLimitsAgree.l1, if_neg (by omega)]
  | n + 1, k + 1, A, H, W, i, i0, i1, hk, h => by
    have hi : i < (a0.length : Int) := by omega
    have hwf := inK_u64 (hw _ (gd_mem (z := Request.zero) i0 hi)).2
    obtain ⟨m, m1, _, _⟩ := mod_ k (gd Request.zero a0 i).Client 5 (by decide) (by decide)
    rw [law37_IdleLimitsAgree.l1, if_pos hi, ck_t ⟨i0, hi⟩, bind_s m1]
    obtain ⟨x, hx⟩ : ∃ x, (if ((gd Request.zero a0 i).Raw) = true then (some ((gd Request.zero a0 i).Client)) else (some m)) = some x := by split <;> exact ⟨_, rfl⟩
    rw [bind_s hx]
    obtain ⟨A', H', W', e, hX, h'⟩ : ∃ A' H' W' e, (if ((gd Request.zero a0 i).Remove) = true then ((idle_Limits_Remove.f k A x).bind fun s42 => ((ref37_Limits_Remove.f k H W x).bind fun s43 => (some (s42.1, s43.1, W, s42.2, s43.2)))) else ((idle_Limits_Set.f k A x ((gd Request.zero a0 i).Latency)).bind fun s45 => ((ref37_Limits_Set.f k H W x ((gd Request.zero a0 i).Latency)).bind fun s46 => (some (s45.1, s46.1, s46.2.1, s45.2, s46.2.2))))) = some (A', H', W', e, e) ∧ Agr A' H' W' := by
      split
      · obtain ⟨A', H', e, e1, e2, e3⟩ := rem_f h x k
        rw [bind_s e1, bind_s e2]
        exact ⟨_, _, _, _, rfl, e3⟩
      · obtain ⟨A', H', W', e, e1, e2, e3⟩ := sets_f h x (gd Request.zero a0 i).Latency (by omega) k
        rw [bind_s e1, bind_s e2]
        exact ⟨_, _, _, _, rfl, e3⟩
    obtain ⟨r, r1, r2⟩ := limits_eq h' k (by omega)
    rw [bind_s hX]
    dsimp only
    rw [if_pos rfl, bind_s r1, bind_s r2, decide_eq_true rfl, bind_s rfl, if_neg (by decide), wi (i + 1) (by omega) (by omega)]
    exact la_l1 a0 hw hl n k A' H' W' (i + 1) (by omega) (by omega) (by omega) h'
theorem pureIdleLimitsAgree : law37_IdleLimitsAgree.Pure := by
  intro a0 h1 h2
  refine ⟨200, ?_⟩
  rw [law37_IdleLimitsAgree.f]
  by_cases h : 60 < (a0.length : Int)
  · rw [if_pos h, bind_s awake200]
  · rw [if_neg h, idle_NewLimits.f, bind_s rfl, ref37_NewLimits.f, bind_s rfl]
    have hA : Agr [] (List.replicate 32 false) (List.replicate 32 0) := by
      refine ⟨trivial, by simp, by simp, fun p hp => (by cases hp), fun j j0 j1 hj => ?_⟩
      rw [gd_rep] at hj; cases hj
    rw [bind_s (la_l1 a0 h2 (by omega) a0.length 200 [] _ _ 0 (by omega) (by omega) (by omega) hA), el_g, bind_s awake200]
end Go.Proofs.Ytmjfdknjloidoaa.X
