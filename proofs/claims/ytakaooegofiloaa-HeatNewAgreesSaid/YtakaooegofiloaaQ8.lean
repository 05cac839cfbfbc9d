/- The laws on the pure side: heatlaw4. -/
import Derived.Test.YtakaooegofiloaaQ7
namespace Go.Proofs.Ytakaooegofiloaa.X
open Go Go.Sx

/-! ## HeatRelabeling -/
theorem sm_last (f : Int → Int) : ∀ (m : Nat) (i : Int), sm f (m + 1) i = sm f m i + f (i + m)
  | 0, i => by simp [sm]
  | m + 1, i => by
    have := sm_last f m (i + 1)
    rw [sm, this, sm]
    rw [show i + 1 + (m : Int) = i + ((m + 1 : Nat) : Int) by omega]
    omega
theorem sm_rev (f : Int → Int) : ∀ (n : Nat), sm (fun j => f ((n : Int) - 1 - j)) n 0 = sm f n 0
  | 0 => rfl
  | n + 1 => by
    have hs : ∀ (m : Nat) (g : Int → Int) (i : Int), sm (fun j => g (j - 1)) m (i + 1) = sm g m i := by
      intro m g
      induction m with
      | zero => intro i; rfl
      | succ m ih => intro i; simp only [sm, ih]; rw [show i + 1 - 1 = i by omega]
    have h1 := hs n (fun j => f ((n : Int) - 1 - j)) 0
    have e : (fun j => (fun j => f ((n : Int) - 1 - j)) (j - 1)) = fun j => f (((n + 1 : Nat) : Int) - 1 - j) := by funext j; dsimp only; congr 1; omega
    rw [e] at h1
    rw [sm_last f n 0, sm, h1, sm_rev f n]
    rw [show ((n + 1 : Nat) : Int) - 1 - 0 = 0 + (n : Int) by omega]
    omega
/-- a link between the renumbered domains -/
def relk (n : Int) (l : HeatLink) : HeatLink := ⟨n - 1 - l.B, n - 1 - l.A, l.Conductance⟩
theorem fl_app (t : Int → Int) (j : Int) (l : HeatLink) : ∀ L : List HeatLink, fl (L ++ [l]) t j = fl L t j + fl [l] t j
  | [] => by simp [fl]
  | x :: r => by
    have := fl_app t j l r
    simp only [List.cons_append, fl] at this ⊢; omega
theorem cs_app1 (j : Int) (l : HeatLink) : ∀ L : List HeatLink, cs (L ++ [l]) j = cs L j + cs [l] j
  | [] => by simp [cs]
  | x :: r => by
    have := cs_app1 j l r
    simp only [List.cons_append, cs] at this ⊢; omega
theorem fl_rel (n : Int) (s t : Int → Int) (h : ∀ j : Int, 0 ≤ j → j < n → s (n - 1 - j) = t j) (j : Int) : ∀ (L : List HeatLink) (_ : ∀ l ∈ L, inL n l), fl ((L.map (relk n)).reverse) s (n - 1 - j) = fl L t j
  | [], _ => rfl
  | l :: r, hL => by
    obtain ⟨a0, a1, b0, b1, _⟩ := hL l List.mem_cons_self
    rw [List.map_cons, List.reverse_cons, fl_app, fl_rel n s t h j r (fun x hx => hL x (List.mem_cons_of_mem _ hx)), fl, fl]
    simp only [relk, fl, h _ a0 a1, h _ b0 b1]
    have e1 : (n - 1 - l.A = n - 1 - j) = (l.A = j) := by simp only [eq_iff_iff]; omega
    have e2 : (n - 1 - l.B = n - 1 - j) = (l.B = j) := by simp only [eq_iff_iff]; omega
    simp only [e1, e2]
    have e3 : l.Conductance * (t l.B - t l.A) = - (l.Conductance * (t l.A - t l.B)) := by rw [← Int.mul_neg]; congr 1; omega
    rw [e3]
    by_cases c1 : l.A = j <;> by_cases c2 : l.B = j <;> simp only [c1, c2, if_true, if_false] <;> omega
theorem cs_rel (n j : Int) : ∀ (L : List HeatLink), cs ((L.map (relk n)).reverse) (n - 1 - j) = cs L j
  | [] => rfl
  | l :: r => by
    rw [List.map_cons, List.reverse_cons, cs_app1, cs_rel n j r, cs, cs]
    have e1 : (n - 1 - l.B = n - 1 - j ∨ n - 1 - l.A = n - 1 - j) = (l.A = j ∨ l.B = j) := by simp only [eq_iff_iff]; omega
    simp only [relk, e1, cs]
    omega
theorem gd_rev {α : Type} (z : α) (L : List α) (j : Int) (j0 : 0 ≤ j) (j1 : j < L.length) : gd z L.reverse j = gd z L (L.length - 1 - j) := by
  unfold gd
  rw [List.getD_eq_getElem?_getD, List.getD_eq_getElem?_getD, List.getElem?_reverse (by omega)]
  congr 2; omega
theorem gd_map {α β : Type} (z : α) (w : β) (f : α → β) (L : List α) (j : Int) (j0 : 0 ≤ j) (j1 : j < L.length) : gd w (L.map f) j = f (gd z L j) := by
  unfold gd
  rw [List.getD_eq_getElem?_getD, List.getD_eq_getElem?_getD, List.getElem?_map, List.getElem?_eq_getElem (show j.toNat < L.length by omega)]
  rfl
theorem rl_l1 (D : List HeatDomain) (L : List HeatLink) (amb : Int) (hn : (D.length : Int) ≤ 20) : ∀ (m k : Nat) (M : List HeatDomain) (i : Int), i + 1 = m → (m : Int) ≤ D.length → M = (D.drop m).reverse → m < k → law38_HeatRelabeling.l1 k (D, L, amb) M i = some D.reverse
  | _, 0, _, _, _, _, _, hk => by omega
  | 0, k + 1, M, i, h0, h1, hM, hk => by
    rw [law38_HeatRelabeling.l1, if_neg (by omega), hM]; simp
  | m + 1, k + 1, M, i, h0, h1, hM, hk => by
    have hi : i < (D.length : Int) := by omega
    have hml : M.length + (m + 1) = D.length := by rw [hM]; simp; omega
    rw [law38_HeatRelabeling.l1, if_pos (by omega)]
    dsimp only
    rw [ck_t ⟨by omega, hi⟩, ck_t (by simp; omega), wi (i - 1) (by omega) (by omega)]
    refine rl_l1 D L amb hn m k _ (i - 1) (by omega) (by omega) ?_ (by omega)
    have := drop_gd (z := HeatDomain.zero) (xs := D) (i := i) (by omega) hi
    rw [show i.toNat = m by omega, show (i + 1).toNat = m + 1 by omega] at this
    rw [this, List.reverse_cons, hM]
theorem rl_l2 (D : List HeatDomain) (L : List HeatLink) (amb : Int) (hn : (D.length : Int) ≤ 20) (hl : (L.length : Int) ≤ 20) (hL : ∀ l ∈ L, inL D.length l) : ∀ (m k : Nat) (M : List HeatLink) (i : Int), i + 1 = m → (m : Int) ≤ L.length → M = ((L.drop m).map (relk D.length)).reverse → m < k → law38_HeatRelabeling.l2 k (D, L, amb) M i = some (L.map (relk D.length)).reverse
  | _, 0, _, _, _, _, _, hk => by omega
  | 0, k + 1, M, i, h0, h1, hM, hk => by
    rw [law38_HeatRelabeling.l2, if_neg (by omega), hM]; simp
  | m + 1, k + 1, M, i, h0, h1, hM, hk => by
    have hi : i < (L.length : Int) := by omega
    have hml : M.length + (m + 1) = L.length := by rw [hM]; simp; omega
    obtain ⟨a0, a1, b0, b1, _⟩ := hL _ (gd_mem (z := HeatLink.zero) (show 0 ≤ i by omega) hi)
    rw [law38_HeatRelabeling.l2, if_pos (by omega)]
    dsimp only
    rw [ck_t ⟨by omega, hi⟩, ck_t (by simp; omega), wi (i - 1) (by omega) (by omega), wi ((D.length : Int) - 1) (by omega) (by omega), wi (_ - _) (by omega) (by omega), wi (_ - _) (by omega) (by omega)]
    refine rl_l2 D L amb hn hl hL m k _ (i - 1) (by omega) (by omega) ?_ (by omega)
    have := drop_gd (z := HeatLink.zero) (xs := L) (i := i) (by omega) hi
    rw [show i.toNat = m by omega, show (i + 1).toNat = m + 1 by omega] at this
    rw [this, List.map_cons, List.reverse_cons, hM]
    rfl
theorem rl_l4 (D : List HeatDomain) (L : List HeatLink) (amb : Int) (hn : (D.length : Int) ≤ 20) (P : List Int) (hP : P.length = D.length) (hp : ∀ x ∈ P, 0 ≤ x ∧ x ≤ 200) : ∀ (m k : Nat) (Q : List Int) (i : Int), 0 ≤ i → i + m = D.length → m < k → Q.length = D.length → (∀ x ∈ Q, 0 ≤ x ∧ x ≤ 200) → (∀ j : Int, 0 ≤ j → j < i → gd 0 Q (D.length - 1 - j) = gd 0 P j) →
    ∃ Q', law38_HeatRelabeling.l4 k (D, L, amb) P Q i = some Q' ∧ Q'.length = D.length ∧ (∀ x ∈ Q', 0 ≤ x ∧ x ≤ 200) ∧ ∀ j : Int, 0 ≤ j → j < D.length → gd 0 Q' (D.length - 1 - j) = gd 0 P j
  | _, 0, _, _, _, _, hk, _, _, _ => by omega
  | 0, k + 1, Q, i, h0, h1, hk, hQ, hx, hj => by
    rw [law38_HeatRelabeling.l4, if_neg (by dsimp only; omega)]
    exact ⟨Q, rfl, hQ, hx, fun j j0 j1 => hj j j0 (by omega)⟩
  | m + 1, k + 1, Q, i, h0, h1, hk, hQ, hx, hj => by
    have hi : i < (D.length : Int) := by omega
    rw [law38_HeatRelabeling.l4]
    dsimp only
    rw [if_pos hi, ck_t ⟨h0, by omega⟩, wi ((D.length : Int) - 1) (by omega) (by omega), wi (_ - i) (by omega) (by omega), ck_t ⟨by omega, by omega⟩, wi (i + 1) (by omega) (by omega)]
    refine rl_l4 D L amb hn P hP hp m k _ (i + 1) (by omega) (by omega) (by omega) (by simpa using hQ) (fun x hx' => ?_) (fun j j0 j1 => ?_)
    · rcases List.mem_or_eq_of_mem_set hx' with h | h
      · exact hx x h
      · rw [h]; exact gd_pv (by omega) hp i
    · rw [gd_set (by omega) (by omega) (by omega)]
      by_cases c : j = i
      · rw [if_pos (by omega), c]
      · rw [if_neg (by omega)]; exact hj j j0 (by omega)
/-- the second model is the first one, renumbered -/
def Rel (n : Int) (E F : List Int) : Prop := ∀ j : Int, 0 ≤ j → j < n → gd 0 F (n - 1 - j) = gd 0 E j
theorem rel_t {D : List HeatDomain} {E F : List Int} (h : Rel D.length E F) {j : Int} (j0 : 0 ≤ j) (j1 : j < D.length) : tpf D.reverse F (D.length - 1 - j) = tpf D E j := by
  unfold tpf
  rw [h j j0 j1, gd_rev _ _ _ (by omega) (by omega)]
  congr 3; omega
theorem rl_l5 (D : List HeatDomain) (L : List HeatLink) (amb : Int) (E F E0 F0 : List Int) (rel e0 f0 : Int) (L' : List HeatLink) (hE : E.length = D.length) (hF : F.length = D.length) (hR : Rel D.length E F) (hn : (D.length : Int) ≤ 20) : ∀ (m k : Nat) (i : Int), 0 ≤ i → i + m = D.length → m < k →
    law38_HeatRelabeling.l5 k (D, L, amb) (rel, E, temps D E, 0) (rel, F, temps D.reverse F, 0) (D, L, amb, E0, e0) (D.reverse, L', amb, F0, f0) i = some (.go (E, rel, F, rel))
  | _, 0, _, _, _, hk => by omega
  | 0, k + 1, i, h0, h1, hk => by rw [law38_HeatRelabeling.l5, if_neg (by dsimp only; omega)]
  | m + 1, k + 1, i, h0, h1, hk => by
    have hi : i < (D.length : Int) := by omega
    have hr : (D.reverse.length : Int) = D.length := by simp
    rw [law38_HeatRelabeling.l5]
    dsimp only
    rw [if_pos hi, ck_t ⟨h0, by rw [temps_len]; exact hi⟩, wi ((D.length : Int) - 1) (by omega) (by omega), wi (_ - i) (by omega) (by omega), ck_t ⟨by omega, by rw [temps_len]; omega⟩, temps_gd D E i h0 hi, temps_gd D.reverse F _ (by omega) (by omega), rel_t hR h0 hi, if_pos rfl, energy_in D L _ E _ i hE k h0 hi, energy_in D.reverse L' _ F _ _ (by simpa using hF) k (by omega) (by omega), hR i h0 hi, bind_s rfl, bind_s rfl, decide_eq_true rfl, bind_s rfl, if_neg (by decide), wi (i + 1) (by omega) (by omega)]
    exact rl_l5 D L amb E F E0 F0 rel e0 f0 L' hE hF hR hn m k (i + 1) (by omega) (by omega) (by omega)
theorem rel_nxt {D : List HeatDomain} {L : List HeatLink} (hL : ∀ l ∈ L, inL D.length l) {E F p q : List Int} (h : Rel D.length E F) (hp : Rel D.length p q) (amb : Int) (j : Int) (j0 : 0 ≤ j) (j1 : j < D.length) : nxt D.reverse (L.map (relk D.length)).reverse amb F q (D.length - 1 - j) = nxt D L amb E p j := by
  unfold nxt
  rw [fl_rel D.length _ (tpf D E) (fun i i0 i1 => rel_t h i0 i1) j L hL, rel_t h j0 j1, h j j0 j1, hp j j0 j1, gd_rev _ _ _ (by omega) (by omega), show (D.length : Int) - 1 - (D.length - 1 - j) = j by omega]
theorem rel_outs {D : List HeatDomain} {E F : List Int} (h : Rel D.length E F) (amb : Int) : outs D.reverse (tpf D.reverse F) amb D.reverse.length 0 = outs D (tpf D E) amb D.length 0 := by
  rw [outs_sm, outs_sm, List.length_reverse, ← sm_rev (fun j => (gd HeatDomain.zero D.reverse j).Ambient * (tpf D.reverse F j - amb))]
  refine sm_cong _ _ _ _ (by omega) (fun j j0 j1 => ?_)
  have j1' : j < D.length := by omega
  rw [rel_t h j0 j1', gd_rev _ _ _ (by omega) (by omega), show (D.length : Int) - 1 - (D.length - 1 - j) = j by omega]
theorem rel_V {D : List HeatDomain} {L : List HeatLink} {amb : Int} (v : V D L amb) : V D.reverse (L.map (relk D.length)).reverse amb := by
  obtain ⟨hn, ⟨l1, l2⟩, d1⟩ := v
  have hr : (D.reverse.length : Int) = D.length := by simp
  have hg : ∀ m : Int, 0 ≤ m → m < L.length → gd HeatLink.zero (L.map (relk D.length)).reverse m = relk D.length (gd HeatLink.zero L (L.length - 1 - m)) := by
    intro m m0 m1
    rw [gd_rev _ _ _ m0 (by simpa using m1), List.length_map, gd_map HeatLink.zero HeatLink.zero _ _ _ (by omega) (by omega)]
  refine ⟨by rw [hr]; exact hn, ⟨fun m m0 m1 => ?_, fun m q q0 q1 q2 => ?_⟩, fun j j0 j1 => ?_⟩
  · have m1 : m < L.length := by simpa using m1
    rw [hg m m0 m1, hr]
    obtain ⟨⟨a0, a1, b0, b1, ab, c0⟩, c1⟩ := l1 (L.length - 1 - m) (by omega) (by omega)
    refine ⟨⟨?_, ?_, ?_, ?_, ?_, c0⟩, c1⟩ <;> dsimp only [relk] <;> omega
  · have q2 : m < L.length := by simpa using q2
    rw [hg m (by omega) q2, hg q q0 (by omega)]
    have := l2 (L.length - 1 - q) (L.length - 1 - m) (by omega) (by omega) (by omega)
    unfold conn at this ⊢
    dsimp only [relk]
    omega
  · rw [hr] at j1
    have := d1 (D.length - 1 - j) (by omega) (by omega)
    rw [gd_rev _ _ _ j0 j1]
    have e := cs_rel D.length (D.length - 1 - j) L
    rw [show (D.length : Int) - 1 - (D.length - 1 - j) = j by omega] at e
    rw [e]; exact this
theorem rl_l3 (a3 : List (List Int)) (h3 : (a3.length : Int) ≤ 30) (D : List HeatDomain) (L : List HeatLink) (amb : Int) (hL : ∀ l ∈ L, inL D.length l) (E0 F0 : List Int) (e0 f0 : Int) : ∀ (m k : Nat) (E F : List Int) (rel i : Int), 0 ≤ i → i + m = a3.length → m + 60 < k → Mod D L E rel → Mod D.reverse (L.map (relk D.length)).reverse F rel → Rel D.length E F →
    ∃ E' F' rel', law38_HeatRelabeling.l3 k a3 (D, L, amb) (D, L, amb, E0, e0) (D.reverse, (L.map (relk D.length)).reverse, amb, F0, f0) E rel F rel i = some (.go (E', rel', F', rel'))
  | _, 0, _, _, _, _, _, _, hk, _, _, _ => by omega
  | 0, k + 1, E, F, rel, i, h0, h1, hk, hM, hM2, hR => by
    rw [law38_HeatRelabeling.l3, if_neg (by omega)]; exact ⟨_, _, _, rfl⟩
  | m + 1, k + 1, E, F, rel, i, h0, h1, hk, hM, hM2, hR => by
    have hn := hM.n
    have hr : D.reverse.length = D.length := by simp
    obtain ⟨P, p1, p2, p3⟩ := powers_f (gd [] a3 i) D.length 200 (by omega) hn (by omega) (by omega) k (by omega)
    obtain ⟨Q, q1, q2, q3, q4⟩ := rl_l4 D L amb hn P (by omega) p3 D.length k (List.replicate (D.length : Int).toNat 0) 0 (by omega) (by omega) (by omega) (by simp) (fun x hx => by rw [List.eq_of_mem_replicate hx]; omega) (fun j j0 j1 => by omega)
    obtain ⟨E', e1, e2, e3⟩ := step_f hM amb P (by omega) (pvb_of P (fun x hx => by have := p3 x hx; omega)) k (by omega)
    obtain ⟨F', f1, f2, f3⟩ := step_f hM2 amb Q (by rw [hr]; exact q2) (pvb_of Q (fun x hx => by have := q3 x hx; omega)) k (by omega)
    rw [rel_outs hR amb] at f1 f2
    have hR' : Rel D.length E' F' := by
      intro j j0 j1
      rw [f3 (D.length - 1 - j) (by omega) (by rw [hr]; omega), e3 j j0 j1, rel_nxt hL hR q4 amb j j0 j1]
    have hl := f2.len
    rw [law38_HeatRelabeling.l3]
    dsimp only
    rw [if_pos (by omega), ck_t ⟨h0, by omega⟩, bind_s p1, ck_t ⟨by omega, by omega⟩, bind_s q1, bind_s e1, bind_s f1]
    dsimp only
    rw [if_pos rfl, if_pos rfl, temps_len, temps_len, hr, if_pos rfl, decide_eq_true rfl, bind_s rfl, if_neg (by decide), rl_l5 D L amb E' F' E0 F0 _ e0 f0 _ e2.len (by rw [hl, hr]) hR' hn D.length k 0 (by omega) (by omega) (by omega), bind_s rfl, el_g]
    dsimp only
    rw [wi (i + 1) (by omega) (by omega)]
    exact rl_l3 a3 h3 D L amb hL E0 F0 e0 f0 m k E' F' _ (i + 1) (by omega) (by omega) (by omega) e2 f2 hR'
theorem pureHeatRelabeling : law38_HeatRelabeling.Pure := by
  intro a b c a3 _ _ _ _ _ _ _
  refine ⟨200, ?_⟩
  rw [law38_HeatRelabeling.f]
  by_cases h : 30 < (a3.length : Int)
  · rw [if_pos h, bind_s awake]
  · obtain ⟨D, L, amb, s1, s2, _⟩ := some_f a b c 200 (by omega)
    have hv := s2.v amb (by have := s2.a0; omega) (by have := s2.a1; omega)
    have hv2 := rel_V hv
    have hn := s2.n5; have hl := s2.l12
    have hL := fun l hl => (s2.links l hl).1
    obtain ⟨_, n1⟩ | ⟨n1, _⟩ := new_f D L amb (by omega) 200 (by omega)
    · obtain ⟨_, n2⟩ | ⟨n2, _⟩ := new_f D.reverse (L.map (relk D.length)).reverse amb (by simp; omega) 200 (by omega)
      · have hM := hv.mod (by omega)
        have hM2 := hv2.mod (by simp; omega)
        have hR : Rel D.length (init D amb) (init D.reverse amb) := by
          intro j j0 j1
          rw [init_gd D _ j j0 j1, init_gd D.reverse _ _ (by omega) (by simp; omega), gd_rev _ _ _ (by omega) (by omega), show (D.length : Int) - 1 - (D.length - 1 - j) = j by omega]
        obtain ⟨E', F', r', l3⟩ := rl_l3 a3 (by omega) D L amb hL (init D amb) (init D.reverse amb) 0 0 a3.length 200 _ _ 0 0 (by omega) (by omega) (by omega) hM hM2 hR
        rw [if_neg h, bind_s s1]
        dsimp only
        rw [wi ((D.length : Int) - 1) (by omega) (by omega), wi ((L.length : Int) - 1) (by omega) (by omega), rl_l1 D L amb (by omega) D.length 200 [] _ (by omega) (by omega) (by simp) (by omega), bind_s rfl, rl_l2 D L amb (by omega) (by omega) hL L.length 200 [] _ (by omega) (by omega) (by simp) (by omega), bind_s rfl, bind_s n1]
        dsimp only [Option.elim]
        rw [bind_s n2]
        dsimp only [Option.elim]
        rw [if_pos rfl, if_pos rfl, bind_s rfl, if_neg (by decide), bind_s l3, el_g]
        dsimp only
        rw [heat_Model_Released.f, bind_s rfl, heat_Model_Released.f, bind_s rfl, if_pos rfl, bind_s awake]
      · exact absurd hv2 n2
    · exact absurd hv n1

/-! ## HeatEquilibrium -/
theorem awakeL : law38_awake.f 2500 = some true := by decide +kernel
theorem inv_amb {D : List HeatDomain} {amb : Int} {E : List Int} (h : Inv D amb amb E) (j : Int) (j0 : 0 ≤ j) (j1 : j < D.length) (hC : 1 ≤ (gd HeatDomain.zero D j).Capacity) : tpf D E j = amb := by
  have := inv_t h j0 j1 hC; omega
theorem eq_l2 (D : List HeatDomain) (L : List HeatLink) (amb : Int) (E : List Int) (rel : Int) (hn : (D.length : Int) ≤ 20) (ht : ∀ j : Int, 0 ≤ j → j < D.length → tpf D E j = amb) : ∀ (m k : Nat) (i : Int), 0 ≤ i → i + m = D.length → m < k →
    law38_HeatEquilibrium.l2 k (rel, E, temps D E, 0) (D, L, amb) i = some (.go (E, rel))
  | _, 0, _, _, _, hk => by omega
  | 0, k + 1, i, h0, h1, hk => by rw [law38_HeatEquilibrium.l2, if_neg (by dsimp only; rw [temps_len]; omega)]
  | m + 1, k + 1, i, h0, h1, hk => by
    have hi : i < (D.length : Int) := by omega
    rw [law38_HeatEquilibrium.l2]
    dsimp only
    rw [temps_len, if_pos hi, ck_t ⟨h0, hi⟩, temps_gd D E i h0 hi, if_pos (ht i h0 hi), wi (i + 1) (by omega) (by omega)]
    exact eq_l2 D L amb E rel hn ht m k (i + 1) (by omega) (by omega) (by omega)
theorem eq_l1 (D : List HeatDomain) (L : List HeatLink) (amb : Int) (v : V D L amb) (E0 : List Int) (r0 : Int) : ∀ (m k : Nat) (E : List Int) (i : Int), 0 ≤ i → i + m = 5 → m + 60 < k → Mod D L E 0 → Inv D amb amb E →
    ∃ E', law38_HeatEquilibrium.l1 k (D, L, amb) (D, L, amb, E0, r0) E 0 i = some (.go (E', 0))
  | _, 0, _, _, _, _, hk, _, _ => by omega
  | 0, k + 1, E, i, h0, h1, hk, hM, hI => by
    rw [law38_HeatEquilibrium.l1, if_neg (by omega)]; exact ⟨_, rfl⟩
  | m + 1, k + 1, E, i, h0, h1, hk, hM, hI => by
    have hn := hM.n; have ha := v.1
    have ho : outs D (tpf D E) amb D.length 0 = 0 := by
      rw [outs_sm, sm_cong _ (fun _ => 0) _ _ (by omega) (fun j j0 j1 => by rw [inv_amb hI j j0 (by omega) (v.amb1 j j0 (by omega)).2.2.1, Int.sub_self, Int.mul_zero]), sm_zero]
    obtain ⟨E', e1, e2, e3, e4⟩ := step_inv hM v (amb := amb) (b := amb) (by omega) (by omega) (by omega) (List.replicate (D.length : Int).toNat 0) hI (by simp) (fun x hx => by rw [List.eq_of_mem_replicate hx]; omega) (fun j j0 j1 => by rw [gd_rep, Int.sub_self, Int.mul_zero]; omega) k (by omega)
    rw [ho, Int.add_zero, ws_in (by omega) (by omega)] at e1 e2
    rw [law38_HeatEquilibrium.l1, if_pos (by omega)]
    dsimp only
    rw [ck_t ⟨by omega, by omega⟩, bind_s e1]
    dsimp only
    rw [if_pos rfl, temps_len, decide_eq_true rfl, bind_s rfl, if_neg (by decide), eq_l2 D L amb E' 0 hn (fun j j0 j1 => inv_amb e4 j j0 j1 (v.amb1 j j0 j1).2.2.1) D.length k 0 (by omega) (by omega) (by omega), bind_s rfl, el_g]
    dsimp only
    rw [wi (i + 1) (by omega) (by omega)]
    exact eq_l1 D L amb v E0 r0 m k E' (i + 1) (by omega) (by omega) (by omega) e2 e4
/-- one domain alone, with the power that keeps it n degrees above -/
theorem one_step {d : HeatDomain} {E : List Int} {rel amb n : Int} (hM : Mod [d] [] E rel) (v : V [d] [] amb) (am : -100 ≤ amb ∧ amb ≤ 100) (hd : 1 ≤ d.Ambient ∧ d.Ambient ≤ 6) (n0 : 0 ≤ n) (n1 : n ≤ 7) (hI : Inv [d] amb (amb + n) E) (k : Nat) (hk : 21 < k) :
    ∃ E' rel', heat_Model_Step.f k [d] [] amb E rel [ws (n * d.Ambient)] = some (rel', E', temps [d] E', 0) ∧ Mod [d] [] E' rel' ∧ Inv [d] amb (amb + n) E' ∧ gd 0 E' 0 = gd 0 E 0 + n * d.Ambient - d.Ambient * (tpf [d] E 0 - amb) := by
  have hb := mul_bd n0 n1 (show 0 ≤ d.Ambient by omega) hd.2
  have hw : ws (n * d.Ambient) = n * d.Ambient := ws_in (by omega) (by omega)
  rw [hw]
  obtain ⟨E', e1, e2, e3, e4⟩ := step_inv hM v (amb := amb) (b := amb + n) (by omega) (by omega) (by omega) [n * d.Ambient] hI rfl (fun x hx => by rw [List.mem_singleton.1 hx]; omega) (fun j j0 j1 => by
    have : j = 0 := by simp at j1; omega
    subst this
    rw [show amb + n - amb = n by omega, Int.mul_comm]; exact Int.le_refl _) k hk
  refine ⟨E', _, e1, e2, e4, ?_⟩
  rw [e3 0 (by omega) (by simp)]
  unfold nxt
  simp only [fl]
  show gd 0 E 0 + n * d.Ambient - d.Ambient * (tpf [d] E 0 - amb) + 0 = _
  omega
theorem eq_l3 (d : HeatDomain) (s : List HeatDomain × List HeatLink × Int) (amb n w : Int) (hs : (gd HeatDomain.zero s.1 0) = d) (hs2 : s.2.2 = amb) (hw : IntKind.i64.wrap (Int.tmod w 8) = n) (v : V [d] [] amb) (am : -100 ≤ amb ∧ amb ≤ 100) (hd : 1 ≤ d.Ambient ∧ d.Ambient ≤ 6) (n0 : 0 ≤ n) (n1 : n ≤ 7) (E0 : List Int) (r0 : Int) : ∀ (m k : Nat) (E : List Int) (rel i : Int), 0 ≤ i → i + m < 2000 → m + 60 < k → Mod [d] [] E rel → Inv [d] amb (amb + n) E → d.Capacity * (amb + n) - gd 0 E 0 ≤ m →
    ∃ E' rel', law38_HeatEquilibrium.l3 k ([d], [], amb, E0, r0) s w E rel i = some (.go (E', rel')) ∧ Mod [d] [] E' rel' ∧ Inv [d] amb (amb + n) E' ∧ tpf [d] E' 0 = amb + n
  | _, 0, _, _, _, _, _, hk, _, _, _ => by omega
  | m, k + 1, E, rel, i, h0, h1, hk, hM, hI, hm => by
    have hc : 1 ≤ d.Capacity := (v.amb1 0 (by omega) (by simp)).2.2.1
    have ht := inv_t hI (j := 0) (by omega) (by simp) hc
    rw [law38_HeatEquilibrium.l3, if_pos (by omega)]
    dsimp only
    rw [temperature_f hM amb 0 (by omega) (by simp) k (by omega), bind_s rfl, hs, hs2, hw, wi (amb + n) (by omega) (by omega)]
    by_cases c : tpf [d] E 0 = amb + n
    · rw [if_pos c]
      exact ⟨E, rel, rfl, hM, hI, c⟩
    · rw [if_neg c]
      obtain ⟨E', rel', e1, e2, e3, e4⟩ := one_step hM v am hd n0 n1 hI k (by omega)
      rw [bind_s e1]
      dsimp only
      rw [if_pos rfl, wi (i + 1) (by omega) (by omega)]
      have h5 : tpf [d] E 0 - amb + 1 ≤ n := by omega
      have h6 := Int.mul_le_mul_of_nonneg_left h5 (show 0 ≤ d.Ambient by omega)
      rw [Int.mul_add, Int.mul_one, Int.mul_comm d.Ambient n] at h6
      cases m with
      | zero =>
        exfalso
        have : amb + n ≤ tpf [d] E 0 := Int.le_ediv_of_mul_le (show 0 < (gd HeatDomain.zero [d] 0).Capacity from hc) (show (amb + n) * d.Capacity ≤ gd 0 E 0 by rw [Int.mul_comm]; omega)
        omega
      | succ m => exact eq_l3 d s amb n w hs hs2 hw v am hd n0 n1 E0 r0 m k E' rel' (i + 1) (by omega) (by omega) (by omega) e2 e3 (by omega)
theorem eq_l4 (d : HeatDomain) (s : List HeatDomain × List HeatLink × Int) (amb n w : Int) (hs : (gd HeatDomain.zero s.1 0) = d) (hs2 : s.2.2 = amb) (hw : IntKind.i64.wrap (Int.tmod w 8) = n) (v : V [d] [] amb) (am : -100 ≤ amb ∧ amb ≤ 100) (hd : 1 ≤ d.Ambient ∧ d.Ambient ≤ 6) (n0 : 0 ≤ n) (n1 : n ≤ 7) (E0 : List Int) (r0 : Int) : ∀ (m k : Nat) (E : List Int) (rel i : Int), 0 ≤ i → i + m = 5 → m + 60 < k → Mod [d] [] E rel → Inv [d] amb (amb + n) E → tpf [d] E 0 = amb + n →
    law38_HeatEquilibrium.l4 k ([d], [], amb, E0, r0) s w E rel i = some (.go ())
  | _, 0, _, _, _, _, _, hk, _, _, _ => by omega
  | 0, k + 1, E, rel, i, h0, h1, hk, hM, hI, ht => by rw [law38_HeatEquilibrium.l4, if_neg (by omega)]
  | m + 1, k + 1, E, rel, i, h0, h1, hk, hM, hI, ht => by
    obtain ⟨E', rel', e1, e2, e3, e4⟩ := one_step hM v am hd n0 n1 hI k (by omega)
    have ht' : tpf [d] E' 0 = amb + n := by
      rw [ht, show amb + n - amb = n by omega, Int.mul_comm n] at e4
      unfold tpf at ht ⊢
      rw [e4, show gd 0 E 0 + d.Ambient * n - d.Ambient * n = gd 0 E 0 by omega]; exact ht
    rw [law38_HeatEquilibrium.l4, if_pos (by omega)]
    dsimp only
    rw [temperature_f hM amb 0 (by omega) (by simp) k (by omega), bind_s rfl, hs, hs2, hw, wi (amb + n) (by omega) (by omega), if_pos ht, bind_s e1]
    dsimp only
    rw [if_pos rfl, wi (i + 1) (by omega) (by omega)]
    exact eq_l4 d s amb n w hs hs2 hw v am hd n0 n1 E0 r0 m k E' rel' (i + 1) (by omega) (by omega) (by omega) e2 e3 ht'
theorem pureHeatEquilibrium : law38_HeatEquilibrium.Pure := by
  intro a b c w _ _ _ _ _ hw
  have w0 : (0 : Int) ≤ w := hw.1
  refine ⟨2500, ?_⟩
  rw [law38_HeatEquilibrium.f]
  obtain ⟨D, L, amb, s1, s2, _⟩ := some_f a b c 2500 (by omega)
  have am0 := s2.a0; have am1 := s2.a1
  have hv := s2.v amb (by omega) (by omega)
  have hn := s2.n5; have hl := s2.l12; have hn1 := s2.n1
  obtain ⟨d, hd⟩ : ∃ d, gd HeatDomain.zero D 0 = d := ⟨_, rfl⟩
  have hdd := s2.dom 0 (by omega) (by omega)
  rw [hd] at hdd
  have hD1 : (D.drop 0).take ((1 : Int).toNat - 0) = [d] := by
    cases D with
    | nil => simp at hn1
    | cons x r => have : x = d := hd; subst this; rfl
  have hv1 : V [d] [] amb := by
    refine ⟨⟨by simp, by simp, by omega, by omega⟩, ⟨fun m m0 m1 => by simp at m1; omega, fun m q q0 q1 q2 => by simp at q2; omega⟩, fun j j0 j1 => ?_⟩
    have : j = 0 := by simp at j1; omega
    subst this
    have e : gd HeatDomain.zero [d] 0 = d := rfl
    rw [e]; simp only [cs]; omega
  obtain ⟨_, n1⟩ | ⟨n1, _⟩ := new_f D L amb (by omega) 2500 (by omega)
  · obtain ⟨_, n2⟩ | ⟨n2, _⟩ := new_f [d] [] amb (by simp) 2500 (by omega)
    · have hM := hv.mod (by omega)
      have hM2 := hv1.mod (by simp)
      have hw8 : IntKind.i64.wrap (Int.tmod w 8) = w % 8 := by rw [tm _ w0, wi _ (by omega) (by omega)]
      obtain ⟨E1, l1⟩ := eq_l1 D L amb hv (init D amb) 0 5 2500 _ 0 (by omega) (by omega) (by omega) hM (inv_init hv _ (by omega))
      have hI2 := inv_init hv1 (amb + w % 8) (by omega)
      have hE2 : gd 0 (init [d] amb) 0 = d.Capacity * amb := by
        have := hI2 0 (by omega) (by simp)
        have g1 := mul_in (C := d.Capacity) (x := amb) (X := 100) (by omega) (by omega) (by omega) (by omega)
        rw [init_gd [d] amb 0 (by omega) (by simp)]
        exact ws_in (by show -9223372036854775808 ≤ d.Capacity * amb; omega) (by show d.Capacity * amb < _; omega)
      have hb := mul_bd (show 0 ≤ d.Capacity by omega) hdd.2.2.2.1 (show 0 ≤ w % 8 by omega) (show w % 8 ≤ 7 by omega)
      obtain ⟨E2, r2, l3, m2, i2, t2⟩ := eq_l3 d (D, L, amb) amb (w % 8) w hd rfl hw8 hv1 ⟨am0, am1⟩ ⟨hdd.1, hdd.2.1⟩ (by omega) (by omega) (init [d] amb) 0 600 2500 _ 0 0 (by omega) (by omega) (by omega) hM2 hI2 (by rw [hE2, Int.mul_add]; omega)
      rw [bind_s s1]
      dsimp only
      rw [bind_s n1]
      dsimp only [Option.elim]
      rw [ck_t ⟨by omega, by omega, by omega⟩, hD1, bind_s n2]
      dsimp only [Option.elim]
      rw [if_pos rfl, if_pos rfl, bind_s rfl, if_neg (by decide), bind_s l1, el_g, ck_t ⟨by omega, by omega⟩, bind_s l3, el_g, eq_l4 d (D, L, amb) amb (w % 8) w hd rfl hw8 hv1 ⟨am0, am1⟩ ⟨hdd.1, hdd.2.1⟩ (by omega) (by omega) (init [d] amb) 0 5 2500 E2 r2 0 (by omega) (by omega) (by omega) m2 i2 t2, bind_s rfl, el_g, heat_Model_Released.f, bind_s rfl, if_pos rfl, bind_s awakeL]
    · exact absurd hv1 n2
  · exact absurd hv n1
end Go.Proofs.Ytakaooegofiloaa.X
