/- The laws on the pure side: th2. -/
import Derived.Test.YtannodkbindlbaaQ7
namespace Go.Proofs.Ytannodkbindlbaa.X
open Go Go.Sx

/-! ## ThermalDomainsKeepLimit -/
/-- the actors of the domains: nothing is asked for at least, the sustainable power at most -/
def Act (D : List HeatDomain) (n : Int) (X : List Actor) (i : Int) : Prop := X.length = D.length ∧ ∀ j : Int, 0 ≤ j → j < D.length → 0 ≤ (gd Actor.zero X j).Request ∧ (gd Actor.zero X j).Min = 0 ∧ (j < i → (gd Actor.zero X j).Max = (gd HeatDomain.zero D j).Ambient * n)
theorem dl_l1 (D : List HeatDomain) (L : List HeatLink) (amb : Int) (s : Sys D L amb) (w n : Int) (hw : IntKind.i64.wrap (Int.tmod (IntKind.u64.wrap w) 60) = n) (n0 : 0 ≤ n) (n1 : n ≤ 60) : ∀ (m k : Nat) (X : List Actor) (i : Int), 0 ≤ i → i + m = D.length → m + 60 < k → Act D n X i →
    ∃ Y, law39_ThermalDomainsKeepLimit.l1 k (D, L, amb) w X i = some (.go Y) ∧ Act D n Y D.length
  | _, 0, _, _, _, _, hk, _ => by omega
  | 0, k + 1, X, i, h0, h1, hk, hX => by
    rw [law39_ThermalDomainsKeepLimit.l1, if_neg (by dsimp only; omega)]
    exact ⟨X, rfl, by rw [show (D.length : Int) = i by omega]; exact hX⟩
  | m + 1, k + 1, X, i, h0, h1, hk, hX => by
    have hi : i < (D.length : Int) := by omega
    have a0 := s.a0; have a1 := s.a1; have n5 := s.n5
    have hd := s.dom i h0 hi
    have v := V.one (d := gd HeatDomain.zero D i) (amb := amb) (by omega) (by omega) (by omega) (by omega) (by omega)
    obtain ⟨t0, t1, t2⟩ := sust_in (d := gd HeatDomain.zero D i) (by omega) (by omega) n0 n1
    obtain ⟨hl, hx⟩ := hX
    rw [law39_ThermalDomainsKeepLimit.l1]
    dsimp only
    rw [if_pos hi, ck_t ⟨h0, hi⟩, domEta, hw, wi (amb + n) (by omega) (by omega), sust_f _ amb (amb + n) v (by omega) (by omega) k (by omega), bind_s rfl, show amb + n - amb = n by omega, t2]
    dsimp only
    rw [if_pos rfl, decide_eq_false (by omega), bind_s rfl, if_neg (by decide), ck_t ⟨h0, by omega⟩, wu _ (by omega) (by omega), wi (i + 1) (by omega) (by omega)]
    refine dl_l1 D L amb s w n hw n0 n1 m k _ (i + 1) (by omega) (by omega) (by omega) ⟨by simpa using hl, fun j j0 j1 => ?_⟩
    rw [gd_set h0 (by omega) j0]
    by_cases c : j = i
    · subst c
      rw [if_pos rfl]
      exact ⟨(hx j j0 j1).1, (hx j j0 j1).2.1, fun _ => rfl⟩
    · rw [if_neg c]
      exact ⟨(hx j j0 j1).1, (hx j j0 j1).2.1, fun h => (hx j j0 j1).2.2 (by omega)⟩
theorem dl_l3 (D : List HeatDomain) (L : List HeatLink) (amb : Int) (hn : (D.length : Int) ≤ 20) (n : Int) (y : Int) (y0 : 0 ≤ y) (a5 : List (List Int)) (h5 : ∀ i j : Int, 0 ≤ gd 0 (gd [] a5 i) j) : ∀ (m k : Nat) (X : List Actor) (i : Int), 0 ≤ i → i + m = D.length → m < k → Act D n X D.length →
    ∃ Y, law39_ThermalDomainsKeepLimit.l3 k (D, L, amb) y a5 X i = some Y ∧ Act D n Y D.length
  | _, 0, _, _, _, _, hk, _ => by omega
  | 0, k + 1, X, i, h0, h1, hk, hX => by
    rw [law39_ThermalDomainsKeepLimit.l3, if_neg (by dsimp only; omega)]
    exact ⟨X, rfl, hX⟩
  | m + 1, k + 1, X, i, h0, h1, hk, hX => by
    have hi : i < (D.length : Int) := by omega
    have hl := hX.1
    have key : ∀ r : Int, 0 ≤ r → ∃ Y, law39_ThermalDomainsKeepLimit.l3 k (D, L, amb) y a5 (X.set i.toNat ⟨r, (gd Actor.zero X i).Min, (gd Actor.zero X i).Max⟩) (i + 1) = some Y ∧ Act D n Y D.length := by
      intro r hr
      refine dl_l3 D L amb hn n y y0 a5 h5 m k _ (i + 1) (by omega) (by omega) (by omega) ⟨by simpa using hl, fun j j0 j1 => ?_⟩
      have hx := hX.2 j j0 j1
      rw [gd_set h0 (by omega) j0]
      by_cases c : j = i
      · subst c; rw [if_pos rfl]; exact ⟨hr, hx.2.1, fun h => hx.2.2 h⟩
      · rw [if_neg c]; exact hx
    have hs : ∀ x : Actor, (((X.set i.toNat x).length : Nat) : Int) = D.length := fun x => by rw [List.length_set, hl]
    have hg : ∀ x : Actor, gd Actor.zero (X.set i.toNat x) i = x := fun x => gd_set_same h0 (by omega)
    rw [law39_ThermalDomainsKeepLimit.l3]
    dsimp only
    rw [if_pos hi, ck_t ⟨h0, by omega⟩, wi (i + 1) (by omega) (by omega)]
    simp only [hg, hs, List.set_set]
    by_cases c : y < (a5.length : Int)
    · rw [if_pos c, ck_t ⟨y0, c⟩, bind_s rfl]
      by_cases c2 : i < ((gd [] a5 y).length : Int)
      · rw [decide_eq_true c2, if_pos rfl, ck_t ⟨y0, c⟩, ck_t ⟨h0, c2⟩, ck_t ⟨h0, hi⟩, bind_s rfl]
        exact key _ (h5 y i)
      · rw [decide_eq_false c2, if_neg (by decide), bind_s rfl]
        exact key _ (wu_lo _)
    · rw [if_neg c, bind_s rfl, if_neg (by decide), bind_s rfl]
      exact key _ (wu_lo _)
theorem dl_l4 (D : List HeatDomain) (L : List HeatLink) (amb : Int) (hn : (D.length : Int) ≤ 20) (G : List Int) (e : Int) (X : List Actor) (hG : G.length = D.length) (hX : X.length = D.length) (hg : ∀ j : Int, 0 ≤ j → j < D.length → 0 ≤ gd 0 G j ∧ gd 0 G j ≤ (gd Actor.zero X j).Max ∧ gd 0 G j ≤ 16777216) : ∀ (m k : Nat) (P : List Int) (s i : Int), 0 ≤ i → i + m = D.length → m < k → P.length = D.length → 0 ≤ s → s ≤ 16777216 * i → (∀ j : Int, 0 ≤ j → j < i → gd 0 P j = gd 0 G j) →
    ∃ Q, law39_ThermalDomainsKeepLimit.l4 k (D, L, amb) (G, e) X P s i = some (.go (Q, s + su (G.drop i.toNat))) ∧ Q.length = D.length ∧ ∀ j : Int, 0 ≤ j → j < D.length → gd 0 Q j = gd 0 G j
  | _, 0, _, _, _, _, _, hk, _, _, _, _ => by omega
  | 0, k + 1, P, s, i, h0, h1, hk, hP, hs, hs2, hj => by
    rw [law39_ThermalDomainsKeepLimit.l4, if_neg (by dsimp only; omega)]
    exact ⟨P, by rw [drop_end (by omega), su, Int.add_zero], hP, fun j j0 j1 => hj j j0 (by omega)⟩
  | m + 1, k + 1, P, s, i, h0, h1, hk, hP, hs, hs2, hj => by
    have hi : i < (D.length : Int) := by omega
    obtain ⟨g0, g1, g2⟩ := hg i h0 hi
    rw [law39_ThermalDomainsKeepLimit.l4]
    dsimp only
    rw [if_pos hi, ck_t ⟨h0, by omega⟩, ck_t ⟨h0, by omega⟩, if_neg (by omega), ck_t ⟨h0, by omega⟩, wi (gd 0 G i) (by omega) (by omega), wu (s + gd 0 G i) (by omega) (by omega), wi (i + 1) (by omega) (by omega)]
    obtain ⟨Q, q1, q2, q3⟩ := dl_l4 D L amb hn G e X hG hX hg m k (P.set i.toNat (gd 0 G i)) (s + gd 0 G i) (i + 1) (by omega) (by omega) (by omega) (by simpa using hP) (by omega) (by omega) (fun j j0 j1 => by
      rw [gd_set h0 (by omega) j0]
      by_cases c : j = i
      · rw [if_pos c, c]
      · rw [if_neg c]; exact hj j j0 (by omega))
    refine ⟨Q, ?_, q2, q3⟩
    rw [su_drop G i h0 (by omega), ← Int.add_assoc]
    exact q1
theorem dl_l5 (D : List HeatDomain) (L : List HeatLink) (amb n w : Int) (hw : IntKind.i64.wrap (Int.tmod (IntKind.u64.wrap w) 60) = n) (hn : (D.length : Int) ≤ 20) (hb : -1000 ≤ amb + n ∧ amb + n ≤ 1000) (E : List Int) (rel : Int) (X : List Actor) (ht : ∀ j : Int, 0 ≤ j → j < D.length → tpf D E j ≤ amb + n) : ∀ (m k : Nat) (i : Int), 0 ≤ i → i + m = D.length → m < k →
    law39_ThermalDomainsKeepLimit.l5 k (D, L, amb) (rel, E, temps D E, 0) w X i = some (.go (E, rel, X))
  | _, 0, _, _, _, hk => by omega
  | 0, k + 1, i, h0, h1, hk => by rw [law39_ThermalDomainsKeepLimit.l5, if_neg (by dsimp only; omega)]
  | m + 1, k + 1, i, h0, h1, hk => by
    have hi : i < (D.length : Int) := by omega
    have := ht i h0 hi
    rw [law39_ThermalDomainsKeepLimit.l5]
    dsimp only
    rw [if_pos hi, ck_t ⟨h0, by rw [temps_len]; exact hi⟩, temps_gd D E i h0 hi, hw, wi (amb + n) (by omega) (by omega), if_neg (by omega), wi (i + 1) (by omega) (by omega)]
    exact dl_l5 D L amb n w hw hn hb E rel X ht m k (i + 1) (by omega) (by omega) (by omega)
theorem act_ok {D : List HeatDomain} {n : Int} {X : List Actor} (h : Act D n X D.length) (hd : ∀ j : Int, 0 ≤ j → j < D.length → 1 ≤ (gd HeatDomain.zero D j).Ambient ∧ (gd HeatDomain.zero D j).Ambient ≤ 6) (n0 : 0 ≤ n) (n1 : n ≤ 60) : (∀ a ∈ X, okA a) ∧ tot 0 X ≤ 0 := by
  have h1 : ∀ a ∈ X, okA a ∧ a.Min = 0 := (all_gd Actor.zero X (fun a => okA a ∧ a.Min = 0)).2 (fun m m0 m1 => by
    have h1 := h.1
    obtain ⟨r0, r1, r2⟩ := h.2 m m0 (by omega)
    have r2 := r2 (by omega)
    obtain ⟨A0, A1⟩ := hd m m0 (by omega)
    obtain ⟨t0, t1, _⟩ := sust_in A0 A1 n0 n1
    exact ⟨⟨r0, by omega, by omega, by omega⟩, r1⟩)
  refine ⟨fun a ha => (h1 a ha).1, ?_⟩
  clear h
  induction X with
  | nil => simp [tot]
  | cons a r ih =>
    have := ih (fun x hx => h1 x (List.mem_cons_of_mem _ hx))
    have ha := h1 a List.mem_cons_self
    have e1 := mx_ge 0 a.Min
    have e2 := mn_le (mx 0 a.Min) (wa a)
    have e3 : sh 0 a = mn (mx 0 a.Min) (wa a) := rfl
    rw [tot]; omega
theorem dl_l2 (a4 : List Int) (h4 : (a4.length : Int) ≤ 30) (hb4 : ∀ j, 0 ≤ gd 0 a4 j) (D : List HeatDomain) (L : List HeatLink) (amb : Int) (s : Sys D L amb) (a5 : List (List Int)) (h5 : ∀ i j : Int, 0 ≤ gd 0 (gd [] a5 i) j) (E0 : List Int) (r0 : Int) (w n : Int) (hw : IntKind.i64.wrap (Int.tmod (IntKind.u64.wrap w) 60) = n) (n0 : 0 ≤ n) (n1 : n ≤ 60) : ∀ (m k : Nat) (E : List Int) (rel : Int) (X : List Actor) (i : Int), 0 ≤ i → i + m = a4.length → m + 160 < k → Mod D L E rel → Inv D amb (amb + n) E → Act D n X D.length →
    law39_ThermalDomainsKeepLimit.l2 k a4 (D, L, amb) a5 (D, L, amb, E0, r0) w E rel X i = some (.go ())
  | _, 0, _, _, _, _, _, _, hk, _, _, _ => by omega
  | 0, k + 1, E, rel, X, i, h0, h1, hk, hM, hI, hX => by rw [law39_ThermalDomainsKeepLimit.l2, if_neg (by omega)]
  | m + 1, k + 1, E, rel, X, i, h0, h1, hk, hM, hI, hX => by
    have hn := s.n5; have hn1 := s.n1; have am0 := s.a0; have am1 := s.a1
    have v := s.v amb (by omega) (by omega)
    have hd : ∀ j : Int, 0 ≤ j → j < D.length → 1 ≤ (gd HeatDomain.zero D j).Ambient ∧ (gd HeatDomain.zero D j).Ambient ≤ 6 := fun j j0 j1 => by have := s.dom j j0 j1; omega
    obtain ⟨Y, y1, y2⟩ := dl_l3 D L amb (by omega) n i h0 a5 h5 D.length k X 0 (by omega) (by omega) (by omega) hX
    obtain ⟨hok, htot⟩ := act_ok y2 hd n0 n1
    have hY := y2.1
    have hb0 := hb4 i
    obtain ⟨b, hb, b0, b1⟩ : ∃ b, Int.tmod (gd 0 a4 i) 600 = b ∧ 0 ≤ b ∧ b < 600 := by rw [tm _ hb0]; exact ⟨_, rfl, by omega, by omega⟩
    have hal := alloc_f Y (fun a ha => ⟨(hok a ha).1, (hok a ha).2.1⟩) (by omega) b b0 (by omega) k (by omega)
    rw [alloc_ok Y hok (by omega), if_neg (by omega)] at hal
    obtain ⟨l0, l1, l2, l3⟩ := lvl_spec Y b (by omega)
    have hlen := dist_len (lvl Y b) Y (b - tot (lvl Y b) Y)
    have hsu := dist_su (lvl Y b) Y (b - tot (lvl Y b) Y) (by omega)
    have hgw : ∀ j : Int, 0 ≤ j → j < D.length → 0 ≤ gd 0 (dist (lvl Y b) (b - tot (lvl Y b) Y) Y) j ∧ gd 0 (dist (lvl Y b) (b - tot (lvl Y b) Y) Y) j ≤ (gd Actor.zero Y j).Max ∧ (gd Actor.zero Y j).Max = (gd HeatDomain.zero D j).Ambient * n := by
      intro j j0 j1
      have h := dist_wa (lvl Y b) l0 Y hok (b - tot (lvl Y b) Y) j.toNat (by omega)
      have ho := hok _ (gd_mem (z := Actor.zero) j0 (show j < Y.length by omega))
      have hb' := sh_bd 0 _ ho (by omega)
      have h' : (gd Actor.zero Y j).Min ≤ gd 0 (dist (lvl Y b) (b - tot (lvl Y b) Y) Y) j ∧ gd 0 (dist (lvl Y b) (b - tot (lvl Y b) Y) Y) j ≤ wa (gd Actor.zero Y j) := h
      exact ⟨by omega, by omega, (y2.2 j j0 j1).2.2 j1⟩
    generalize dist (lvl Y b) (b - tot (lvl Y b) Y) Y = G at hal hlen hsu hgw
    have hgs : ∀ j : Int, 0 ≤ j → j < D.length → 0 ≤ gd 0 G j ∧ gd 0 G j ≤ (gd Actor.zero Y j).Max ∧ gd 0 G j ≤ 16777216 := fun j j0 j1 => by
      obtain ⟨A0, A1⟩ := hd j j0 j1
      obtain ⟨t0, t1, _⟩ := sust_in A0 A1 n0 n1
      obtain ⟨q0, q1, q2⟩ := hgw j j0 j1
      exact ⟨q0, q1, by omega⟩
    obtain ⟨Q, q1, q2, q3⟩ := dl_l4 D L amb (by omega) G 0 Y (by omega) hY hgs D.length k (List.replicate (D.length : Int).toNat 0) 0 0 (by omega) (by omega) (by omega) (by simp) (by omega) (by omega) (fun j j0 j1 => by omega)
    have e : G.drop (0 : Int).toNat = G := by simp
    rw [e, Int.zero_add] at q1
    obtain ⟨E', e1, e2, e3, e4⟩ := step_inv hM v (amb := amb) (b := amb + n) (by omega) (by omega) (by omega) Q hI q2 ((all_gd 0 Q (fun x => 0 ≤ x ∧ x ≤ 16777216)).2 (fun j j0 j1 => by
      rw [q3 j j0 (by omega)]; have := hgs j j0 (by omega); omega)) (fun j j0 j1 => by
      rw [q3 j j0 j1, show amb + n - amb = n by omega]; have := hgw j j0 j1; omega) k (by omega)
    rw [law39_ThermalDomainsKeepLimit.l2]
    dsimp only
    rw [if_pos (by omega), bind_s y1, ck_t ⟨h0, by omega⟩, hb, bind_s hal]
    dsimp only
    rw [if_pos rfl, decide_eq_true (by omega), bind_s rfl, if_neg (by decide), bind_s q1, el_g]
    dsimp only
    rw [bind_s e1]
    dsimp only
    rw [if_pos rfl, temps_len, if_pos rfl, decide_eq_false (by omega), bind_s rfl, if_neg (by decide), dl_l5 D L amb n w hw (by omega) (by omega) E' _ Y (fun j j0 j1 => (inv_t e4 j0 j1 (v.amb1 j j0 j1).2.2.1).2) D.length k 0 (by omega) (by omega) (by omega), bind_s rfl, el_g]
    dsimp only
    rw [wi (i + 1) (by omega) (by omega)]
    exact dl_l2 a4 h4 hb4 D L amb s a5 h5 E0 r0 w n hw n0 n1 m k E' _ Y (i + 1) (by omega) (by omega) (by omega) e2 e4 y2
theorem gd_all {α : Type} (z : α) (P : α → Prop) (hz : P z) (L : List α) (h : ∀ x ∈ L, P x) (j : Int) : P (gd z L j) := by
  unfold gd
  rw [List.getD_eq_getElem?_getD]
  cases e : L[j.toNat]? with
  | none => exact hz
  | some x => exact h x (List.mem_of_getElem? e)
theorem pureThermalDomainsKeepLimit : law39_ThermalDomainsKeepLimit.Pure := by
  intro a b c w a4 a5 _ _ _ _ _ _ _ hb4 _ hb5
  refine ⟨400, ?_⟩
  rw [law39_ThermalDomainsKeepLimit.f]
  by_cases h : 30 < (a4.length : Int)
  · rw [if_pos h, bind_s awake]
  · obtain ⟨D, L, amb, s1, s2, _⟩ := some_f a b c 400 (by omega)
    have a0 := s2.a0; have a1 := s2.a1
    have hn := s2.n5; have hl := s2.l12
    have v := s2.v amb (by omega) (by omega)
    have u := wu_lo w
    obtain ⟨n, hw, n0, n1⟩ : ∃ n, IntKind.i64.wrap (Int.tmod (IntKind.u64.wrap w) 60) = n ∧ 0 ≤ n ∧ n ≤ 60 := by
      rw [tm _ u, wi _ (by omega) (by omega)]; exact ⟨_, rfl, by omega, by omega⟩
    obtain ⟨_, n1'⟩ | ⟨n1', _⟩ := new_f D L amb (by omega) 400 (by omega)
    · have hM := v.mod (by omega)
      obtain ⟨X, x1, x2⟩ := dl_l1 D L amb s2 w n hw n0 n1 D.length 400 (List.replicate (D.length : Int).toNat Actor.zero) 0 (by omega) (by omega) (by omega) ⟨by simp, fun j j0 j1 => by
        rw [gd_rep]; exact ⟨by decide, by decide, fun h => by omega⟩⟩
      rw [if_neg h, bind_s s1]
      dsimp only
      rw [bind_s n1']
      dsimp only [Option.elim]
      rw [if_pos rfl, bind_s rfl, if_neg (by decide), ck_t ⟨by omega, by omega⟩, bind_s x1, el_g, dl_l2 a4 (by omega) (gd_all 0 (fun x => 0 ≤ x) (by decide) a4 (fun x hx => (inK_u64 (hb4 x hx)).1)) D L amb s2 a5 (fun i j => gd_all [] (fun y => 0 ≤ gd 0 y j) (by rw [gd_nil]; decide) a5 (fun y hy => gd_all 0 (fun x => 0 ≤ x) (by decide) y (fun x hx => (inK_u64 ((hb5 y hy).2 x hx)).1) j) i) _ 0 w n hw n0 n1 a4.length 400 _ 0 X 0 (by omega) (by omega) (by omega) hM (inv_init v _ (by omega)) x2, bind_s rfl, el_g, bind_s awake]
    · exact absurd v n1'
end Go.Proofs.Ytannodkbindlbaa.X
