/- The laws on the pure side: heatlaw6. -/
import Derived.Test.YtakaooegofiloaaQ9
namespace Go.Proofs.Ytakaooegofiloaa.X
open Go Go.Sx

/-! ## HeatStepsAgree -/
theorem temperature_any {D : List HeatDomain} {L : List HeatLink} {E : List Int} {rel : Int} (hM : Mod D L E rel) (amb j : Int) (k : Nat) (hk : 21 < k) : ∃ t, heat_Model_Temperature.f k D L amb E rel j = some t ∧ ref38_Model_Temperature.f k D L amb E rel j = some t := by
  by_cases c : 0 ≤ j ∧ j < D.length
  · exact ⟨_, temperature_f hM amb j c.1 c.2 k hk, rtemp1_f hM amb j c.1 c.2 k⟩
  · rw [heat_Model_Temperature.f, ref38_Model_Temperature.f]
    by_cases c2 : j < 0
    · rw [if_pos c2, bind_s rfl, if_pos rfl]; exact ⟨0, rfl, rfl⟩
    · rw [if_neg c2, decide_eq_true (by omega), bind_s rfl, if_pos rfl]; exact ⟨0, rfl, rfl⟩
theorem renergy_f (k : Nat) (D : List HeatDomain) (L : List HeatLink) (amb : Int) (E : List Int) (rel j : Int) : ref38_Model_Energy.f k D L amb E rel j = heat_Model_Energy.f k D L amb E rel j := by rw [ref38_Model_Energy.f, heat_Model_Energy.f]
theorem sa_l3 (D : List HeatDomain) (L : List HeatLink) (amb : Int) (E E0 F0 T : List Int) (rel e0 f0 e : Int) (hM : Mod D L E rel) : ∀ (m k : Nat) (i : Int), -1 ≤ i → i + m = D.length + 1 → m + 21 < k →
    law38_HeatStepsAgree.l3 k (D, L, amb) (D, L, amb, E0, e0) (rel, E, T, e) (amb, F0, f0) (rel, E, T, e) i = some (.go (E, rel, E, rel)) ∧ law38_HeatStepsAgree.l4 k (D, L, amb) (D, L, amb, E0, e0) (rel, E, T, e) (amb, F0, f0) (rel, E, T, e) i = some (.go (E, rel, E, rel))
  | _, 0, _, _, _, hk => by omega
  | 0, k + 1, i, h0, h1, hk => by
    rw [law38_HeatStepsAgree.l3, law38_HeatStepsAgree.l4]
    dsimp only
    rw [if_neg (by omega), if_neg (by omega)]
    exact ⟨rfl, rfl⟩
  | m + 1, k + 1, i, h0, h1, hk => by
    have hn := hM.n
    obtain ⟨t, t1, t2⟩ := temperature_any hM amb i k (by omega)
    have e1 := energy_f D L amb E rel i hM.len k
    have ih := sa_l3 D L amb E E0 F0 T rel e0 f0 e hM m k (i + 1) (by omega) (by omega) (by omega)
    rw [law38_HeatStepsAgree.l3, law38_HeatStepsAgree.l4]
    dsimp only
    rw [if_pos (by omega), if_pos (by omega), renergy_f, e1, bind_s rfl, bind_s rfl, if_pos rfl, t1, t2, bind_s rfl, bind_s rfl, decide_eq_true rfl, bind_s rfl, if_neg (by decide), bind_s rfl, if_neg (by decide), wi (i + 1) (by omega) (by omega)]
    exact ih
theorem sa_l2 (a3 : List (List Int)) (h3 : (a3.length : Int) ≤ 30) (D : List HeatDomain) (L : List HeatLink) (amb : Int) (E0 F0 : List Int) (e0 f0 : Int) : ∀ (m k : Nat) (E : List Int) (rel i : Int), 0 ≤ i → i + m = a3.length → m + 60 < k → Mod D L E rel →
    law38_HeatStepsAgree.l2 k a3 (D, L, amb) (D, L, amb, E0, e0) (amb, F0, f0) E rel E rel i = some (.go ())
  | _, 0, _, _, _, _, _, hk, _ => by omega
  | 0, k + 1, E, rel, i, h0, h1, hk, hM => by rw [law38_HeatStepsAgree.l2, if_neg (by omega)]
  | m + 1, k + 1, E, rel, i, h0, h1, hk, hM => by
    have hn := hM.n
    obtain ⟨P, p1, p2, p3⟩ := powers_f (gd [] a3 i) D.length 100 (by omega) hn (by omega) (by omega) k (by omega)
    rw [law38_HeatStepsAgree.l2]
    dsimp only
    rw [if_pos (by omega), ck_t ⟨h0, by omega⟩, bind_s p1, wi (i + 1) (by omega) (by omega)]
    by_cases c : Int.tmod i 6 = 5
    · obtain ⟨E', rel', T, e, s1, s2, s3, s4⟩ := steps_f hM amb (gd [] a3 i) k (by omega)
      have hq := eqi T k (by omega) (by omega)
      have ih := sa_l2 a3 h3 D L amb E0 F0 e0 f0 m k E' rel' (i + 1) (by omega) (by omega) (by omega) s3
      rw [if_pos c, bind_s s1, bind_s s2]
      dsimp only
      rw [if_pos rfl, bind_s hq, if_pos rfl, heat_Model_Released.f, ref38_Model_Released.f, bind_s rfl, bind_s rfl, decide_eq_true rfl, bind_s rfl, if_neg (by decide), (sa_l3 D L amb E' E0 F0 T rel' e0 f0 e s3 (D.length + 2) k (-1) (by omega) (by omega) (by omega)).1, bind_s rfl, el_g]
      exact ih
    · obtain ⟨E', rel', T, e, s1, s2, s3, s4⟩ := steps_f hM amb P k (by omega)
      have hq := eqi T k (by omega) (by omega)
      have ih := sa_l2 a3 h3 D L amb E0 F0 e0 f0 m k E' rel' (i + 1) (by omega) (by omega) (by omega) s3
      rw [if_neg c, bind_s s1, bind_s s2]
      dsimp only
      rw [if_pos rfl, bind_s hq, if_pos rfl, heat_Model_Released.f, ref38_Model_Released.f, bind_s rfl, bind_s rfl, decide_eq_true rfl, bind_s rfl, if_neg (by decide), (sa_l3 D L amb E' E0 F0 T rel' e0 f0 e s3 (D.length + 2) k (-1) (by omega) (by omega) (by omega)).2, bind_s rfl, el_g]
      exact ih
theorem pureHeatStepsAgree : law38_HeatStepsAgree.Pure := by
  intro a b c a3 _ _ _ _ _ _ _
  refine ⟨200, ?_⟩
  rw [law38_HeatStepsAgree.f]
  by_cases h : 30 < (a3.length : Int)
  · rw [if_pos h, bind_s awake]
  · obtain ⟨D, L, amb, s1, s2, _⟩ := some_f a b c 200 (by omega)
    have hv := s2.v amb (by have := s2.a0; omega) (by have := s2.a1; omega)
    have hn := s2.n5; have hl := s2.l12
    obtain ⟨_, n1⟩ | ⟨n1, _⟩ := new_f D L amb (by omega) 200 (by omega)
    · obtain ⟨_, n2⟩ | ⟨n2, _⟩ := rnew_f D L amb (by omega) 200 (by omega)
      · have hM := hv.mod (by omega)
        rw [if_neg h, bind_s s1]
        dsimp only
        rw [bind_s n1]
        dsimp only [Option.elim]
        rw [bind_s n2]
        dsimp only [Option.elim]
        rw [if_pos rfl, if_pos rfl, bind_s rfl, if_neg (by decide), sa_l2 a3 (by omega) D L amb _ _ 0 0 a3.length 200 _ 0 0 (by omega) (by omega) (by omega) hM, bind_s rfl, el_g, bind_s awake]
      · exact absurd hv n2
    · exact absurd hv n1
/-! ## HeatNewAgrees -/
theorem bound2_l1 (D : List HeatDomain) (p : List Int) (hn : (D.length : Int) ≤ 20) (hp : p.length = D.length) (hA : ∀ j : Int, 0 ≤ j → j < D.length → 1 ≤ (gd HeatDomain.zero D j).Ambient) : ∀ (m k : Nat) (R i : Int), 0 ≤ i → i + m = D.length → m < k →
    ∃ R', heat_Bound.l1 k D p R i = some R' ∧ ref38_Bound.l1 k D p R i = some R'
  | _, 0, _, _, _, _, hk => by omega
  | 0, k + 1, R, i, h0, h1, hk => by
    rw [heat_Bound.l1, ref38_Bound.l1, if_neg (by omega), if_neg (by omega)]; exact ⟨_, rfl, rfl⟩
  | m + 1, k + 1, R, i, h0, h1, hk => by
    have a0 := hA i h0 (by omega)
    rw [heat_Bound.l1, ref38_Bound.l1, if_pos (by omega), if_pos (by omega), ck_t ⟨h0, by omega⟩, ck_t ⟨h0, by omega⟩, ck_t (by omega), ck_t ⟨h0, by omega⟩, ck_t ⟨h0, by omega⟩, ck_t (by omega), wi (i + 1) (by omega) (by omega)]
    exact bound2_l1 D p hn hp hA m k _ (i + 1) (by omega) (by omega) (by omega)
theorem bounds_f (D : List HeatDomain) (L : List HeatLink) (amb : Int) (hl : (L.length : Int) ≤ 25) (p : List Int) (k : Nat) (hk : 60 < k) : ∃ r, heat_Bound.f k D L amb p = some r ∧ ref38_Bound.f k D L amb p = some r := by
  obtain ⟨b, hb, hb'⟩ := valid_f D L amb hl k hk
  obtain ⟨c, hc, hc'⟩ := rvalid_f D L amb hl k hk
  have e : b = c := Bool.eq_iff_iff.2 (hb'.trans hc'.symm)
  subst e
  rw [heat_Bound.f, ref38_Bound.f, bind_s hb, bind_s hc]
  cases b
  · rw [if_neg (by decide), bind_s rfl, if_pos rfl, if_neg (by decide)]; exact ⟨_, rfl, rfl⟩
  · have v := hb'.1 rfl
    have hn := v.1
    rw [if_pos rfl, if_pos rfl, vp_f p _ (by omega) k (by omega), rp_f p _ (by omega) k (by omega), bind_s rfl, bind_s rfl]
    by_cases d : (decide ((p.length : Int) = D.length) && pvb p) = true
    · have d' : p.length = D.length := by
        simp only [Bool.and_eq_true, decide_eq_true_eq] at d; omega
      obtain ⟨R, r1, r2⟩ := bound2_l1 D p (by omega) d' (fun j j0 j1 => (v.amb1 j j0 j1).1) D.length k 0 0 (by omega) (by omega) (by omega)
      rw [d, if_neg (by decide), bind_s rfl, if_neg (by decide), bind_s r1, bind_s r2]
      exact ⟨_, rfl, rfl⟩
    · rw [Bool.eq_false_iff.2 d, if_pos (show (!false) = true from rfl)]
      exact ⟨_, rfl, rfl⟩
theorem na_one (D : List HeatDomain) (L : List HeatLink) (amb : Int) (hn : (D.length : Int) ≤ 20) (hl : (L.length : Int) ≤ 25) (a3 : List Int) (k : Nat) (hk : 60 < k) :
    (((heat_New.f k D L amb).bind fun s65 => s65.1.elim ((((ref38_New.f k D L amb).bind fun s69 => s69.1.elim (some s69.2) (fun c70 => (some s69.2)))).bind fun x68 => ((law38_Powers.f k a3 (D.length : Int) 200).bind fun s75 => ((heat_Bound.f k D L amb s75).bind fun s78 => ((ref38_Bound.f k D L amb s75).bind fun s80 => ((heat_Bound.f k D L amb a3).bind fun s82 => ((ref38_Bound.f k D L amb a3).bind fun s84 => (((if s65.2 = x68 then (if (true == (!decide (s65.2 = 0))) = true then (if s78.1 = s80.1 then (if s78.2 = s80.2 then (if s82.1 = s84.1 then (some (!decide (s82.2 = s84.2))) else (some true)) else (some true)) else (some true)) else (some true)) else (some true))).bind fun x86 => (if x86 = true then (some (.rt (some (.rt (some false))))) else (some (.go ())))))))))) (fun c66 => ((((ref38_New.f k D L amb).bind fun s106 => s106.1.elim (some s106.2) (fun c107 => (some s106.2)))).bind fun x105 => ((law38_Powers.f k a3 (D.length : Int) 200).bind fun s112 => ((heat_Bound.f k D L amb s112).bind fun s115 => ((ref38_Bound.f k D L amb s112).bind fun s117 => ((heat_Bound.f k D L amb a3).bind fun s119 => ((ref38_Bound.f k D L amb a3).bind fun s121 => (((if s65.2 = x105 then (if (false == (!decide (s65.2 = 0))) = true then (if s115.1 = s117.1 then (if s115.2 = s117.2 then (if s119.1 = s121.1 then (some (!decide (s119.2 = s121.2))) else (some true)) else (some true)) else (some true)) else (some true)) else (some true))).bind fun x123 => (if x123 = true then (some (.rt (some (.rt (some false))))) else (some (.go ()))))))))))) ) : Option (Ex (Unit) (Option (Ex (Unit) (Option (Bool)))))) = some (.go ()) := by
  obtain ⟨P, p1, p2, p3⟩ := powers_f a3 D.length 200 (by omega) hn (by omega) (by omega) k (by omega)
  obtain ⟨r, r1, r2⟩ := bounds_f D L amb hl P k hk
  obtain ⟨s, s1, s2⟩ := bounds_f D L amb hl a3 k hk
  obtain ⟨v, n1⟩ | ⟨v, n1⟩ := new_f D L amb hl k hk
  · obtain ⟨_, n2⟩ | ⟨v2, _⟩ := rnew_f D L amb hl k hk
    · rw [bind_s n1]
      dsimp only [Option.elim]
      rw [bind_s n2]
      dsimp only [Option.elim]
      rw [bind_s rfl, bind_s p1, bind_s r1, bind_s r2, bind_s s1, bind_s s2, if_pos rfl, if_pos (by simp), if_pos rfl, if_pos rfl, if_pos rfl, decide_eq_true rfl, bind_s rfl, if_neg (by decide)]
    · exact absurd v v2
  · obtain ⟨v2, _⟩ | ⟨_, n2⟩ := rnew_f D L amb hl k hk
    · exact absurd v2 v
    · rw [bind_s n1]
      dsimp only [Option.elim]
      rw [bind_s n2]
      dsimp only [Option.elim]
      rw [bind_s rfl, bind_s p1, bind_s r1, bind_s r2, bind_s s1, bind_s s2, if_pos rfl, if_pos (by simp), if_pos rfl, if_pos rfl, if_pos rfl, decide_eq_true rfl, bind_s rfl, if_neg (by decide)]
theorem na_l1 (D1 : List HeatDomain) (L1 : List HeatLink) (b1 : Int) (a3 : List Int) (s x : List HeatDomain × List HeatLink × Int) (h1 : (D1.length : Int) ≤ 20) (h2 : (L1.length : Int) ≤ 20) (h3 : (s.1.length : Int) ≤ 20) (h4 : (s.2.1.length : Int) ≤ 20) (h5 : (x.1.length : Int) ≤ 20) (h6 : (x.2.1.length : Int) ≤ 20) : ∀ (m k : Nat) (i : Int), 0 ≤ i → i + m = 3 → m + 62 < k →
    law38_HeatNewAgrees.l1 k D1 L1 b1 a3 s x i = some (.go ())
  | _, 0, _, _, _, hk => by omega
  | 0, k + 1, i, h0, h1, hk => by rw [law38_HeatNewAgrees.l1, if_neg (by omega)]
  | m + 1, k + 1, i, g0, g1, hk => by
    have ih := na_l1 D1 L1 b1 a3 s x h1 h2 h3 h4 h5 h6 m k (i + 1) (by omega) (by omega) (by omega)
    rw [law38_HeatNewAgrees.l1, if_pos (by omega), wi (i + 1) (by omega) (by omega)]
    by_cases c0 : i = 0
    · rw [if_pos c0, na_one D1 L1 b1 h1 (by omega) a3 k (by omega), bind_s rfl, el_g]; exact ih
    · by_cases c1 : i = 1
      · rw [if_neg c0, if_pos c1, na_one s.1 s.2.1 s.2.2 h3 (by omega) a3 k (by omega), bind_s rfl, el_g]; exact ih
      · rw [if_neg c0, if_neg c1, if_pos (by omega), na_one x.1 x.2.1 x.2.2 h5 (by omega) a3 k (by omega), bind_s rfl, el_g]; exact ih
theorem pureHeatNewAgrees : law38_HeatNewAgrees.Pure := by
  intro a b c a3 kk v how _ _ _ _ _ _ _ _ _ hh
  refine ⟨200, ?_⟩
  rw [law38_HeatNewAgrees.f]
  by_cases h : 20 < (a.length : Int) ∨ 20 < (b.length : Int) ∨ 20 < (a3.length : Int)
  · have hz : (if 20 < (a.length : Int) then (some true) else (if 20 < (b.length : Int) then (some true) else (some (decide (20 < (a3.length : Int)))))) = some true := by
      (repeat' split) <;> first | rfl | (rw [decide_eq_true (by omega)])
    rw [hz, bind_s rfl, if_pos rfl, bind_s awake]
  · obtain ⟨D, L, amb, s1, s2, _⟩ := some_f a b c 200 (by omega)
    have hn1 := s2.n1; have hn := s2.n5; have hl := s2.l12
    obtain ⟨i, i1, i2, i3⟩ := mod_ 200 kk D.length (by omega) (by omega)
    rw [if_neg (by omega), if_neg (by omega), decide_eq_false (by omega), bind_s rfl, if_neg (by decide), bind_s s1, bind_s s1]
    dsimp only
    rw [bind_s i1]
    have fin : ∀ x : List HeatDomain × List HeatLink × Int, (x.1.length : Int) ≤ 20 → (x.2.1.length : Int) ≤ 20 → (((law38_HeatNewAgrees.l1 200 a b c a3 (D, L, amb) x 0) : Option (Ex (Unit) (Option (Bool)))).bind fun x50 => x50.el (fun x50s => ((law38_awake.f 200).bind fun s290 => (some s290))) (fun o => o)) = some true := by
      intro x h5 h6
      rw [na_l1 a b c a3 (D, L, amb) x (by omega) (by omega) (by dsimp only; omega) (by dsimp only; omega) h5 h6 3 200 0 (by omega) (by omega) (by omega), bind_s rfl, el_g, bind_s awake]
    by_cases c0 : Int.tmod how 6 = 0
    · rw [if_pos c0, ck_t ⟨i2, i3⟩, bind_s rfl]
      exact fin _ (by simp; omega) (by dsimp only; omega)
    · by_cases c1 : Int.tmod how 6 = 1
      · rw [if_neg c0, if_pos c1, ck_t ⟨i2, i3⟩, bind_s rfl]
        exact fin _ (by simp; omega) (by dsimp only; omega)
      · by_cases c2 : Int.tmod how 6 = 2
        · rw [if_neg c0, if_neg c1, if_pos c2, bind_s rfl]
          exact fin _ (by dsimp only; omega) (by dsimp only; omega)
        · by_cases c3 : Int.tmod how 6 = 3
          · obtain ⟨q, q1, q2, q3⟩ := mod_ 200 (IntKind.i64.wrap (Int.tmod (IntKind.u64.wrap v) 8)) 7 (by omega) (by omega)
            rw [if_neg c0, if_neg c1, if_neg c2, if_pos c3, bind_s q1, ck_t (by simp; omega), bind_s rfl]
            exact fin _ (by dsimp only; omega) (by simp; omega)
          · by_cases c4 : Int.tmod how 6 = 4
            · rw [if_neg c0, if_neg c1, if_neg c2, if_neg c3, if_pos c4, ck_t ⟨i2, i3⟩, bind_s rfl]
              exact fin _ (by simp; omega) (by dsimp only; omega)
            · rw [if_neg c0, if_neg c1, if_neg c2, if_neg c3, if_neg c4, bind_s rfl]
              exact fin _ (by dsimp only; omega) (by dsimp only; omega)
end Go.Proofs.Ytakaooegofiloaa.X
