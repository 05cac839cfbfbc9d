/- The laws on the pure side: io9. -/
import Derived.Test.YtigadacjaglfeaaQ8
namespace Go.Proofs.Ytigadacjaglfeaa.X
open Go Go.Sx

/-! ## planned faults -/
def fl1 (n : Int) : List fault := if 0 < n then [⟨0, ⟨4, 4⟩, n⟩] else []
theorem fl1_ok {n : Int} (h : n ≤ 64) : FL (fl1 n) := by
  unfold fl1
  split
  · rename_i c
    refine ⟨fun i h0 h1 => ?_, by simp⟩
    simp at h1
    have : i = 0 := by omega
    subst this
    exact ⟨⟨by show (0 : Int) ≤ 4; decide, by show (1 : Int) ≤ 4; decide, by show (4 : Int) ≤ 1048576; decide, by show (4 : Int) + 4 ≤ 18446744073709551616; decide⟩, by show 1 ≤ n; omega, h⟩
  · exact FL.nil
theorem fl1_used {n : Int} (h : 0 < n) : used (fl1 n) 0 = fl1 (n - 1) := by
  unfold fl1 used
  rw [if_pos h]
  show (if n - 1 = 0 then _ else _) = _
  by_cases c : n - 1 = 0
  · rw [if_pos c, if_neg (by omega)]; rfl
  · rw [if_neg c, if_pos (by omega)]; rfl
def av (q : Int) : Access := ⟨0, 4 * q, 4, true, 1⟩
theorem av_n {q : Int} (hq : q = 0 ∨ q = 1) : AW (av q) := by
  rcases hq with rfl | rfl <;> exact ⟨⟨by decide, by decide⟩, ⟨by decide, by decide⟩⟩
theorem av_f {q : Int} (hq : q = 0 ∨ q = 1) : WF (av q) := by
  rcases hq with rfl | rfl <;> exact ⟨.inl rfl, .inr (.inr (.inl rfl)), by decide⟩
theorem fl_loop {a2 : List Bool} {a1 s18 : Int} (hl : (a2.length : Int) ≤ 9223372036854775807) (hs : 0 ≤ s18 ∧ s18 < 8) :
    ∀ (n k : Nat) (y c : Int) (D : List (Int × Int)) (n0 n1 n2 : List mapping) (en : List Bool) (tr : List Traced), 0 ≤ y → y ≤ 30 → 30 - y ≤ n → n + 301 < k → One 0 ⟨⟨0, 16⟩, 7, D⟩ n0 n1 n2 → MW ⟨⟨0, 16⟩, 7, D⟩ → en.length = 256 → 0 ≤ c → c ≤ 1 + s18 → (c < 1 + s18 → mgetd D 4 = 0) → (tr.length : Int) ≤ y →
      law09_IospaceFaults.l1 k a2 a1 s18 n0 n1 n2 en (fl1 (1 + s18 - c)) tr c y = some (.go ()) := by
  intro n
  induction n with
  | zero =>
    intro k y c D n0 n1 n2 en tr h0 h1 h2 h3 h4 h5 h6 c0 c1 h7 h8
    obtain ⟨k, rfl⟩ : ∃ m, k = m + 1 := ⟨k - 1, by omega⟩
    rw [law09_IospaceFaults.l1]
    by_cases c : y < (a2.length : Int)
    · rw [if_pos c, Option.bind_some, if_neg (by rw [decide_eq_false (show ¬ y < 30 by omega)]; decide)]
    · rw [if_neg c, Option.bind_some, if_neg (by decide)]
  | succ n ih =>
    intro k y c D n0 n1 n2 en tr h0 h1 h2 h3 h4 h5 h6 c0 c1 h7 h8
    obtain ⟨k, rfl⟩ : ∃ m, k = m + 1 := ⟨k - 1, by omega⟩
    rw [law09_IospaceFaults.l1]
    by_cases cl : y < (a2.length : Int)
    · rw [if_pos cl, Option.bind_some]
      by_cases c4 : y < 30
      · rw [if_pos (decide_eq_true c4), ck_t ⟨h0, cl⟩, enable_f, if_pos (show OW 7 from ⟨by decide, by decide⟩), Option.bind_some, bnd_s (mod_f k (a := IntKind.i64.wrap (a1 + y)) (show (0 : Int) < 2 by decide) (by decide)), wi (y + 1) (by omega) (by omega), bnd_s (mod_f k (a := IntKind.i64.wrap (a1 + y)) (show (0 : Int) < 2 by decide) (by decide))]
        have hq : IntKind.i64.wrap (a1 + y) % 18446744073709551616 % 2 = 0 ∨ IntKind.i64.wrap (a1 + y) % 18446744073709551616 % 2 = 1 := by omega
        generalize IntKind.i64.wrap (a1 + y) % 18446744073709551616 % 2 = q at hq
        have e4 : IntKind.u64.wrap (IntKind.i64.wrap (4 * q)) = 4 * q := by rw [wi _ (by omega) (by omega), wu _ (by omega) (by omega)]
        have e1 : IntKind.i64.wrap (1 + s18) = 1 + s18 := wi _ (by omega) (by omega)
        have ec : IntKind.i64.wrap (c + 1) = c + 1 := wi _ (by omega) (by omega)
        rw [e4, e1, ec]
        have hen : gd false (en.set (7 : Int).toNat (gd false a2 y)) 7 = gd false a2 y := gd_set_same (i := 7) (by decide) (by rw [h6]; decide)
        have hel : (en.set (7 : Int).toNat (gd false a2 y)).length = 256 := by rw [List.length_set, h6]
        have hbl := h4.bl h5
        have hin : inr (⟨0, 16⟩ : Range) (4 * q) := ⟨by show 0 ≤ 4 * q; omega, by show 4 * q < 0 + 16; omega⟩
        have hfo : Found (av q).Space (av q).Addr n0 n1 n2 0 := h4.found (.inl rfl) hin
        have hat : at_ (av q).Space n0 n1 n2 0 = ⟨⟨0, 16⟩, 7, D⟩ := h4.at (.inl rfl)
        have hFL : FL (fl1 (1 + s18 - c)) := fl1_ok (by omega)
        have htr : tr.length < 65536 := by omega
        generalize hb : gd false a2 y = b at hen hel
        cases b with
        | false =>
          have hd : ¬ live (en.set (7 : Int).toNat false) (av q) (at_ (av q).Space n0 n1 n2 0) := fun h => by
            rw [hat] at h
            have := h.2
            rw [hen] at this; cases this
          have hA : ∃ x, iospace_Bus_Access.f k n0 n1 n2 (en.set (7 : Int).toNat false) (fl1 (1 + s18 - c)) tr ⟨0, 4 * q, 4, true, 1⟩ = some (fl1 (1 + s18 - c), tr ++ [x], n0, n1, n2, 0, 0) := ⟨_, acc_dead (F := fl1 (1 + s18 - c)) hbl (by omega : 300 < k) (av_n hq) (av_f hq) htr hfo hd⟩
          obtain ⟨x, hA⟩ := hA
          rw [bnd_s hA, if_neg hft, Option.bind_some]
          dsimp only
          rw [show (if ((decide ((0 : Int) = 15)) == false) = true then (if (0 : Int) = 0 then (some false) else (some (!false))) else (some true)) = some false from rfl, Option.bind_some, if_neg hft, if_neg hft, Option.bind_some, el_g]
          exact ih k (y + 1) c D n0 n1 n2 _ _ (by omega) (by omega) (by omega) (by omega) h4 h5 hel c0 c1 h7 (by simp; omega)
        | true =>
          have hd : live (en.set (7 : Int).toNat true) (av q) (at_ (av q).Space n0 n1 n2 0) := by
            rw [hat]
            exact ⟨by show 4 * q + 4 ≤ 0 + 16; omega, hen⟩
          -- where no fault is met
          have quiet : NoF fault.zero (hits (av q).Space ⟨(av q).Addr, (av q).Width⟩) (fl1 (1 + s18 - c)) → ¬ (q = 1 ∧ c < 1 + s18) → (c < 1 + s18 → q = 0) →
              ∃ x n0' n1' n2', iospace_Bus_Access.f k n0 n1 n2 (en.set (7 : Int).toNat true) (fl1 (1 + s18 - c)) tr ⟨0, 4 * q, 4, true, 1⟩ = some (fl1 (1 + s18 - c), tr ++ [x], n0', n1', n2', 0, 0) ∧ One 0 ⟨⟨0, 16⟩, 7, stN D (4 * q) 1 4⟩ n0' n1' n2' := fun hz _ _ =>
            one_write (a := av q) (m := ⟨⟨0, 16⟩, 7, D⟩) hFL hz h4 h5 (by omega) (av_n hq) (av_f hq) htr hin (by rw [hat] at hd; exact hd) rfl
          by_cases ch : q = 1 ∧ c < 1 + s18
          · obtain ⟨rfl, chc⟩ := ch
            have hhit : Fnd fault.zero (hits (av 1).Space ⟨(av 1).Addr, (av 1).Width⟩) (fl1 (1 + s18 - c)) 0 := by
              unfold fl1; rw [if_pos (by omega)]
              exact ⟨by decide, by simp, ⟨rfl, ⟨by show (4 : Int) < 4 * 1 + 4; decide, by show (4 * 1 : Int) < 4 + 4; decide⟩⟩, fun j j0 j1 => by omega⟩
            rcases acc_live hbl (by omega : 300 < k) (av_n hq) (av_f hq) hFL htr hfo hd with ⟨i, hi, hA⟩ | ⟨hz, _⟩
            · rw [hi.uniq hhit, fl1_used (by omega)] at hA
              have hA' : ∃ x, iospace_Bus_Access.f k n0 n1 n2 (en.set (7 : Int).toNat true) (fl1 (1 + s18 - c)) tr ⟨0, 4 * 1, 4, true, 1⟩ = some (fl1 (1 + s18 - c - 1), tr ++ [x], n0, n1, n2, 0, 15) := ⟨_, hA⟩
              obtain ⟨x, hA'⟩ := hA'
              rw [bnd_s hA', if_pos htt, if_pos rfl, Option.bind_some, decide_eq_true chc]
              dsimp only
              have hp : iospace_Bus_Peek.f k n0 n1 n2 (en.set (7 : Int).toNat true) (fl1 (1 + s18 - c - 1)) (tr ++ [x]) 0 4 = some (0, true) := by
                have hfo2 : Found 0 4 n0 n1 n2 0 := h4.found (.inl rfl) ⟨by show (0 : Int) ≤ 4; decide, by show (4 : Int) < 0 + 16; decide⟩
                rw [peek_some hbl (by omega) (.inl rfl) hfo2, h4.at (.inl rfl), show mgetd (⟨⟨0, 16⟩, 7, D⟩ : mapping).data 4 = 0 from h7 chc]
              rw [show (if ((decide ((15 : Int) = 15)) == true) = true then (if (15 : Int) = 0 then (some false) else (some (!true))) else (some true)) = some false from rfl, Option.bind_some, if_neg hft, if_pos htt, bnd_s hp, if_pos rfl, Option.bind_some, el_g]
              have := ih k (y + 1) (c + 1) D n0 n1 n2 (en.set (7 : Int).toNat true) (tr ++ [x]) (by omega) (by omega) (by omega) (by omega) h4 h5 hel (by omega) (by omega) (fun _ => h7 chc) (by simp; omega)
              rw [show 1 + s18 - (c + 1) = 1 + s18 - c - 1 by omega] at this
              exact this
            · exact absurd hhit.2.2.1 (hz 0 hhit.1 hhit.2.1)
          · have hz : NoF fault.zero (hits (av q).Space ⟨(av q).Addr, (av q).Width⟩) (fl1 (1 + s18 - c)) := by
              unfold fl1
              split
              · intro j j0 j1
                simp at j1
                have : j = 0 := by omega
                subst this
                intro hh
                have h' : (4 : Int) < 4 * q + 4 := hh.2.1
                exact ch ⟨by omega, by omega⟩
              · exact noF_nil
            obtain ⟨x, q0, q1, q2, hA, hO⟩ := quiet hz ch (fun h => by omega)
            have hx : (if q = 1 then some (decide (c < 1 + s18)) else some false) = some false := by
              by_cases e : q = 1
              · rw [if_pos e]; congr 1; exact decide_eq_false fun h => ch ⟨e, h⟩
              · rw [if_neg e]
            rw [bnd_s hA, if_pos htt, bnd_s hx]
            dsimp only
            rw [show (if ((decide ((0 : Int) = 15)) == false) = true then (if (0 : Int) = 0 then (some false) else (some (!false))) else (some true)) = some false from rfl, Option.bind_some, if_neg hft, if_neg hft, Option.bind_some, el_g]
            refine ih k (y + 1) c _ q0 q1 q2 _ _ (by omega) (by omega) (by omega) (by omega) hO (h5.st _ _ _) hel c0 c1 (fun h => ?_) (by simp; omega)
            rw [stN_get, if_neg (by omega)]
            exact h7 h
      · rw [if_neg (by rw [decide_eq_false c4]; decide)]
    · rw [if_neg cl, Option.bind_some, if_neg (by decide)]
theorem pureIospaceFaults : law09_IospaceFaults.Pure := by
  intro a0 a1 a2 _ _ hl
  refine ⟨1000, ?_⟩
  unfold law09_IospaceFaults.f
  rw [bnd_s (show iospace_New.f 1000 = some _ from rfl), bnd_s awake_f, if_pos rfl, bnd_s (mod_f 1000 (a := a0) (show (0 : Int) < 8 by decide) (by decide))]
  have hs : 0 ≤ a0 % 18446744073709551616 % 8 ∧ a0 % 18446744073709551616 % 8 < 8 := by omega
  generalize a0 % 18446744073709551616 % 8 = s at hs
  have hr : VR ⟨0, 16⟩ := ⟨by decide, by decide, by decide, by decide⟩
  obtain ⟨n0, n1, n2, h1, h2⟩ := map_one (s := 0) (o := 7) (r := ⟨0, 16⟩) (k := 1000) (en := List.replicate 256 false) (fa := []) (tr := []) (by decide) (.inl rfl) hr ⟨by decide, by decide⟩
  have hm : MW ⟨⟨0, 16⟩, 7, []⟩ := ⟨hr, ⟨by decide, by decide⟩, fun a => ⟨Int.le_refl _, by show (0 : Int) < 256; decide⟩⟩
  have e1 : IntKind.i64.wrap (1 + s) = 1 + s := wi _ (by omega) (by omega)
  have hc : SP 0 ∧ VR ⟨4, 4⟩ ∧ 1 ≤ 1 + s ∧ 1 + s ≤ 64 := ⟨.inl rfl, ⟨by decide, by decide, by decide, by decide⟩, by omega, by omega⟩
  have := fl_loop (a2 := a2) (a1 := a1) (s18 := s) hl hs 30 1000 0 0 [] n0 n1 n2 (List.replicate 256 false) [] (by decide) (by decide) (by decide) (by decide) h2 hm List.length_replicate (by decide) (by omega) (fun _ => rfl) (by decide)
  have e2 : fl1 (1 + s - 0) = [⟨0, ⟨4, 4⟩, 1 + s⟩] := by unfold fl1; rw [if_pos (by omega)]; rw [Int.sub_zero]
  rw [e2] at this
  have hp : iospace_Bus_PlanFault.f 1000 n0 n1 n2 (List.replicate 256 false) [] [] 0 ⟨4, 4⟩ (1 + s) = some ([⟨0, ⟨4, 4⟩, 1 + s⟩], 0) := by
    rw [plan_f (m0 := n0) (m1 := n1) (m2 := n2) (en := List.replicate 256 false) (tr := []) (s := 0) (n := 1 + s) (r := ⟨4, 4⟩) (k := 1000) ⟨by decide, by decide⟩ ⟨by decide, by decide⟩ FL.nil, if_pos hc]; rfl
  rw [bnd_s h1, e1]
  dsimp only
  rw [bnd_s hp]
  dsimp only
  rw [bnd_s this]; rfl
end Go.Proofs.Ytigadacjaglfeaa.X
