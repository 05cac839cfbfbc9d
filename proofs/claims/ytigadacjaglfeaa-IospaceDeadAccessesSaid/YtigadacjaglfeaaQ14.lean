/- The laws on the pure side: io14. -/
import Derived.Test.YtigadacjaglfeaaQ13
namespace Go.Proofs.Ytigadacjaglfeaa.X
open Go Go.Sx
section
variable {m0 m1 m2 : List mapping} {en : List Bool} {F : List fault} {tr : List Traced} {X : List ref09_mapping} {G : List ref09_fault} {n : Int} {k : Nat}
theorem apply_sim (h : Sim m0 m1 m2 F tr X G n) (hn : n ≤ 100) (hk : 500 < k) {o : Op} (ha : U o.Addr) (hl : U o.Len) (hv : U o.Value) :
    ∃ n0 n1 n2 en' F' tr' X' G', law09_both_apply.f k m0 m1 m2 en F tr X en G tr o = some (n0, n1, n2, en', F', tr', X', en', G', tr', true) ∧ Sim n0 n1 n2 F' tr' X' G' (n + 1) ∧ en'.length = en.length := by
  have hg := h.g
  have ht := h.t
  have hx := h.x
  unfold law09_both_apply.f
  by_cases c0 : o.Kind = 0 ∨ o.Kind = 1
  · have hc : (if o.Kind = 0 then some true else some (decide (o.Kind = 1))) = some true := by
      by_cases c : o.Kind = 0
      · rw [if_pos c]
      · rw [if_neg c, decide_eq_true (by omega)]
    obtain ⟨n0, n1, n2, X', e, h1, h2, h3⟩ := map_sim (en := en) (s := o.Space) (o := o.Owner) (r := ⟨o.Addr, o.Len⟩) h hn hk ha hl
    rw [bnd_s hc, if_pos rfl, bnd_s h1, bnd_s h2]
    exact ⟨n0, n1, n2, en, F, tr, X', G, by rw [decide_eq_true rfl], h3, rfl⟩
  · have hc : (if o.Kind = 0 then some true else some (decide (o.Kind = 1))) = some false := by
      rw [if_neg (by omega), decide_eq_false (by omega)]
    rw [bnd_s hc, if_neg hft]
    by_cases c2 : o.Kind = 2
    · obtain ⟨n0, n1, n2, X', e, h1, h2, h3⟩ := unmap_sim (en := en) (s := o.Space) (r := ⟨o.Addr, o.Len⟩) h hk
      rw [if_pos c2, bnd_s h1, bnd_s h2]
      exact ⟨n0, n1, n2, en, F, tr, X', G, by rw [decide_eq_true rfl], h3, rfl⟩
    · rw [if_neg c2]
      by_cases c3 : o.Kind = 3 ∨ o.Kind = 4
      · have hc : (if o.Kind = 3 then some true else some (decide (o.Kind = 4))) = some true := by
          by_cases c : o.Kind = 3
          · rw [if_pos c]
          · rw [if_neg c, decide_eq_true (by omega)]
        rw [bnd_s hc, if_pos rfl, enable_f, renable_f]
        by_cases c : OW o.Owner
        · rw [if_pos c, Option.bind_some, Option.bind_some]
          exact ⟨m0, m1, m2, _, F, tr, X, G, by rw [decide_eq_true rfl], h.up, by rw [List.length_set]⟩
        · rw [if_neg c, Option.bind_some, Option.bind_some]
          exact ⟨m0, m1, m2, _, F, tr, X, G, by rw [decide_eq_true rfl], h.up, rfl⟩
      · have hc : (if o.Kind = 3 then some true else some (decide (o.Kind = 4))) = some false := by
          rw [if_neg (by omega), decide_eq_false (by omega)]
        rw [bnd_s hc, if_neg hft]
        by_cases c5 : o.Kind = 5
        · obtain ⟨F', G', e, h1, h2, h3⟩ := plan_sim (en := en) (s := o.Space) (c := o.Width) (r := ⟨o.Addr, o.Len⟩) h hn hk ha hl
          rw [if_pos c5, bnd_s h1, bnd_s h2]
          exact ⟨m0, m1, m2, en, F', tr, X, G', by rw [decide_eq_true rfl], h3, rfl⟩
        · rw [if_neg c5]
          by_cases c6 : o.Kind = 6
          · rw [if_pos c6, bnd_s (show iospace_Bus_TakeTrace.f k m0 m1 m2 en F tr = some ([], tr) from rfl), bnd_s (show ref09_Bus_TakeTrace.f k X en G tr = some ([], tr) from rfl), bnd_s (equal_f (T := tr) (by omega) (by omega))]
            exact ⟨m0, m1, m2, en, F, [], X, G, rfl, ⟨h.ms, h.fs, by omega, by omega, by simp; omega⟩, rfl⟩
          · rw [if_neg c6]
            by_cases c7 : o.Kind = 7
            · obtain ⟨n0, n1, n2, X', b, h1, h2, h3⟩ := poke_sim (en := en) (s := o.Space) (a := o.Addr) (v := IntKind.u8.wrap o.Value) h hk ha (by rw [wu8]; omega)
              rw [if_pos c7, bnd_s h1, bnd_s h2]
              exact ⟨n0, n1, n2, en, F, tr, X', G, by simp, h3, rfl⟩
            · rw [if_neg c7]
              obtain ⟨n0, n1, n2, F', tr', X', G', v, e, h1, h2, h3⟩ := access_sim (en := en) (a := ⟨o.Space, o.Addr, o.Width, o.Write, o.Value⟩) h hn hk ⟨ha, hv⟩
              obtain ⟨p, h4, h5⟩ := peek_sim (en := en) (s := o.Space) (a := o.Addr) h3 hk ha
              obtain ⟨w, h6, h7⟩ := owner_sim (en := en) (s := o.Space) (a := o.Addr) h3 hk ha
              rw [bnd_s h1, bnd_s h2]
              dsimp only
              rw [bnd_s h4, bnd_s h5, if_pos rfl, if_pos rfl, if_pos rfl, if_pos (by simp), bnd_s h6, bnd_s h7, if_pos rfl, enabled_f, renabled_f, Option.bind_some, Option.bind_some]
              exact ⟨n0, n1, n2, en, F', tr', X', G', by simp, h3, rfl⟩
end
theorem some_ok {o : Op} (h : Op.wf o) (k : Nat) : ∃ o', law09_some.f k o = some o' ∧ U o'.Addr ∧ U o'.Len ∧ U o'.Value := by
  obtain ⟨_, _, h3, h4, _, _, h7⟩ := h
  have h3 := inK_u64 h3
  have h4 := inK_u64 h4
  have h7 := inK_u64 h7
  unfold law09_some.f
  rw [bnd_s (mod_f k (a := o.Kind) (show (0 : Int) < 16 by decide) (by decide))]
  generalize o.Kind % 18446744073709551616 % 16 = q
  have tail : ∃ o', ((help_Mod.f k o.Space 4).bind fun s13 => (((if 9223372036854775808 < o.Addr then (some (IntKind.u64.wrap (18446744073709551615 - (Int.tmod o.Addr 64)))) else (some (Int.tmod o.Addr 64)))).bind fun x15 => ((help_Mod.f k o.Width 6).bind fun s22 => (ck ((0 : Int) ≤ s22 ∧ s22 < (([1, 1, 2, 4, 8, 3] : List Int).length : Int)) ((help_Mod.f k o.Owner 5).bind fun s25 => (((((if (gd 0 ([1, 1, 2, 4, 8, 3] : List Int) s22) = 3 then (some false) else (some (decide (7 < q))))).bind fun x28 => (if x28 = true then (ck ((IntKind.u64.wrap (gd 0 ([1, 1, 2, 4, 8, 3] : List Int) s22)) ≠ (0 : Int)) (some (IntKind.u64.wrap (x15 - (Int.tmod x15 (IntKind.u64.wrap (gd 0 ([1, 1, 2, 4, 8, 3] : List Int) s22))))))) else (some x15)))).bind fun x27 => (some (⟨q, s13, x27, (Int.tmod o.Len 40), (gd 0 ([1, 1, 2, 4, 8, 3] : List Int) s22), (IntKind.i64.wrap (s25 - 1)), o.Write, o.Value, o.Raw⟩ : Op)))))))) = some o' ∧ U o'.Addr ∧ U o'.Len ∧ U o'.Value := by
    rw [bnd_s (mod_f k (a := o.Space) (show (0 : Int) < 4 by decide) (by decide))]
    have hx : ∃ x, (if 9223372036854775808 < o.Addr then (some (IntKind.u64.wrap (18446744073709551615 - (Int.tmod o.Addr 64)))) else (some (Int.tmod o.Addr 64))) = some x ∧ U x := by
      rw [tm _ h3.1]
      split
      · exact ⟨_, rfl, wu_lo _, wu_hi _⟩
      · exact ⟨_, rfl, by omega, by omega⟩
    obtain ⟨x, hx, ux⟩ := hx
    rw [bnd_s hx, bnd_s (mod_f k (a := o.Width) (show (0 : Int) < 6 by decide) (by decide))]
    have hm : 0 ≤ o.Width % 18446744073709551616 % 6 ∧ o.Width % 18446744073709551616 % 6 < 6 := by omega
    generalize o.Width % 18446744073709551616 % 6 = m at hm
    rw [ck_t (show 0 ≤ m ∧ m < ((([1, 1, 2, 4, 8, 3] : List Int).length : Nat) : Int) from hm), bnd_s (mod_f k (a := o.Owner) (show (0 : Int) < 5 by decide) (by decide))]
    have hw : IntKind.u64.wrap (gd 0 ([1, 1, 2, 4, 8, 3] : List Int) m) ≠ 0 := by
      have : m = 0 ∨ m = 1 ∨ m = 2 ∨ m = 3 ∨ m = 4 ∨ m = 5 := by omega
      rcases this with rfl | rfl | rfl | rfl | rfl | rfl <;> exact fun h => by revert h; decide
    have hy : ∃ y, (((if (gd 0 ([1, 1, 2, 4, 8, 3] : List Int) m) = 3 then (some false) else (some (decide (7 < q))))).bind fun x28 => (if x28 = true then (ck ((IntKind.u64.wrap (gd 0 ([1, 1, 2, 4, 8, 3] : List Int) m)) ≠ (0 : Int)) (some (IntKind.u64.wrap (x - (Int.tmod x (IntKind.u64.wrap (gd 0 ([1, 1, 2, 4, 8, 3] : List Int) m))))))) else (some x))) = some y ∧ U y := by
      have go : ∀ b : Bool, ∃ y, (if b = true then (ck ((IntKind.u64.wrap (gd 0 ([1, 1, 2, 4, 8, 3] : List Int) m)) ≠ (0 : Int)) (some (IntKind.u64.wrap (x - (Int.tmod x (IntKind.u64.wrap (gd 0 ([1, 1, 2, 4, 8, 3] : List Int) m))))))) else (some x)) = some y ∧ U y := fun b => by
        cases b with
        | true => rw [if_pos rfl, ck_t hw]; exact ⟨_, rfl, wu_lo _, wu_hi _⟩
        | false => rw [if_neg hft]; exact ⟨x, rfl, ux⟩
      split
      · rw [Option.bind_some]; exact go false
      · rw [Option.bind_some]; exact go _
    obtain ⟨y, hy, uy⟩ := hy
    rw [bnd_s hy]
    refine ⟨_, rfl, uy, ?_, h7⟩
    show U (Int.tmod o.Len 40)
    rw [tm _ h4.1]
    exact ⟨by omega, by omega⟩
  by_cases c : o.Raw = true
  · rw [if_pos c, Option.bind_some]
    by_cases c2 : 1 < q
    · rw [if_pos (decide_eq_true c2)]; exact ⟨_, rfl, h3, h4, h7⟩
    · rw [if_neg (by rw [decide_eq_false c2]; exact hft)]; exact tail
  · rw [if_neg c, Option.bind_some, if_neg hft]; exact tail
theorem sim0 : Sim [] [] [] [] [] [] [] 0 := by
  have h0 : ∀ t, sel t ([] : List mapping) [] [] = [] := fun t => by unfold sel; split; rfl; split <;> rfl
  refine ⟨⟨⟨.nil, .nil, .nil⟩, ⟨⟨fun i i0 i1 => by simp at i1; omega, by simp⟩, fun i j i0 i1 => by simp at i1; omega, fun i i0 i1 => by simp at i1; omega⟩, rfl, fun s _ i i0 i1 => ?_, fun j j0 j1 => by simp at j1; omega⟩, ⟨FL.nil, ⟨fun i i0 i1 => by simp at i1; omega, by simp⟩, rfl⟩, by simp, by simp, by simp⟩
  rw [h0] at i1; simp at i1; omega
theorem eta_op (o : Op) : (⟨o.Kind, o.Space, o.Addr, o.Len, o.Width, o.Owner, o.Write, o.Value, o.Raw⟩ : Op) = o := rfl
end Go.Proofs.Ytigadacjaglfeaa.X
