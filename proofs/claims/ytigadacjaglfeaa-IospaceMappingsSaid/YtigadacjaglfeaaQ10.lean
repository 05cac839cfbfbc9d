/- The laws on the pure side: io10. -/
import Derived.Test.YtigadacjaglfeaaQ9
namespace Go.Proofs.Ytigadacjaglfeaa.X
open Go Go.Sx

/-! ## mappings never overlap -/
theorem ins_gd {α : Type} {z x : α} {L : List α} {p : Int} (h0 : 0 ≤ p) (h1 : p ≤ L.length) {j : Int} (hj : 0 ≤ j) : gd z (L.take p.toNat ++ x :: L.drop p.toNat) j = if j < p then gd z L j else if j = p then x else gd z L (j - 1) := by
  unfold gd
  rw [List.getD_eq_getElem?_getD, List.getD_eq_getElem?_getD, List.getD_eq_getElem?_getD]
  have hl : (L.take p.toNat).length = p.toNat := by simp; omega
  by_cases c : j < p
  · rw [if_pos c, List.getElem?_append_left (by omega), List.getElem?_take, if_pos (by omega)]
  · rw [if_neg c, List.getElem?_append_right (by omega), hl]
    by_cases c2 : j = p
    · rw [if_pos c2, show j.toNat - p.toNat = 0 by omega]; rfl
    · rw [if_neg c2, show j.toNat - p.toNat = (j.toNat - p.toNat - 1) + 1 by omega, List.getElem?_cons_succ, List.getElem?_drop, show p.toNat + (j.toNat - p.toNat - 1) = (j - 1).toNat by omega]
theorem LW.ins {L : List mapping} {x : mapping} {p : Int} (h : LW L) (hx : MW x) (h0 : 0 ≤ p) (h1 : p ≤ L.length) (hl : L.length < 256) (hd : ∀ i : Int, 0 ≤ i → i < L.length → ¬ ov (gd mapping.zero L i).r x.r) : LW (L.take p.toNat ++ x :: L.drop p.toNat) := by
  have hlen : (L.take p.toNat ++ x :: L.drop p.toNat).length = L.length + 1 := by simp; omega
  have hsym : ∀ a b : Range, ov a b → ov b a := fun a b q => ⟨q.2, q.1⟩
  refine ⟨fun i i0 i1 => ?_, fun i j i0 i1 j0 j1 hij => ?_, by omega⟩
  · rw [ins_gd h0 h1 i0]
    split
    · exact h.mw i i0 (by omega)
    · split
      · exact hx
      · exact h.mw (i - 1) (by omega) (by omega)
  · rw [ins_gd h0 h1 i0, ins_gd h0 h1 j0]
    split
    · split
      · exact h.dis i j i0 (by omega) j0 (by omega) hij
      · split
        · exact hd i i0 (by omega)
        · exact h.dis i (j - 1) i0 (by omega) (by omega) (by omega) (by omega)
    · split
      · split
        · exact fun q => hd j j0 (by omega) (hsym _ _ q)
        · split
          · omega
          · exact fun q => hd (j - 1) (by omega) (by omega) (hsym _ _ q)
      · split
        · exact h.dis (i - 1) j (by omega) (by omega) j0 (by omega) (by omega)
        · split
          · exact hd (i - 1) (by omega) (by omega)
          · exact h.dis (i - 1) (j - 1) (by omega) (by omega) (by omega) (by omega) (by omega)
/-- the table of owners says what the mappings say -/
structure OT (L : List mapping) (O : List Int) : Prop where
  len : O.length = 128
  bd : ∀ i : Int, 0 ≤ i → i < L.length → (gd mapping.zero L i).r.Base + (gd mapping.zero L i).r.Len ≤ 128
  yes : ∀ a i : Int, 0 ≤ i → i < L.length → inr (gd mapping.zero L i).r a → gd 0 O a = (gd mapping.zero L i).owner + 1
  no : ∀ a : Int, 0 ≤ a → a < 128 → (∀ i : Int, 0 ≤ i → i < L.length → ¬ inr (gd mapping.zero L i).r a) → gd 0 O a = 0
theorem free_l {a0 : List Op} {y : Int} {O : List Int} {b n : Int} (hb : Int.tmod ((gd Op.zero a0 y).Addr) 100 = b) (hn : Int.tmod ((gd Op.zero a0 y).Len) 28 = n) (b0 : 0 ≤ b) (n0 : 0 ≤ n) (hbn : b + n ≤ 127) :
    ∀ (m k : Nat) (fr : Bool) (c : Int), b ≤ c → c ≤ b + n → b + n - c ≤ m → m < k → ∃ fr', law09_IospaceMappings.l2 k a0 y O fr c = some fr' ∧ (fr' = true ↔ fr = true ∧ ∀ j, c ≤ j → j < b + n → gd 0 O j = 0) := by
  have ew : IntKind.u64.wrap (b + n) = b + n := wu _ (by omega) (by omega)
  intro m
  induction m with
  | zero =>
    intro k fr c h0 h1 h2 h3
    obtain ⟨k, rfl⟩ : ∃ m, k = m + 1 := ⟨k - 1, by omega⟩
    exact ⟨fr, by rw [law09_IospaceMappings.l2, hb, hn, ew, if_neg (by omega)], fun h => ⟨h, fun j j0 j1 => by omega⟩, fun h => h.1⟩
  | succ m ih =>
    intro k fr c h0 h1 h2 h3
    obtain ⟨k, rfl⟩ : ∃ m, k = m + 1 := ⟨k - 1, by omega⟩
    by_cases cc : c < b + n
    · rw [law09_IospaceMappings.l2, hb, hn, ew, if_pos cc, wu (c + 1) (by omega) (by omega)]
      cases fr with
      | true =>
        rw [if_pos rfl, ck_t (by omega), Option.bind_some]
        obtain ⟨fr', g1, g2⟩ := ih k (decide (gd 0 O c = 0)) (c + 1) (by omega) (by omega) (by omega) (by omega)
        refine ⟨fr', g1, g2.trans ⟨fun h => ⟨rfl, fun j j0 j1 => ?_⟩, fun h => ⟨decide_eq_true (h.2 c (Int.le_refl _) cc), fun j j0 j1 => h.2 j (by omega) j1⟩⟩⟩
        by_cases e : j = c
        · subst e; exact of_decide_eq_true h.1
        · exact h.2 j (by omega) j1
      | false =>
        rw [if_neg hft, Option.bind_some]
        obtain ⟨fr', g1, g2⟩ := ih k false (c + 1) (by omega) (by omega) (by omega) (by omega)
        exact ⟨fr', g1, g2.trans ⟨fun h => absurd h.1 hft, fun h => absurd h.1 hft⟩⟩
    · exact ⟨fr, by rw [law09_IospaceMappings.l2, hb, hn, ew, if_neg cc], fun h => ⟨h, fun j j0 j1 => by omega⟩, fun h => h.1⟩
theorem fill_l {a0 : List Op} {y : Int} {s79 : (List mapping) × (List mapping) × (List mapping) × Int} {b n : Int} (hy0 : 0 ≤ y) (hy1 : y < 30) (hb : Int.tmod ((gd Op.zero a0 y).Addr) 100 = b) (hn : Int.tmod ((gd Op.zero a0 y).Len) 28 = n) (b0 : 0 ≤ b) (n0 : 0 ≤ n) (hbn : b + n ≤ 127) :
    ∀ (m k : Nat) (O : List Int) (c : Int), O.length = 128 → b ≤ c → c ≤ b + n → b + n - c ≤ m → m < k → ∃ O', law09_IospaceMappings.l3 k a0 y s79 O true c = some (.go (s79.1, s79.2.1, s79.2.2.1, O')) ∧ O'.length = 128 ∧ ∀ j, 0 ≤ j → gd 0 O' j = if c ≤ j ∧ j < b + n then y + 1 else gd 0 O j := by
  have ew : IntKind.u64.wrap (b + n) = b + n := wu _ (by omega) (by omega)
  intro m
  induction m with
  | zero =>
    intro k O c hl h0 h1 h2 h3
    obtain ⟨k, rfl⟩ : ∃ m, k = m + 1 := ⟨k - 1, by omega⟩
    refine ⟨O, ?_, hl, fun j _ => by rw [if_neg (by omega)]⟩
    rw [law09_IospaceMappings.l3, hb, hn, ew, if_pos rfl, Option.bind_some]
    dsimp only
    rw [if_neg (by rw [decide_eq_false (show ¬ c < b + n by omega)]; exact hft)]
  | succ m ih =>
    intro k O c hl h0 h1 h2 h3
    obtain ⟨k, rfl⟩ : ∃ m, k = m + 1 := ⟨k - 1, by omega⟩
    rw [law09_IospaceMappings.l3, hb, hn, ew, if_pos rfl, Option.bind_some]
    dsimp only
    by_cases cc : c < b + n
    · rw [if_pos (decide_eq_true cc), ck_t (by omega), wi (y + 1) (by omega) (by omega), wu (c + 1) (by omega) (by omega)]
      obtain ⟨O', g1, g2, g3⟩ := ih k (O.set c.toNat (y + 1)) (c + 1) (by rw [List.length_set, hl]) (by omega) (by omega) (by omega) (by omega)
      refine ⟨O', g1, g2, fun j hj => ?_⟩
      rw [g3 j hj, gd_set (by omega) (by omega) hj]
      by_cases e : j = c
      · subst e; rw [if_neg (by omega), if_pos rfl, if_pos (by omega)]
      · rw [if_neg e]
        by_cases c2 : c + 1 ≤ j ∧ j < b + n
        · rw [if_pos c2, if_pos (by omega)]
        · rw [if_neg c2, if_neg (by omega)]
    · rw [if_neg (by rw [decide_eq_false cc]; exact hft)]
      exact ⟨O, rfl, hl, fun j _ => by rw [if_neg (by omega)]⟩
theorem fill_no {a0 : List Op} {y c : Int} {s79 : (List mapping) × (List mapping) × (List mapping) × Int} {O : List Int} {k : Nat} (hk : 0 < k) : law09_IospaceMappings.l3 k a0 y s79 O false c = some (.go (s79.1, s79.2.1, s79.2.2.1, O)) := by
  obtain ⟨k, rfl⟩ : ∃ m, k = m + 1 := ⟨k - 1, by omega⟩
  rw [law09_IospaceMappings.l3, if_neg hft, Option.bind_some]
  dsimp only
  rw [if_neg hft]
theorem mp_loop {a0 : List Op} (hw : ∀ x ∈ a0, Op.wf x) (hl : (a0.length : Int) ≤ 9223372036854775807) {s2 : (List mapping) × (List mapping) × (List mapping) × (List Bool) × (List fault) × (List Traced)} :
    ∀ (n k : Nat) (y : Int) (L : List mapping) (O : List Int), 0 ≤ y → y ≤ 30 → 30 - y ≤ n → n + 301 < k → LW L → OT L O → (L.length : Int) ≤ y →
      ∃ L' O', law09_IospaceMappings.l1 k a0 s2 [] L [] O y = some (.go ([], L', [], O')) ∧ LW L' ∧ OT L' O' := by
  intro n
  induction n with
  | zero =>
    intro k y L O h0 h1 h2 h3 h4 h5 h6
    obtain ⟨k, rfl⟩ : ∃ m, k = m + 1 := ⟨k - 1, by omega⟩
    refine ⟨L, O, ?_, h4, h5⟩
    rw [law09_IospaceMappings.l1]
    by_cases c : y < (a0.length : Int)
    · rw [if_pos c, Option.bind_some, if_neg (by rw [decide_eq_false (show ¬ y < 30 by omega)]; exact hft)]
    · rw [if_neg c, Option.bind_some, if_neg hft]
  | succ n ih =>
    intro k y L O h0 h1 h2 h3 h4 h5 h6
    obtain ⟨k, rfl⟩ : ∃ m, k = m + 1 := ⟨k - 1, by omega⟩
    rw [law09_IospaceMappings.l1]
    by_cases cl : y < (a0.length : Int)
    · rw [if_pos cl, Option.bind_some]
      by_cases c4 : y < 30
      · rw [if_pos (decide_eq_true c4), ck_t ⟨h0, cl⟩]
        have hx := hw _ (gd_mem (z := Op.zero) h0 cl)
        have ha := inK_u64 hx.2.2.1
        have hn := inK_u64 hx.2.2.2.1
        obtain ⟨b, hb⟩ : ∃ b, Int.tmod ((gd Op.zero a0 y).Addr) 100 = b := ⟨_, rfl⟩
        obtain ⟨m, hm⟩ : ∃ b, Int.tmod ((gd Op.zero a0 y).Len) 28 = b := ⟨_, rfl⟩
        have hb' : (gd Op.zero a0 y).Addr % 100 = b := by rw [← hb, tm _ ha.1]
        have hm' : (gd Op.zero a0 y).Len % 28 = m := by rw [← hm, tm _ hn.1]
        have b0 : 0 ≤ b ∧ b < 100 := by omega
        have m0 : 0 ≤ m ∧ m < 28 := by omega
        rw [wi (y + 1) (by omega) (by omega)]
        obtain ⟨fr, g1, g2⟩ := free_l (O := O) hb hm b0.1 m0.1 (by omega) 28 k (decide (0 < m)) b (Int.le_refl _) (by omega) (by omega) (by omega)
        rw [hb, hm, bnd_s g1]
        have hbl : BL [] L [] := ⟨.nil, h4, .nil⟩
        have hvr : 0 < m → VR ⟨b, m⟩ := fun h => ⟨b0.1, by show 1 ≤ m; omega, by show m ≤ 1048576; omega, by show b + m ≤ 18446744073709551616; omega⟩
        -- refused
        have bad : ∀ e : Int, e ≠ 0 → iospace_Bus_Map.f k [] L [] s2.2.2.2.1 s2.2.2.2.2.1 s2.2.2.2.2.2 1 ⟨b, m⟩ y = some ([], L, [], e) → fr = false → ∃ L' O', ((((iospace_Bus_Map.f k [] L [] s2.2.2.2.1 s2.2.2.2.2.1 s2.2.2.2.2.2 1 (⟨b, m⟩ : Range) y).bind fun s79 => (if ((decide (s79.2.2.2 = 0)) == fr) = true then (law09_IospaceMappings.l3 k a0 y s79 O fr b) else (some (.rt (some (.rt (some false))))))) : Option (Ex ((List mapping) × (List mapping) × (List mapping) × (List Int)) (Option (Ex ((List mapping) × (List mapping) × (List mapping) × (List Int)) (Option (Bool)))))).bind fun x48 => x48.el (fun x48s => (law09_IospaceMappings.l1 k a0 s2 x48s.1 x48s.2.1 x48s.2.2.1 x48s.2.2.2 (y + 1))) (fun o => o)) = some (.go ([], L', [], O')) ∧ LW L' ∧ OT L' O' := by
          intro e he hM hf
          subst hf
          rw [bnd_s hM]
          dsimp only
          rw [decide_eq_false he, if_pos (show (false == false) = true from rfl), fill_no (by omega), Option.bind_some, el_g]
          exact ih k (y + 1) L O (by omega) (by omega) (by omega) (by omega) h4 h5 (by omega)
        by_cases cm : 0 < m
        · rcases map_f (en := s2.2.2.2.1) (fa := s2.2.2.2.2.1) (tr := s2.2.2.2.2.2) (s := 1) (o := y) (r := ⟨b, m⟩) hbl (show 256 < k by omega) (.inr (.inl rfl)) (hvr cm) ⟨h0, by omega⟩ (by show (0 : Int) + L.length + 0 < 256; omega) with ⟨hM, i, hi⟩ | ⟨hz, p0, p1, p2, i, hM, i0, i1, hs⟩
          · refine bad 17 (by decide) hM (Bool.eq_false_iff.2 fun hf => ?_)
            obtain ⟨q0, q1, ⟨q2, q3⟩, _⟩ := hi
            have q1' : i < (L.length : Int) := q1
            have q2' : (gd mapping.zero L i).r.Base < b + m := q2
            have q3' : b < (gd mapping.zero L i).r.Base + (gd mapping.zero L i).r.Len := q3
            have hl1 := (h4.mw i q0 q1').r.l1
            have ho := (h4.mw i q0 q1').o.1
            have key : ∀ j, b ≤ j → j < b + m → inr (gd mapping.zero L i).r j → False := fun j j0 j1 hj => by
              have := (g2.1 hf).2 j j0 j1
              rw [h5.yes j i q0 q1' hj] at this; omega
            by_cases c : b ≤ (gd mapping.zero L i).r.Base
            · exact key _ c q2' ⟨Int.le_refl _, by omega⟩
            · exact key b (Int.le_refl _) (by omega) ⟨by omega, q3'⟩
          · have e0 : p0 = [] := hs 0 (.inl rfl)
            have e2 : p2 = [] := hs 2 (.inr (.inr rfl))
            have e1 : p1 = L.take i.toNat ++ ⟨⟨b, m⟩, y, []⟩ :: L.drop i.toNat := hs 1 (.inr (.inl rfl))
            subst e0 e2 e1
            have i1' : i ≤ (L.length : Int) := i1
            have hz' : ∀ j : Int, 0 ≤ j → j < L.length → ¬ ov (gd mapping.zero L j).r ⟨b, m⟩ := fun j j0 j1 => hz j j0 j1
            have hfr : fr = true := g2.2 ⟨decide_eq_true cm, fun j j0 j1 => h5.no j (by omega) (by omega) fun q q0 q1 hq => hz' q q0 q1 ⟨by show _ < b + m; have := hq.1; omega, by show b < _; have := hq.2; omega⟩⟩
            subst hfr
            rw [bnd_s hM]
            dsimp only
            rw [decide_eq_true (show (0 : Int) = 0 from rfl), if_pos (show (true == true) = true from rfl)]
            obtain ⟨O', f1, f2, f3⟩ := fill_l (s79 := (([] : List mapping), L.take i.toNat ++ ⟨⟨b, m⟩, y, []⟩ :: L.drop i.toNat, ([] : List mapping), (0 : Int))) h0 c4 hb hm b0.1 m0.1 (by omega) 28 k O b h5.len (Int.le_refl _) (by omega) (by omega) (by omega)
            rw [bnd_s f1, el_g]
            dsimp only
            have hlen : (L.take i.toNat ++ (⟨⟨b, m⟩, y, []⟩ : mapping) :: L.drop i.toNat).length = L.length + 1 := by simp; omega
            refine ih k (y + 1) _ O' (by omega) (by omega) (by omega) (by omega) (h4.ins ⟨hvr cm, ⟨h0, by show y < 256; omega⟩, fun a => ⟨Int.le_refl _, by show (0 : Int) < 256; decide⟩⟩ i0 i1' (by omega) hz') ⟨f2, fun j j0 j1 => ?_, fun a j j0 j1 => ?_, fun a a0 a1 hno => ?_⟩ (by omega)
            · rw [ins_gd i0 i1' j0]
              split
              · exact h5.bd j j0 (by omega)
              · split
                · show b + m ≤ 128; omega
                · exact h5.bd (j - 1) (by omega) (by omega)
            · have old : ∀ q : Int, 0 ≤ q → q < L.length → inr (gd mapping.zero L q).r a → gd 0 O' a = (gd mapping.zero L q).owner + 1 := fun q q0 q1 hq => by
                have hb2 := (h4.mw q q0 q1).r.b0
                rw [f3 a (by have := hq.1; omega), if_neg (fun hh => hz' q q0 q1 ⟨by show _ < b + m; have := hq.1; omega, by show b < _; have := hq.2; omega⟩)]
                exact h5.yes a q q0 q1 hq
              rw [ins_gd i0 i1' j0]
              split
              · exact old j j0 (by omega)
              · split
                · intro hq
                  have h7 : b ≤ a := hq.1
                  have h8 : a < b + m := hq.2
                  rw [f3 a (by omega), if_pos ⟨h7, h8⟩]
                · exact old (j - 1) (by omega) (by omega)
            · rw [f3 a a0]
              have hnew := hno i i0 (by omega)
              rw [ins_gd i0 i1' i0, if_neg (by omega), if_pos rfl] at hnew
              rw [if_neg (show ¬ (b ≤ a ∧ a < b + m) from hnew)]
              refine h5.no a a0 a1 fun q q0 q1 hq => ?_
              by_cases c : q < i
              · have := hno q q0 (by omega)
                rw [ins_gd i0 i1' q0, if_pos c] at this
                exact this hq
              · have := hno (q + 1) (by omega) (by omega)
                rw [ins_gd i0 i1' (by omega), if_neg (by omega), if_neg (by omega), show q + 1 - 1 = q by omega] at this
                exact this hq
        · have hm0 : m = 0 := by omega
          subst hm0
          refine bad 1 (by decide) (map_bad ⟨b0.1, by show b < _; omega⟩ ⟨by show (0 : Int) ≤ 0; decide, by show (0 : Int) < _; decide⟩ fun h => by have : (1 : Int) ≤ 0 := h.2.1.l1; omega) (Bool.eq_false_iff.2 fun hf => ?_)
          have := of_decide_eq_true (g2.1 hf).1
          omega
      · rw [if_neg (by rw [decide_eq_false c4]; exact hft)]
        exact ⟨L, O, rfl, h4, h5⟩
    · rw [if_neg cl, Option.bind_some, if_neg hft]
      exact ⟨L, O, rfl, h4, h5⟩
theorem ow_loop {L : List mapping} {O : List Int} (hL : LW L) (hO : OT L O) {s2 : (List mapping) × (List mapping) × (List mapping) × (List Bool) × (List fault) × (List Traced)} :
    ∀ (n k : Nat) (y : Int), 0 ≤ y → y ≤ 128 → 128 - y ≤ n → n + 301 < k → law09_IospaceMappings.l4 k ([], L, [], O) s2 y = some (.go ()) := by
  intro n
  induction n with
  | zero =>
    intro k y h0 h1 h2 h3
    obtain ⟨k, rfl⟩ : ∃ m, k = m + 1 := ⟨k - 1, by omega⟩
    rw [law09_IospaceMappings.l4, if_neg (by omega)]
  | succ n ih =>
    intro k y h0 h1 h2 h3
    obtain ⟨k, rfl⟩ : ∃ m, k = m + 1 := ⟨k - 1, by omega⟩
    rw [law09_IospaceMappings.l4]
    by_cases c : y < 128
    · have hbl : BL [] L [] := ⟨.nil, hL, .nil⟩
      rw [if_pos c, wu y (by omega) (by omega), wi (y + 1) (by omega) (by omega)]
      dsimp only
      have ho : iospace_Bus_Owner.f k [] L [] s2.2.2.2.1 s2.2.2.2.2.1 s2.2.2.2.2.2 1 y = some (gd 0 O y - 1) := by
        rcases find_f (en := s2.2.2.2.1) (fa := s2.2.2.2.2.1) (tr := s2.2.2.2.2.2) (s := 1) (a := y) (k := k) hbl (by omega) with ⟨_, i, hi, _⟩ | ⟨hz, _⟩
        · rw [owner_some hbl (by omega) (.inr (.inl rfl)) hi]
          have hy := hO.yes y i hi.1 hi.2.1 hi.2.2.1
          rw [hy]
          show some (gd mapping.zero L i).owner = _
          congr 1; omega
        · rw [owner_none hbl (by omega) hz, hO.no y h0 c (fun i i0 i1 hi => hz (.inr (.inl rfl)) i i0 i1 hi)]; rfl
      have hb : 0 ≤ gd 0 O y ∧ gd 0 O y ≤ 256 := by
        by_cases e : ∃ i : Int, 0 ≤ i ∧ i < L.length ∧ inr (gd mapping.zero L i).r y
        · obtain ⟨i, i0, i1, hi⟩ := e
          rw [hO.yes y i i0 i1 hi]
          have := (hL.mw i i0 i1).o
          unfold OW at this; omega
        · rw [hO.no y h0 c (fun i i0 i1 hi => e ⟨i, i0, i1, hi⟩)]; omega
      rw [bnd_s ho, ck_t ⟨h0, c⟩, wi (gd 0 O y - 1) (by omega) (by omega), if_pos rfl]
      exact ih k (y + 1) (by omega) (by omega) (by omega) (by omega)
    · rw [if_neg c]
theorem pureIospaceMappings : law09_IospaceMappings.Pure := by
  intro a0 hl hw
  refine ⟨1000, ?_⟩
  unfold law09_IospaceMappings.f
  rw [bnd_s (show iospace_New.f 1000 = some _ from rfl), bnd_s awake_f, if_pos rfl]
  have hO : OT [] (List.replicate 128 0) := ⟨List.length_replicate, fun i i0 i1 => by simp at i1; omega, fun a i i0 i1 => by simp at i1; omega, fun a _ _ _ => gd_rep⟩
  obtain ⟨L, O, h1, h2, h3⟩ := mp_loop (a0 := a0) hw hl (s2 := ([], [], [], (List.replicate 256 false), [], ([] : List Traced))) 30 1000 0 [] (List.replicate 128 0) (by decide) (by decide) (by decide) (by decide) .nil hO (by decide)
  dsimp only
  rw [bnd_s h1, el_g, bnd_s (ow_loop h2 h3 128 1000 0 (by decide) (by decide) (by decide) (by decide))]; rfl
end Go.Proofs.Ytigadacjaglfeaa.X
