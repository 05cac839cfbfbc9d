/- The laws on the pure side: io2. -/
import Derived.Test.YtigadacjaglfeaaQ1
namespace Go.Proofs.Ytigadacjaglfeaa.X
open Go Go.Sx
def sel (s : Int) (m0 m1 m2 : List mapping) : List mapping := if s = 0 then m0 else if s = 1 then m1 else m2
theorem sel0 {m0 m1 m2 : List mapping} : sel 0 m0 m1 m2 = m0 := rfl
theorem sel1 {m0 m1 m2 : List mapping} : sel 1 m0 m1 m2 = m1 := rfl
theorem sel2 {m0 m1 m2 : List mapping} : sel 2 m0 m1 m2 = m2 := rfl
structure MW (m : mapping) : Prop where
  r : VR m.r
  o : OW m.owner
  d : ∀ a, 0 ≤ mgetd m.data a ∧ mgetd m.data a < 256
structure LW (L : List mapping) : Prop where
  mw : ∀ i : Int, 0 ≤ i → i < L.length → MW (gd mapping.zero L i)
  dis : ∀ i j : Int, 0 ≤ i → i < L.length → 0 ≤ j → j < L.length → i ≠ j → ¬ ov (gd mapping.zero L i).r (gd mapping.zero L j).r
  len : L.length ≤ 256
theorem LW.one {L : List mapping} (h : LW L) {i j : Int} {a : Int} (i0 : 0 ≤ i) (i1 : i < L.length) (j0 : 0 ≤ j) (j1 : j < L.length) (hi : inr (gd mapping.zero L i).r a) (hj : inr (gd mapping.zero L j).r a) : i = j := by
  by_cases e : i = j
  · exact e
  · exact absurd (by unfold ov; unfold inr at hi hj; omega) (h.dis i j i0 i1 j0 j1 e)
def cin (a : Int) : mapping → Prop := fun m => inr m.r a
instance (a : Int) : DecidablePred (cin a) := fun m => by unfold cin; infer_instance
theorem wi_next {y : Int} {n : Nat} (h0 : 0 ≤ y) (h1 : y < n) (hn : n ≤ 1048576) : IntKind.i64.wrap (y + 1) = y + 1 := wi _ (by omega) (by omega)
theorem find_l1 {L : List mapping} {a : Int} {k : Nat} (hL : LW L) (hk : 256 < k) :
    (∃ i, Fnd mapping.zero (cin a) L i ∧ iospace_Bus_find.l1 k L a 0 = some (.rt (some ((0 : Int), i)))) ∨ (NoF mapping.zero (cin a) L ∧ iospace_Bus_find.l1 k L a 0 = some (.go ())) := by
  have hlen := hL.len
  have pre : ∀ k y, 0 ≤ y → y < (L.length : Int) → iospace_Bus_find.l1 (k + 1) L a y = if cin a (gd mapping.zero L y) then some (.rt (some ((0 : Int), y))) else iospace_Bus_find.l1 k L a (y + 1) := fun k y h0 h1 => by
    have hm := (hL.mw y h0 h1).r
    obtain ⟨q1, q2, q3, q4⟩ := id hm
    rw [iospace_Bus_find.l1, if_pos h1, ck_t ⟨h0, h1⟩, wi_next h0 h1 (by omega)]
    by_cases c : (gd mapping.zero L y).r.Base ≤ a
    · rw [if_pos c, bnd_s (last_f k (r := ⟨_, _⟩) hm)]
      by_cases c2 : a ≤ (gd mapping.zero L y).r.Base + (gd mapping.zero L y).r.Len - 1
      · rw [if_pos (show cin a (gd mapping.zero L y) by unfold cin inr; omega)]
        rw [Option.bind_some, if_pos (decide_eq_true c2)]
      · rw [if_neg (show ¬ cin a (gd mapping.zero L y) by unfold cin inr; omega)]
        rw [Option.bind_some, if_neg (by rw [decide_eq_false c2]; decide)]
    · rw [if_neg c, if_neg (show ¬ cin a (gd mapping.zero L y) by unfold cin inr; omega)]
      rfl
  exact srch0 mapping.zero (cin a) (fun i => some ((0 : Int), i)) L (fun k y => iospace_Bus_find.l1 k L a y) (by omega)
    (fun k y h0 h1 hp => by show iospace_Bus_find.l1 (k + 1) L a y = _; rw [pre k y h0 h1, if_pos hp])
    (fun k y h0 h1 hp => by show iospace_Bus_find.l1 (k + 1) L a y = _; rw [pre k y h0 h1, if_neg hp])
    (fun k y h1 => by show iospace_Bus_find.l1 (k + 1) L a y = _; rw [iospace_Bus_find.l1, if_neg (by omega)])
theorem find_l2 {L : List mapping} {a : Int} {k : Nat} (hL : LW L) (hk : 256 < k) :
    (∃ i, Fnd mapping.zero (cin a) L i ∧ iospace_Bus_find.l2 k L a 0 = some (.rt (some ((1 : Int), i)))) ∨ (NoF mapping.zero (cin a) L ∧ iospace_Bus_find.l2 k L a 0 = some (.go ())) := by
  have hlen := hL.len
  have pre : ∀ k y, 0 ≤ y → y < (L.length : Int) → iospace_Bus_find.l2 (k + 1) L a y = if cin a (gd mapping.zero L y) then some (.rt (some ((1 : Int), y))) else iospace_Bus_find.l2 k L a (y + 1) := fun k y h0 h1 => by
    have hm := (hL.mw y h0 h1).r
    obtain ⟨q1, q2, q3, q4⟩ := id hm
    rw [iospace_Bus_find.l2, if_pos h1, ck_t ⟨h0, h1⟩, wi_next h0 h1 (by omega)]
    by_cases c : (gd mapping.zero L y).r.Base ≤ a
    · rw [if_pos c, bnd_s (last_f k (r := ⟨_, _⟩) hm)]
      by_cases c2 : a ≤ (gd mapping.zero L y).r.Base + (gd mapping.zero L y).r.Len - 1
      · rw [if_pos (show cin a (gd mapping.zero L y) by unfold cin inr; omega)]
        rw [Option.bind_some, if_pos (decide_eq_true c2)]
      · rw [if_neg (show ¬ cin a (gd mapping.zero L y) by unfold cin inr; omega)]
        rw [Option.bind_some, if_neg (by rw [decide_eq_false c2]; decide)]
    · rw [if_neg c, if_neg (show ¬ cin a (gd mapping.zero L y) by unfold cin inr; omega)]
      rfl
  exact srch0 mapping.zero (cin a) (fun i => some ((1 : Int), i)) L (fun k y => iospace_Bus_find.l2 k L a y) (by omega)
    (fun k y h0 h1 hp => by show iospace_Bus_find.l2 (k + 1) L a y = _; rw [pre k y h0 h1, if_pos hp])
    (fun k y h0 h1 hp => by show iospace_Bus_find.l2 (k + 1) L a y = _; rw [pre k y h0 h1, if_neg hp])
    (fun k y h1 => by show iospace_Bus_find.l2 (k + 1) L a y = _; rw [iospace_Bus_find.l2, if_neg (by omega)])
theorem find_l3 {L : List mapping} {a : Int} {k : Nat} (hL : LW L) (hk : 256 < k) :
    (∃ i, Fnd mapping.zero (cin a) L i ∧ iospace_Bus_find.l3 k L a 0 = some (.rt (some ((2 : Int), i)))) ∨ (NoF mapping.zero (cin a) L ∧ iospace_Bus_find.l3 k L a 0 = some (.go ())) := by
  have hlen := hL.len
  have pre : ∀ k y, 0 ≤ y → y < (L.length : Int) → iospace_Bus_find.l3 (k + 1) L a y = if cin a (gd mapping.zero L y) then some (.rt (some ((2 : Int), y))) else iospace_Bus_find.l3 k L a (y + 1) := fun k y h0 h1 => by
    have hm := (hL.mw y h0 h1).r
    obtain ⟨q1, q2, q3, q4⟩ := id hm
    rw [iospace_Bus_find.l3, if_pos h1, ck_t ⟨h0, h1⟩, wi_next h0 h1 (by omega)]
    by_cases c : (gd mapping.zero L y).r.Base ≤ a
    · rw [if_pos c, bnd_s (last_f k (r := ⟨_, _⟩) hm)]
      by_cases c2 : a ≤ (gd mapping.zero L y).r.Base + (gd mapping.zero L y).r.Len - 1
      · rw [if_pos (show cin a (gd mapping.zero L y) by unfold cin inr; omega)]
        rw [Option.bind_some, if_pos (decide_eq_true c2)]
      · rw [if_neg (show ¬ cin a (gd mapping.zero L y) by unfold cin inr; omega)]
        rw [Option.bind_some, if_neg (by rw [decide_eq_false c2]; decide)]
    · rw [if_neg c, if_neg (show ¬ cin a (gd mapping.zero L y) by unfold cin inr; omega)]
      rfl
  exact srch0 mapping.zero (cin a) (fun i => some ((2 : Int), i)) L (fun k y => iospace_Bus_find.l3 k L a y) (by omega)
    (fun k y h0 h1 hp => by show iospace_Bus_find.l3 (k + 1) L a y = _; rw [pre k y h0 h1, if_pos hp])
    (fun k y h0 h1 hp => by show iospace_Bus_find.l3 (k + 1) L a y = _; rw [pre k y h0 h1, if_neg hp])
    (fun k y h1 => by show iospace_Bus_find.l3 (k + 1) L a y = _; rw [iospace_Bus_find.l3, if_neg (by omega)])
def Found (s a : Int) (m0 m1 m2 : List mapping) (i : Int) : Prop := Fnd mapping.zero (cin a) (sel s m0 m1 m2) i
def NoneF (s a : Int) (m0 m1 m2 : List mapping) : Prop := SP s → NoF mapping.zero (cin a) (sel s m0 m1 m2)
structure BL (m0 m1 m2 : List mapping) : Prop where
  l0 : LW m0
  l1 : LW m1
  l2 : LW m2
theorem BL.at {m0 m1 m2 : List mapping} (h : BL m0 m1 m2) (s : Int) : LW (sel s m0 m1 m2) := by
  unfold sel; split
  · exact h.l0
  · split
    · exact h.l1
    · exact h.l2
theorem find_f {m0 m1 m2 : List mapping} {en : List Bool} {fa : List fault} {tr : List Traced} {s a : Int} {k : Nat} (h : BL m0 m1 m2) (hk : 256 < k) :
    (SP s ∧ ∃ i, Found s a m0 m1 m2 i ∧ iospace_Bus_find.f k m0 m1 m2 en fa tr s a = some (s, i)) ∨ (NoneF s a m0 m1 m2 ∧ iospace_Bus_find.f k m0 m1 m2 en fa tr s a = some (-1, 0)) := by
  by_cases hs : SP s
  · unfold iospace_Bus_find.f
    rw [bnd_s (validSpace_f k s), if_pos (decide_eq_true hs)]
    rcases hs with rfl | rfl | rfl
    · rcases find_l1 (a := a) h.l0 hk with ⟨i, h1, h2⟩ | ⟨h1, h2⟩
      · exact .inl ⟨.inl rfl, i, h1, by rw [if_pos rfl, bnd_s h2]; rfl⟩
      · exact .inr ⟨fun _ => h1, by rw [if_pos rfl, bnd_s h2]; rfl⟩
    · rcases find_l2 (a := a) h.l1 hk with ⟨i, h1, h2⟩ | ⟨h1, h2⟩
      · exact .inl ⟨.inr (.inl rfl), i, h1, by rw [if_neg (by decide), if_pos rfl, bnd_s h2]; rfl⟩
      · exact .inr ⟨fun _ => h1, by rw [if_neg (by decide), if_pos rfl, bnd_s h2]; rfl⟩
    · rcases find_l3 (a := a) h.l2 hk with ⟨i, h1, h2⟩ | ⟨h1, h2⟩
      · exact .inl ⟨.inr (.inr rfl), i, h1, by rw [if_neg (by decide), if_neg (by decide), if_pos rfl, bnd_s h2]; rfl⟩
      · exact .inr ⟨fun _ => h1, by rw [if_neg (by decide), if_neg (by decide), if_pos rfl, bnd_s h2]; rfl⟩
  · refine .inr ⟨fun h => absurd h hs, ?_⟩
    unfold iospace_Bus_find.f
    rw [bnd_s (validSpace_f k s), if_neg (by rw [decide_eq_false hs]; decide)]
theorem Found.uniq {s a : Int} {m0 m1 m2 : List mapping} {i j : Int} (h : Found s a m0 m1 m2 i) (h' : Found s a m0 m1 m2 j) : i = j := Fnd.uniq h h'
theorem Found.no {s a : Int} {m0 m1 m2 : List mapping} {i : Int} (hs : SP s) (h : Found s a m0 m1 m2 i) : ¬ NoneF s a m0 m1 m2 := fun h' => h' hs i h.1 h.2.1 h.2.2.1
def at_ (s : Int) (m0 m1 m2 : List mapping) (i : Int) : mapping := gd mapping.zero (sel s m0 m1 m2) i
section
variable {m0 m1 m2 : List mapping} {en : List Bool} {fa : List fault} {tr : List Traced} {s a : Int} {k : Nat} (h : BL m0 m1 m2) (hk : 256 < k)
include h hk
theorem find_some {i : Int} (hs : SP s) (hf : Found s a m0 m1 m2 i) : iospace_Bus_find.f k m0 m1 m2 en fa tr s a = some (s, i) := by
  rcases find_f (en := en) (fa := fa) (tr := tr) (s := s) (a := a) h hk with ⟨_, j, h1, h2⟩ | ⟨h1, _⟩
  · rw [hf.uniq h1]; exact h2
  · exact absurd h1 (hf.no hs)
theorem find_none (hf : NoneF s a m0 m1 m2) : iospace_Bus_find.f k m0 m1 m2 en fa tr s a = some (-1, 0) := by
  rcases find_f (en := en) (fa := fa) (tr := tr) (s := s) (a := a) h hk with ⟨hs, j, h1, h2⟩ | ⟨_, h2⟩
  · exact absurd hf (h1.no hs)
  · exact h2
theorem owner_some {i : Int} (hs : SP s) (hf : Found s a m0 m1 m2 i) : iospace_Bus_Owner.f k m0 m1 m2 en fa tr s a = some (at_ s m0 m1 m2 i).owner := by
  unfold iospace_Bus_Owner.f
  rw [bnd_s (find_some h hk hs hf)]
  rcases hs with rfl | rfl | rfl <;> rfl
theorem owner_none (hf : NoneF s a m0 m1 m2) : iospace_Bus_Owner.f k m0 m1 m2 en fa tr s a = some (-1) := by
  unfold iospace_Bus_Owner.f
  rw [bnd_s (find_none h hk hf)]; rfl
theorem peek_some {i : Int} (hs : SP s) (hf : Found s a m0 m1 m2 i) : iospace_Bus_Peek.f k m0 m1 m2 en fa tr s a = some (mgetd (at_ s m0 m1 m2 i).data a, true) := by
  unfold iospace_Bus_Peek.f
  rw [bnd_s (find_some h hk hs hf)]
  rcases hs with rfl | rfl | rfl <;> rfl
theorem peek_none (hf : NoneF s a m0 m1 m2) : iospace_Bus_Peek.f k m0 m1 m2 en fa tr s a = some (0, false) := by
  unfold iospace_Bus_Peek.f
  rw [bnd_s (find_none h hk hf)]; rfl
theorem poke_some {i v : Int} (hs : SP s) (hf : Found s a m0 m1 m2 i) : ∃ n0 n1 n2, iospace_Bus_Poke.f k m0 m1 m2 en fa tr s a v = some (n0, n1, n2, true) ∧
    ∀ t, SP t → sel t n0 n1 n2 = if t = s then (sel s m0 m1 m2).set i.toNat { at_ s m0 m1 m2 i with data := mput (at_ s m0 m1 m2 i).data a v } else sel t m0 m1 m2 := by
  unfold iospace_Bus_Poke.f
  rw [bnd_s (find_some h hk hs hf)]
  rcases hs with rfl | rfl | rfl
  · exact ⟨_, _, _, rfl, fun t ht => by rcases ht with rfl | rfl | rfl <;> rfl⟩
  · exact ⟨_, _, _, rfl, fun t ht => by rcases ht with rfl | rfl | rfl <;> rfl⟩
  · exact ⟨_, _, _, rfl, fun t ht => by rcases ht with rfl | rfl | rfl <;> rfl⟩
theorem poke_none {v : Int} (hf : NoneF s a m0 m1 m2) : iospace_Bus_Poke.f k m0 m1 m2 en fa tr s a v = some (m0, m1, m2, false) := by
  unfold iospace_Bus_Poke.f
  rw [bnd_s (find_none h hk hf)]; rfl
end
theorem enable_f (k : Nat) {m0 m1 m2 : List mapping} {en : List Bool} {fa : List fault} {tr : List Traced} {o : Int} {b : Bool} : iospace_Bus_Enable.f k m0 m1 m2 en fa tr o b = if OW o then some (en.set o.toNat b, 0) else some (en, 1) := by
  unfold iospace_Bus_Enable.f
  rw [bnd_s (validOwner_f k o)]
  by_cases c : OW o
  · rw [if_pos (decide_eq_true c), if_pos c, ck_t (show 0 ≤ o ∧ o < 256 from c)]
  · rw [if_neg (by rw [decide_eq_false c]; decide), if_neg c]
theorem enabled_f (k : Nat) {m0 m1 m2 : List mapping} {en : List Bool} {fa : List fault} {tr : List Traced} {o : Int} : iospace_Bus_Enabled.f k m0 m1 m2 en fa tr o = some (if OW o then gd false en o else false) := by
  unfold iospace_Bus_Enabled.f
  rw [bnd_s (validOwner_f k o)]
  by_cases c : OW o
  · rw [if_pos (decide_eq_true c), if_pos c, ck_t (show 0 ≤ o ∧ o < 256 from c)]
  · rw [if_neg (by rw [decide_eq_false c]; decide), if_neg c]
def covs (r : Range) : mapping → Prop := fun m => ov m.r r
instance (r : Range) : DecidablePred (covs r) := fun m => by unfold covs; infer_instance
theorem contains_f {L : List mapping} {r : Range} {k : Nat} (hL : LW L) (hr : VR r) (hk : 256 < k) :
    (slices_ContainsFunc_iospace_mapping_iospace_mapping__Map_1.f k L r = some true ∧ ∃ i, Fnd mapping.zero (covs r) L i) ∨ (slices_ContainsFunc_iospace_mapping_iospace_mapping__Map_1.f k L r = some false ∧ NoF mapping.zero (covs r) L) := by
  have hlen := hL.len
  have pre : ∀ k y, 0 ≤ y → y < (L.length : Int) → slices_IndexFunc_iospace_mapping_iospace_mapping__Map_1.l1 (k + 1) L r y = if covs r (gd mapping.zero L y) then some (.rt (some y)) else slices_IndexFunc_iospace_mapping_iospace_mapping__Map_1.l1 k L r (y + 1) := fun k y h0 h1 => by
    have hm := (hL.mw y h0 h1).r
    rw [slices_IndexFunc_iospace_mapping_iospace_mapping__Map_1.l1, if_pos h1, ck_t ⟨h0, h1⟩, wi_next h0 h1 (by omega)]
    unfold iospace_Bus_Map_1.f
    rw [bnd_s (overlap_f k (a := ⟨_, _⟩) hm hr), Option.bind_some]
    by_cases c : covs r (gd mapping.zero L y)
    · rw [if_pos c, if_pos (decide_eq_true (show ov ⟨(gd mapping.zero L y).r.Base, (gd mapping.zero L y).r.Len⟩ r from c))]
    · rw [if_neg c, if_neg (by rw [decide_eq_false (show ¬ ov ⟨(gd mapping.zero L y).r.Base, (gd mapping.zero L y).r.Len⟩ r from c)]; decide)]
  unfold slices_ContainsFunc_iospace_mapping_iospace_mapping__Map_1.f slices_IndexFunc_iospace_mapping_iospace_mapping__Map_1.f
  rcases srch0 mapping.zero (covs r) (fun i => some i) L (fun k y => slices_IndexFunc_iospace_mapping_iospace_mapping__Map_1.l1 k L r y) (k := k) (by omega)
    (fun k y h0 h1 hp => by show slices_IndexFunc_iospace_mapping_iospace_mapping__Map_1.l1 (k + 1) L r y = _; rw [pre k y h0 h1, if_pos hp])
    (fun k y h0 h1 hp => by show slices_IndexFunc_iospace_mapping_iospace_mapping__Map_1.l1 (k + 1) L r y = _; rw [pre k y h0 h1, if_neg hp])
    (fun k y h1 => by show slices_IndexFunc_iospace_mapping_iospace_mapping__Map_1.l1 (k + 1) L r y = _; rw [slices_IndexFunc_iospace_mapping_iospace_mapping__Map_1.l1, if_neg (by omega)]) with ⟨i, h1, h2⟩ | ⟨h1, h2⟩
  · refine .inl ⟨?_, i, h1⟩
    have h2' : slices_IndexFunc_iospace_mapping_iospace_mapping__Map_1.l1 k L r 0 = some (.rt (some i)) := h2
    rw [bnd_s h2']
    show some (decide (0 ≤ i)) = _
    rw [decide_eq_true h1.1]
  · refine .inr ⟨?_, h1⟩
    have h2' : slices_IndexFunc_iospace_mapping_iospace_mapping__Map_1.l1 k L r 0 = some (.go ()) := h2
    rw [bnd_s h2']; rfl
theorem map_l1 {m0 m1 m2 : List mapping} {k : Nat} (hk : 4 < k) (h0 : m0.length ≤ 256) (h1 : m1.length ≤ 256) (h2 : m2.length ≤ 256) : iospace_Bus_Map.l1 k m0 m1 m2 0 0 = some ((m0.length : Int) + m1.length + m2.length) := by
  obtain ⟨k, rfl⟩ : ∃ m, k = m + 4 := ⟨k - 4, by omega⟩
  have e0 : IntKind.i64.wrap (0 + (m0.length : Int)) = m0.length := by rw [wi _ (by omega) (by omega)]; omega
  have e1 : IntKind.i64.wrap ((m0.length : Int) + (m1.length : Int)) = m0.length + m1.length := wi _ (by omega) (by omega)
  have e2 : IntKind.i64.wrap ((m0.length : Int) + m1.length + (m2.length : Int)) = m0.length + m1.length + m2.length := wi _ (by omega) (by omega)
  have f0 : IntKind.i64.wrap (0 + 1) = 1 := by kernel_rfl
  have f1 : IntKind.i64.wrap (1 + 1) = 2 := by kernel_rfl
  have f2 : IntKind.i64.wrap (2 + 1) = 3 := by kernel_rfl
  rw [iospace_Bus_Map.l1, if_pos (by decide), if_pos rfl, Option.bind_some, e0, f0, iospace_Bus_Map.l1, if_pos (by decide), if_neg (by decide), if_pos rfl, Option.bind_some, e1, f1, iospace_Bus_Map.l1, if_pos (by decide), if_neg (by decide), if_neg (by decide), if_pos rfl, Option.bind_some, e2, f2, iospace_Bus_Map.l1, if_neg (by decide)]
theorem map_l2 {L : List mapping} {r : Range} (hL : L.length ≤ 256) : ∀ (n k : Nat) (y : Int), 0 ≤ y → y ≤ L.length → (L.length : Int) - y ≤ n → n < k → ∃ i, iospace_Bus_Map.l2 k L r y = some i ∧ 0 ≤ i ∧ i ≤ L.length := by
  intro n
  induction n with
  | zero =>
    intro k y h0 h1 h2 h3
    obtain ⟨k, rfl⟩ : ∃ m, k = m + 1 := ⟨k - 1, by omega⟩
    exact ⟨y, by rw [iospace_Bus_Map.l2, if_neg (by omega), Option.bind_some, if_neg (by decide)], h0, h1⟩
  | succ n ih =>
    intro k y h0 h1 h2 h3
    obtain ⟨k, rfl⟩ : ∃ m, k = m + 1 := ⟨k - 1, by omega⟩
    by_cases c : y < (L.length : Int)
    · rw [iospace_Bus_Map.l2, if_pos c, ck_t ⟨h0, c⟩, Option.bind_some]
      by_cases c2 : (gd mapping.zero L y).r.Base < r.Base
      · rw [if_pos (decide_eq_true c2), wi_next h0 c (by omega)]
        exact ih k (y + 1) (by omega) (by omega) (by omega) (by omega)
      · rw [if_neg (by rw [decide_eq_false c2]; decide)]
        exact ⟨y, rfl, h0, h1⟩
    · exact ⟨y, by rw [iospace_Bus_Map.l2, if_neg c, Option.bind_some, if_neg (by decide)], h0, h1⟩
theorem map_l3 {L : List mapping} {r : Range} (hL : L.length ≤ 256) : ∀ (n k : Nat) (y : Int), 0 ≤ y → y ≤ L.length → (L.length : Int) - y ≤ n → n < k → ∃ i, iospace_Bus_Map.l3 k L r y = some i ∧ 0 ≤ i ∧ i ≤ L.length := by
  intro n
  induction n with
  | zero =>
    intro k y h0 h1 h2 h3
    obtain ⟨k, rfl⟩ : ∃ m, k = m + 1 := ⟨k - 1, by omega⟩
    exact ⟨y, by rw [iospace_Bus_Map.l3, if_neg (by omega), Option.bind_some, if_neg (by decide)], h0, h1⟩
  | succ n ih =>
    intro k y h0 h1 h2 h3
    obtain ⟨k, rfl⟩ : ∃ m, k = m + 1 := ⟨k - 1, by omega⟩
    by_cases c : y < (L.length : Int)
    · rw [iospace_Bus_Map.l3, if_pos c, ck_t ⟨h0, c⟩, Option.bind_some]
      by_cases c2 : (gd mapping.zero L y).r.Base < r.Base
      · rw [if_pos (decide_eq_true c2), wi_next h0 c (by omega)]
        exact ih k (y + 1) (by omega) (by omega) (by omega) (by omega)
      · rw [if_neg (by rw [decide_eq_false c2]; decide)]
        exact ⟨y, rfl, h0, h1⟩
    · exact ⟨y, by rw [iospace_Bus_Map.l3, if_neg c, Option.bind_some, if_neg (by decide)], h0, h1⟩
theorem map_l4 {L : List mapping} {r : Range} (hL : L.length ≤ 256) : ∀ (n k : Nat) (y : Int), 0 ≤ y → y ≤ L.length → (L.length : Int) - y ≤ n → n < k → ∃ i, iospace_Bus_Map.l4 k L r y = some i ∧ 0 ≤ i ∧ i ≤ L.length := by
  intro n
  induction n with
  | zero =>
    intro k y h0 h1 h2 h3
    obtain ⟨k, rfl⟩ : ∃ m, k = m + 1 := ⟨k - 1, by omega⟩
    exact ⟨y, by rw [iospace_Bus_Map.l4, if_neg (by omega), Option.bind_some, if_neg (by decide)], h0, h1⟩
  | succ n ih =>
    intro k y h0 h1 h2 h3
    obtain ⟨k, rfl⟩ : ∃ m, k = m + 1 := ⟨k - 1, by omega⟩
    by_cases c : y < (L.length : Int)
    · rw [iospace_Bus_Map.l4, if_pos c, ck_t ⟨h0, c⟩, Option.bind_some]
      by_cases c2 : (gd mapping.zero L y).r.Base < r.Base
      · rw [if_pos (decide_eq_true c2), wi_next h0 c (by omega)]
        exact ih k (y + 1) (by omega) (by omega) (by omega) (by omega)
      · rw [if_neg (by rw [decide_eq_false c2]; decide)]
        exact ⟨y, rfl, h0, h1⟩
    · exact ⟨y, by rw [iospace_Bus_Map.l4, if_neg c, Option.bind_some, if_neg (by decide)], h0, h1⟩
theorem map_bad {m0 m1 m2 : List mapping} {en : List Bool} {fa : List fault} {tr : List Traced} {s o : Int} {r : Range} {k : Nat} (hb : U r.Base) (hl : U r.Len) (hn : ¬ (SP s ∧ VR r ∧ OW o)) : iospace_Bus_Map.f k m0 m1 m2 en fa tr s r o = some (m0, m1, m2, 1) := by
  unfold iospace_Bus_Map.f
  rw [bnd_s (validSpace_f k s)]
  by_cases c1 : SP s
  · rw [if_pos (decide_eq_true c1), bnd_s (validRange_f k hb hl)]
    by_cases c2 : VR r
    · rw [if_pos (decide_eq_true c2), bnd_s (validOwner_f k o), Option.bind_some, decide_eq_false (fun c3 : OW o => hn ⟨c1, c2, c3⟩)]
      rfl
    · rw [if_neg (by rw [decide_eq_false c2]; decide)]; rfl
  · rw [if_neg (by rw [decide_eq_false c1]; decide)]; rfl
theorem map_f {m0 m1 m2 : List mapping} {en : List Bool} {fa : List fault} {tr : List Traced} {s o : Int} {r : Range} {k : Nat} (h : BL m0 m1 m2) (hk : 256 < k) (hs : SP s) (hr : VR r) (ho : OW o) (hle : (m0.length : Int) + m1.length + m2.length < 256) :
    (iospace_Bus_Map.f k m0 m1 m2 en fa tr s r o = some (m0, m1, m2, 17) ∧ ∃ i, Fnd mapping.zero (covs r) (sel s m0 m1 m2) i) ∨
    (NoF mapping.zero (covs r) (sel s m0 m1 m2) ∧ ∃ n0 n1 n2 i, iospace_Bus_Map.f k m0 m1 m2 en fa tr s r o = some (n0, n1, n2, 0) ∧ 0 ≤ i ∧ i ≤ ((sel s m0 m1 m2).length : Int) ∧
      ∀ t, SP t → sel t n0 n1 n2 = if t = s then (sel s m0 m1 m2).take i.toNat ++ ⟨r, o, []⟩ :: (sel s m0 m1 m2).drop i.toNat else sel t m0 m1 m2) := by
  have hb : U r.Base := ⟨hr.b0, by have := hr.e; have := hr.l1; omega⟩
  have hl : U r.Len := ⟨by have := hr.l1; omega, by have := hr.l2; omega⟩
  unfold iospace_Bus_Map.f
  rw [bnd_s (validSpace_f k s), if_pos (decide_eq_true hs), bnd_s (validRange_f k hb hl), if_pos (decide_eq_true hr), bnd_s (validOwner_f k o), Option.bind_some, decide_eq_true ho, if_neg (by decide),
    bnd_s (map_l1 (by omega) h.l0.len h.l1.len h.l2.len)]
  rcases hs with rfl | rfl | rfl
  · rcases contains_f h.l0 hr hk with ⟨h1, i, h2⟩ | ⟨h1, h2⟩
    · exact .inl ⟨by rw [if_pos rfl, bnd_s h1, if_pos rfl], i, h2⟩
    · obtain ⟨i, q1, q2, q3⟩ := map_l2 (L := m0) (r := r) h.l0.len m0.length k 0 (by omega) (by omega) (by omega) (by have := h.l0.len; omega)
      refine .inr ⟨h2, (m0.take i.toNat ++ ⟨r, o, []⟩ :: m0.drop i.toNat), m1, m2, i, ?_, q2, q3, fun t ht => by rcases ht with rfl | rfl | rfl <;> rfl⟩
      rw [if_pos rfl, bnd_s h1, if_neg (by decide), if_neg (by omega), bnd_s q1, ck_t ⟨q2, q3⟩, ck_t (by have := h.l0.len; omega)]
  · rcases contains_f h.l1 hr hk with ⟨h1, i, h2⟩ | ⟨h1, h2⟩
    · exact .inl ⟨by rw [if_neg (by decide), if_pos rfl, bnd_s h1, if_pos rfl], i, h2⟩
    · obtain ⟨i, q1, q2, q3⟩ := map_l3 (L := m1) (r := r) h.l1.len m1.length k 0 (by omega) (by omega) (by omega) (by have := h.l1.len; omega)
      refine .inr ⟨h2, m0, (m1.take i.toNat ++ ⟨r, o, []⟩ :: m1.drop i.toNat), m2, i, ?_, q2, q3, fun t ht => by rcases ht with rfl | rfl | rfl <;> rfl⟩
      rw [if_neg (by decide), if_pos rfl, bnd_s h1, if_neg (by decide), if_neg (by omega), bnd_s q1, ck_t ⟨q2, q3⟩, ck_t (by have := h.l1.len; omega)]
  · rcases contains_f h.l2 hr hk with ⟨h1, i, h2⟩ | ⟨h1, h2⟩
    · exact .inl ⟨by rw [if_neg (by decide), if_neg (by decide), if_pos rfl, bnd_s h1, if_pos rfl], i, h2⟩
    · obtain ⟨i, q1, q2, q3⟩ := map_l4 (L := m2) (r := r) h.l2.len m2.length k 0 (by omega) (by omega) (by omega) (by have := h.l2.len; omega)
      refine .inr ⟨h2, m0, m1, (m2.take i.toNat ++ ⟨r, o, []⟩ :: m2.drop i.toNat), i, ?_, q2, q3, fun t ht => by rcases ht with rfl | rfl | rfl <;> rfl⟩
      rw [if_neg (by decide), if_neg (by decide), if_pos rfl, bnd_s h1, if_neg (by decide), if_neg (by omega), bnd_s q1, ck_t ⟨q2, q3⟩, ck_t (by have := h.l2.len; omega)]
def same (r : Range) : mapping → Prop := fun m => m.r.Base = r.Base ∧ m.r.Len = r.Len
instance (r : Range) : DecidablePred (same r) := fun m => by unfold same; infer_instance
theorem index_f {L : List mapping} {r : Range} {k : Nat} (hL : L.length ≤ 256) (hk : 256 < k) :
    (∃ i, Fnd mapping.zero (same r) L i ∧ slices_IndexFunc_iospace_mapping_iospace_mapping__Unmap_1.f k L r = some i) ∨ (NoF mapping.zero (same r) L ∧ slices_IndexFunc_iospace_mapping_iospace_mapping__Unmap_1.f k L r = some (-1)) := by
  have pre : ∀ k y, 0 ≤ y → y < (L.length : Int) → slices_IndexFunc_iospace_mapping_iospace_mapping__Unmap_1.l1 (k + 1) L r y = if same r (gd mapping.zero L y) then some (.rt (some y)) else slices_IndexFunc_iospace_mapping_iospace_mapping__Unmap_1.l1 k L r (y + 1) := fun k y h0 h1 => by
    rw [slices_IndexFunc_iospace_mapping_iospace_mapping__Unmap_1.l1, if_pos h1, ck_t ⟨h0, h1⟩, wi_next h0 h1 (by omega)]
    unfold iospace_Bus_Unmap_1.f
    rw [Option.bind_some]
    by_cases c : same r (gd mapping.zero L y)
    · rw [if_pos c, if_pos (by unfold same at c; simp [c.1, c.2])]
    · rw [if_neg c, if_neg (by unfold same at c; simpa using c)]
  unfold slices_IndexFunc_iospace_mapping_iospace_mapping__Unmap_1.f
  rcases srch0 mapping.zero (same r) (fun i => some i) L (fun k y => slices_IndexFunc_iospace_mapping_iospace_mapping__Unmap_1.l1 k L r y) (k := k) (by omega)
    (fun k y h0 h1 hp => by show slices_IndexFunc_iospace_mapping_iospace_mapping__Unmap_1.l1 (k + 1) L r y = _; rw [pre k y h0 h1, if_pos hp])
    (fun k y h0 h1 hp => by show slices_IndexFunc_iospace_mapping_iospace_mapping__Unmap_1.l1 (k + 1) L r y = _; rw [pre k y h0 h1, if_neg hp])
    (fun k y h1 => by show slices_IndexFunc_iospace_mapping_iospace_mapping__Unmap_1.l1 (k + 1) L r y = _; rw [slices_IndexFunc_iospace_mapping_iospace_mapping__Unmap_1.l1, if_neg (by omega)]) with ⟨i, h1, h2⟩ | ⟨h1, h2⟩
  · refine .inl ⟨i, h1, ?_⟩
    have h2' : slices_IndexFunc_iospace_mapping_iospace_mapping__Unmap_1.l1 k L r 0 = some (.rt (some i)) := h2
    rw [bnd_s h2']; rfl
  · refine .inr ⟨h1, ?_⟩
    have h2' : slices_IndexFunc_iospace_mapping_iospace_mapping__Unmap_1.l1 k L r 0 = some (.go ()) := h2
    rw [bnd_s h2']; rfl
theorem unmap_f {m0 m1 m2 : List mapping} {en : List Bool} {fa : List fault} {tr : List Traced} {s : Int} {r : Range} {k : Nat} (h : BL m0 m1 m2) (hk : 256 < k) :
    (SP s ∧ ∃ i n0 n1 n2, Fnd mapping.zero (same r) (sel s m0 m1 m2) i ∧ iospace_Bus_Unmap.f k m0 m1 m2 en fa tr s r = some (n0, n1, n2, 0) ∧
      ∀ t, SP t → sel t n0 n1 n2 = if t = s then (sel s m0 m1 m2).take i.toNat ++ (sel s m0 m1 m2).drop (i + 1).toNat else sel t m0 m1 m2) ∨
    ((SP s → NoF mapping.zero (same r) (sel s m0 m1 m2)) ∧ iospace_Bus_Unmap.f k m0 m1 m2 en fa tr s r = some (m0, m1, m2, 6)) := by
  unfold iospace_Bus_Unmap.f
  rw [bnd_s (validSpace_f k s)]
  by_cases hs : SP s
  · rw [if_pos (decide_eq_true hs)]
    have hs2 := hs
    rcases hs with rfl | rfl | rfl
    · rcases index_f (r := r) h.l0.len hk with ⟨i, h1, h2⟩ | ⟨h1, h2⟩
      · obtain ⟨q1, q2, _, _⟩ := id h1
        have q2' : i < (m0.length : Int) := q2
        have hw : IntKind.i64.wrap (i + 1) = i + 1 := wi_next (n := m0.length) q1 q2' (by have := h.l0.len; omega)
        refine .inl ⟨hs2, i, _, m1, m2, h1, ?_, fun t ht => by rcases ht with rfl | rfl | rfl <;> rfl⟩
        rw [if_pos rfl, bnd_s h2, Option.bind_some, if_neg (by omega), if_pos rfl, hw, ck_t ⟨q1, by omega, by omega⟩]; rfl
      · refine .inr ⟨fun _ => h1, ?_⟩
        rw [if_pos rfl, bnd_s h2]; rfl
    · rcases index_f (r := r) h.l1.len hk with ⟨i, h1, h2⟩ | ⟨h1, h2⟩
      · obtain ⟨q1, q2, _, _⟩ := id h1
        have q2' : i < (m1.length : Int) := q2
        have hw : IntKind.i64.wrap (i + 1) = i + 1 := wi_next (n := m1.length) q1 q2' (by have := h.l1.len; omega)
        refine .inl ⟨hs2, i, m0, _, m2, h1, ?_, fun t ht => by rcases ht with rfl | rfl | rfl <;> rfl⟩
        rw [if_neg (by decide), if_pos rfl, bnd_s h2, Option.bind_some, if_neg (by omega), if_neg (by decide), if_pos rfl, hw, ck_t ⟨q1, by omega, by omega⟩]; rfl
      · refine .inr ⟨fun _ => h1, ?_⟩
        rw [if_neg (by decide), if_pos rfl, bnd_s h2]; rfl
    · rcases index_f (r := r) h.l2.len hk with ⟨i, h1, h2⟩ | ⟨h1, h2⟩
      · obtain ⟨q1, q2, _, _⟩ := id h1
        have q2' : i < (m2.length : Int) := q2
        have hw : IntKind.i64.wrap (i + 1) = i + 1 := wi_next (n := m2.length) q1 q2' (by have := h.l2.len; omega)
        refine .inl ⟨hs2, i, m0, m1, _, h1, ?_, fun t ht => by rcases ht with rfl | rfl | rfl <;> rfl⟩
        rw [if_neg (by decide), if_neg (by decide), if_pos rfl, bnd_s h2, Option.bind_some, if_neg (by omega), if_neg (by decide), if_neg (by decide), if_pos rfl, hw, ck_t ⟨q1, by omega, by omega⟩]; rfl
      · refine .inr ⟨fun _ => h1, ?_⟩
        rw [if_neg (by decide), if_neg (by decide), if_pos rfl, bnd_s h2]; rfl
  · refine .inr ⟨fun h => absurd h hs, ?_⟩
    rw [if_neg (by rw [decide_eq_false hs]; decide)]
end Go.Proofs.Ytigadacjaglfeaa.X
