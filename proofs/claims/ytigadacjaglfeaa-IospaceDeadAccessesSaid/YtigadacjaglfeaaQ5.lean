/- The laws on the pure side: io5. -/
import Derived.Test.YtigadacjaglfeaaQ4
namespace Go.Proofs.Ytigadacjaglfeaa.X
open Go Go.Sx
structure RMW (x : ref09_mapping) : Prop where
  r : VR x.m
  o : OW x.owner
  s : SP x.space
  bl : (x.bytes.length : Int) = x.m.Len
structure RL (X : List ref09_mapping) : Prop where
  mw : ∀ i : Int, 0 ≤ i → i < X.length → RMW (gd ref09_mapping.zero X i)
  len : X.length ≤ 256
def rin (s a : Int) : ref09_mapping → Prop := fun x => x.space = s ∧ inr x.m a
instance (s a : Int) : DecidablePred (rin s a) := fun m => by unfold rin; infer_instance
def rat (X : List ref09_mapping) (i : Int) : ref09_mapping := gd ref09_mapping.zero X i
section
variable {X : List ref09_mapping} {en : List Bool} {G : List ref09_fault} {tr : List Traced} {s a : Int} {k : Nat}
theorem rfind_f (hX : RL X) (hk : 256 < k) (ha : U a) :
    (∃ i, Fnd ref09_mapping.zero (rin s a) X i ∧ ref09_Bus_find.f k X en G tr s a = some i) ∨ (NoF ref09_mapping.zero (rin s a) X ∧ ref09_Bus_find.f k X en G tr s a = some (-1)) := by
  have hlen := hX.len
  have pre : ∀ k y, 0 ≤ y → y < (X.length : Int) → ref09_Bus_find.l1 (k + 1) X s a y = if rin s a (gd ref09_mapping.zero X y) then some (.rt (some y)) else ref09_Bus_find.l1 k X s a (y + 1) := fun k y h0 h1 => by
    have hm := (hX.mw y h0 h1).r
    rw [ref09_Bus_find.l1, if_pos h1, ck_t ⟨h0, h1⟩, wi_next h0 h1 (by omega)]
    by_cases c0 : (gd ref09_mapping.zero X y).space = s
    · rw [if_pos c0, bnd_s (has_f k (r := ⟨_, _⟩) hm ha.1 ha.2), Option.bind_some]
      by_cases c : inr (gd ref09_mapping.zero X y).m a
      · rw [if_pos (show rin s a (gd ref09_mapping.zero X y) from ⟨c0, c⟩), if_pos (decide_eq_true (show inr ⟨(gd ref09_mapping.zero X y).m.Base, (gd ref09_mapping.zero X y).m.Len⟩ a from c))]
      · rw [if_neg (show ¬ rin s a (gd ref09_mapping.zero X y) from fun h => c h.2), if_neg (by rw [decide_eq_false (show ¬ inr ⟨(gd ref09_mapping.zero X y).m.Base, (gd ref09_mapping.zero X y).m.Len⟩ a from c)]; decide)]
    · rw [if_neg c0, if_neg (show ¬ rin s a (gd ref09_mapping.zero X y) from fun h => c0 h.1)]; rfl
  unfold ref09_Bus_find.f
  rcases srch0 ref09_mapping.zero (rin s a) (fun i => some i) X (fun k y => ref09_Bus_find.l1 k X s a y) (k := k) (by omega)
    (fun k y h0 h1 hp => by show ref09_Bus_find.l1 (k + 1) X s a y = _; rw [pre k y h0 h1, if_pos hp])
    (fun k y h0 h1 hp => by show ref09_Bus_find.l1 (k + 1) X s a y = _; rw [pre k y h0 h1, if_neg hp])
    (fun k y h1 => by show ref09_Bus_find.l1 (k + 1) X s a y = _; rw [ref09_Bus_find.l1, if_neg (by omega)]) with ⟨i, h1, h2⟩ | ⟨h1, h2⟩
  · refine .inl ⟨i, h1, ?_⟩
    have h2' : ref09_Bus_find.l1 k X s a 0 = some (.rt (some i)) := h2
    rw [bnd_s h2']; rfl
  · refine .inr ⟨h1, ?_⟩
    have h2' : ref09_Bus_find.l1 k X s a 0 = some (.go ()) := h2
    rw [bnd_s h2']; rfl
theorem rfind_some (hX : RL X) (hk : 256 < k) (ha : U a) {i : Int} (hi : Fnd ref09_mapping.zero (rin s a) X i) : ref09_Bus_find.f k X en G tr s a = some i := by
  rcases rfind_f (en := en) (G := G) (tr := tr) (s := s) hX hk ha with ⟨j, h1, h2⟩ | ⟨h1, _⟩
  · rw [hi.uniq h1]; exact h2
  · exact absurd hi.2.2.1 (h1 i hi.1 hi.2.1)
theorem rfind_none (hX : RL X) (hk : 256 < k) (ha : U a) (hi : NoF ref09_mapping.zero (rin s a) X) : ref09_Bus_find.f k X en G tr s a = some (-1) := by
  rcases rfind_f (en := en) (G := G) (tr := tr) (s := s) hX hk ha with ⟨j, h1, h2⟩ | ⟨_, h2⟩
  · exact absurd h1.2.2.1 (hi j h1.1 h1.2.1)
  · exact h2
theorem rowner_some (hX : RL X) (hk : 256 < k) (ha : U a) {i : Int} (hi : Fnd ref09_mapping.zero (rin s a) X i) : ref09_Bus_Owner.f k X en G tr s a = some (rat X i).owner := by
  unfold ref09_Bus_Owner.f
  rw [bnd_s (rfind_some hX hk ha hi), if_pos hi.1, ck_t ⟨hi.1, hi.2.1⟩]; rfl
theorem rowner_none (hX : RL X) (hk : 256 < k) (ha : U a) (hi : NoF ref09_mapping.zero (rin s a) X) : ref09_Bus_Owner.f k X en G tr s a = some (-1) := by
  unfold ref09_Bus_Owner.f
  rw [bnd_s (rfind_none hX hk ha hi), if_neg (by decide)]
theorem roff (hX : RL X) {i : Int} (hi : Fnd ref09_mapping.zero (rin s a) X i) : IntKind.u64.wrap (a - (gd ref09_mapping.zero X i).m.Base) = a - (rat X i).m.Base ∧ 0 ≤ a - (rat X i).m.Base ∧ a - (rat X i).m.Base < ((rat X i).bytes.length : Int) := by
  have hm := hX.mw i hi.1 hi.2.1
  obtain ⟨q1, q2, q3, q4⟩ := hm.r
  obtain ⟨_, h1, h2⟩ := hi.2.2.1
  have hb := hm.bl
  unfold rat
  rw [wu _ (by omega) (by omega)]
  omega
theorem rpeek_some (hX : RL X) (hk : 256 < k) (ha : U a) {i : Int} (hi : Fnd ref09_mapping.zero (rin s a) X i) : ref09_Bus_Peek.f k X en G tr s a = some (gd 0 (rat X i).bytes (a - (rat X i).m.Base), true) := by
  obtain ⟨h1, h2, h3⟩ := roff hX hi
  have h0 := hi.1
  unfold ref09_Bus_Peek.f
  rw [bnd_s (rfind_some hX hk ha hi), if_neg (by omega), ck_t ⟨hi.1, hi.2.1⟩, h1, ck_t ⟨h2, h3⟩]; rfl
theorem rpeek_none (hX : RL X) (hk : 256 < k) (ha : U a) (hi : NoF ref09_mapping.zero (rin s a) X) : ref09_Bus_Peek.f k X en G tr s a = some (0, false) := by
  unfold ref09_Bus_Peek.f
  rw [bnd_s (rfind_none hX hk ha hi), if_pos (by decide)]
theorem rpoke_some (hX : RL X) (hk : 256 < k) (ha : U a) {i v : Int} (hi : Fnd ref09_mapping.zero (rin s a) X i) : ref09_Bus_Poke.f k X en G tr s a v = some (X.set i.toNat { rat X i with bytes := (rat X i).bytes.set (a - (rat X i).m.Base).toNat v }, true) := by
  obtain ⟨h1, h2, h3⟩ := roff hX hi
  unfold ref09_Bus_Poke.f
  rw [bnd_s (rfind_some hX hk ha hi), if_pos hi.1, ck_t ⟨hi.1, hi.2.1⟩, h1, ck_t ⟨h2, h3⟩, Option.bind_some, decide_eq_true hi.1]; rfl
theorem rpoke_none (hX : RL X) (hk : 256 < k) (ha : U a) {v : Int} (hi : NoF ref09_mapping.zero (rin s a) X) : ref09_Bus_Poke.f k X en G tr s a v = some (X, false) := by
  unfold ref09_Bus_Poke.f
  rw [bnd_s (rfind_none hX hk ha hi), if_neg (by decide)]; rfl
theorem renable_f {o : Int} {b : Bool} : ref09_Bus_Enable.f k X en G tr o b = if OW o then some (en.set o.toNat b, 0) else some (en, 1) := by
  unfold ref09_Bus_Enable.f
  by_cases c : o < 0
  · rw [if_pos c, Option.bind_some, if_pos rfl, if_neg (fun h : OW o => by have := h.1; omega)]
  · rw [if_neg c, Option.bind_some]
    by_cases c2 : 256 ≤ o
    · rw [if_pos (decide_eq_true c2), if_neg (fun h : OW o => by have := h.2; omega)]
    · have hc : OW o := ⟨by omega, by omega⟩
      rw [if_neg (by rw [decide_eq_false c2]; decide), ck_t (show 0 ≤ o ∧ o < 256 from hc), if_pos hc]
theorem renabled_f {o : Int} : ref09_Bus_Enabled.f k X en G tr o = some (if OW o then gd false en o else false) := by
  unfold ref09_Bus_Enabled.f
  by_cases c : 0 ≤ o
  · rw [if_pos c]
    by_cases c2 : o < 256
    · rw [if_pos c2, ck_t ⟨c, c2⟩, if_pos (show OW o from ⟨c, c2⟩)]
    · rw [if_neg c2, if_neg (fun h : OW o => c2 h.2)]
  · rw [if_neg c, if_neg (fun h : OW o => c h.1)]
def rcov (s : Int) (r : Range) : ref09_mapping → Prop := fun x => x.space = s ∧ ov x.m r
instance (s : Int) (r : Range) : DecidablePred (rcov s r) := fun m => by unfold rcov; infer_instance
theorem rmap_bad {o : Int} {r : Range} (hb : U r.Base) (hl : U r.Len) (hn : ¬ (SP s ∧ VR r ∧ OW o)) : ref09_Bus_Map.f k X en G tr s r o = some (X, 1) := by
  unfold ref09_Bus_Map.f
  rw [bnd_s (ordinary_f k s)]
  by_cases c1 : SP s
  · rw [if_pos (decide_eq_true c1), bnd_s (rvalidRange_f k hb hl)]
    by_cases c2 : VR r
    · rw [if_pos (decide_eq_true c2)]
      by_cases c3 : o < 0
      · rw [if_pos c3]; rfl
      · rw [if_neg c3, Option.bind_some]
        have c4 : 256 ≤ o := by
          refine Int.not_lt.1 fun h => hn ⟨c1, c2, ?_⟩
          unfold OW; omega
        rw [if_pos (decide_eq_true c4)]
    · rw [if_neg (by rw [decide_eq_false c2]; decide)]; rfl
  · rw [if_neg (by rw [decide_eq_false c1]; decide)]; rfl
theorem rmap_f {o : Int} {r : Range} (hX : RL X) (hk : 256 < k) (hs : SP s) (hr : VR r) (ho : OW o) (hle : X.length < 256) :
    (ref09_Bus_Map.f k X en G tr s r o = some (X, 17) ∧ ∃ i, Fnd ref09_mapping.zero (rcov s r) X i) ∨
    (NoF ref09_mapping.zero (rcov s r) X ∧ ref09_Bus_Map.f k X en G tr s r o = some (X ++ [⟨s, r, o, List.replicate r.Len.toNat 0⟩], 0)) := by
  have hb : U r.Base := ⟨hr.b0, by have := hr.e; have := hr.l1; omega⟩
  have hl : U r.Len := ⟨by have := hr.l1; omega, by have := hr.l2; omega⟩
  have hlen := hX.len
  have pre : ∀ k y, 0 ≤ y → y < (X.length : Int) → ref09_Bus_Map.l1 (k + 1) X s r y = if rcov s r (gd ref09_mapping.zero X y) then some (.rt (some (X, 17))) else ref09_Bus_Map.l1 k X s r (y + 1) := fun k y h0 h1 => by
    have hm := (hX.mw y h0 h1).r
    rw [ref09_Bus_Map.l1, if_pos h1, ck_t ⟨h0, h1⟩, wi_next h0 h1 (by omega)]
    by_cases c0 : (gd ref09_mapping.zero X y).space = s
    · rw [if_pos c0, bnd_s (roverlap_f k (a := ⟨_, _⟩) hm hr), Option.bind_some]
      by_cases c : ov (gd ref09_mapping.zero X y).m r
      · rw [if_pos (show rcov s r (gd ref09_mapping.zero X y) from ⟨c0, c⟩), if_pos (decide_eq_true (show ov ⟨(gd ref09_mapping.zero X y).m.Base, (gd ref09_mapping.zero X y).m.Len⟩ r from c))]
      · rw [if_neg (show ¬ rcov s r (gd ref09_mapping.zero X y) from fun h => c h.2), if_neg (by rw [decide_eq_false (show ¬ ov ⟨(gd ref09_mapping.zero X y).m.Base, (gd ref09_mapping.zero X y).m.Len⟩ r from c)]; decide)]
    · rw [if_neg c0, if_neg (show ¬ rcov s r (gd ref09_mapping.zero X y) from fun h => c0 h.1)]; rfl
  have hx : (ref09_ordinary.f k s).bind (fun s5 => if s5 = true then ((ref09_ValidRange.f k r).bind fun s7 => if s7 = true then (if o < 0 then some true else some (decide (256 ≤ o))) else some true) else some true) = some false := by
    rw [bnd_s (ordinary_f k s), if_pos (decide_eq_true hs), bnd_s (rvalidRange_f k hb hl), if_pos (decide_eq_true hr), if_neg (by unfold OW at ho; omega), decide_eq_false (by unfold OW at ho; omega)]
  unfold ref09_Bus_Map.f
  rw [bnd_s hx, if_neg (by decide)]
  rcases srch0 ref09_mapping.zero (rcov s r) (fun _ => some (X, (17 : Int))) X (fun k y => ref09_Bus_Map.l1 k X s r y) (k := k) (by omega)
    (fun k y h0 h1 hp => by show ref09_Bus_Map.l1 (k + 1) X s r y = _; rw [pre k y h0 h1, if_pos hp])
    (fun k y h0 h1 hp => by show ref09_Bus_Map.l1 (k + 1) X s r y = _; rw [pre k y h0 h1, if_neg hp])
    (fun k y h1 => by show ref09_Bus_Map.l1 (k + 1) X s r y = _; rw [ref09_Bus_Map.l1, if_neg (by omega)]) with ⟨i, h1, h2⟩ | ⟨h1, h2⟩
  · refine .inl ⟨?_, i, h1⟩
    have h2' : ref09_Bus_Map.l1 k X s r 0 = some (.rt (some (X, 17))) := h2
    rw [bnd_s h2']; rfl
  · refine .inr ⟨h1, ?_⟩
    have h2' : ref09_Bus_Map.l1 k X s r 0 = some (.go ()) := h2
    rw [bnd_s h2']
    show (if 256 ≤ (X.length : Int) then _ else _) = _
    have := hr.l1
    have := hr.l2
    rw [if_neg (by omega), ck_t (by omega), ck_t (by omega)]
def rsame (s : Int) (r : Range) : ref09_mapping → Prop := fun x => x.space = s ∧ x.m.Base = r.Base ∧ x.m.Len = r.Len
instance (s : Int) (r : Range) : DecidablePred (rsame s r) := fun m => by unfold rsame; infer_instance
theorem runmap_f {r : Range} (hX : RL X) (hk : 256 < k) :
    (∃ i, Fnd ref09_mapping.zero (rsame s r) X i ∧ ref09_Bus_Unmap.f k X en G tr s r = some (X.take i.toNat ++ X.drop (i + 1).toNat, 0)) ∨ (NoF ref09_mapping.zero (rsame s r) X ∧ ref09_Bus_Unmap.f k X en G tr s r = some (X, 6)) := by
  have hlen := hX.len
  have pre : ∀ k y, 0 ≤ y → y < (X.length : Int) → ref09_Bus_Unmap.l1 (k + 1) X s r y = if rsame s r (gd ref09_mapping.zero X y) then some (.rt (some (X.take y.toNat ++ X.drop (y + 1).toNat, 0))) else ref09_Bus_Unmap.l1 k X s r (y + 1) := fun k y h0 h1 => by
    rw [ref09_Bus_Unmap.l1, if_pos h1, ck_t ⟨h0, h1⟩, wi_next h0 h1 (by omega)]
    by_cases c0 : (gd ref09_mapping.zero X y).space = s
    · rw [if_pos c0, Option.bind_some]
      by_cases c : (gd ref09_mapping.zero X y).m.Base = r.Base ∧ (gd ref09_mapping.zero X y).m.Len = r.Len
      · have hc : rsame s r (gd ref09_mapping.zero X y) := ⟨c0, c⟩
        rw [if_pos (by simp [c.1, c.2]), if_pos hc, ck_t (by omega), ck_t (by simp; omega), ck_t (by omega), ck_t (by simp; omega)]
      · rw [if_neg (by simpa using c), if_neg (show ¬ rsame s r (gd ref09_mapping.zero X y) from fun h => c h.2)]
    · rw [if_neg c0, if_neg (show ¬ rsame s r (gd ref09_mapping.zero X y) from fun h => c0 h.1)]; rfl
  unfold ref09_Bus_Unmap.f
  rcases srch0 ref09_mapping.zero (rsame s r) (fun y => some (X.take y.toNat ++ X.drop (y + 1).toNat, (0 : Int))) X (fun k y => ref09_Bus_Unmap.l1 k X s r y) (k := k) (by omega)
    (fun k y h0 h1 hp => by show ref09_Bus_Unmap.l1 (k + 1) X s r y = _; rw [pre k y h0 h1, if_pos hp])
    (fun k y h0 h1 hp => by show ref09_Bus_Unmap.l1 (k + 1) X s r y = _; rw [pre k y h0 h1, if_neg hp])
    (fun k y h1 => by show ref09_Bus_Unmap.l1 (k + 1) X s r y = _; rw [ref09_Bus_Unmap.l1, if_neg (by omega)]) with ⟨i, h1, h2⟩ | ⟨h1, h2⟩
  · refine .inl ⟨i, h1, ?_⟩
    have h2' : ref09_Bus_Unmap.l1 k X s r 0 = some (.rt (some (X.take i.toNat ++ X.drop (i + 1).toNat, 0))) := h2
    rw [bnd_s h2']; rfl
  · refine .inr ⟨h1, ?_⟩
    have h2' : ref09_Bus_Unmap.l1 k X s r 0 = some (.go ()) := h2
    rw [bnd_s h2']; rfl
end
end Go.Proofs.Ytigadacjaglfeaa.X
