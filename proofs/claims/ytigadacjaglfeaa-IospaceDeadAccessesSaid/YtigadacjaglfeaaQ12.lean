/- The laws on the pure side: io12. -/
import Derived.Test.YtigadacjaglfeaaQ11
namespace Go.Proofs.Ytigadacjaglfeaa.X
open Go Go.Sx
theorem snoc_gd {α : Type} {z x : α} {L : List α} {j : Int} (hj : 0 ≤ j) (h1 : j ≤ L.length) : gd z (L ++ [x]) j = if j = L.length then x else gd z L j := by
  unfold gd
  rw [List.getD_eq_getElem?_getD, List.getD_eq_getElem?_getD]
  by_cases c : j = L.length
  · rw [if_pos c, List.getElem?_append_right (by omega), show j.toNat - L.length = 0 by omega]; rfl
  · rw [if_neg c, List.getElem?_append_left (by omega)]
theorem del_gd {α : Type} {z : α} {L : List α} {p : Int} (h0 : 0 ≤ p) (h1 : p < L.length) {j : Int} (hj : 0 ≤ j) : gd z (L.take p.toNat ++ L.drop (p + 1).toNat) j = if j < p then gd z L j else gd z L (j + 1) := by
  unfold gd
  rw [List.getD_eq_getElem?_getD, List.getD_eq_getElem?_getD, List.getD_eq_getElem?_getD]
  have hl : (L.take p.toNat).length = p.toNat := by simp; omega
  by_cases c : j < p
  · rw [if_pos c, List.getElem?_append_left (by omega), List.getElem?_take, if_pos (by omega)]
  · rw [if_neg c, List.getElem?_append_right (by omega), hl, List.getElem?_drop, show (p + 1).toNat + (j.toNat - p.toNat) = (j + 1).toNat by omega]
theorem del_len {α : Type} {L : List α} {p : Int} (h0 : 0 ≤ p) (h1 : p < L.length) : (L.take p.toNat ++ L.drop (p + 1).toNat).length + 1 = L.length := by simp; omega
theorem LW.del {L : List mapping} {p : Int} (h : LW L) (h0 : 0 ≤ p) (h1 : p < L.length) : LW (L.take p.toNat ++ L.drop (p + 1).toNat) := by
  have hlen := del_len h0 h1
  have hL := h.len
  refine ⟨fun i i0 i1 => ?_, fun i j i0 i1 j0 j1 hij => ?_, by omega⟩
  · rw [del_gd h0 h1 i0]; split
    · exact h.mw i i0 (by omega)
    · exact h.mw (i + 1) (by omega) (by omega)
  · rw [del_gd h0 h1 i0, del_gd h0 h1 j0]
    split <;> split
    · exact h.dis i j i0 (by omega) j0 (by omega) hij
    · exact h.dis i (j + 1) i0 (by omega) (by omega) (by omega) (by omega)
    · exact h.dis (i + 1) j (by omega) (by omega) j0 (by omega) (by omega)
    · exact h.dis (i + 1) (j + 1) (by omega) (by omega) (by omega) (by omega) (by omega)
section
variable {m0 m1 m2 : List mapping} {X : List ref09_mapping} (h : MS m0 m1 m2 X)
include h
theorem MS.ins {s o p : Int} {r : Range} {n0 n1 n2 : List mapping} (hs : SP s) (hr : VR r) (ho : OW o) (p0 : 0 ≤ p) (p1 : p ≤ ((sel s m0 m1 m2).length : Int)) (hz : NoF mapping.zero (covs r) (sel s m0 m1 m2)) (hX : X.length < 256)
    (hn : ∀ t, SP t → sel t n0 n1 n2 = if t = s then (sel s m0 m1 m2).take p.toNat ++ ⟨r, o, []⟩ :: (sel s m0 m1 m2).drop p.toNat else sel t m0 m1 m2) : MS n0 n1 n2 (X ++ [⟨s, r, o, List.replicate r.Len.toNat 0⟩]) := by
  have hr1 := hr.l1
  have hXl : (X ++ [(⟨s, r, o, List.replicate r.Len.toNat 0⟩ : ref09_mapping)]).length = X.length + 1 := by simp
  have hsl : (sel s m0 m1 m2).length ≤ X.length := by
    have := h.cnt
    rcases hs with rfl | rfl | rfl
    · rw [sel0]; omega
    · rw [sel1]; omega
    · rw [sel2]; omega
  have hg : ∀ q : Int, 0 ≤ q → q ≤ X.length → rat (X ++ [⟨s, r, o, List.replicate r.Len.toNat 0⟩]) q = if q = X.length then ⟨s, r, o, List.replicate r.Len.toNat 0⟩ else rat X q := fun q q0 q1 => snoc_gd q0 q1
  have hlen : ((sel s m0 m1 m2).take p.toNat ++ (⟨r, o, []⟩ : mapping) :: (sel s m0 m1 m2).drop p.toNat).length = (sel s m0 m1 m2).length + 1 := by simp; omega
  have hlt : ∀ t, SP t → (sel t n0 n1 n2).length = (sel t m0 m1 m2).length + if t = s then 1 else 0 := fun t ht => by
    rw [hn t ht]; split
    · rename_i e; subst e; rw [hlen]
    · rfl
  have hy : MW ⟨r, o, []⟩ := ⟨hr, ho, fun a => ⟨Int.le_refl _, by show (0 : Int) < 256; decide⟩⟩
  have himg : img s ⟨r, o, []⟩ ⟨s, r, o, List.replicate r.Len.toNat 0⟩ := ⟨rfl, rfl, rfl, fun _ _ _ => gd_rep⟩
  have hov : ∀ j : Int, 0 ≤ j → j < X.length → (rat X j).space = s → ¬ ov (rat X j).m r := fun j j0 j1 e => by
    obtain ⟨i, i0, i1, hi⟩ := h.m21 j j0 j1
    rw [e] at i1 hi
    rw [hi.2.1]
    exact hz i i0 i1
  refine ⟨BL.of fun t ht => ?_, ⟨⟨fun q q0 q1 => ?_, by omega⟩, fun p q p0 p1 q0 q1 hpq he => ?_, fun q q0 q1 => ?_⟩, ?_, fun t ht q q0 q1 => ?_, fun q q0 q1 => ?_⟩
  · rw [hn t ht]; split
    · exact (h.bl.at s).ins hy p0 p1 (by omega) hz
    · exact h.bl.at t
  · show RMW (rat _ q)
    rw [hg q q0 (by omega)]; split
    · exact ⟨hr, ho, hs, by show ((List.replicate r.Len.toNat (0 : Int)).length : Int) = r.Len; rw [List.length_replicate]; omega⟩
    · exact h.rx.l.mw q q0 (by omega)
  · rw [hg p p0 (by omega), hg q q0 (by omega)] at he ⊢
    split
    · rename_i e1
      rw [if_pos e1, if_neg (by omega)] at he
      rw [if_neg (by omega)]
      exact fun hh => hov q q0 (by omega) he.symm ⟨hh.2, hh.1⟩
    · rename_i e1
      split
      · rename_i e2
        rw [if_neg e1, if_pos e2] at he
        exact hov p p0 (by omega) he
      · rename_i e2
        rw [if_neg e1, if_neg e2] at he
        exact h.rx.dis p q p0 (by omega) q0 (by omega) hpq he
  · rw [hg q q0 (by omega)]; split
    · intro j
      show 0 ≤ gd 0 (List.replicate r.Len.toNat (0 : Int)) j ∧ gd 0 (List.replicate r.Len.toNat (0 : Int)) j < 256
      rw [gd_rep]; decide
    · exact h.rx.by_ q q0 (by omega)
  · have e0 := hlt 0 (.inl rfl)
    have e1 := hlt 1 (.inr (.inl rfl))
    have e2 := hlt 2 (.inr (.inr rfl))
    rw [sel0, sel0] at e0
    rw [sel1, sel1] at e1
    rw [sel2, sel2] at e2
    have := h.cnt
    rw [hXl]
    rcases hs with rfl | rfl | rfl <;> simp at e0 e1 e2 <;> omega
  · rw [hlt t ht] at q1
    rw [hn t ht]
    by_cases e : t = s
    · subst e
      rw [if_pos rfl] at q1 ⊢
      rw [ins_gd p0 p1 q0]
      by_cases c1 : q < p
      · obtain ⟨j, j0, j1, hj⟩ := h.m12 t ht q q0 (by omega)
        rw [if_pos c1]
        exact ⟨j, j0, by omega, by rw [hg j j0 (by omega), if_neg (by omega)]; exact hj⟩
      · rw [if_neg c1]
        by_cases c2 : q = p
        · rw [if_pos c2]
          exact ⟨X.length, by omega, by omega, by rw [hg _ (by omega) (Int.le_refl _), if_pos rfl]; exact himg⟩
        · obtain ⟨j, j0, j1, hj⟩ := h.m12 t ht (q - 1) (by omega) (by omega)
          rw [if_neg c2]
          exact ⟨j, j0, by omega, by rw [hg j j0 (by omega), if_neg (by omega)]; exact hj⟩
    · rw [if_neg e] at q1 ⊢
      obtain ⟨j, j0, j1, hj⟩ := h.m12 t ht q q0 (by omega)
      exact ⟨j, j0, by omega, by rw [hg j j0 (by omega), if_neg (by omega)]; exact hj⟩
  · rw [hg q q0 (by omega)]
    by_cases c : q = X.length
    · rw [if_pos c]
      refine ⟨p, p0, ?_, ?_⟩
      · show p < ((sel s n0 n1 n2).length : Int)
        rw [hlt s hs, if_pos rfl]; omega
      · show img s (gd mapping.zero (sel s n0 n1 n2) p) _
        rw [hn s hs, if_pos rfl, ins_gd p0 p1 p0, if_neg (by omega), if_pos rfl]
        exact himg
    · rw [if_neg c]
      obtain ⟨i, i0, i1, hi⟩ := h.m21 q q0 (by omega)
      have hsp : SP (rat X q).space := (h.rx.l.mw q q0 (by omega)).s
      by_cases e : (rat X q).space = s
      · rw [e] at i1 hi ⊢
        by_cases c1 : i < p
        · exact ⟨i, i0, by rw [hlt s hs, if_pos rfl]; omega, by rw [hn s hs, if_pos rfl, ins_gd p0 p1 i0, if_pos c1]; exact hi⟩
        · exact ⟨i + 1, by omega, by rw [hlt s hs, if_pos rfl]; omega, by rw [hn s hs, if_pos rfl, ins_gd p0 p1 (by omega), if_neg (by omega), if_neg (by omega), show i + 1 - 1 = i by omega]; exact hi⟩
      · exact ⟨i, i0, by rw [hlt _ hsp, if_neg e]; omega, by rw [hn _ hsp, if_neg e]; exact hi⟩
theorem MS.del {s i j : Int} {n0 n1 n2 : List mapping} (hs : SP s) (i0 : 0 ≤ i) (i1 : i < ((sel s m0 m1 m2).length : Int)) (j0 : 0 ≤ j) (j1 : j < X.length) (hij : img s (at_ s m0 m1 m2 i) (rat X j))
    (hn : ∀ t, SP t → sel t n0 n1 n2 = if t = s then (sel s m0 m1 m2).take i.toNat ++ (sel s m0 m1 m2).drop (i + 1).toNat else sel t m0 m1 m2) : MS n0 n1 n2 (X.take j.toNat ++ X.drop (j + 1).toNat) := by
  have hXl := del_len j0 j1
  have hsl := del_len i0 i1
  have hg : ∀ q : Int, 0 ≤ q → rat (X.take j.toNat ++ X.drop (j + 1).toNat) q = if q < j then rat X q else rat X (q + 1) := fun q q0 => del_gd j0 j1 q0
  have hlt : ∀ t, SP t → ((sel t n0 n1 n2).length : Int) = (sel t m0 m1 m2).length - if t = s then 1 else 0 := fun t ht => by
    rw [hn t ht]; split
    · rename_i e; subst e; omega
    · omega
  have hXL := h.rx.l.len
  -- where an old place of the reference lies now
  have mv : ∀ q : Int, 0 ≤ q → q < X.length → q ≠ j → ∃ q' : Int, 0 ≤ q' ∧ q' < (X.take j.toNat ++ X.drop (j + 1).toNat).length ∧ rat (X.take j.toNat ++ X.drop (j + 1).toNat) q' = rat X q := fun q q0 q1 hq => by
    by_cases c : q < j
    · exact ⟨q, q0, by omega, by rw [hg q q0, if_pos c]⟩
    · exact ⟨q - 1, by omega, by omega, by rw [hg (q - 1) (by omega), if_neg (by omega), show q - 1 + 1 = q by omega]⟩
  have bk : ∀ q : Int, 0 ≤ q → q < (X.take j.toNat ++ X.drop (j + 1).toNat).length → ∃ q' : Int, 0 ≤ q' ∧ q' < X.length ∧ q' ≠ j ∧ rat (X.take j.toNat ++ X.drop (j + 1).toNat) q = rat X q' ∧ (q' = if q < j then q else q + 1) := fun q q0 q1 => by
    rw [hg q q0]
    by_cases c : q < j
    · rw [if_pos c, if_pos c]; exact ⟨q, q0, by omega, by omega, rfl, rfl⟩
    · rw [if_neg c, if_neg c]; exact ⟨q + 1, by omega, by omega, by omega, rfl, rfl⟩
  refine ⟨BL.of fun t ht => ?_, ⟨⟨fun q q0 q1 => ?_, by omega⟩, fun p q p0 p1 q0 q1 hpq he => ?_, fun q q0 q1 => ?_⟩, ?_, fun t ht q q0 q1 => ?_, fun q q0 q1 => ?_⟩
  · rw [hn t ht]; split
    · exact (h.bl.at s).del i0 i1
    · exact h.bl.at t
  · obtain ⟨q', a0, a1, _, e, _⟩ := bk q q0 q1
    show RMW (rat _ q)
    rw [e]; exact h.rx.l.mw q' a0 a1
  · obtain ⟨p', a0, a1, _, e, ep⟩ := bk p p0 p1
    obtain ⟨q', b0, b1, _, e', eq⟩ := bk q q0 q1
    rw [e, e'] at he ⊢
    refine h.rx.dis p' q' a0 a1 b0 b1 ?_ he
    split at ep <;> split at eq <;> omega
  · obtain ⟨q', a0, a1, _, e, _⟩ := bk q q0 q1
    rw [e]; exact h.rx.by_ q' a0 a1
  · have e0 := hlt 0 (.inl rfl)
    have e1 := hlt 1 (.inr (.inl rfl))
    have e2 := hlt 2 (.inr (.inr rfl))
    rw [sel0, sel0] at e0
    rw [sel1, sel1] at e1
    rw [sel2, sel2] at e2
    have := h.cnt
    rcases hs with rfl | rfl | rfl <;> simp at e0 e1 e2 <;> omega
  · rw [hlt t ht] at q1
    rw [hn t ht]
    by_cases e : t = s
    · subst e
      rw [if_pos rfl] at q1 ⊢
      rw [del_gd i0 i1 q0]
      have old : ∀ q : Int, 0 ≤ q → q < (sel t m0 m1 m2).length → q ≠ i → ∃ j' : Int, 0 ≤ j' ∧ j' < (X.take j.toNat ++ X.drop (j + 1).toNat).length ∧ img t (gd mapping.zero (sel t m0 m1 m2) q) (rat (X.take j.toNat ++ X.drop (j + 1).toNat) j') := fun q q0 q1 hq => by
        obtain ⟨p, p0, p1, hp⟩ := h.m12 t ht q q0 q1
        obtain ⟨p', a0, a1, e⟩ := mv p p0 p1 fun e3 => hq ((h.bl.at t).same q0 q1 i0 i1 (by rw [← hp.2.1, e3, hij.2.1]; rfl))
        exact ⟨p', a0, a1, by rw [e]; exact hp⟩
      split
      · exact old q q0 (by omega) (by omega)
      · exact old (q + 1) (by omega) (by omega) (by omega)
    · rw [if_neg e] at q1 ⊢
      obtain ⟨p, p0, p1, hp⟩ := h.m12 t ht q q0 (by omega)
      obtain ⟨p', a0, a1, e2⟩ := mv p p0 p1 fun e3 => e (by rw [← hp.1, e3, hij.1])
      exact ⟨p', a0, a1, by rw [e2]; exact hp⟩
  · obtain ⟨q', a0, a1, a2, e, _⟩ := bk q q0 q1
    rw [e]
    obtain ⟨p, p0, p1, hp⟩ := h.m21 q' a0 a1
    have hsp : SP (rat X q').space := (h.rx.l.mw q' a0 a1).s
    by_cases c : (rat X q').space = s
    · rw [c] at p1 hp ⊢
      have hpi : p ≠ i := fun e3 => a2 (h.rx.same a0 a1 j0 j1 (by rw [hij.1]; exact c) (by rw [hp.2.1, hij.2.1, e3]; rfl))
      by_cases c1 : p < i
      · exact ⟨p, p0, by rw [hlt s hs, if_pos rfl]; omega, by rw [hn s hs, if_pos rfl, del_gd i0 i1 p0, if_pos c1]; exact hp⟩
      · exact ⟨p - 1, by omega, by rw [hlt s hs, if_pos rfl]; omega, by rw [hn s hs, if_pos rfl, del_gd i0 i1 (by omega), if_neg (by omega), show p - 1 + 1 = p by omega]; exact hp⟩
    · exact ⟨p, p0, by rw [hlt _ hsp, if_neg c]; omega, by rw [hn _ hsp, if_neg c]; exact hp⟩
end
end Go.Proofs.Ytigadacjaglfeaa.X
