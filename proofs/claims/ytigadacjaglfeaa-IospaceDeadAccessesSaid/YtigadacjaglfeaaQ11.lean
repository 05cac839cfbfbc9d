/- The laws on the pure side: io11. -/
import Derived.Test.YtigadacjaglfeaaQ8
namespace Go.Proofs.Ytigadacjaglfeaa.X
open Go Go.Sx
def img (s : Int) (y : mapping) (x : ref09_mapping) : Prop := x.space = s ∧ x.m = y.r ∧ x.owner = y.owner ∧ ∀ o : Int, 0 ≤ o → o < y.r.Len → gd 0 x.bytes o = mgetd y.data (y.r.Base + o)
def toR (f : fault) : ref09_fault := ⟨f.space, f.r, f.n⟩
structure MS (m0 m1 m2 : List mapping) (X : List ref09_mapping) : Prop where
  bl : BL m0 m1 m2
  rx : RX X
  cnt : m0.length + m1.length + m2.length = X.length
  m12 : ∀ s, SP s → ∀ i : Int, 0 ≤ i → i < (sel s m0 m1 m2).length → ∃ j : Int, 0 ≤ j ∧ j < X.length ∧ img s (gd mapping.zero (sel s m0 m1 m2) i) (rat X j)
  m21 : ∀ j : Int, 0 ≤ j → j < X.length → ∃ i : Int, 0 ≤ i ∧ i < (sel (rat X j).space m0 m1 m2).length ∧ img (rat X j).space (gd mapping.zero (sel (rat X j).space m0 m1 m2) i) (rat X j)
structure FS (F : List fault) (G : List ref09_fault) : Prop where
  fl : FL F
  gl : RFL G
  fr : F.map toR = G.filter lft
theorem LW.same {L : List mapping} (h : LW L) {i j : Int} (i0 : 0 ≤ i) (i1 : i < L.length) (j0 : 0 ≤ j) (j1 : j < L.length) (e : (gd mapping.zero L i).r = (gd mapping.zero L j).r) : i = j := by
  have := (h.mw j j0 j1).r.l1
  exact h.one i0 i1 j0 j1 (a := (gd mapping.zero L j).r.Base) (by rw [e]; exact ⟨Int.le_refl _, by omega⟩) ⟨Int.le_refl _, by omega⟩
theorem RX.one {X : List ref09_mapping} (h : RX X) {i j : Int} (i0 : 0 ≤ i) (i1 : i < X.length) (j0 : 0 ≤ j) (j1 : j < X.length) {a : Int} (es : (rat X i).space = (rat X j).space) (hi : inr (rat X i).m a) (hj : inr (rat X j).m a) : i = j := by
  by_cases e : i = j
  · exact e
  · exact absurd (by unfold ov; unfold inr at hi hj; omega) (h.dis i j i0 i1 j0 j1 e es)
theorem RX.same {X : List ref09_mapping} (h : RX X) {i j : Int} (i0 : 0 ≤ i) (i1 : i < X.length) (j0 : 0 ≤ j) (j1 : j < X.length) (es : (rat X i).space = (rat X j).space) (e : (rat X i).m = (rat X j).m) : i = j := by
  have hl : 1 ≤ (rat X j).m.Len := (h.l.mw j j0 j1).r.l1
  exact h.one i0 i1 j0 j1 (a := (rat X j).m.Base) es (by rw [e]; exact ⟨Int.le_refl _, by omega⟩) ⟨Int.le_refl _, by omega⟩
section
variable {m0 m1 m2 : List mapping} {X : List ref09_mapping} (h : MS m0 m1 m2 X)
include h
theorem MS.corr (s : Int) {a : Int} (ha : U a) : (SP s ∧ ∃ i j, Found s a m0 m1 m2 i ∧ Fnd ref09_mapping.zero (rin s a) X j ∧ img s (at_ s m0 m1 m2 i) (rat X j)) ∨ (NoneF s a m0 m1 m2 ∧ NoF ref09_mapping.zero (rin s a) X) := by
  rcases find_f (en := []) (fa := []) (tr := []) (s := s) (a := a) (k := 1000) h.bl (by decide) with ⟨hs, i, hi, _⟩ | ⟨hz, _⟩
  · obtain ⟨i0, i1, hin, _⟩ := id hi
    obtain ⟨j, j0, j1, hj⟩ := h.m12 s hs i i0 i1
    have hja : rin s a (rat X j) := ⟨hj.1, by rw [hj.2.1]; exact hin⟩
    rcases rfind_f (en := []) (G := []) (tr := []) (s := s) (a := a) (k := 1000) h.rx.l (by decide) ha with ⟨q, hq, _⟩ | ⟨hq, _⟩
    · have : j = q := h.rx.one j0 j1 hq.1 hq.2.1 (hja.1.trans hq.2.2.1.1.symm) hja.2 hq.2.2.1.2
      subst this
      exact .inl ⟨hs, i, j, hi, hq, hj⟩
    · exact absurd hja (hq j j0 j1)
  · refine .inr ⟨hz, fun j j0 j1 hj => ?_⟩
    obtain ⟨i, i0, i1, hi⟩ := h.m21 j j0 j1
    have hs : SP s := hj.1 ▸ (h.rx.l.mw j j0 j1).s
    have e : (rat X j).space = s := hj.1
    rw [e] at i1 hi
    refine hz hs i i0 i1 ?_
    unfold cin
    rw [← hi.2.1]; exact hj.2
theorem MS.set {s : Int} {i j : Int} {y : mapping} {x : ref09_mapping} {n0 n1 n2 : List mapping} (hs : SP s) (i0 : 0 ≤ i) (i1 : i < (sel s m0 m1 m2).length) (j0 : 0 ≤ j) (j1 : j < X.length) (hij : img s (at_ s m0 m1 m2 i) (rat X j))
    (hy : MW y) (hyr : y.r = (at_ s m0 m1 m2 i).r) (hyo : y.owner = (at_ s m0 m1 m2 i).owner) (hx : img s y x) (hxl : x.bytes.length = (rat X j).bytes.length) (hxb : ∀ q, 0 ≤ gd 0 x.bytes q ∧ gd 0 x.bytes q < 256)
    (hn : ∀ t, SP t → sel t n0 n1 n2 = if t = s then (sel s m0 m1 m2).set i.toNat y else sel t m0 m1 m2) : MS n0 n1 n2 (X.set j.toNat x) := by
  have hsel : ∀ t, SP t → (sel t n0 n1 n2).length = (sel t m0 m1 m2).length := fun t ht => by
    rw [hn t ht]; split
    · rename_i e; subst e; rw [List.length_set]
    · rfl
  have hxm : x.m = (rat X j).m := by rw [hx.2.1, hyr, hij.2.1]
  have hrx : RX (X.set j.toNat x) := by
    have hg : ∀ q : Int, 0 ≤ q → rat (X.set j.toNat x) q = if q = j then x else rat X q := fun q hq => gd_set j0 j1 hq
    have hj := h.rx.l.mw j j0 j1
    refine ⟨⟨fun q q0 q1 => ?_, by rw [List.length_set]; exact h.rx.l.len⟩, fun p q p0 p1 q0 q1 hpq he => ?_, fun q q0 q1 => ?_⟩
    · rw [List.length_set] at q1
      show RMW (rat (X.set j.toNat x) q)
      rw [hg q q0]
      split
      · have hm2 : (gd ref09_mapping.zero X j).m = x.m := hxm.symm
        refine ⟨hm2 ▸ hj.r, ?_, by rw [hx.1]; exact hs, ?_⟩
        · rw [hx.2.2.1, hyo, ← hij.2.2.1]; exact hj.o
        · rw [hxl, hxm]; exact hj.bl
      · exact h.rx.l.mw q q0 q1
    · rw [List.length_set] at p1 q1
      rw [hg p p0, hg q q0] at he ⊢
      split
      · split
        · omega
        · rename_i e1 e2
          rw [if_pos e1, if_neg e2] at he
          rw [hxm]
          exact h.rx.dis j q j0 j1 q0 q1 (by omega) (by rw [hij.1, ← hx.1]; exact he)
      · split
        · rename_i e1 e2
          rw [if_neg e1, if_pos e2] at he
          rw [hxm]
          exact h.rx.dis p j p0 p1 j0 j1 (by omega) (by rw [hij.1, ← hx.1]; exact he)
        · rename_i e1 e2
          rw [if_neg e1, if_neg e2] at he
          exact h.rx.dis p q p0 p1 q0 q1 hpq he
    · rw [List.length_set] at q1
      rw [hg q q0]
      split
      · exact hxb
      · exact h.rx.by_ q q0 q1
  have hg : ∀ q : Int, 0 ≤ q → rat (X.set j.toNat x) q = if q = j then x else rat X q := fun q hq => gd_set j0 j1 hq
  have hgs : ∀ q : Int, 0 ≤ q → gd mapping.zero ((sel s m0 m1 m2).set i.toNat y) q = if q = i then y else gd mapping.zero (sel s m0 m1 m2) q := fun q hq => gd_set i0 i1 hq
  refine ⟨BL.of fun t ht => ?_, hrx, ?_, fun t ht q q0 q1 => ?_, fun q q0 q1 => ?_⟩
  · rw [hn t ht]
    split
    · have hL := h.bl.at s
      refine ⟨fun q q0 q1 => ?_, fun p q p0 p1 q0 q1 hpq => ?_, by rw [List.length_set]; exact hL.len⟩
      · rw [List.length_set] at q1
        rw [hgs q q0]; split
        · exact hy
        · exact hL.mw q q0 q1
      · rw [List.length_set] at p1 q1
        have hr : ∀ q : Int, 0 ≤ q → (gd mapping.zero ((sel s m0 m1 m2).set i.toNat y) q).r = (gd mapping.zero (sel s m0 m1 m2) q).r := fun q hq => by
          rw [hgs q hq]; split
          · rename_i e; rw [hyr, e]; rfl
          · rfl
        rw [hr p p0, hr q q0]
        exact hL.dis p q p0 p1 q0 q1 hpq
    · exact h.bl.at t
  · have e0 := hsel 0 (.inl rfl)
    have e1 := hsel 1 (.inr (.inl rfl))
    have e2 := hsel 2 (.inr (.inr rfl))
    rw [sel0, sel0] at e0
    rw [sel1, sel1] at e1
    rw [sel2, sel2] at e2
    rw [List.length_set, ← h.cnt]; omega
  · rw [hsel t ht] at q1
    obtain ⟨p, p0, p1, hp⟩ := h.m12 t ht q q0 q1
    refine ⟨p, p0, by rw [List.length_set]; exact p1, ?_⟩
    rw [hg p p0, hn t ht]
    by_cases e : t = s
    · subst e
      rw [if_pos rfl, hgs q q0]
      by_cases e2 : q = i
      · subst e2
        have : p = j := h.rx.same p0 p1 j0 j1 (hp.1.trans hij.1.symm) (hp.2.1.trans hij.2.1.symm)
        rw [if_pos rfl, if_pos this]; exact hx
      · have hpj : p ≠ j := fun e3 => e2 ((h.bl.at t).same q0 q1 i0 i1 (by rw [← hp.2.1, e3, hij.2.1]; rfl))
        rw [if_neg e2, if_neg hpj]; exact hp
    · have hpj : p ≠ j := fun e3 => e (by rw [← hp.1, e3, hij.1])
      rw [if_neg e, if_neg hpj]; exact hp
  · rw [List.length_set] at q1
    rw [hg q q0]
    by_cases e : q = j
    · rw [if_pos e]
      rw [hx.1, hsel s hs, hn s hs, if_pos rfl]
      exact ⟨i, i0, i1, by rw [hgs i i0, if_pos rfl]; exact hx⟩
    · rw [if_neg e]
      obtain ⟨p, p0, p1, hp⟩ := h.m21 q q0 q1
      have hsp : SP (rat X q).space := (h.rx.l.mw q q0 q1).s
      refine ⟨p, p0, by rw [hsel _ hsp]; exact p1, ?_⟩
      rw [hn _ hsp]
      split
      · rename_i e2
        have hpi : p ≠ i := fun e3 => e (h.rx.same q0 q1 j0 j1 (by rw [hij.1]; exact e2) (by rw [hp.2.1, hij.2.1, e3, e2]; rfl))
        rw [hgs p p0, if_neg hpi]
        rw [e2] at hp ⊢; exact hp
      · exact hp
end
theorem fnd_cons {α : Type} {z : α} {p : α → Prop} {x : α} {L : List α} {i : Int} (hx : ¬ p x) (h : Fnd z p L i) : Fnd z p (x :: L) (i + 1) := by
  obtain ⟨h0, h1, h2, h3⟩ := h
  have e : ∀ j : Int, 0 ≤ j → gd z (x :: L) (j + 1) = gd z L j := fun j hj => by
    unfold gd; rw [show (j + 1).toNat = j.toNat + 1 by omega]; rfl
  refine ⟨by omega, by simp; omega, by rw [e i h0]; exact h2, fun j j0 j1 => ?_⟩
  by_cases c : j = 0
  · subst c; exact hx
  · rw [show j = (j - 1) + 1 by omega, e (j - 1) (by omega)]; exact h3 (j - 1) (by omega) (by omega)
theorem nof_cons {α : Type} {z : α} {p : α → Prop} {x : α} {L : List α} (hx : ¬ p x) (h : NoF z p L) : NoF z p (x :: L) := fun j j0 j1 => by
  by_cases c : j = 0
  · subst c; exact hx
  · have e : gd z (x :: L) j = gd z L (j - 1) := by unfold gd; rw [show j.toNat = (j - 1).toNat + 1 by omega]; rfl
    rw [e]; exact h (j - 1) (by omega) (by simp at j1; omega)
theorem fnd_hd {α : Type} {z : α} {p : α → Prop} {x : α} {L : List α} (hx : p x) : Fnd z p (x :: L) 0 := ⟨Int.le_refl _, by rw [List.length_cons]; omega, hx, fun j j0 j1 => by omega⟩
theorem used_cons {f : fault} {F : List fault} {q : Int} (hq : 0 ≤ q) : used (f :: F) (q + 1) = f :: used F q := by
  unfold used
  have e : gd fault.zero (f :: F) (q + 1) = gd fault.zero F q := by unfold gd; rw [show (q + 1).toNat = q.toNat + 1 by omega]; rfl
  rw [e, show (q + 1 + 1).toNat = q.toNat + 1 + 1 by omega, show (q + 1).toNat = q.toNat + 1 by omega]
  split <;> rfl
theorem rused_cons {g : ref09_fault} {G : List ref09_fault} {q : Int} (hq : 0 ≤ q) : rused (g :: G) (q + 1) = g :: rused G q := by
  unfold rused
  have e : gd ref09_fault.zero (g :: G) (q + 1) = gd ref09_fault.zero G q := by unfold gd; rw [show (q + 1).toNat = q.toNat + 1 by omega]; rfl
  rw [e, show (q + 1).toNat = q.toNat + 1 by omega]; rfl
theorem faults_corr (s : Int) (r : Range) : ∀ (G : List ref09_fault) (F : List fault), F.map toR = G.filter lft →
    (NoF fault.zero (hits s r) F ∧ NoF ref09_fault.zero (rhit s r) G) ∨ ∃ q q', Fnd fault.zero (hits s r) F q ∧ Fnd ref09_fault.zero (rhit s r) G q' ∧ (used F q).map toR = (rused G q').filter lft
  | [], F, h => by
    have : F = [] := by simpa using h
    subst this
    exact .inl ⟨noF_nil, noF_nil⟩
  | g :: G, F, h => by
    by_cases c : lft g = true
    · rw [List.filter_cons_of_pos c] at h
      cases F with
      | nil => cases h
      | cons f F =>
        rw [List.map_cons] at h
        injection h with hg h
        subst hg
        have hl : 0 < f.n := of_decide_eq_true c
        by_cases hh : hits s r f
        · refine .inr ⟨0, 0, fnd_hd hh, fnd_hd ⟨hl, hh⟩, ?_⟩
          unfold used rused
          show (if f.n - 1 = 0 then _ else _ : List fault).map toR = List.filter lft ({ toR f with left := f.n - 1 } :: G)
          by_cases c2 : f.n - 1 = 0
          · rw [if_pos c2, List.filter_cons_of_neg (by unfold lft; exact fun hh => absurd (of_decide_eq_true hh) (by show ¬ 0 < f.n - 1; omega))]
            exact h
          · rw [if_neg c2, List.filter_cons_of_pos (by unfold lft; exact decide_eq_true (show 0 < f.n - 1 by omega))]
            show toR { f with n := f.n - 1 } :: F.map toR = _
            rw [h]; rfl
        · have hh' : ¬ rhit s r (toR f) := fun q => hh q.2
          rcases faults_corr s r G F h with ⟨h1, h2⟩ | ⟨q, q', h1, h2, h3⟩
          · exact .inl ⟨nof_cons hh h1, nof_cons hh' h2⟩
          · refine .inr ⟨q + 1, q' + 1, fnd_cons hh h1, fnd_cons hh' h2, ?_⟩
            rw [used_cons h1.1, rused_cons h2.1, List.map_cons, h3, List.filter_cons_of_pos c]
    · rw [List.filter_cons_of_neg c] at h
      have hh' : ¬ rhit s r g := fun q => c (decide_eq_true q.1)
      rcases faults_corr s r G F h with ⟨h1, h2⟩ | ⟨q, q', h1, h2, h3⟩
      · exact .inl ⟨h1, nof_cons hh' h2⟩
      · refine .inr ⟨q, q' + 1, h1, fnd_cons hh' h2, ?_⟩
        rw [rused_cons h2.1, h3, List.filter_cons_of_neg c]
theorem FL.used {F : List fault} (h : FL F) {s : Int} {r : Range} {q : Int} (hq : Fnd fault.zero (hits s r) F q) : FL (used F q) := by
  obtain ⟨q0, q1, _, _⟩ := hq
  have hw := h.fw q q0 q1
  have hlen := h.len
  unfold Go.Proofs.Ytigadacjaglfeaa.X.used
  by_cases c : (gd fault.zero F q).n - 1 = 0
  · rw [if_pos c]
    have hl : (F.take q.toNat ++ F.drop (q + 1).toNat).length = F.length - 1 := by simp; omega
    refine ⟨fun i i0 i1 => ?_, by omega⟩
    have : gd fault.zero (F.take q.toNat ++ F.drop (q + 1).toNat) i ∈ F.take q.toNat ++ F.drop (q + 1).toNat := gd_mem i0 i1
    have hm : gd fault.zero (F.take q.toNat ++ F.drop (q + 1).toNat) i ∈ F := by
      rcases List.mem_append.1 this with h1 | h1
      · exact List.mem_of_mem_take h1
      · exact List.mem_of_mem_drop h1
    obtain ⟨n, hn, e⟩ := List.mem_iff_getElem.1 hm
    have := h.fw n (by omega) (by omega)
    have e2 : gd fault.zero F n = F[n] := by unfold gd; rw [List.getD_eq_getElem?_getD, Int.toNat_natCast, List.getElem?_eq_getElem hn]; rfl
    rw [e2, e] at this; exact this
  · rw [if_neg c]
    refine ⟨fun i i0 i1 => ?_, by rw [List.length_set]; exact hlen⟩
    rw [List.length_set] at i1
    rw [gd_set q0 q1 i0]
    split
    · exact ⟨hw.r, by show 1 ≤ (gd fault.zero F q).n - 1; have := hw.n0; omega, by show (gd fault.zero F q).n - 1 ≤ 64; have := hw.n1; omega⟩
    · exact h.fw i i0 i1
theorem RFL.rused {G : List ref09_fault} (h : RFL G) {s : Int} {r : Range} {q : Int} (hq : Fnd ref09_fault.zero (rhit s r) G q) : RFL (rused G q) := by
  obtain ⟨q0, q1, hh, _⟩ := hq
  have hw := h.fw q q0 q1
  have hp := hh.1
  unfold Go.Proofs.Ytigadacjaglfeaa.X.rused
  refine ⟨fun i i0 i1 => ?_, by rw [List.length_set]; exact h.len⟩
  rw [List.length_set] at i1
  rw [gd_set q0 q1 i0]
  split
  · exact ⟨hw.r, by show 0 ≤ (gd ref09_fault.zero G q).left - 1; omega, by show (gd ref09_fault.zero G q).left - 1 ≤ 64; have := hw.n1; omega⟩
  · exact h.fw i i0 i1
theorem rused_len {G : List ref09_fault} {q : Int} : (rused G q).length = G.length := by unfold rused; rw [List.length_set]
end Go.Proofs.Ytigadacjaglfeaa.X
