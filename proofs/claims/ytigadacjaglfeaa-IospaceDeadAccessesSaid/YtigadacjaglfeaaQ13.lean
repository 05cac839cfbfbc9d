/- The laws on the pure side: io13. -/
import Derived.Test.YtigadacjaglfeaaQ12
namespace Go.Proofs.Ytigadacjaglfeaa.X
open Go Go.Sx
structure Sim (m0 m1 m2 : List mapping) (F : List fault) (tr : List Traced) (X : List ref09_mapping) (G : List ref09_fault) (n : Int) : Prop where
  ms : MS m0 m1 m2 X
  fs : FS F G
  x : (X.length : Int) ≤ n
  g : (G.length : Int) ≤ n
  t : (tr.length : Int) ≤ n
section
variable {m0 m1 m2 : List mapping} {en : List Bool} {F : List fault} {tr : List Traced} {X : List ref09_mapping} {G : List ref09_fault} {n : Int} {k : Nat}
theorem Sim.up (h : Sim m0 m1 m2 F tr X G n) : Sim m0 m1 m2 F tr X G (n + 1) := ⟨h.ms, h.fs, by have := h.x; omega, by have := h.g; omega, by have := h.t; omega⟩
theorem map_sim (h : Sim m0 m1 m2 F tr X G n) (hn : n ≤ 100) (hk : 500 < k) {s o : Int} {r : Range} (hb : U r.Base) (hl : U r.Len) :
    ∃ n0 n1 n2 X' e, iospace_Bus_Map.f k m0 m1 m2 en F tr s r o = some (n0, n1, n2, e) ∧ ref09_Bus_Map.f k X en G tr s r o = some (X', e) ∧ Sim n0 n1 n2 F tr X' G (n + 1) := by
  have hx := h.x
  have hc := h.ms.cnt
  by_cases hv : SP s ∧ VR r ∧ OW o
  · obtain ⟨hs, hr, ho⟩ := hv
    rcases map_f (en := en) (fa := F) (tr := tr) (s := s) (o := o) (r := r) (k := k) h.ms.bl (by omega) hs hr ho (by omega) with ⟨h1, i, i0, i1, hi, _⟩ | ⟨hz, n0, n1, n2, i, h1, i0, i1, hsel⟩
    · rcases rmap_f (X := X) (en := en) (G := G) (tr := tr) (s := s) (o := o) (r := r) (k := k) h.ms.rx.l (by omega) hs hr ho (by omega) with ⟨h2, _⟩ | ⟨hz, _⟩
      · exact ⟨m0, m1, m2, X, 17, h1, h2, h.up⟩
      · obtain ⟨j, j0, j1, hj⟩ := h.ms.m12 s hs i i0 i1
        exact absurd ⟨hj.1, by rw [show (gd ref09_mapping.zero X j).m = _ from hj.2.1]; exact hi⟩ (hz j j0 j1)
    · rcases rmap_f (X := X) (en := en) (G := G) (tr := tr) (s := s) (o := o) (r := r) (k := k) h.ms.rx.l (by omega) hs hr ho (by omega) with ⟨_, j, j0, j1, hj, _⟩ | ⟨_, h2⟩
      · obtain ⟨q, q0, q1, hq⟩ := h.ms.m21 j j0 j1
        have e : (rat X j).space = s := hj.1
        rw [e] at q1 hq
        exact absurd (show ov _ r by rw [← hq.2.1]; exact hj.2) (hz q q0 q1)
      · exact ⟨n0, n1, n2, _, 0, h1, h2, ⟨h.ms.ins hs hr ho i0 i1 hz (by omega) hsel, h.fs, by simp; omega, by have := h.g; omega, by have := h.t; omega⟩⟩
  · exact ⟨m0, m1, m2, X, 1, map_bad hb hl hv, rmap_bad hb hl hv, h.up⟩
theorem unmap_sim (h : Sim m0 m1 m2 F tr X G n) (hk : 500 < k) {s : Int} {r : Range} :
    ∃ n0 n1 n2 X' e, iospace_Bus_Unmap.f k m0 m1 m2 en F tr s r = some (n0, n1, n2, e) ∧ ref09_Bus_Unmap.f k X en G tr s r = some (X', e) ∧ Sim n0 n1 n2 F tr X' G (n + 1) := by
  have hx := h.x
  rcases unmap_f (en := en) (fa := F) (tr := tr) (s := s) (r := r) (k := k) h.ms.bl (by omega) with ⟨hs, i, n0, n1, n2, ⟨i0, i1, hi, _⟩, h1, hsel⟩ | ⟨hz, h1⟩
  · obtain ⟨j, j0, j1, hj⟩ := h.ms.m12 s hs i i0 i1
    have hjs : rsame s r (rat X j) := ⟨hj.1, by rw [hj.2.1]; exact hi.1, by rw [hj.2.1]; exact hi.2⟩
    rcases runmap_f (en := en) (G := G) (tr := tr) (s := s) (r := r) (k := k) h.ms.rx.l (by omega) with ⟨q, ⟨q0, q1, hq, _⟩, h2⟩ | ⟨hz, _⟩
    · have hq' : rsame s r (rat X q) := hq
      have e : j = q := h.ms.rx.same j0 j1 q0 q1 (hjs.1.trans hq'.1.symm) (by
        have a1 := hjs.2.1.trans hq'.2.1.symm
        have a2 := hjs.2.2.trans hq'.2.2.symm
        cases hm : (rat X j).m
        cases hm' : (rat X q).m
        rw [hm, hm'] at a1 a2
        simp only at a1 a2
        rw [a1, a2])
      subst e
      have := del_len j0 j1
      exact ⟨n0, n1, n2, _, 0, h1, h2, ⟨h.ms.del hs i0 i1 j0 j1 hj hsel, h.fs, by omega, by have := h.g; omega, by have := h.t; omega⟩⟩
    · exact absurd hjs (hz j j0 j1)
  · rcases runmap_f (en := en) (G := G) (tr := tr) (s := s) (r := r) (k := k) h.ms.rx.l (by omega) with ⟨q, ⟨q0, q1, hq, _⟩, _⟩ | ⟨_, h2⟩
    · obtain ⟨i, i0, i1, hi⟩ := h.ms.m21 q q0 q1
      have hq' : rsame s r (rat X q) := hq
      have hs : SP s := hq'.1 ▸ (h.ms.rx.l.mw q q0 q1).s
      rw [hq'.1] at i1 hi
      exact absurd (show same r _ from ⟨by rw [← hi.2.1]; exact hq'.2.1, by rw [← hi.2.1]; exact hq'.2.2⟩) (hz hs i i0 i1)
    · exact ⟨m0, m1, m2, X, 6, h1, h2, h.up⟩
theorem plan_sim (h : Sim m0 m1 m2 F tr X G n) (hn : n ≤ 100) (hk : 500 < k) {s c : Int} {r : Range} (hb : U r.Base) (hl : U r.Len) :
    ∃ F' G' e, iospace_Bus_PlanFault.f k m0 m1 m2 en F tr s r c = some (F', e) ∧ ref09_Bus_PlanFault.f k X en G tr s r c = some (G', e) ∧ Sim m0 m1 m2 F' tr X G' (n + 1) := by
  have hg := h.g
  have hlen : F.length = (G.filter lft).length := by rw [← h.fs.fr, List.length_map]
  have h1 := plan_f (m0 := m0) (m1 := m1) (m2 := m2) (en := en) (tr := tr) (s := s) (n := c) (r := r) (k := k) hb hl h.fs.fl
  have h2 := rplan_f (X := X) (en := en) (tr := tr) (s := s) (n := c) (r := r) (k := k) hb hl h.fs.gl (by omega)
  have hFl := h.fs.fl.len
  by_cases hv : SP s ∧ VR r ∧ 1 ≤ c ∧ c ≤ 64
  · rw [if_pos hv] at h1 h2
    by_cases c5 : F.length = 64
    · rw [if_pos c5] at h1
      rw [if_pos (by omega)] at h2
      exact ⟨F, G, 8, h1, h2, h.up⟩
    · rw [if_neg c5] at h1
      rw [if_neg (by omega)] at h2
      refine ⟨_, _, 0, h1, h2, ⟨h.ms, ⟨⟨fun i i0 i1 => ?_, by simp; omega⟩, ⟨fun i i0 i1 => ?_, by simp; omega⟩, ?_⟩, by have := h.x; omega, by simp; omega, by have := h.t; omega⟩⟩
      · simp at i1
        rw [snoc_gd i0 (by omega)]; split
        · exact ⟨hv.2.1, hv.2.2.1, hv.2.2.2⟩
        · exact h.fs.fl.fw i i0 (by omega)
      · simp at i1
        rw [snoc_gd i0 (by omega)]; split
        · exact ⟨hv.2.1, by show 0 ≤ c; omega, hv.2.2.2⟩
        · exact h.fs.gl.fw i i0 (by omega)
      · rw [List.map_append, h.fs.fr, List.filter_append, List.filter_cons_of_pos (by unfold lft; exact decide_eq_true (show 0 < c by omega))]; rfl
  · rw [if_neg hv] at h1 h2
    exact ⟨F, G, 1, h1, h2, h.up⟩
theorem owner_sim (h : Sim m0 m1 m2 F tr X G n) (hk : 500 < k) {s a : Int} (ha : U a) : ∃ o, iospace_Bus_Owner.f k m0 m1 m2 en F tr s a = some o ∧ ref09_Bus_Owner.f k X en G tr s a = some o := by
  rcases h.ms.corr s ha with ⟨hs, i, j, hi, hj, hij⟩ | ⟨h1, h2⟩
  · exact ⟨_, owner_some h.ms.bl (by omega) hs hi, by rw [rowner_some h.ms.rx.l (by omega) ha hj, hij.2.2.1]⟩
  · exact ⟨_, owner_none h.ms.bl (by omega) h1, rowner_none h.ms.rx.l (by omega) ha h2⟩
theorem peek_sim (h : Sim m0 m1 m2 F tr X G n) (hk : 500 < k) {s a : Int} (ha : U a) : ∃ o, iospace_Bus_Peek.f k m0 m1 m2 en F tr s a = some o ∧ ref09_Bus_Peek.f k X en G tr s a = some o := by
  rcases h.ms.corr s ha with ⟨hs, i, j, hi, hj, hij⟩ | ⟨h1, h2⟩
  · refine ⟨_, peek_some h.ms.bl (by omega) hs hi, ?_⟩
    have hin : inr (at_ s m0 m1 m2 i).r a := hi.2.2.1
    rw [rpeek_some h.ms.rx.l (by omega) ha hj, hij.2.1, hij.2.2.2 _ (by have := hin.1; omega) (by have := hin.2; omega), show (at_ s m0 m1 m2 i).r.Base + (a - (at_ s m0 m1 m2 i).r.Base) = a by omega]
  · exact ⟨_, peek_none h.ms.bl (by omega) h1, rpeek_none h.ms.rx.l (by omega) ha h2⟩
theorem gd_neg {α : Type} {z : α} {L : List α} {j : Int} (hj : j < 0) : gd z L j = gd z L 0 := by unfold gd; rw [show j.toNat = (0 : Int).toNat by omega]
theorem poke_sim (h : Sim m0 m1 m2 F tr X G n) (hk : 500 < k) {s a v : Int} (ha : U a) (hv : 0 ≤ v ∧ v < 256) : ∃ n0 n1 n2 X' b, iospace_Bus_Poke.f k m0 m1 m2 en F tr s a v = some (n0, n1, n2, b) ∧ ref09_Bus_Poke.f k X en G tr s a v = some (X', b) ∧ Sim n0 n1 n2 F tr X' G (n + 1) := by
  have hx := h.x
  rcases h.ms.corr s ha with ⟨hs, i, j, hi, hj, hij⟩ | ⟨h1, h2⟩
  · obtain ⟨n0, n1, n2, h1, hsel⟩ := poke_some (en := en) (fa := F) (tr := tr) (v := v) (k := k) h.ms.bl (by omega) hs hi
    have hm : MW (at_ s m0 m1 m2 i) := (h.ms.bl.at s).mw i hi.1 hi.2.1
    have hr0 := hm.r.b0
    obtain ⟨_, r2, r3⟩ := roff h.ms.rx.l hj
    have hb := h.ms.rx.by_ j hj.1 hj.2.1
    refine ⟨n0, n1, n2, _, true, h1, rpoke_some h.ms.rx.l (by omega) ha hj, ⟨h.ms.set (y := { at_ s m0 m1 m2 i with data := mput (at_ s m0 m1 m2 i).data a v }) (x := { rat X j with bytes := (rat X j).bytes.set (a - (rat X j).m.Base).toNat v }) hs hi.1 hi.2.1 hj.1 hj.2.1 hij ⟨hm.r, hm.o, fun b => ?_⟩ rfl rfl ⟨hij.1, hij.2.1, hij.2.2.1, fun o o0 o1 => ?_⟩ (by rw [List.length_set]) (fun q => ?_) hsel, h.fs, by rw [List.length_set]; omega, by have := h.g; omega, by have := h.t; omega⟩⟩
    · show 0 ≤ mgetd (mput (at_ s m0 m1 m2 i).data a v) b ∧ mgetd (mput (at_ s m0 m1 m2 i).data a v) b < 256
      rw [mget_put]; split
      · exact hv
      · exact hm.d b
    · show gd 0 ((rat X j).bytes.set (a - (rat X j).m.Base).toNat v) o = mgetd (mput (at_ s m0 m1 m2 i).data a v) ((at_ s m0 m1 m2 i).r.Base + o)
      rw [gd_set r2 r3 o0, mget_put, hij.2.1]
      by_cases c : o = a - (at_ s m0 m1 m2 i).r.Base
      · rw [if_pos c, if_pos (by omega)]
      · rw [if_neg c, if_neg (by omega)]; exact hij.2.2.2 o o0 o1
    · have key : ∀ q : Int, 0 ≤ q → 0 ≤ gd 0 ((rat X j).bytes.set (a - (rat X j).m.Base).toNat v) q ∧ gd 0 ((rat X j).bytes.set (a - (rat X j).m.Base).toNat v) q < 256 := fun q hq => by
        rw [gd_set r2 r3 hq]; split
        · exact hv
        · exact hb q
      by_cases c : 0 ≤ q
      · exact key q c
      · show 0 ≤ gd 0 ((rat X j).bytes.set (a - (rat X j).m.Base).toNat v) q ∧ _
        rw [gd_neg (by omega)]; exact key 0 (Int.le_refl _)
  · exact ⟨m0, m1, m2, X, false, poke_none h.ms.bl (by omega) h1, rpoke_none h.ms.rx.l (by omega) ha h2, h.up⟩
theorem ld_img {s : Int} {y : mapping} {x : ref09_mapping} (h : img s y x) {a : Int} (ha : y.r.Base ≤ a) : ∀ w : Nat, a + w ≤ y.r.Base + y.r.Len → ldB x.bytes (a - x.m.Base) w = ldN y.data a w
  | 0, _ => rfl
  | w + 1, hw => by
    show ldB x.bytes (a - x.m.Base) w + _ = ldN y.data a w + _
    rw [ld_img h ha w (by omega), h.2.1, h.2.2.2 (a - y.r.Base + w) (by omega) (by omega), show y.r.Base + (a - y.r.Base + (w : Int)) = a + w by omega]
theorem access_sim (h : Sim m0 m1 m2 F tr X G n) (hn : n ≤ 100) (hk : 500 < k) {a : Access} (hA : AW a) :
    ∃ n0 n1 n2 F' tr' X' G' v e, iospace_Bus_Access.f k m0 m1 m2 en F tr a = some (F', tr', n0, n1, n2, v, e) ∧ ref09_Bus_Access.f k X en G tr a = some (tr', X', G', v, e) ∧ Sim n0 n1 n2 F' tr' X' G' (n + 1) := by
  have hx := h.x
  have hg := h.g
  have ht := h.t
  by_cases hf : WF a
  · have htr : tr.length < 65536 := by omega
    have ha := hA.ad
    have one : ∀ T : Traced, Sim m0 m1 m2 F (tr ++ [T]) X G (n + 1) := fun T => ⟨h.ms, h.fs, by omega, by omega, by simp; omega⟩
    rcases h.ms.corr a.Space ha with ⟨hs, i, j, hi, hj, hij⟩ | ⟨h1, h2⟩
    · have hm : MW (at_ a.Space m0 m1 m2 i) := (h.ms.bl.at a.Space).mw i hi.1 hi.2.1
      have hlr : live en a (at_ a.Space m0 m1 m2 i) ↔ rlive en a (rat X j) := by
        unfold live rlive; rw [hij.2.1, hij.2.2.1]
      by_cases hl : live en a (at_ a.Space m0 m1 m2 i)
      · have hl' := hlr.1 hl
        have hin : inr (at_ a.Space m0 m1 m2 i).r a.Addr := hi.2.2.1
        have hwp := hf.w.pos
        have hle : a.Addr + (a.Width.toNat : Int) ≤ (at_ a.Space m0 m1 m2 i).r.Base + (at_ a.Space m0 m1 m2 i).r.Len := by have := hl.1; omega
        have hld := ld_img hij hin.1 a.Width.toNat hle
        rcases faults_corr a.Space ⟨a.Addr, a.Width⟩ G F h.fs.fr with ⟨z1, z2⟩ | ⟨q, q', f1, f2, f3⟩
        · rcases acc_live h.ms.bl (by omega : 300 < k) hA hf h.fs.fl htr hi hl with ⟨q, hq, _⟩ | ⟨_, n0, n1, n2, g1, g2⟩
          · exact absurd hq.2.2.1 (z1 q hq.1 hq.2.1)
          · rcases racc_live (en := en) h.ms.rx h.fs.gl (by omega : 400 < k) hA hf htr hj hl' with ⟨q, hq, _⟩ | ⟨_, g3⟩
            · exact absurd hq.2.2.1 (z2 q hq.1 hq.2.1)
            · by_cases c : a.Write = true
              · rw [if_pos c] at g2
                rw [if_pos c, if_pos c] at g1
                rw [if_pos c, if_pos c, if_pos c, hij.2.2.1] at g3
                refine ⟨n0, n1, n2, F, _, _, G, 0, 0, g1, g3, ⟨h.ms.set hs hi.1 hi.2.1 hj.1 hj.2.1 hij (hm.st _ _ _) rfl rfl ⟨hij.1, hij.2.1, hij.2.2.1, fun o o0 o1 => ?_⟩ (by show (dn _ _ _ _).length = _; rw [dn_len]) (fun p => ?_) g2, h.fs, by rw [List.length_set]; omega, by omega, by simp; omega⟩⟩
                all_goals
                  have hbl : ((rat X j).bytes.length : Int) = (at_ a.Space m0 m1 m2 i).r.Len := by rw [← hij.2.1]; exact (h.ms.rx.l.mw j hj.1 hj.2.1).bl
                  have hb0 : (0 : Int) ≤ a.Addr - (rat X j).m.Base := by rw [hij.2.1]; have := hin.1; omega
                  have hb1 : a.Addr - (rat X j).m.Base + (a.Width.toNat : Int) ≤ ((rat X j).bytes.length : Int) := by rw [hbl, hij.2.1]; omega
                · show gd 0 (dn (rat X j).bytes (a.Addr - (rat X j).m.Base) (val a) a.Width.toNat) o = mgetd (stN (at_ a.Space m0 m1 m2 i).data a.Addr (val a) a.Width.toNat) ((at_ a.Space m0 m1 m2 i).r.Base + o)
                  rw [dn_get _ _ hb0 _ _ _ hb1 o0, stN_get, hij.2.1]
                  by_cases c2 : a.Addr - (at_ a.Space m0 m1 m2 i).r.Base ≤ o ∧ o < a.Addr - (at_ a.Space m0 m1 m2 i).r.Base + (a.Width.toNat : Int)
                  · rw [if_pos c2, if_pos (by omega), show o - (a.Addr - (at_ a.Space m0 m1 m2 i).r.Base) = (at_ a.Space m0 m1 m2 i).r.Base + o - a.Addr by omega]
                  · rw [if_neg c2, if_neg (by omega)]; exact hij.2.2.2 o o0 o1
                · have key : ∀ p : Int, 0 ≤ p → 0 ≤ gd 0 (dn (rat X j).bytes (a.Addr - (rat X j).m.Base) (val a) a.Width.toNat) p ∧ gd 0 (dn (rat X j).bytes (a.Addr - (rat X j).m.Base) (val a) a.Width.toNat) p < 256 := fun p hp => by
                    rw [dn_get _ _ hb0 _ _ _ hb1 hp]; split
                    · exact ⟨Int.emod_nonneg _ (by decide), Int.emod_lt_of_pos _ (by decide)⟩
                    · exact h.ms.rx.by_ j hj.1 hj.2.1 p
                  by_cases c2 : 0 ≤ p
                  · exact key p c2
                  · show 0 ≤ gd 0 (dn (rat X j).bytes (a.Addr - (rat X j).m.Base) (val a) a.Width.toNat) p ∧ _
                    rw [gd_neg (by omega)]; exact key 0 (Int.le_refl _)
              · rw [if_neg c] at g2
                obtain ⟨rfl, rfl, rfl⟩ := g2
                rw [if_neg c, if_neg c] at g1
                rw [if_neg c, if_neg c, if_neg c, hij.2.2.1, hld] at g3
                exact ⟨_, _, _, F, _, X, G, _, 0, g1, g3, one _⟩
        · rcases acc_live h.ms.bl (by omega : 300 < k) hA hf h.fs.fl htr hi hl with ⟨p, hp, g1⟩ | ⟨hz, _⟩
          · rcases racc_live (en := en) h.ms.rx h.fs.gl (by omega : 400 < k) hA hf htr hj hl' with ⟨p', hp', g3⟩ | ⟨hz, _⟩
            · rw [hp.uniq f1] at g1
              rw [hp'.uniq f2, hij.2.2.1] at g3
              exact ⟨m0, m1, m2, _, _, X, _, 0, 15, g1, g3, ⟨h.ms, ⟨h.fs.fl.used f1, h.fs.gl.rused f2, f3⟩, by omega, by rw [rused_len]; omega, by simp; omega⟩⟩
            · exact absurd f2.2.2.1 (hz q' f2.1 f2.2.1)
          · exact absurd f1.2.2.1 (hz q f1.1 f1.2.1)
      · have g1 := acc_dead (F := F) h.ms.bl (by omega : 300 < k) hA hf htr hi hl
        have g3 := racc_dead (en := en) (G := G) (k := k) h.ms.rx (by omega) hA hf htr hj (fun q => hl (hlr.2 q))
        rw [hij.2.2.1] at g3
        exact ⟨m0, m1, m2, F, _, X, G, _, 0, g1, g3, one _⟩
    · exact ⟨m0, m1, m2, F, _, X, G, _, 0, acc_none (F := F) h.ms.bl (by omega : 300 < k) hA hf htr h1, racc_none h.ms.rx (by omega) hA hf htr h2, one _⟩
  · exact ⟨m0, m1, m2, F, tr, X, G, 0, 1, acc_bad hA hf, racc_bad hA hf, h.up⟩
end
end Go.Proofs.Ytigadacjaglfeaa.X
