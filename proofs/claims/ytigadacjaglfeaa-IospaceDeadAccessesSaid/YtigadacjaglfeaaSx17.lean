/- The words of a symbolic walk: a box with arrays, each a list. -/
import Derived.Test.YtigadacjaglfeaaSx12
namespace Go.Sx
open Go Go.RowKit
variable {P : Program} {a : Act} {w w0 : World} {N : Nat} {fs : List (Nat × Value)} {d : Option Tmp} {T T' ty : TypeId} {pos : String} {aft : Array Edge} {g : Option (Nat × Bool)} {x y z : Operand} {m : Nat → Prop} {os ks : List Ob} {α : Type}
def cat (S : List (List Value × Nat)) : List Value := S.flatMap (·.1)
def lens (S : List (List Value × Nat)) : Prop := ∀ s ∈ S, s.1.length = s.2
def soff : List (List Value × Nat) → Nat → Nat
  | _, 0 => 0
  | [], _ => 0
  | s :: r, i + 1 => s.2 + soff r i
def bxs (b : Nat) (T : TypeId) (S : List (List Value × Nat)) : Ob where
  fs k := k = b
  ok w := lens S ∧ (bx b T (cat S)).ok w
  loc w w' h k := ⟨k.1, (bx b T (cat S)).loc w w' h k.2⟩
theorem seg_get : ∀ {S : List (List Value × Nat)} {i k : Nat} {s : List Value × Nat}, lens S → S[i]? = some s → k < s.2 → (cat S)[soff S i + k]? = s.1[k]?
  | [], i, k, s, _, h, _ => by simp at h
  | t :: r, 0, k, s, hl, h, hk => by
    simp at h; subst h
    have := hl t (by simp)
    show (t.1 ++ cat r)[0 + k]? = _
    rw [Nat.zero_add, List.getElem?_append_left (by omega)]
  | t :: r, i + 1, k, s, hl, h, hk => by
    have ht := hl t (by simp)
    show (t.1 ++ cat r)[t.2 + soff r i + k]? = _
    rw [List.getElem?_append_right (by omega), show t.2 + soff r i + k - t.1.length = soff r i + k by omega]
    exact seg_get (fun u hu => hl u (List.mem_cons_of_mem _ hu)) (by simpa using h) hk
theorem seg_set : ∀ {S : List (List Value × Nat)} {i k : Nat} {s : List Value × Nat} {v : Value}, lens S → S[i]? = some s → k < s.2 → (cat S).set (soff S i + k) v = cat (S.set i (s.1.set k v, s.2)) ∧ lens (S.set i (s.1.set k v, s.2))
  | [], i, k, s, _, _, h, _ => by simp at h
  | t :: r, 0, k, s, v, hl, h, hk => by
    simp at h; subst h
    have ht := hl t (by simp)
    refine ⟨?_, fun u hu => ?_⟩
    · show (t.1 ++ cat r).set (0 + k) v = t.1.set k v ++ cat r
      rw [Nat.zero_add, List.set_append_left _ _ (by omega)]
    · rcases List.mem_cons.1 hu with rfl | hu
      · simpa using ht
      · exact hl u (List.mem_cons_of_mem _ hu)
  | t :: r, i + 1, k, s, v, hl, h, hk => by
    have ht := hl t (by simp)
    obtain ⟨h1, h2⟩ := seg_set (v := v) (fun u hu => hl u (List.mem_cons_of_mem _ hu)) (show r[i]? = some s by simpa using h) hk
    refine ⟨?_, fun u hu => ?_⟩
    · show (t.1 ++ cat r).set (t.2 + soff r i + k) v = t.1 ++ cat (r.set i (s.1.set k v, s.2))
      rw [List.set_append_right _ _ (by omega), show t.2 + soff r i + k - t.1.length = soff r i + k by omega, h1]
    · rcases List.mem_cons.1 hu with rfl | hu
      · exact ht
      · exact h2 u hu
theorem sb_cell {b n o i : Nat} {S : List (List Value × Nat)} {xs : List α} {f : α → Value} {z : α} {j : Int} (h : (bxs b T S).ok w) (hi : S[i]? = some (xs.map f, n)) (ho : soff S i = o) (h0 : 0 ≤ j) (h1 : j < n) : w.cell? ⟨b, o + j.toNat, none⟩ = some (f (gd z xs j)) := by
  subst ho
  refine bx_cell h.2 _ ?_
  rw [seg_get h.1 hi (show j.toNat < n by omega)]
  have hn : (xs.map f).length = n := h.1 _ (List.mem_of_getElem? hi)
  rw [List.length_map] at hn
  unfold gd
  rw [List.getD_eq_getElem?_getD, List.getElem?_map, List.getElem?_eq_getElem (show j.toNat < xs.length by omega)]
  rfl
theorem sb_cell1 {b o i : Nat} {S : List (List Value × Nat)} {v : Value} (h : (bxs b T S).ok w) (hi : S[i]? = some ([v], 1)) (ho : soff S i = o) : w.cell? ⟨b, o, none⟩ = some v := by
  subst ho
  have := seg_get (k := 0) h.1 hi (by omega)
  exact bx_cell h.2 _ (by simpa using this)
theorem er_boxS {u : Value} {S : List (List Value × Nat)} (hs : St m w0 w os) (hf : Fr a N fs) (hx : ev fs x = some u) (hz : u.cells.toList = cat S) (hl : lens S) :
    ∃ v w', (execOp a.eval ⟨d, .box T x, ty, pos, aft, g⟩).run P w = .ok (.value v) w' ∧ ∃ b, v = .pointer (some ⟨b, 0, none⟩) ∧ St m w0 w' (bxs b T S :: os) := by
  obtain ⟨v, w', h1, b, h2, h3⟩ := er_box (T := T) (ty := ty) (pos := pos) (aft := aft) (g := g) (d := d) (P := P) hs hf hx hz
  exact ⟨v, w', h1, b, h2, ⟨h3.chg, fun o ho => by
    rcases List.mem_cons.1 ho with rfl | ho
    · obtain ⟨q1, q2⟩ := h3.obs (bx b T (cat S)) List.mem_cons_self
      exact ⟨⟨hl, q1⟩, q2⟩
    · exact h3.obs o (List.mem_cons_of_mem _ ho), by
    obtain ⟨q1, q2⟩ := List.pairwise_cons.1 h3.apart
    exact List.pairwise_cons.2 ⟨fun p hp => q1 p hp, q2⟩⟩⟩
theorem er_storeS {b n o i : Nat} {S : List (List Value × Nat)} {xs : List α} {f : α → Value} {j : Int} {u : α} {E : TypeId} (hs : St m w0 w os) (sp : Split os [bxs b E S] ks) (hf : Fr a N fs) (hx : ev fs x = some (.pointer (some ⟨b, o + j.toNat, none⟩))) (hy : ev fs y = some (f u)) (h1 : (f u).oneCell' = true) (hsz : (P.info? T).map (·.size) = some 1)
    (hi : S[i]? = some (xs.map f, n)) (ho : soff S i = o) (j0 : 0 ≤ j) (j1 : j < n) :
    ∃ w', (execOp a.eval ⟨none, .store T x y, ty, pos, aft, g⟩).run P w = .ok .skip w' ∧ St m w0 w' (bxs b E (S.set i ((xs.set j.toNat u).map f, n)) :: ks) := by
  subst ho
  have hb : (bxs b E S).ok w := (hs.enter sp).get (i := 0) rfl
  obtain ⟨g1, g2⟩ := seg_set (v := f u) hb.1 hi (show j.toNat < n by omega)
  have hlt : soff S i + j.toNat < (cat S).length := by
    have h2 := seg_get hb.1 hi (show j.toNat < n by omega)
    have hn : (xs.map f).length = n := hb.1 _ (List.mem_of_getElem? hi)
    rw [List.getElem?_eq_getElem (show j.toNat < (xs.map f).length by omega)] at h2
    exact (List.getElem?_eq_some_iff.1 h2).1
  have h3 := st_set hb.2 (soff S i + j.toNat) (f u)
  rw [g1] at h3
  have e : fsl [bxs b E S] = fsl [bx b E (cat S)] := by funext k; simp [fsl, bxs, bx]
  have h4 : St (fsl [bxs b E S]) w (w.setCell ⟨b, soff S i + j.toNat, none⟩ (f u)) [bxs b E (S.set i ((xs.set j.toNat u).map f, n))] := by
    rw [List.map_set, e]
    exact ⟨h3.chg, fun o ho => by
      simp at ho; subst ho
      obtain ⟨q1, q2⟩ := h3.obs _ List.mem_cons_self
      exact ⟨⟨g2, q1⟩, q2⟩, by simp⟩
  exact ⟨_, ex_storeB hf hx hy h1 hsz hb.2 (by simpa using hlt), hs.step sp h4⟩
theorem ex_indexAddrA {b o n sz : Nat} {e : TypeId} {k : IntKind} {j : Int} (hI : IA P T e n sz) (hs1 : sz = 1) (h0 : 0 ≤ j) (h1 : j < n) (hf : Fr a N fs) (hx : ev fs x = some (.pointer (some ⟨b, o, none⟩))) (hy : ev fs y = some (.int k j)) :
    (execOp a.eval ⟨d, .indexAddr T x y, ty, pos, aft, g⟩).run P w = .ok (.value (.pointer (some ⟨b, o + j.toNat, none⟩))) w := by
  obtain ⟨hT, hz⟩ := hI
  obtain ⟨q, hq, e1⟩ := Option.map_eq_some_iff.1 hz
  subst hs1
  have e2 : (⟨b, o, none⟩ : Addr).add j.toNat = ⟨b, o + j.toNat, none⟩ := Addr.add_lit ..
  simp [execOp, Instr.indexAt, run_underlying hT, hf.ev hx, hf.ev hy, asIntOf, sizeOf, typeInfo, hq, e1, h0, h1, Instr.sureAddr, e2]
theorem er_storeS1 {b o i : Nat} {S : List (List Value × Nat)} {v u : Value} {E : TypeId} (hs : St m w0 w os) (sp : Split os [bxs b E S] ks) (hf : Fr a N fs) (hx : ev fs x = some (.pointer (some ⟨b, o, none⟩))) (hy : ev fs y = some u) (h1 : u.oneCell' = true) (hsz : (P.info? T).map (·.size) = some 1)
    (hi : S[i]? = some ([v], 1)) (ho : soff S i = o) :
    ∃ w', (execOp a.eval ⟨none, .store T x y, ty, pos, aft, g⟩).run P w = .ok .skip w' ∧ St m w0 w' (bxs b E (S.set i ([u], 1)) :: ks) := by
  have hx' : ev fs x = some (.pointer (some ⟨b, o + (0 : Int).toNat, none⟩)) := hx
  have hi' : S[i]? = some (List.map id [v], 1) := hi
  have := er_storeS (T := T) (ty := ty) (pos := pos) (aft := aft) (g := g) (P := P) (f := id) (xs := [v]) (u := u) (j := 0) hs sp hf hx' hy h1 hsz hi' ho (Int.le_refl _) (by decide)
  exact this
theorem ex_indexAddrAC {b o o' n sz : Nat} {e : TypeId} {k : IntKind} {j : Int} (c : Nat) (hI : IA P T e n sz) (hs1 : sz = 1) (hj : j = c) (h1 : c < n) (ho : o + c = o') (hf : Fr a N fs) (hx : ev fs x = some (.pointer (some ⟨b, o, none⟩))) (hy : ev fs y = some (.int k j)) :
    (execOp a.eval ⟨d, .indexAddr T x y, ty, pos, aft, g⟩).run P w = .ok (.value (.pointer (some ⟨b, o', none⟩))) w := by
  subst hj; subst ho
  have := ex_indexAddrA (d := d) (ty := ty) (pos := pos) (aft := aft) (g := g) (w := w) hI hs1 (show (0 : Int) ≤ c by omega) (show (c : Int) < n by omega) hf hx hy
  simpa using this
theorem sb_cells {b o : Nat} {S : List (List Value × Nat)} {ds : List Value} (h : (bxs b T S).ok w) (hd : ((cat S).drop o).take ds.length = ds) : ∀ j u, ds[j]? = some u → w.cell? ((⟨b, o, none⟩ : Addr).add j) = some u := bx_cells h.2 hd
end Go.Sx
