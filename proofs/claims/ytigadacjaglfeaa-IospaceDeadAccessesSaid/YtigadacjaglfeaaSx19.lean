/- The words of a symbolic walk: a slice's whole row, with the room behind its elements. -/
import Derived.Test.YtigadacjaglfeaaSx15
import Derived.Lib.Overlaps
namespace Go.Sx
open Go Go.RowKit
variable {P : Program} {a : Act} {w w0 : World} {N : Nat} {fs : List (Nat × Value)} {d : Option Tmp} {T T' e ty : TypeId} {pos : String} {aft : Array Edge} {g' : Option (Nat × Bool)} {x y z : Operand} {m : Nat → Prop} {os ks : List Ob} {S : Type} {K : EK S}
set_option linter.unusedSimpArgs false
theorem osl_row {v : Value} {xs : List S} (h : (osl K v xs).ok w) (hne : xs ≠ []) : ∃ g c cur, v = .slice (some ⟨g, 0, none⟩) xs.length c ∧ (bx g K.E cur).ok w ∧ xs.length ≤ c ∧ c ≤ maxLen ∧ cur.length = c * K.sz ∧ cur.take (xs.length * K.sz) = xs.flatMap K.enc := by
  obtain ⟨h1, ⟨h2, h3⟩ | ⟨g, c, cur, h2, _, h4, h5, h6, h7, h8⟩⟩ := h
  · exact absurd (List.eq_nil_of_length_eq_zero h3) hne
  · exact ⟨g, c, cur.toList, h2, h4, h5, h6, by simpa using h7, h8⟩
theorem St.toRow {v : Value} {xs : List S} (h : St m w0 w (osl K v xs :: ks)) (hne : xs ≠ []) : ∃ g c cur, v = .slice (some ⟨g, 0, none⟩) xs.length c ∧ xs.length ≤ c ∧ c ≤ maxLen ∧ cur.length = c * K.sz ∧ cur.take (xs.length * K.sz) = xs.flatMap K.enc ∧ St m w0 w (bx g K.E cur :: ks) := by
  obtain ⟨h1, h2⟩ := h.obs _ List.mem_cons_self
  obtain ⟨g, c, cur, rfl, h4, h5, h6, h7, h8⟩ := osl_row h1 hne
  obtain ⟨q1, q2⟩ := List.pairwise_cons.1 h.apart
  have hfs : ∀ b, (bx g K.E cur).fs b → (osl K (.slice (some ⟨g, 0, none⟩) xs.length c) xs).fs b := fun b hb => by
    have hb' : b = g := hb
    subst hb'; rfl
  refine ⟨g, c, cur, rfl, h5, h6, h7, h8, h.chg, fun o ho => ?_, List.pairwise_cons.2 ⟨fun p hp b hb => q1 p hp b (hfs b hb), q2⟩⟩
  rcases List.mem_cons.1 ho with rfl | ho
  · exact ⟨h4, fun b hb => h2 b (hfs b hb)⟩
  · exact h.obs o (List.mem_cons_of_mem _ ho)
theorem St.ofRow {g c : Nat} {cur : List Value} {xs : List S} (h : St m w0 w (bx g K.E cur :: ks)) (hn : xs.length ≤ c) (hc : c ≤ maxLen) (hl : cur.length = c * K.sz) (ht : cur.take (xs.length * K.sz) = xs.flatMap K.enc) : St m w0 w (osl K (.slice (some ⟨g, 0, none⟩) xs.length c) xs :: ks) := by
  obtain ⟨h1, h2⟩ := h.obs _ List.mem_cons_self
  obtain ⟨q1, q2⟩ := List.pairwise_cons.1 h.apart
  have hfs : ∀ b, (osl K (.slice (some ⟨g, 0, none⟩) xs.length c) xs).fs b → (bx g K.E cur).fs b := fun b hb => by
    have hb' : some g = some b := hb
    injection hb' with hb'
    exact hb'.symm
  refine ⟨h.chg, fun o ho => ?_, List.pairwise_cons.2 ⟨fun p hp b hb => q1 p hp b (hfs b hb), q2⟩⟩
  rcases List.mem_cons.1 ho with rfl | ho
  · refine ⟨⟨?_, .inr ⟨g, c, cur.toArray, rfl, Nat.zero_le _, h1, hn, hc, by simpa using hl, by simpa using ht⟩⟩, fun b hb => h2 b (hfs b hb)⟩
    rw [← ht, List.length_take, hl]
    exact Nat.min_eq_left (Nat.mul_le_mul_right _ hn)
  · exact h.obs o (List.mem_cons_of_mem _ ho)
theorem row_cell {g o : Nat} {cur vs : List Value} (h : (bx g e cur).ok w) (hv : (cur.drop o).take vs.length = vs) : ∀ j u, vs[j]? = some u → w.cell? ((⟨g, o, none⟩ : Addr).add j) = some u := bx_cells h hv
theorem er_copyR {g o1 l1 c1 l2 c2 : Nat} {E : TypeId} {ad : Addr} {cur vs : List Value} (hs : St m w0 w os) (sp : Split os [bx g E cur] ks) (hT : P.underlying T = some (.slice e)) (hsz : (P.info? e).map (·.size) = some 1) (hf : Fr a N fs) (hx : ev fs x = some (.slice (some ⟨g, o1, none⟩) l1 c1)) (hy : ev fs y = some (.slice (some ad) l2 c2))
    (hvs : ∀ j u, vs[j]? = some u → w.cell? (ad.add j) = some u) (hn : vs.length = Nat.min l2 l1) (h1 : ∀ u ∈ vs, u.oneCell' = true) (hl : o1 + vs.length ≤ cur.length) :
    ∃ v' w', (execOp a.eval ⟨d, .call { callee := .builtin .copy, args := #[x, y], argTypes := #[T, T'] }, ty, pos, aft, g'⟩).run P w = .ok (.value v') w' ∧ St m w0 w' (bx g E (cur.take o1 ++ vs ++ cur.drop (o1 + vs.length)) :: ks) := by
  have hb : (bx g E cur).ok w := (hs.enter sp).get (i := 0) rfl
  have hs1 : (sizeOf e).run P w = .ok 1 w := run_sizeOf hsz w
  have hfc : (Builtin.firstCells 1 vs.length (.slice (some ad) l2 c2)).run P w = .ok vs.toArray w := by
    have := run_loadCells_list (P := P) w ad vs hvs
    simpa [Builtin.firstCells] using this
  have hst := run_storeRow (P := P) (off := o1) (vs := vs) (show w.heap[g]? = some (.cells cur.toArray E (0, 0)) from hb) (by simpa using hl) h1
  have hst' : (storeCells ⟨g, o1, none⟩ vs 0).run P w = .ok () (w.setRow g (cur.take o1 ++ vs ++ cur.drop (o1 + vs.length)).toArray) := by simpa using hst
  refine ⟨.int .i64 vs.length, w.setRow g (cur.take o1 ++ vs ++ cur.drop (o1 + vs.length)).toArray, ?_, hs.step sp (st_setRow hb)⟩
  simp [execOp, resolve, invoke, builtin, hf.ev hx, hf.ev hy, Builtin.copy_, run_underlying hT, Builtin.lenOf, ← hn, hs1, hfc, goInt, hst']
theorem ex_capG {A : Option Addr} {n c : Nat} (hT : P.underlying T = some (.slice e)) (hf : Fr a N fs) (hx : ev fs x = some (.slice A n c)) :
    (execOp a.eval ⟨d, .call { callee := .builtin .cap, args := #[x], argTypes := #[T] }, ty, pos, aft, g'⟩).run P w = .ok (.value (.int .i64 c)) w := by
  simp [execOp, resolve, invoke, builtin, hf.ev hx, Builtin.cap_, run_underlying hT, goInt]
theorem ex_sliceH {g n c sz : Nat} {k2 : IntKind} {hi : Nat} (hT : SA P T e sz) (h : hi ≤ c) (hf : Fr a N fs) (hx : ev fs x = some (.slice (some ⟨g, 0, none⟩) n c)) (hz : ev fs z = some (.int k2 hi)) :
    (execOp a.eval ⟨d, .slice T x none (some z) none, ty, pos, aft, g'⟩).run P w = .ok (.value (.slice (some ⟨g, 0, none⟩) hi c)) w := by
  obtain ⟨hT1, hsz⟩ := hT
  have h' : P.underlying T = some (.slice (P.elem T)) := by simp [Program.elem, hT1]
  have he : P.elem T = e := by simp [Program.elem, hT1]
  simp [execOp, hf.ev hx, hf.ev hz, run_sliceAt_slice w T _ _ _ _ h', run_slice_h w T _ n c h' k2 hi (by omega) (by omega), he, run_sizeOf hsz, sliced, Addr.add]
theorem ex_sliceL {g n c sz : Nat} {k1 : IntKind} {lo : Nat} (hT : SA P T e sz) (h : lo ≤ n) (hc : lo < c) (hf : Fr a N fs) (hx : ev fs x = some (.slice (some ⟨g, 0, none⟩) n c)) (hy : ev fs y = some (.int k1 lo)) :
    (execOp a.eval ⟨d, .slice T x (some y) none none, ty, pos, aft, g'⟩).run P w = .ok (.value (.slice (some ⟨g, lo * sz, none⟩) (n - lo) (c - lo))) w := by
  obtain ⟨hT1, hsz⟩ := hT
  have h' : P.underlying T = some (.slice (P.elem T)) := by simp [Program.elem, hT1]
  have he : P.elem T = e := by simp [Program.elem, hT1]
  have hne : ¬ c = lo := by omega
  have e2 : (⟨g, 0, none⟩ : Addr).add (lo * sz) = ⟨g, lo * sz, none⟩ := by rw [Addr.add_lit, Nat.zero_add]
  simp [execOp, hf.ev hx, hf.ev hy, run_sliceAt_slice w T _ _ _ _ h', run_slice_l w T _ n c h' k1 lo (by omega) (by omega), he, run_sizeOf hsz, sliced, hne, e2]
theorem ex_callX {F : FuncId} {l : List Operand} {tys : Array TypeId} {vs : List Value} {r : Value} (hov : (callFunc F vs.toArray).run P w = .ok (.value r) w) (hf : Fr a N fs) (hx : evs fs l = some vs) :
    (execOp a.eval ⟨d, .call { callee := .value (.func F), args := l.toArray, argTypes := tys }, ty, pos, aft, g'⟩).run P w = .ok (.value r) w := by
  have hm : l.toArray.map a.eval = vs.toArray := by simp [hf.evs hx]
  have he : a.eval (.func F) = .func (.func F) #[] #[] := rfl
  simp [execOp, resolve, hm, he, Deferred.ofValue, invoke, hov]
theorem er_appendR {g i c c2 : Nat} {ad : Addr} {cur vs : List Value} (hs : St m w0 w os) (sp : Split os [bx g e cur] ks) (hT : P.underlying T = some (.slice e)) (hsz : (P.info? e).map (·.size) = some 1) (hf : Fr a N fs) (hx : ev fs x = some (.slice (some ⟨g, 0, none⟩) i c)) (hy : ev fs y = some (.slice (some ad) vs.length c2))
    (hvs : ∀ j u, vs[j]? = some u → w.cell? (ad.add j) = some u) (h1 : ∀ u ∈ vs, u.oneCell' = true) (hroom : i + vs.length ≤ c) (hl : cur.length = c) :
    ∃ v' w', (execOp a.eval ⟨d, .call { callee := .builtin .append, args := #[x, y], argTypes := #[T, T] }, ty, pos, aft, g'⟩).run P w = .ok (.value v') w' ∧ v' = .slice (some ⟨g, 0, none⟩) (i + vs.length) c ∧ St m w0 w' (bx g e (cur.take i ++ vs ++ cur.drop (i + vs.length)) :: ks) := by
  have hb : (bx g e cur).ok w := (hs.enter sp).get (i := 0) rfl
  obtain ⟨inf, hi, hz⟩ := Option.map_eq_some_iff.1 hsz
  have hrun := run_append_room (P := P) w T ty e inf hT hi g i c cur.toArray hb ad vs.length c2 vs (by rw [hz, Nat.mul_one]) hvs h1 hroom (by rw [hz]; simp; omega)
  rw [hz, Nat.mul_one] at hrun
  refine ⟨_, _, ?_, rfl, hs.step sp (st_setRow hb)⟩
  simp only [execOp, Sem.run_bind]
  simp [resolve, invoke, builtin, hf.ev hx, hf.ev hy, hrun]
theorem st_setCells {g : Nat} {E : TypeId} : ∀ (vs : List Value) {o : Nat} {w : World} {cur : List Value}, (bx g E cur).ok w → ∃ cur', St (fsl [bx g E cur]) w (w.setCells g o vs) [bx g E cur'] ∧ cur'.length = cur.length ∧ cur'.take o = cur.take o
  | [], o, w, cur, h => ⟨cur, st_one ⟨rfl, rfl, rfl, Nat.le_refl _, fun _ _ _ => rfl⟩ h (fun k hk => by
      have hk' : k = g := hk
      subst hk'
      exact ⟨(Array.getElem?_eq_some_iff.1 (show w.heap[k]? = some (.cells cur.toArray E (0, 0)) from h)).1, .inr ⟨_, List.mem_cons_self, rfl⟩⟩), rfl, rfl⟩
  | v :: r, o, w, cur, h => by
    have h1 := st_set h o v
    obtain ⟨cur', h2, h3, h4⟩ := st_setCells r (o := o + 1) (h1.get (i := 0) rfl)
    refine ⟨cur', h1.step (.c .nil) h2, by rw [h3]; simp, ?_⟩
    have : (cur'.take (o + 1)).take o = ((cur.set o v).take (o + 1)).take o := by rw [h4]
    rw [List.take_take, List.take_take, Nat.min_eq_left (by omega)] at this
    rw [this, List.take_set_of_le (Nat.le_refl _)]
theorem run_zeroV {e : TypeId} {v : Value} (h : (P.info? e).map (·.zero) = some (some v)) (w : World) : (zeroValue e).run P w = .ok v w := by
  obtain ⟨i, hi, hz⟩ := Option.map_eq_some_iff.1 h
  simp [zeroValue, typeInfo, hi, hz]
theorem er_clearR {g o n c : Nat} {E : TypeId} {zv : Value} {cur : List Value} (hs : St m w0 w os) (sp : Split os [bx g E cur] ks) (hT : P.underlying T = some (.slice e)) (hv : (P.info? e).map (·.zero) = some (some zv)) (hz : zv.cells = #[zv]) (h1 : zv.oneCell' = true) (hn : 0 < n) (hl : o + n ≤ cur.length) (hf : Fr a N fs) (hx : ev fs x = some (.slice (some ⟨g, o, none⟩) n c)) :
    ∃ v' w', (execOp a.eval ⟨d, .call { callee := .builtin .clear, args := #[x], argTypes := #[T] }, ty, pos, aft, g'⟩).run P w = .ok (.value v') w' ∧ ∃ cur', cur'.length = cur.length ∧ cur'.take o = cur.take o ∧ St m w0 w' (bx g E cur' :: ks) := by
  have hb : (bx g E cur).ok w := (hs.enter sp).get (i := 0) rfl
  have hzv : ∀ w, (zeroValue e).run P w = .ok zv w := run_zeroV hv
  have hrun := Lib.run_clear_slice (P := P) w T e ty zv hT hzv hz h1 g o n c hn (fun j hj => by rw [bx_cell hb (o + j) (List.getElem?_eq_getElem (show o + j < cur.length by omega))]; rfl) (fun j _ => bx_frozen hb _)
  obtain ⟨cur', q1, q2, q3⟩ := st_setCells (List.replicate n zv) (o := o) hb
  refine ⟨.tuple #[], w.setCells g o (List.replicate n zv), ?_, cur', q2, q3, hs.step sp q1⟩
  simp only [execOp, Sem.run_bind]
  simp [resolve, invoke, builtin, hf.ev hx, hrun]
theorem er_appendZG {bytes : Nat} {TI_ : TypeId} {kn kq : IntKind} {v : Value} {xs : List S} {i : Nat} {k : Int} (hs : St m w0 w os) (hv : (rsl K v xs).ok w) (hT : P.underlying T = some (.slice K.E)) (hTn : P.underlying TI_ = some (.int kn)) (hE : EP P K bytes) (hi : i ≤ xs.length) (hk : (capOf v : Int) < i + k) (hk2 : (i : Int) + k ≤ 1048576) (hby : Nat.ble bytes 134217728 = true)
    (hf : Fr a N fs) (hx : ev fs x = some (slv v 0 i K.sz)) (hy : ev fs y = some (.int kq k)) :
    ∃ v' w', (execOp a.eval ⟨d, .call { callee := .builtin .append, args := #[x, y], argTypes := #[T, TI_] }, ty, pos, aft, g'⟩).run P w = .ok (.value v') w' ∧ St m w0 w' (osl K v' (xs.take i ++ List.replicate k.toNat K.z) :: os) := by
  obtain ⟨z, hI, hz⟩ := hE
  obtain ⟨inf, hinf, h1, h2, h3⟩ := hI.parts
  rw [Nat.ble_eq] at hby
  obtain ⟨⟨A, c, rfl, hc, hA⟩, hrd⟩ := hv
  have hk : (c : Int) < i + k := hk
  obtain ⟨k, rfl⟩ : ∃ j : Nat, k = j := ⟨k.toNat, by omega⟩
  have hzl : z.cells = (K.enc K.z).toArray := by rw [← hz]
  have hx' : ev fs x = some (.slice A i c) := by
    rw [hx]
    have : (if c = 0 then A else A.map (·.add (0 * K.sz))) = A := by
      split
      · rfl
      · cases A with
        | none => rfl
        | some ad => simp [add_zero]
    simp only [slv, sliced, this, Nat.sub_zero]
  have hold : (Builtin.firstCells inf.size i (.slice A i c)).run P w.drew = .ok ((xs.take i).flatMap K.enc).toArray w.drew := by
    cases A with
    | none =>
      have h0 : xs = [] := List.eq_nil_of_length_eq_zero (hA rfl)
      subst h0
      simp [Builtin.firstCells]
    | some ad =>
      have hlen : ((xs.take i).flatMap K.enc).length = i * K.sz := by rw [flatMap_length, List.length_take]; congr 1; omega
      have := run_loadCells_list (P := P) w.drew ad ((xs.take i).flatMap K.enc) (fun j u hj => by
        rw [fm_take] at hj
        have hj2 : (xs.flatMap K.enc)[j]? = some u := by
          rw [List.getElem?_take] at hj
          split at hj
          · exact hj
          · cases hj
        exact hrd j u hj2)
      rw [hlen] at this
      simpa [Builtin.firstCells, h2] using this
  have hbig : (i + k) * inf.bytes ≤ 140737488355328 := by
    rw [h3]
    calc (i + k) * bytes ≤ 1048576 * 134217728 := Nat.mul_le_mul (by omega) hby
      _ ≤ _ := by decide
  have hk48 : k * inf.bytes ≤ 281474976710656 := by
    have := Nat.mul_le_mul_right inf.bytes (show k ≤ i + k by omega)
    omega
  have hrun := Lib.run_append_grow_zeros w T TI_ ty K.E inf z kq kn hT hTn hinf h1 A i c ((xs.take i).flatMap K.enc) hold k (by omega) (by rw [h2]; exact K.pos) (by omega) (by omega) hk48 (growslice_fits (by omega) hbig)
  have hge := grownCap_ge w (i + k) c K.E
  have hle := grownCap_le_maxLen w (i + k) c K.E (by unfold maxLen; omega)
  generalize grownCap w (i + k) c K.E = G at hrun hge hle
  have hzc : ∀ n, (Builtin.zeroCells z.cells n).toList = (List.replicate n (K.enc K.z)).flatten := fun n => by
    rw [Builtin.zeroCells, hzl]
    have := zero_cells (K.enc K.z) n
    simpa using this
  have hfl : ∀ n, (List.replicate n (K.enc K.z)).flatten = (List.replicate n K.z).flatMap K.enc := fun n => by rw [List.flatMap_replicate]
  have hrow : (((xs.take i).flatMap K.enc).toArray ++ Builtin.zeroCells z.cells k ++ Builtin.zeroCells z.cells (G - (i + k))).toList = (xs.take i ++ List.replicate k K.z).flatMap K.enc ++ (List.replicate (G - (i + k)) K.z).flatMap K.enc := by
    simp only [Array.toList_append, hzc, hfl, List.flatMap_append]
  have hxl : (xs.take i ++ List.replicate k K.z).length = i + k := by simp; omega
  have hst : St (fsl []) w.drew (w.drew.alloc (.cells (((xs.take i).flatMap K.enc).toArray ++ Builtin.zeroCells z.cells k ++ Builtin.zeroCells z.cells (G - (i + k))) K.E)) [osl K (.slice (some ⟨w.heap.size, 0, none⟩) (i + k) G) (xs.take i ++ List.replicate k K.z)] := by
    refine st_fresh (K := K) ?_ (World.grownBy_alloc w.drew _ none) (.inr rfl)
    refine ⟨flatMap_length K _, .inr ⟨w.heap.size, G, _, by rw [hxl], Nat.zero_le _, heap_alloc_new w.drew _, by rw [hxl]; exact hge, hle, ?_, ?_⟩⟩
    · rw [← Array.length_toList, hrow, List.length_append, flatMap_length, flatMap_length, hxl, List.length_replicate, ← Nat.add_mul]
      congr 1; omega
    · rw [hrow, ← flatMap_length]; exact List.take_left
  refine ⟨_, _, ?_, hs.drew.step (split_none os) hst⟩
  simp only [execOp, Sem.run_bind]
  simp [resolve, invoke, builtin, hf.ev hx', hf.ev hy, hrun]
theorem ex_sliceLH {g n c sz : Nat} {k1 k2 : IntKind} {lo hi : Nat} (hT : SA P T e sz) (h : lo ≤ hi) (hh : hi ≤ c) (hc : lo < c) (hf : Fr a N fs) (hx : ev fs x = some (.slice (some ⟨g, 0, none⟩) n c)) (hy : ev fs y = some (.int k1 lo)) (hz : ev fs z = some (.int k2 hi)) :
    (execOp a.eval ⟨d, .slice T x (some y) (some z) none, ty, pos, aft, g'⟩).run P w = .ok (.value (.slice (some ⟨g, lo * sz, none⟩) (hi - lo) (c - lo))) w := by
  obtain ⟨hT1, hsz⟩ := hT
  have h' : P.underlying T = some (.slice (P.elem T)) := by simp [Program.elem, hT1]
  have he : P.elem T = e := by simp [Program.elem, hT1]
  have hne : ¬ c = lo := by omega
  have e2 : (⟨g, 0, none⟩ : Addr).add (lo * sz) = ⟨g, lo * sz, none⟩ := by rw [Addr.add_lit, Nat.zero_add]
  simp [execOp, hf.ev hx, hf.ev hy, hf.ev hz, run_sliceAt_slice w T _ _ _ _ h', run_slice_lh w T _ n c h' k1 k2 lo hi (by omega) (by omega) (by omega), he, run_sizeOf hsz, sliced, hne, e2]
def slv3 (v : Value) (lo hi mx sz : Nat) : Value := match v with | .slice A _ _ => sliced A lo hi mx sz | u => u
theorem ex_slice3 {v : Value} {n sz : Nat} {k1 k2 k3 : IntKind} {u : Operand} {lo hi mx : Int} (hT : SA P T e sz) (hv : IsSl v n) (h0 : 0 ≤ lo) (h1 : lo ≤ hi) (h2 : hi ≤ mx) (h3 : mx ≤ n) (hf : Fr a N fs) (hx : ev fs x = some v) (hy : ev fs y = some (.int k1 lo)) (hz : ev fs z = some (.int k2 hi)) (hu : ev fs u = some (.int k3 mx)) :
    (execOp a.eval ⟨d, .slice T x (some y) (some z) (some u), ty, pos, aft, g'⟩).run P w = .ok (.value (slv3 v lo.toNat hi.toNat mx.toNat sz)) w := by
  obtain ⟨hT1, hsz⟩ := hT
  obtain ⟨A, c, rfl, hc, _⟩ := hv
  have h' : P.underlying T = some (.slice (P.elem T)) := by simp [Program.elem, hT1]
  have he : P.elem T = e := by simp [Program.elem, hT1]
  simp [execOp, hf.ev hx, hf.ev hy, hf.ev hz, hf.ev hu, run_sliceAt_slice w T _ _ _ _ h', run_slice_lhm w T A n c h' k1 k2 k3 lo hi mx h0 h1 h2 (by omega), he, run_sizeOf hsz, slv3]
theorem ex_lenR {A : Option Addr} {n c : Nat} (hT : P.underlying T = some (.slice e)) (hf : Fr a N fs) (hx : ev fs x = some (.slice A n c)) :
    (execOp a.eval ⟨d, .call { callee := .builtin .len, args := #[x], argTypes := #[T] }, ty, pos, aft, g'⟩).run P w = .ok (.value (.int .i64 n)) w := by
  simp [execOp, resolve, invoke, builtin, hf.ev hx, Builtin.len_, run_underlying hT, goInt]
theorem ex_sliceL' {g n c : Nat} {k1 : IntKind} {lo l : Nat} {ad : Addr} (hT : SA P T e 1) (h : lo ≤ n) (had : ad = (if c = lo then ⟨g, 0, none⟩ else ⟨g, lo * 1, none⟩)) (hl : l = n - lo) (hf : Fr a N fs) (hx : ev fs x = some (.slice (some ⟨g, 0, none⟩) n c)) (hy : ev fs y = some (.int k1 lo)) :
    (execOp a.eval ⟨d, .slice T x (some y) none none, ty, pos, aft, g'⟩).run P w = .ok (.value (.slice (some ad) l (c - lo))) w := by
  subst had; subst hl
  obtain ⟨hT1, hsz⟩ := hT
  have h' : P.underlying T = some (.slice (P.elem T)) := by simp [Program.elem, hT1]
  have he : P.elem T = e := by simp [Program.elem, hT1]
  have e2 : (⟨g, 0, none⟩ : Addr).add (lo * 1) = ⟨g, lo * 1, none⟩ := by rw [Addr.add_lit, Nat.zero_add]
  by_cases hne : c = lo
  · subst hne
    simp [execOp, hf.ev hx, hf.ev hy, run_sliceAt_slice w T _ _ _ _ h', run_slice_l w T _ n c h' k1 c (by omega) (by omega), he, run_sizeOf hsz, sliced]
  · simp only [if_neg hne]
    simp [execOp, hf.ev hx, hf.ev hy, run_sliceAt_slice w T _ _ _ _ h', run_slice_l w T _ n c h' k1 lo (by omega) (by omega), he, run_sizeOf hsz, sliced, hne]
    simpa using e2
theorem ex_addE {k : IntKind} {i j r : Int} (h : k.wrap (i + j) = r) (hf : Fr a N fs) (hx : ev fs x = some (.int k i)) (hy : ev fs y = some (.int k j)) : (execOp a.eval ⟨d, .binOp .add T x y T', ty, pos, aft, g'⟩).run P w = .ok (.value (.int k r)) w := h ▸ ex_add hf hx hy
theorem ins_grow {α : Type} (z : α) (xs ys : List α) (i k : Nat) (hi : i < xs.length) (hk : k + i = xs.length + ys.length) :
    cpy (cpy (xs.take i ++ List.replicate k z) i (xs.length + ys.length) ys) (i + ys.length) (xs.length + ys.length) (xs.drop i) = xs.take i ++ ys ++ xs.drop i := by
  have h1 : cpy (xs.take i ++ List.replicate k z) i (xs.length + ys.length) ys = xs.take i ++ ys ++ List.replicate (xs.length - i) z := by
    have e1 : min ys.length (xs.length + ys.length - i) = ys.length := by omega
    unfold cpy
    have a1 : (xs.take i ++ List.replicate k z).take i = xs.take i := List.take_left' (by simp; omega)
    have a2 : ys.take ys.length = ys := List.take_of_length_le (Nat.le_refl _)
    have a3 : (xs.take i ++ List.replicate k z).drop (i + ys.length) = List.replicate (xs.length - i) z := by
      rw [← List.drop_drop, List.drop_left' (by simp; omega), List.drop_replicate]
      congr 1; omega
    rw [e1, a1, a2, a3]
  have e2 : min (xs.drop i).length (xs.length + ys.length - (i + ys.length)) = xs.length - i := by simp; omega
  rw [h1]
  unfold cpy
  have a1 : (xs.take i ++ ys ++ List.replicate (xs.length - i) z).take (i + ys.length) = xs.take i ++ ys := List.take_left' (by simp; omega)
  have a2 : (xs.drop i).take (xs.length - i) = xs.drop i := List.take_of_length_le (by simp)
  have a3 : (xs.take i ++ ys ++ List.replicate (xs.length - i) z).drop (i + ys.length + (xs.length - i)) = [] := List.drop_of_length_le (by simp; omega)
  rw [e2, a1, a2, a3, List.append_nil]
theorem ex_subE {k : IntKind} {i j r : Int} (h : k.wrap (i - j) = r) (hf : Fr a N fs) (hx : ev fs x = some (.int k i)) (hy : ev fs y = some (.int k j)) : (execOp a.eval ⟨d, .binOp .sub T x y T', ty, pos, aft, g'⟩).run P w = .ok (.value (.int k r)) w := h ▸ ex_sub hf hx hy
end Go.Sx
