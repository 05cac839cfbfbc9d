/- The words of a symbolic walk: operations that make memory or write into it. -/
import Derived.Test.YtigadacjaglfeaaSx3
namespace Go.Sx
open Go Go.RowKit
variable {P : Program} {a : Act} {w : World} {N : Nat} {fs : List (Nat × Value)} {d : Option Tmp} {T T' ty : TypeId} {pos : String} {aft : Array Edge} {g : Option (Nat × Bool)} {x y z : Operand}
set_option linter.unusedSimpArgs false
def TI (P : Program) (T : TypeId) (z : Value) (size bytes : Nat) : Prop := (P.info? T).map (fun i => (i.zero, i.size, i.bytes)) = some (some z, size, bytes)
theorem TI.parts {z : Value} {size bytes : Nat} (h : TI P T z size bytes) : ∃ i, P.info? T = some i ∧ i.zero = some z ∧ i.size = size ∧ i.bytes = bytes := by
  obtain ⟨i, hi, he⟩ := Option.map_eq_some_iff.1 h
  simp only [Prod.mk.injEq] at he
  exact ⟨i, hi, he.1, he.2.1, he.2.2⟩
theorem ex_alloc {z : Value} {size bytes : Nat} {cs : List Value} (h : TI P T z size bytes) (hz : z.cells.toList = cs) :
    (execOp a.eval ⟨d, .alloc T, ty, pos, aft, g⟩).run P w = .ok (.value (.pointer (some ⟨w.heap.size, 0, none⟩))) (w.alloc (.cells cs.toArray T (0, 0))) := by
  obtain ⟨i, hi, h1, _, _⟩ := h.parts
  subst hz
  simp [execOp, Instr.alloc, zeroValue, typeInfo, hi, h1, newVar, newRow]
theorem ex_box {v : Value} {cs : List Value} (hf : Fr a N fs) (hx : ev fs x = some v) (hz : v.cells.toList = cs) :
    (execOp a.eval ⟨d, .box T x, ty, pos, aft, g⟩).run P w = .ok (.value (.pointer (some ⟨w.heap.size, 0, none⟩))) (w.alloc (.cells cs.toArray T (0, 0))) := by
  subst hz
  simp [execOp, Instr.box, hf.ev hx, newVar, newRow]
theorem ex_storeB {b j : Nat} {E : TypeId} {cs : List Value} {v : Value} (hf : Fr a N fs) (hx : ev fs x = some (.pointer (some ⟨b, j, none⟩))) (hy : ev fs y = some v) (h1 : v.oneCell' = true) (hsz : (P.info? T).map (·.size) = some 1)
    (hb : (bx b E cs).ok w) (hj : Nat.blt j cs.length = true) :
    (execOp a.eval ⟨none, .store T x y, ty, pos, aft, g⟩).run P w = .ok .skip (w.setCell ⟨b, j, none⟩ v) := by
  have hj' : j < cs.length := by simpa [Nat.blt_eq] using hj
  have hc := bx_cell hb j (List.getElem?_eq_getElem hj')
  have hfz := bx_frozen hb j
  have hcs : v.cells = #[v] := by cases v <;> first | rfl | simp [Value.oneCell'] at h1
  simp only [execOp, Instr.storeAt, hf.ev hx, hf.ev hy, Instr.sureAddr, storeVar, Sem.run_bind, Sem.run_pure, Result.andThen_ok, run_sizeOf hsz, hcs]
  simp only [List.size_toArray, List.length_cons, List.length_nil, ne_eq, not_true_eq_false, if_false, storeCells, Addr.add_lit, Nat.add_zero, Sem.run_bind, store, Result.andThen_ok, Sem.run_pure]
  cases v <;> simp [Value.oneCell'] at h1 <;> simp [Sem.run, hc, hfz]
theorem run_storeRow {b off : Nat} {E : TypeId} {cur : Array Value} {vs : List Value} (hb : w.heap[b]? = some (.cells cur E (0, 0))) (hl : off + vs.length ≤ cur.size) (h1 : ∀ v ∈ vs, v.oneCell' = true) :
    (storeCells ⟨b, off, none⟩ vs 0).run P w = .ok () (w.setRow b (cur.toList.take off ++ vs ++ cur.toList.drop (off + vs.length)).toArray) := by
  have := run_storeCells_at P b off E vs 0 cur w hb (by simpa using hl) h1
  simpa using this
theorem st_setRow {b : Nat} {E : TypeId} {cs cs' : List Value} (h : (bx b E cs).ok w) : St (fsl [bx b E cs]) w (w.setRow b cs'.toArray) [bx b E cs'] := by
  have h' : w.heap[b]? = some (.cells cs.toArray E (0, 0)) := h
  have hlt : b < w.heap.size := (Array.getElem?_eq_some_iff.1 h').1
  refine st_one ⟨rfl, rfl, rfl, by simp, fun k _ hm => setRow_other w b k _ (fun e => hm ⟨_, List.mem_cons_self, e⟩)⟩ (setRow_heap w b _ _ E _ h') (fun k hk => ?_)
  have hk' : k = b := hk
  subst hk'
  exact ⟨by simpa using hlt, .inr ⟨_, List.mem_cons_self, rfl⟩⟩
theorem ex_storeAB {b off : Nat} {E : TypeId} {cs vs : List Value} (hsz : (P.info? T).map (·.size) = some vs.length) (hf : Fr a N fs) (hx : ev fs x = some (.pointer (some ⟨b, off, none⟩))) (hy : ev fs y = some (.agg vs.toArray))
    (h1 : ∀ v ∈ vs, v.oneCell' = true) (hb : (bx b E cs).ok w) (hl : off + vs.length ≤ cs.length) :
    (execOp a.eval ⟨none, .store T x y, ty, pos, aft, g⟩).run P w = .ok .skip (w.setRow b (cs.take off ++ vs ++ cs.drop (off + vs.length)).toArray) := by
  have hb' : w.heap[b]? = some (.cells cs.toArray E (0, 0)) := hb
  have := run_storeRow (P := P) (vs := vs) hb' (by simpa using hl) h1
  simp only [execOp, Instr.storeAt, hf.ev hx, hf.ev hy, Instr.sureAddr, storeVar, Sem.run_bind, Sem.run_pure, Result.andThen_ok, run_sizeOf hsz, Value.cells]
  simp only [List.size_toArray, ne_eq, not_true_eq_false, if_false, this, Result.andThen_ok]
theorem sv_isSl {E : TypeId} {sz n : Nat} {v : Value} {xs : List Value} (h : (sv E sz v n xs).ok w) : IsSl v n := by
  rcases h.2 with ⟨rfl, rfl⟩ | ⟨g, cap, cur, rfl, _, _, h1, _⟩
  · exact ⟨none, 0, rfl, Nat.le_refl _, fun _ => rfl⟩
  · exact ⟨_, cap, rfl, h1, fun e => by cases e⟩
def Rd (v : Value) (xs : List Value) (w : World) : Prop := ∀ j u, xs[j]? = some u → w.cell? (sla v j) = some u
theorem sv_rd {E : TypeId} {sz n : Nat} {v : Value} {xs : List Value} (h : (sv E sz v n xs).ok w) : Rd v xs w := by
  intro j u hu
  rcases id h.2 with ⟨rfl, rfl⟩ | ⟨g, cap, cur, rfl, _⟩
  · have := h.1; simp at this; subst this; cases hu
  · exact World.ownsRow.cells h (g := g) rfl j u hu
theorem st_sv_store {E : TypeId} {sz n : Nat} {v : Value} {xs vs : List Value} {off : Nat} (h : (sv E sz v n xs).ok w) (hl : off + vs.length ≤ xs.length) (hne : vs ≠ []) (h1 : ∀ u ∈ vs, u.oneCell' = true) :
    ∃ w', (storeCells (sla v off) vs 0).run P w = .ok () w' ∧ St (fsl [sv E sz v n xs]) w w' [sv E sz v n (xs.take off ++ vs ++ xs.drop (off + vs.length))] := by
  have hpos : 0 < vs.length := List.length_pos_iff.2 hne
  rcases h with ⟨hlen, hv⟩
  rcases hv with ⟨rfl, rfl⟩ | ⟨g, cap, cur, rfl, hb, hg, h2, h3, h4, h5⟩
  · rw [Nat.zero_mul] at hlen; omega
  · have hxl : xs.length ≤ cur.size := by rw [hlen, h4]; exact Nat.mul_le_mul_right _ h2
    have hsa : sla (.slice (some ⟨g, 0, none⟩) n cap) off = ⟨g, off, none⟩ := by simp [sla, Addr.add_lit]
    rw [hsa]
    have hr := run_storeRow (P := P) (off := off) (vs := vs) hg (by omega) h1
    refine ⟨_, hr, ?_⟩
    have hlt : g < w.heap.size := (Array.getElem?_eq_some_iff.1 hg).1
    refine st_one ⟨rfl, rfl, rfl, by simp, fun k _ hm => setRow_other w g k _ (fun e => hm ⟨_, List.mem_cons_self, by rw [e]; rfl⟩)⟩ ⟨?_, .inr ⟨g, cap, _, rfl, hb, setRow_heap w g _ _ E _ hg, h2, h3, ?_, ?_⟩⟩ (fun k hk => ?_)
    · simp only [List.length_append, List.length_take, List.length_drop]; omega
    · simp only [List.size_toArray, List.length_append, List.length_take, List.length_drop, Array.length_toList]; omega
    · rw [← h5]
      simp only [List.take_append, List.take_take, List.length_append, List.length_take, Array.length_toList, List.drop_take, List.drop_drop, List.length_drop]
      have e1 : min (n * sz) off = off := by omega
      have e2 : min off cur.size = off := by omega
      have e3 : vs.take (n * sz - off) = vs := List.take_of_length_le (by omega)
      rw [e1, e2, e3]
      have e4 : min off (n * sz) = off := by omega
      rw [e4]
    · have hk' : some g = some k := hk
      simp at hk'; subst hk'
      exact ⟨by simpa using hlt, .inr ⟨_, List.mem_cons_self, rfl⟩⟩
end Go.Sx
