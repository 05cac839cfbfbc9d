/- The words of a symbolic walk: maps of whole numbers. -/
import Derived.Test.YtigadacjaglfeaaSx12
import Derived.Maps.RangeRun
namespace Go.Sx
open Go Go.RowKit
open Go.ChangeMaps (setBlock)
variable {P : Program} {a : Act} {w w0 : World} {N : Nat} {fs : List (Nat × Value)} {d : Option Tmp} {T T' ty : TypeId} {pos : String} {aft : Array Edge} {g : Option (Nat × Bool)} {x y z : Operand} {m : Nat → Prop} {os ks : List Ob}
set_option linter.unusedSimpArgs false
def mget : List (Int × Int) → Int → Option Int
  | [], _ => none
  | p :: r, x => if p.1 = x then some p.2 else mget r x
def mput : List (Int × Int) → Int → Int → List (Int × Int)
  | [], x, v => [(x, v)]
  | p :: r, x, v => if p.1 = x then (x, v) :: r else p :: mput r x v
def mdel : List (Int × Int) → Int → List (Int × Int)
  | [], _ => []
  | p :: r, x => if p.1 = x then r else p :: mdel r x
def mgetd (L : List (Int × Int)) (x : Int) : Int := (mget L x).getD 0
def kv (e : MapEntry) : Value × Value := (e.key, e.val)
def kvs (kk vk : IntKind) (L : List (Int × Int)) : List (Value × Value) := L.map fun p => (.int kk p.1, .int vk p.2)
def mp (b : Nat) (kk vk : IntKind) (L : List (Int × Int)) : Ob where
  fs k := k = b
  ok w := ∃ es clock, w.heap[b]? = some (.map es clock) ∧ es.toList.map kv = kvs kk vk L ∧ (es.toList.map (·.born)).Nodup ∧ ∀ e ∈ es.toList, e.born < clock
  loc w w' h := by
    rintro ⟨es, clock, h1, h2⟩
    exact ⟨es, clock, (h b rfl).trans h1, h2⟩
def MT (P : Program) (T K E : TypeId) (kk vk : IntKind) : Prop := P.underlying T = some (.map K E) ∧ P.underlying K = some (.int kk) ∧ (P.info? E).map (·.zero) = some (some (.int vk 0))
theorem findNow_mp (q kk vk : IntKind) (x : Int) : ∀ (es : List MapEntry) (L : List (Int × Int)) (i : Nat), es.map kv = kvs kk vk L →
    (mget L x = none ∧ Instr.findNow (.int q) (.int kk x) es i = some none ∧ (∀ v, mput L x v = L ++ [(x, v)]) ∧ mdel L x = L) ∨
    ∃ j e v, es[j]? = some e ∧ e.key = .int kk x ∧ e.val = .int vk v ∧ mget L x = some v ∧ Instr.findNow (.int q) (.int kk x) es i = some (some (i + j, e.val)) ∧
      (∀ (e' : MapEntry) (v' : Int), e'.key = .int kk x → e'.val = .int vk v' → (es.set j e').map kv = kvs kk vk (mput L x v')) ∧ (es.eraseIdx j).map kv = kvs kk vk (mdel L x)
  | [], [], i, _ => .inl ⟨rfl, rfl, fun _ => rfl, rfl⟩
  | [], _ :: _, _, h => by simp [kvs] at h
  | _ :: _, [], _, h => by simp [kvs] at h
  | e :: es, p :: L, i, h => by
    simp only [kvs, List.map_cons, List.cons.injEq, kv, Prod.mk.injEq] at h
    obtain ⟨⟨h1, h2⟩, h3⟩ := h
    have h3 : es.map kv = kvs kk vk L := h3
    have hs : Instr.sameNow (.int q) (.int kk x) e.key = some (x == p.1) := by rw [h1]; simp [Instr.sameNow]
    by_cases c : p.1 = x
    · refine .inr ⟨0, e, p.2, rfl, by rw [h1, c], h2, by simp [mget, c], ?_, fun e' v' k1 k2 => ?_, ?_⟩
      · have hb : (x == p.1) = true := by simp [c]
        simp only [Instr.findNow, hs, hb, Nat.add_zero]
      · simp only [List.set_cons_zero, List.map_cons, h3, mput, if_pos c, kvs, kv, k1, k2]
      · simpa [mdel, c] using h3
    · have hb : (x == p.1) = false := by
        simp only [beq_eq_false_iff_ne, ne_eq]; exact fun e => c e.symm
      rcases findNow_mp q kk vk x es L (i + 1) h3 with ⟨g1, g2, g3, g4⟩ | ⟨j, e1, v, g1, g2, g3, g4, g5, g6, g7⟩
      · refine .inl ⟨by simp [mget, c, g1], ?_, fun v => by simp [mput, c, g3], by simp [mdel, c, g4]⟩
        simp only [Instr.findNow, hs, hb, g2]
      · refine .inr ⟨j + 1, e1, v, by simpa using g1, g2, g3, by simp [mget, c, g4], ?_, fun e' v' k1 k2 => ?_, ?_⟩
        · simp only [Instr.findNow, hs, hb, g5]
          congr 3; omega
        · have := g6 e' v' k1 k2
          simp only [List.set_cons_succ, List.map_cons, this, mput, if_neg c, kvs, kv, h1, h2]
        · have := g7
          simp only [List.eraseIdx_cons_succ, List.map_cons, this, mdel, if_neg c, kvs, kv, h1, h2]
theorem run_checkKey_int {K : TypeId} {kk q : IntKind} (hK : P.underlying K = some (.int q)) (em : Bool) (x : Int) (w : World) : (Instr.checkKey em 10000 K (.int kk x)).run P w = .ok () w := by
  rw [show (10000 : Nat) = 9999 + 1 from rfl, Instr.checkKey]
  simp [run_underlying hK]
theorem run_zeroInt {E : TypeId} {v : Value} (h : (P.info? E).map (·.zero) = some (some v)) (w : World) : (zeroValue E).run P w = .ok v w := by
  obtain ⟨i, hi, hz⟩ := Option.map_eq_some_iff.1 h
  simp [zeroValue, typeInfo, hi, hz]
theorem st_mp {b : Nat} {kk vk : IntKind} {L L' : List (Int × Int)} {es' : Array MapEntry} {clock' : Nat} (h : (mp b kk vk L).ok w) (h1 : es'.toList.map kv = kvs kk vk L') (h2 : (es'.toList.map (·.born)).Nodup) (h3 : ∀ e ∈ es'.toList, e.born < clock') :
    St (fsl [mp b kk vk L]) w { w with heap := w.heap.setIfInBounds b (.map es' clock') } [mp b kk vk L'] := by
  obtain ⟨es, clock, hb, _⟩ := h
  have hlt : b < w.heap.size := (Array.getElem?_eq_some_iff.1 hb).1
  refine st_one ⟨rfl, rfl, rfl, by simp, fun k _ hm => ?_⟩ ⟨es', clock', ?_, h1, h2, h3⟩ (fun k hk => ?_)
  · have hne : k ≠ b := fun e => hm ⟨_, List.mem_cons_self, e⟩
    simp [Array.getElem?_setIfInBounds, hne.symm]
  · simp [hlt]
  · have hk' : k = b := hk
    subst hk'
    exact ⟨by simpa using hlt, .inr ⟨_, List.mem_cons_self, rfl⟩⟩
theorem er_makeMap {kk vk : IntKind} (hs : St m w0 w os) :
    ∃ v w', (execOp a.eval ⟨d, .makeMap T none, ty, pos, aft, g⟩).run P w = .ok (.value v) w' ∧ ∃ b, v = .map (some b) ∧ St m w0 w' (mp b kk vk [] :: os) := by
  have h1 : St (fsl []) w (w.alloc (.map #[] 0)) [mp w.heap.size kk vk []] := by
    refine st_one ⟨rfl, rfl, rfl, by simp, fun k hk _ => Below.heap_alloc w _ k hk⟩ ⟨#[], 0, heap_alloc_new w _, rfl, by simp, by simp⟩ (fun b hb => by
      have hb' : b = w.heap.size := hb
      subst hb'; simp)
  exact ⟨.map (some w.heap.size), w.alloc (.map #[] 0), by simp [execOp, Instr.makeMap], w.heap.size, rfl, hs.step (split_none os) h1⟩
theorem er_mapUpdate {K E : TypeId} {kk vk : IntKind} {b : Nat} {L : List (Int × Int)} {k v : Int} (hs : St m w0 w os) (sp : Split os [mp b kk vk L] ks) (hT : MT P T K E kk vk) (hf : Fr a N fs) (hx : ev fs x = some (.map (some b))) (hy : ev fs y = some (.int kk k)) (hz : ev fs z = some (.int vk v)) :
    ∃ w', (execOp a.eval ⟨none, .mapUpdate T x y z, ty, pos, aft, g⟩).run P w = .ok .skip w' ∧ St m w0 w' (mp b kk vk (mput L k v) :: ks) := by
  have hb : (mp b kk vk L).ok w := (hs.enter sp).get (i := 0) rfl
  have hb' := hb
  obtain ⟨es, clock, h1, h2, h3, h4⟩ := hb
  obtain ⟨t1, t2, _⟩ := hT
  rcases findNow_mp kk kk vk k es.toList L 0 h2 with ⟨g1, g2, g3, g4⟩ | ⟨j, e, u, g1, g2, g3, g4, g5, g6, g7⟩
  · refine ⟨{ w with heap := w.heap.setIfInBounds b (.map (es.push ⟨.int kk k, .int vk v, clock⟩) (clock + 1)) }, ?_, hs.step sp (st_mp hb' ?_ ?_ ?_)⟩
    · simp [execOp, Instr.mapUpdate, hf.ev hx, hf.ev hy, hf.ev hz, run_underlying t1, MapKept.run_getObj_map h1, run_checkKey_int t2, MapKept.run_findKey t2 g2, MapKept.run_setObj_map _ h1]
    · rw [g3]; simp [h2, kvs, kv]
    · simp only [Array.toList_push, List.map_append, List.map_cons, List.map_nil]
      refine List.nodup_append.2 ⟨h3, by simp, fun i hi i' hi' => ?_⟩
      obtain ⟨e, he, rfl⟩ := List.mem_map.1 hi
      simp at hi'; subst hi'
      have := h4 e he; omega
    · intro e he
      simp only [Array.toList_push, List.mem_append, List.mem_singleton] at he
      rcases he with he | rfl
      · have := h4 e he; omega
      · show clock < clock + 1; omega
  · have hj : es[j]? = some e := by simpa using g1
    have hjl : j < es.size := (Array.getElem?_eq_some_iff.1 hj).1
    have hl : (es.modify j fun e => { e with key := .int kk k, val := .int vk v }).toList = es.toList.set j { e with key := .int kk k, val := .int vk v } := by
      rw [Array.toList_modify]
      refine List.ext_getElem? fun i => ?_
      rw [List.getElem?_modify, List.getElem?_set]
      by_cases c : j = i
      · subst c; simp [hj, hjl, (Array.getElem?_eq_some_iff.1 hj).2]
      · simp [c]
    refine ⟨{ w with heap := w.heap.setIfInBounds b (.map (es.modify j fun e => { e with key := .int kk k, val := .int vk v }) clock) }, ?_, hs.step sp (st_mp hb' ?_ ?_ ?_)⟩
    · simp [execOp, Instr.mapUpdate, hf.ev hx, hf.ev hy, hf.ev hz, run_underlying t1, MapKept.run_getObj_map h1, run_checkKey_int t2, MapKept.run_findKey t2 g5, MapKept.run_setObj_map _ h1, hj, g2, Instr.keyThatStays, Instr.sameBits]
    · rw [hl]; exact g6 _ v rfl rfl
    · rw [hl, List.map_set]
      have : (es.toList.map (·.born)).set j e.born = es.toList.map (·.born) := by
        refine List.ext_getElem? fun i => ?_
        rw [List.getElem?_set]
        by_cases c : j = i
        · subst c; rw [if_pos rfl, if_pos (by simpa using hjl), List.getElem?_map, g1]; rfl
        · simp [c]
      rw [this]; exact h3
    · intro e' he'
      rw [hl] at he'
      rcases List.mem_or_eq_of_mem_set he' with h | rfl
      · exact h4 e' h
      · exact h4 e (List.mem_of_getElem? g1)
theorem ex_lookup1 {K E : TypeId} {kk vk : IntKind} {b : Nat} {L : List (Int × Int)} {k : Int} (hT : MT P T K E kk vk) (hm : (mp b kk vk L).ok w) (hf : Fr a N fs) (hx : ev fs x = some (.map (some b))) (hy : ev fs y = some (.int kk k)) :
    (execOp a.eval ⟨d, .lookup T x y false, ty, pos, aft, g⟩).run P w = .ok (.value (.int vk (mgetd L k))) w := by
  obtain ⟨es, clock, h1, h2, h3, h4⟩ := hm
  obtain ⟨t1, t2, t3⟩ := hT
  rcases findNow_mp kk kk vk k es.toList L 0 h2 with ⟨g1, g2, _⟩ | ⟨j, e, u, g1, g2, g3, g4, g5, _⟩
  · simp [execOp, Instr.lookup, hf.ev hx, hf.ev hy, run_underlying t1, MapKept.run_getObj_map h1, run_checkKey_int t2, MapKept.run_findKey t2 g2, run_zeroInt t3, mgetd, g1]
  · simp [execOp, Instr.lookup, hf.ev hx, hf.ev hy, run_underlying t1, MapKept.run_getObj_map h1, run_checkKey_int t2, MapKept.run_findKey t2 g5, mgetd, g4, g3]
theorem stepVn {ops : Array Oper} {Q : Exit → Act → World → Prop} {rest : List Oper} {o : Oper} {R : Value → World → Prop} (hf : Fr a N fs) (hg : wtB ops fs o.guard = true) (hd : o.dst = none)
    (hv : ∃ v w', (execOp a.eval o).run P w = .ok (.value v) w' ∧ R v w') (K : ∀ v w', R v w' → wpList P ops Q rest a w') : wpList P ops Q (o :: rest) a w := by
  obtain ⟨v, w', h1, h2⟩ := hv
  unfold wpList
  rw [if_pos (wanted_yes hf hg)]
  refine .inl ?_
  unfold Oper.wp
  rw [h1]
  show wpList P ops Q rest (a.put o.dst v) w'
  rw [hd]
  exact K v w' h2
end Go.Sx
