/- The words of a symbolic walk: a loop over a map of whole numbers. -/
import Derived.Test.YtmjfdknjloidoaaSx14
namespace Go.Sx
open Go Go.RowKit
open Go.ChangeMaps (setBlock)
set_option linter.unusedSimpArgs false
variable {P : Program} {a : Act} {w w0 : World} {N : Nat} {fs : List (Nat × Value)} {d : Option Tmp} {T ty : TypeId} {pos : String} {aft : Array Edge} {g : Option (Nat × Bool)} {x : Operand} {m : Nat → Prop} {os ks : List Ob}

/-- the least value of a map; the greatest number if there is none -/
def mmin : List (Int × Int) → Int
  | [] => 18446744073709551615
  | p :: r => mn p.2 (mmin r)
theorem mmin_spec : ∀ L : List (Int × Int), mmin L ≤ 18446744073709551615 ∧ (∀ p ∈ L, mmin L ≤ p.2) ∧ (mmin L = 18446744073709551615 ∨ ∃ p ∈ L, mmin L = p.2)
  | [] => ⟨Int.le_refl _, (fun p h => by cases h), .inl rfl⟩
  | p :: r => by
    obtain ⟨h1, h2, h3⟩ := mmin_spec r
    have e : mmin (p :: r) = if p.2 < mmin r then p.2 else mmin r := by
      show mn p.2 (mmin r) = _
      generalize mmin r = y
      unfold mn; split <;> split <;> omega
    rw [e]
    split
    · rename_i c
      refine ⟨by omega, fun q hq => ?_, .inr ⟨p, List.mem_cons_self, rfl⟩⟩
      rcases List.mem_cons.1 hq with rfl | hq
      · exact Int.le_refl _
      · have := h2 q hq; omega
    · rename_i c
      refine ⟨h1, fun q hq => ?_, ?_⟩
      · rcases List.mem_cons.1 hq with rfl | hq
        · omega
        · exact h2 q hq
      · rcases h3 with h3 | ⟨q, hq, h3⟩
        · exact .inl h3
        · exact .inr ⟨q, List.mem_cons_of_mem _ hq, h3⟩

/-- a map's block with its entries -/
def mpe (b : Nat) (es : Array MapEntry) (clock : Nat) : Ob where
  fs k := k = b
  ok w := w.heap[b]? = some (.map es clock)
  loc _ _ h := fun h1 => (h b rfl).trans h1
/-- what runs over a map -/
def it (r b since c : Nat) (seen : Array Nat) : Ob where
  fs k := k = r
  ok w := w.heap[r]? = some (.mapIter (some b) since seen c)
  loc _ _ h := fun h1 => (h r rfl).trans h1
theorem sr_mpe {b : Nat} {kk vk : IntKind} {L : List (Int × Int)} {o : Ob} (hr : Sr m w0 [o, mp b kk vk L]) : ∃ es clock, Sr m w0 [o, mpe b es clock] ∧ es.toList.map kv = kvs kk vk L ∧ (es.toList.map (·.born)).Nodup ∧ ∀ e ∈ es.toList, e.born < clock := by
  obtain ⟨⟨es, clock, h1, h2, h3, h4⟩, h5⟩ := hr (mp b kk vk L) (by simp)
  refine ⟨es, clock, fun p hp => ?_, h2, h3, h4⟩
  simp at hp
  rcases hp with rfl | rfl
  · exact hr _ (by simp)
  · exact ⟨h1, h5⟩
theorem kvs_fwd {kk vk : IntKind} : ∀ {es : List MapEntry} {L : List (Int × Int)}, es.map kv = kvs kk vk L → ∀ e ∈ es, ∃ p ∈ L, e.val = .int vk p.2
  | [], _, _ => fun e h => by cases h
  | _ :: _, [], h => by simp [kvs] at h
  | e :: es, p :: L, h => by
    simp only [kvs, List.map_cons, List.cons.injEq, kv, Prod.mk.injEq] at h
    intro e' he
    rcases List.mem_cons.1 he with rfl | he
    · exact ⟨p, List.mem_cons_self, h.1.2⟩
    · obtain ⟨q, hq, h'⟩ := kvs_fwd (kk := kk) (vk := vk) (show es.map kv = kvs kk vk L from h.2) e' he
      exact ⟨q, List.mem_cons_of_mem _ hq, h'⟩
theorem kvs_bwd {kk vk : IntKind} : ∀ {es : List MapEntry} {L : List (Int × Int)}, es.map kv = kvs kk vk L → ∀ p ∈ L, ∃ e ∈ es, e.val = .int vk p.2
  | _, [], _ => fun e h => by cases h
  | [], _ :: _, h => by simp [kvs] at h
  | e :: es, p :: L, h => by
    simp only [kvs, List.map_cons, List.cons.injEq, kv, Prod.mk.injEq] at h
    intro p' hp
    rcases List.mem_cons.1 hp with rfl | hp
    · exact ⟨e, List.mem_cons_self, h.1.2⟩
    · obtain ⟨q, hq, h'⟩ := kvs_bwd (kk := kk) (vk := vk) (show es.map kv = kvs kk vk L from h.2) p' hp
      exact ⟨q, List.mem_cons_of_mem _ hq, h'⟩

theorem er_range {K E : TypeId} {b clock : Nat} {es : Array MapEntry} (hs : St m w0 w os) (hT : P.underlying T = some (.map K E)) (hm : (mpe b es clock).ok w) (hf : Fr a N fs) (hx : ev fs x = some (.map (some b))) :
    ∃ v w', (execOp a.eval ⟨d, .range T x, ty, pos, aft, g⟩).run P w = .ok (.value v) w' ∧ ∃ r, v = .pointer (some ⟨r, 0, none⟩) ∧ St m w0 w' (it r b clock clock #[] :: os) := by
  have h1 : St (fsl []) w (w.alloc (.mapIter (some b) clock #[] clock)) [it w.heap.size b clock clock #[]] := by
    refine st_one ⟨rfl, rfl, rfl, by simp, fun k hk _ => Below.heap_alloc w _ k hk⟩ (heap_alloc_new w _) (fun k hk => by
      have hk' : k = w.heap.size := hk
      subst hk'; simp)
  exact ⟨_, _, by simp [execOp, hf.ev hx, run_range_map w T K E b es clock hT hm], w.heap.size, rfl, hs.step (split_none os) h1⟩
theorem st_it {r b since c c' : Nat} {seen seen' : Array Nat} (h : (it r b since c seen).ok w) : St (fsl [it r b since c seen]) w (setBlock w r (.mapIter (some b) since seen' c')) [it r b since c' seen'] := by
  have hlt : r < w.heap.size := (Array.getElem?_eq_some_iff.1 h).1
  refine st_one ⟨rfl, rfl, rfl, by simp [setBlock], fun k _ hm => ?_⟩ ?_ (fun k hk => ?_)
  · have hne : k ≠ r := fun e => hm ⟨_, List.mem_cons_self, e⟩
    simp [setBlock, Array.getElem?_setIfInBounds, hne.symm]
  · show (setBlock w r _).heap[r]? = _
    simp [setBlock, hlt]
  · have hk' : k = r := hk
    subst hk'
    exact ⟨by simpa [setBlock] using hlt, .inr ⟨_, List.mem_cons_self, rfl⟩⟩
theorem er_next {vk : IntKind} {r b since c clock : Nat} {es : Array MapEntry} {seen : Array Nat} {L : List (Int × Int)} {kk : IntKind} (hs : St m w0 w os) (sp : Split os [it r b since c seen] ks) (hm : (mpe b es clock).ok w) (hold : ∀ e ∈ es.toList, e.born < since) (hsc : since ≤ c) (hkv : es.toList.map kv = kvs kk vk L) (hf : Fr a N fs) (hx : ev fs x = some (.pointer (some ⟨r, 0, none⟩))) :
    ∃ v w', (execOp a.eval ⟨d, .next x false, ty, pos, aft, g⟩).run P w = .ok (.value v) w' ∧
      ((v = .tuple #[.bool false] ∧ (leftOf es seen).size = 0 ∧ St m w0 w' (it r b since c seen :: ks)) ∨
       ∃ e ∈ (leftOf es seen).toList, ∃ u : Int, e.val = .int vk u ∧ v = .tuple #[.bool true, e.key, .int vk u] ∧ St m w0 w' (it r b since clock (seen.push e.born) :: ks)) := by
  have hi : (it r b since c seen).ok w := (hs.enter sp).get (i := 0) rfl
  have hb : w.heap[b]? = some (.map es clock) := hm
  rcases run_next_at (P := P) w ty r b since c seen es clock hi hb hold hsc with ⟨h0, hrun⟩ | ⟨e, he, w1, hal, hrun⟩
  · exact ⟨_, w, by simp [execOp, hf.ev hx, hrun], .inl ⟨rfl, h0, hs.pick sp⟩⟩
  · obtain ⟨p, _, hp⟩ := kvs_fwd hkv e (mem_left he).1
    have h2 : St m w0 w1 os := by
      rcases hal with rfl | rfl
      · exact hs
      · exact hs.drew
    refine ⟨.tuple #[.bool true, e.key, e.val], setBlock w1 r (.mapIter (some b) since (seen.push e.born) clock), by simp [execOp, hf.ev hx, hrun], .inr ⟨e, he, p.2, hp, by rw [hp], ?_⟩⟩
    exact h2.step sp (st_it ((h2.enter sp).get (i := 0) rfl))
theorem ex_entry {vk : IntKind} {u : Int} {r b since clock : Nat} {es : Array MapEntry} {seen : Array Nat} {e : MapEntry} (hi : (it r b since clock (seen.push e.born)).ok w) (hm : (mpe b es clock).ok w) (he : e ∈ es.toList) (hn : (es.toList.map (·.born)).Nodup) (hu : e.val = .int vk u) (hf : Fr a N fs) (hx : ev fs x = some (.pointer (some ⟨r, 0, none⟩))) :
    (execOp a.eval ⟨d, .entry x, ty, pos, aft, g⟩).run P w = .ok (.value (.tuple #[e.key, .int vk u])) w := by
  have := run_entry_at (P := P) w r b since seen es clock e hi hm he hn
  simp [execOp, hf.ev hx, this, hu]
/-- the least so far -/
def LInv (es : Array MapEntry) (seen : Array Nat) (L : List (Int × Int)) (y : Int) : Prop := (∀ e ∈ es.toList, seen.contains e.born = true → ∀ u, e.val = .int .u64 u → y ≤ u) ∧ mmin L ≤ y ∧ y ≤ 18446744073709551615
theorem LInv.start (es : Array MapEntry) (L : List (Int × Int)) : LInv es #[] L 18446744073709551615 :=
  ⟨(fun e _ h => by simp at h), (mmin_spec L).1, Int.le_refl _⟩
theorem LInv.step {kk : IntKind} {es : Array MapEntry} {seen : Array Nat} {L : List (Int × Int)} {y u : Int} {e : MapEntry} (h : LInv es seen L y) (hkv : es.toList.map kv = kvs kk .u64 L) (hn : (es.toList.map (·.born)).Nodup) (he : e ∈ es.toList) (hu : e.val = .int .u64 u) : LInv es (seen.push e.born) L (if u < y then u else y) := by
  obtain ⟨h1, h2, h3⟩ := h
  have hm : mmin L ≤ u := by
    obtain ⟨p, hp, e1⟩ := kvs_fwd hkv e he
    rw [hu] at e1
    have := (mmin_spec L).2.1 p hp
    injection e1 with _ e2
    omega
  refine ⟨fun e' he' hc u' hu' => ?_, by split <;> omega, by split <;> omega⟩
  rw [contains_push] at hc
  by_cases c : e'.born = e.born
  · have f1 := find_born e es.toList hn he
    have f2 := find_born e' es.toList hn he'
    rw [c, f1] at f2
    injection f2 with f2
    subst f2
    rw [hu] at hu'
    injection hu' with _ hu'
    split <;> omega
  · have hc' : seen.contains e'.born = true := by simpa [c] using hc
    have := h1 e' he' hc' u' hu'
    split <;> omega
theorem LInv.stop {kk : IntKind} {es : Array MapEntry} {seen : Array Nat} {L : List (Int × Int)} {y : Int} (h : LInv es seen L y) (hkv : es.toList.map kv = kvs kk .u64 L) (h0 : (leftOf es seen).size = 0) : y = mmin L := by
  obtain ⟨h1, h2, h3⟩ := h
  rcases (mmin_spec L).2.2 with e | ⟨p, hp, e⟩
  · omega
  · obtain ⟨q, hq, e1⟩ := kvs_bwd hkv p hp
    have := h1 q hq (all_seen es seen h0 q hq) p.2 e1
    omega
end Go.Sx
