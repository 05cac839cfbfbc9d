/- The words of a symbolic walk: own memory as a list of objects with their blocks, and what a step leaves of it. -/
import Derived.Test.YtigadacjaglfeaaSx1
namespace Go.Sx
open Go Go.RowKit
structure Ob where
  fs : Nat → Prop
  ok : World → Prop
  loc : ∀ w w' : World, (∀ b, fs b → w'.heap[b]? = w.heap[b]?) → ok w → ok w'
def fsl (os : List Ob) : Nat → Prop := fun b => ∃ o ∈ os, o.fs b
structure Chg (m : Nat → Prop) (w w' : World) : Prop where
  os : w'.os = w.os
  tape : w'.tape = w.tape
  output : w'.output = w.output
  size : w.heap.size ≤ w'.heap.size
  block : ∀ k, k < w.heap.size → ¬ m k → w'.heap[k]? = w.heap[k]?
theorem Chg.refl (m : Nat → Prop) (w : World) : Chg m w w := ⟨rfl, rfl, rfl, Nat.le_refl _, fun _ _ _ => rfl⟩
def Ap (o p : Ob) : Prop := ∀ b, o.fs b → ¬ p.fs b
theorem Ap.symm {o p : Ob} (h : Ap o p) : Ap p o := fun b hb hb' => h b hb' hb
structure St (m : Nat → Prop) (w0 w : World) (os : List Ob) : Prop where
  chg : Chg m w0 w
  obs : ∀ o ∈ os, o.ok w ∧ ∀ b, o.fs b → b < w.heap.size ∧ (w0.heap.size ≤ b ∨ m b)
  apart : os.Pairwise Ap
inductive Split : List Ob → List Ob → List Ob → Prop where
  | nil : Split [] [] []
  | c {o : Ob} {os cs ks : List Ob} : Split os cs ks → Split (o :: os) (o :: cs) ks
  | k {o : Ob} {os cs ks : List Ob} : Split os cs ks → Split (o :: os) cs (o :: ks)
  | d {o : Ob} {os cs ks : List Ob} : Split os cs ks → Split (o :: os) cs ks
variable {m : Nat → Prop} {w0 w w' : World} {os cs ks outs : List Ob}
theorem split_none : ∀ os : List Ob, Split os [] os
  | [] => .nil
  | _ :: r => .k (split_none r)
theorem Split.cs_sub (h : Split os cs ks) : ∀ o ∈ cs, o ∈ os := by
  induction h with
  | nil => intro o h; exact h
  | c _ ih => intro o h; rcases List.mem_cons.1 h with rfl | h; exact List.mem_cons_self; exact List.mem_cons_of_mem _ (ih o h)
  | k _ ih => intro o h; exact List.mem_cons_of_mem _ (ih o h)
  | d _ ih => intro o h; exact List.mem_cons_of_mem _ (ih o h)
theorem Split.ks_sub (h : Split os cs ks) : ∀ o ∈ ks, o ∈ os := by
  induction h with
  | nil => intro o h; exact h
  | c _ ih => intro o h; exact List.mem_cons_of_mem _ (ih o h)
  | k _ ih => intro o h; rcases List.mem_cons.1 h with rfl | h; exact List.mem_cons_self; exact List.mem_cons_of_mem _ (ih o h)
  | d _ ih => intro o h; exact List.mem_cons_of_mem _ (ih o h)
theorem Split.apart (h : Split os cs ks) (hp : os.Pairwise Ap) : cs.Pairwise Ap ∧ ks.Pairwise Ap ∧ ∀ o ∈ cs, ∀ p ∈ ks, Ap o p := by
  induction h with
  | nil => exact ⟨.nil, .nil, fun o h => by cases h⟩
  | c hs ih =>
    cases hp with
    | cons h1 h2 =>
      obtain ⟨a1, a2, a3⟩ := ih h2
      refine ⟨.cons (fun p hp => h1 p (hs.cs_sub p hp)) a1, a2, fun o ho p hp => ?_⟩
      rcases List.mem_cons.1 ho with rfl | ho
      · exact h1 p (hs.ks_sub p hp)
      · exact a3 o ho p hp
  | k hs ih =>
    cases hp with
    | cons h1 h2 =>
      obtain ⟨a1, a2, a3⟩ := ih h2
      refine ⟨a1, .cons (fun p hp => h1 p (hs.ks_sub p hp)) a2, fun o ho p hp => ?_⟩
      rcases List.mem_cons.1 hp with rfl | hp
      · exact (h1 o (hs.cs_sub o ho)).symm
      · exact a3 o ho p hp
  | d hs ih =>
    cases hp with
    | cons h1 h2 => exact ih h2
theorem St.refl (m : Nat → Prop) (w : World) : St m w w [] := ⟨.refl m w, (fun o h => by cases h), .nil⟩
theorem St.enter (h : St m w0 w os) (sp : Split os cs ks) : St (fsl cs) w w cs :=
  ⟨.refl _ w, fun o ho => ⟨(h.obs o (sp.cs_sub o ho)).1, fun b hb => ⟨((h.obs o (sp.cs_sub o ho)).2 b hb).1, .inr ⟨o, ho, hb⟩⟩⟩, (sp.apart h.apart).1⟩
theorem St.step (h : St m w0 w os) (sp : Split os cs ks) (h' : St (fsl cs) w w' outs) : St m w0 w' (outs ++ ks) := by
  obtain ⟨_, a2, a3⟩ := sp.apart h.apart
  have inm : ∀ b, fsl cs b → w0.heap.size ≤ b ∨ m b := fun b hb => by
    obtain ⟨o, ho, hb⟩ := hb
    exact ((h.obs o (sp.cs_sub o ho)).2 b hb).2
  have kept : ∀ p ∈ ks, ∀ b, p.fs b → b < w.heap.size ∧ ¬ fsl cs b := fun p hp b hb => by
    refine ⟨((h.obs p (sp.ks_sub p hp)).2 b hb).1, fun hb' => ?_⟩
    obtain ⟨o, ho, hb'⟩ := hb'
    exact a3 o ho p hp b hb' hb
  refine ⟨⟨h'.chg.os.trans h.chg.os, h'.chg.tape.trans h.chg.tape, h'.chg.output.trans h.chg.output, Nat.le_trans h.chg.size h'.chg.size, fun k hk hm => ?_⟩, fun o ho => ?_, ?_⟩
  · refine (h'.chg.block k (Nat.lt_of_lt_of_le hk h.chg.size) fun hc => ?_).trans (h.chg.block k hk hm)
    rcases inm k hc with h1 | h1
    · omega
    · exact hm h1
  · rcases List.mem_append.1 ho with ho | ho
    · obtain ⟨h1, h2⟩ := h'.obs o ho
      refine ⟨h1, fun b hb => ⟨(h2 b hb).1, ?_⟩⟩
      rcases (h2 b hb).2 with h3 | h3
      · have := h.chg.size; omega
      · exact inm b h3
    · have h1 := h.obs o (sp.ks_sub o ho)
      refine ⟨o.loc w w' (fun b hb => h'.chg.block b (kept o ho b hb).1 (kept o ho b hb).2) h1.1, fun b hb => ⟨?_, (h1.2 b hb).2⟩⟩
      have := (h1.2 b hb).1
      have := h'.chg.size
      omega
  · refine List.pairwise_append.2 ⟨h'.apart, a2, fun o ho p hp b hb hb' => ?_⟩
    obtain ⟨h1, h2⟩ := kept p hp b hb'
    rcases ((h'.obs o ho).2 b hb).2 with h3 | h3
    · omega
    · exact h2 h3
theorem St.get {i : Nat} {o : Ob} (h : St m w0 w os) (hi : os[i]? = some o) : o.ok w := (h.obs o (List.mem_of_getElem? hi)).1
theorem St.pick (h : St m w0 w os) (sp : Split os cs ks) : St m w0 w (cs ++ ks) := h.step sp (h.enter sp)
theorem St.drew (h : St m w0 w os) : St m w0 w.drew os :=
  ⟨⟨h.chg.os, h.chg.tape, h.chg.output, h.chg.size, h.chg.block⟩, fun o ho => ⟨o.loc w w.drew (fun _ _ => rfl) (h.obs o ho).1, (h.obs o ho).2⟩, h.apart⟩
def none_ : Nat → Prop := fun _ => False
theorem St.below (h : St none_ w0 w os) : Below w0.heap.size w0 w := ⟨h.chg.os, h.chg.tape, h.chg.output, h.chg.size, fun k hk => h.chg.block k hk (fun x => x)⟩
def Sr (m : Nat → Prop) (w : World) (rs : List Ob) : Prop := ∀ o ∈ rs, o.ok w ∧ ∀ b, o.fs b → b < w.heap.size ∧ ¬ m b
theorem Sr.nil (m : Nat → Prop) (w : World) : Sr m w [] := fun _ h => by cases h
theorem Sr.now {rs : List Ob} {o : Ob} {i : Nat} (hr : Sr m w0 rs) (h : St m w0 w os) (hi : rs[i]? = some o) : o.ok w := by
  obtain ⟨h1, h2⟩ := hr o (List.mem_of_getElem? hi)
  exact o.loc w0 w (fun b hb => h.chg.block b (h2 b hb).1 (h2 b hb).2) h1
theorem Sr.own {rs' : List Ob} {o o' : Ob} {i : Nat} (h : St m w0 w os) (sp : Split os cs ks) (hi : ks[i]? = some o) (hv : ∀ w, o.ok w → o'.ok w) (hfs : ∀ b, o'.fs b → o.fs b) (hr : Sr (fsl cs) w rs') : Sr (fsl cs) w (o' :: rs') := by
  intro p hp
  rcases List.mem_cons.1 hp with rfl | hp
  · have hk := List.mem_of_getElem? hi
    obtain ⟨h1, h2⟩ := h.obs o (sp.ks_sub o hk)
    refine ⟨hv w h1, fun b hb => ⟨(h2 b (hfs b hb)).1, ?_⟩⟩
    rintro ⟨q, hq, hb'⟩
    exact (sp.apart h.apart).2.2 q hq o hk b hb' (hfs b hb)
  · exact hr p hp
theorem Sr.old {rs rs' : List Ob} {o o' : Ob} {i : Nat} (hr0 : Sr m w0 rs) (h : St m w0 w os) (sp : Split os cs ks) (hi : rs[i]? = some o) (hv : ∀ w, o.ok w → o'.ok w) (hfs : ∀ b, o'.fs b → o.fs b) (hr : Sr (fsl cs) w rs') : Sr (fsl cs) w (o' :: rs') := by
  intro p hp
  rcases List.mem_cons.1 hp with rfl | hp
  · obtain ⟨_, h2⟩ := hr0 o (List.mem_of_getElem? hi)
    refine ⟨hv w (hr0.now h hi), fun b hb => ⟨Nat.lt_of_lt_of_le (h2 b (hfs b hb)).1 h.chg.size, ?_⟩⟩
    rintro ⟨q, hq, hb'⟩
    rcases ((h.obs q (sp.cs_sub q hq)).2 b hb').2 with h3 | h3
    · have := (h2 b (hfs b hb)).1; omega
    · exact (h2 b (hfs b hb)).2 h3
  · exact hr p hp
def bx (b : Nat) (E : TypeId) (cs : List Value) : Ob where
  fs k := k = b
  ok w := w.heap[b]? = some (.cells cs.toArray E (0, 0))
  loc w w' h k := (h b rfl).trans k
def sv (E : TypeId) (sz : Nat) (v : Value) (n : Nat) (xs : List Value) : Ob where
  fs k := v.ownBlock = some k
  ok w := w.ownsRow 0 E sz v n xs
  loc w w' h := by
    rintro ⟨h1, h2⟩
    refine ⟨h1, ?_⟩
    rcases h2 with h2 | ⟨g, cap, cur, rfl, hb, hg, r⟩
    · exact .inl h2
    · exact .inr ⟨g, cap, cur, rfl, hb, (h g (by simp [Value.ownBlock])).trans hg, r⟩
theorem st_one {o : Ob} (hc : Chg m w w') (ho : o.ok w') (hb : ∀ b, o.fs b → b < w'.heap.size ∧ (w.heap.size ≤ b ∨ m b)) : St m w w' [o] :=
  ⟨hc, fun p hp => by simp at hp; subst hp; exact ⟨ho, hb⟩, by simp⟩
theorem st_alloc (w : World) (E : TypeId) (cs : List Value) : St (fsl []) w (w.alloc (.cells cs.toArray E (0, 0))) [bx w.heap.size E cs] :=
  st_one ⟨rfl, rfl, rfl, by simp, fun k hk _ => Below.heap_alloc w _ k hk⟩ (heap_alloc_new w _) (fun b hb => by simp [bx] at hb; subst hb; simp)
theorem bx_cell {b : Nat} {E : TypeId} {cs : List Value} (h : (bx b E cs).ok w) (j : Nat) {u : Value} (hu : cs[j]? = some u) : w.cell? ⟨b, j, none⟩ = some u := by
  have h' : w.heap[b]? = some (.cells cs.toArray E (0, 0)) := h
  simp [World.cell?, h', hu]
theorem bx_frozen {b : Nat} {E : TypeId} {cs : List Value} (h : (bx b E cs).ok w) (j : Nat) : w.frozen? ⟨b, j, none⟩ = false := by
  have h' : w.heap[b]? = some (.cells cs.toArray E (0, 0)) := h
  simp [World.frozen?, h']
theorem st_set {b : Nat} {E : TypeId} {cs : List Value} (h : (bx b E cs).ok w) (j : Nat) (u : Value) : St (fsl [bx b E cs]) w (w.setCell ⟨b, j, none⟩ u) [bx b E (cs.set j u)] := by
  have h' : w.heap[b]? = some (.cells cs.toArray E (0, 0)) := h
  have hlt : b < w.heap.size := (Array.getElem?_eq_some_iff.1 h').1
  refine st_one ⟨rfl, rfl, rfl, by simp [World.setCell], fun k _ hm => ?_⟩ ?_ (fun k hk => ?_)
  · simp only [World.setCell, Array.getElem?_modify]
    rw [if_neg (fun e : b = k => hm (by simp [fsl, bx, e]))]
  · show (w.setCell ⟨b, j, none⟩ u).heap[b]? = _
    simp only [World.setCell, Array.getElem?_modify, if_pos, h', Option.map_some]
    simp
  · have hk' : k = b := hk
    subst hk'
    exact ⟨by simp [World.setCell]; exact hlt, .inr ⟨_, List.mem_cons_self, rfl⟩⟩
end Go.Sx
