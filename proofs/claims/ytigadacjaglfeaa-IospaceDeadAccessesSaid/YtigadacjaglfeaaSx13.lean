/- A region whose order is open where a slot is read and later written inside: what the slot held goes on to hold for those that its writer waits for. -/
import Derived.Test.YtigadacjaglfeaaSx9
namespace Go.Sx
open Go Go.RowKit
section
variable {P : Program} {ops : Array Oper} {Q : Exit → Act → World → Prop} {N : Nat} {base : List (Nat × Value)} {old : List (Nat × Value × Nat)} {n0 : Nat} {tail : List Oper}
def oldF (ops : Array Oper) (j : Nat) : List (Nat × Value × Nat) → List (Nat × Value)
  | [] => []
  | (t, v, q) :: r => if (dpsAt ops q).contains j then (t, v) :: oldF ops j r else oldF ops j r
def oldOk (ops : Array Oper) (n0 : Nat) (old : List (Nat × Value × Nat)) : Bool := old.all fun p => Nat.blt p.2.2 n0 && dstAt ops p.2.2 == some p.1
def OldH (old : List (Nat × Value × Nat)) (listed : Array Bool) (a : Act) : Prop := ∀ p ∈ old, listed.getD p.2.2 true = false → a.tmps[p.1]? = some p.2.1
def Shut (ops : Array Oper) (n0 : Nat) (listed : Array Bool) : Prop := ∀ q, q < n0 → listed.getD q true = true → ∀ i ∈ dpsAt ops q, listed.getD i true = true
theorem oldF_mem {j : Nat} : ∀ {old : List (Nat × Value × Nat)} {p : Nat × Value}, p ∈ oldF ops j old → ∃ q, (p.1, p.2, q) ∈ old ∧ j ∈ dpsAt ops q
  | [], _, h => by cases h
  | (t, v, q) :: r, p, h => by
    simp only [oldF] at h
    by_cases c : (dpsAt ops q).contains j = true
    · rw [if_pos c] at h
      rcases List.mem_cons.1 h with rfl | h
      · exact ⟨q, List.mem_cons_self, by simpa using c⟩
      · obtain ⟨q', h1, h2⟩ := oldF_mem h; exact ⟨q', List.mem_cons_of_mem _ h1, h2⟩
    · rw [if_neg c] at h
      obtain ⟨q', h1, h2⟩ := oldF_mem h; exact ⟨q', List.mem_cons_of_mem _ h1, h2⟩
theorem fr_old {listed : Array Bool} {a : Act} {j : Nat} (hf : Fr a N base) (ho : OldH old listed a) (hok : oldOk ops n0 old = true) (hs : Shut ops n0 listed) (hj : listed.getD j true = false) : Fr a N (base ++ oldF ops j old) := by
  refine ⟨hf.df, hf.sz, fun t v ht => ?_⟩
  rw [look_append] at ht
  cases hb : look t base with
  | some u => rw [hb] at ht; exact hf.get t v (by rw [hb]; simpa using ht)
  | none =>
    rw [hb, Option.none_or] at ht
    obtain ⟨q, h1, h2⟩ := oldF_mem (look_mem ht)
    refine ho _ h1 ?_
    have hq := List.all_eq_true.1 hok _ h1
    simp only [Bool.and_eq_true, Nat.blt_eq] at hq
    cases c : listed.getD q true with
    | false => rfl
    | true => have := hs q hq.1 c j h2; rw [hj] at this; cases this
theorem oldH_put {listed : Array Bool} {a : Act} {j : Nat} {v : Value} (hdst : dstOk ops base n0 = true) (hok : oldOk ops n0 old = true) (hl : j < listed.size) (hj : j < n0) (ho : OldH old listed a) : OldH old (listed.setIfInBounds j true) (a.put (dstAt ops j) v) := by
  intro p hp hq
  rw [getD_set hl] at hq
  by_cases e : j = p.2.2
  · rw [if_pos e] at hq; cases hq
  · rw [if_neg e] at hq
    have h1 := ho p hp hq
    have hq' := List.all_eq_true.1 hok _ hp
    simp only [Bool.and_eq_true, Nat.blt_eq, beq_iff_eq] at hq'
    cases hd : dstAt ops j with
    | none => simpa [Act.put] using h1
    | some d =>
      have hne : d ≠ p.1 := by
        intro hdd
        have hdj := allB_spec hdst
        rcases Nat.lt_or_gt_of_ne e with hlt | hlt
        · have := hdj p.2.2 hq'.1; rw [hq'.2] at this; simp only [Bool.and_eq_true] at this
          have := allB_spec this.2 j hlt; simp [hd, hdd] at this
        · have := hdj j hj; rw [hd] at this; simp only [Bool.and_eq_true] at this
          have := allB_spec this.2 p.2.2 hlt; simp [hq'.2, hdd] at this
      simp [Act.put, hne, h1]
theorem shut_put {listed : Array Bool} {j : Nat} (hl : j < listed.size) (hs : Shut ops n0 listed) (hd : ∀ i ∈ dpsAt ops j, listed.getD i true = true) : Shut ops n0 (listed.setIfInBounds j true) := by
  intro q hq h i hi
  rw [getD_set hl] at h ⊢
  by_cases e : j = i
  · rw [if_pos e]
  · rw [if_neg e]
    by_cases e2 : j = q
    · subst e2; exact hd i hi
    · rw [if_neg e2] at h; exact hs q hq h i hi
def QVo (P : Program) (ops : Array Oper) (N : Nat) (base : List (Nat × Value)) (old : List (Nat × Value × Nat)) (kn : List (Nat × Value)) (R : World → Prop) (j : Nat) (v : Value) : Prop :=
  ∃ o d, ops[j]? = some o ∧ o.dst = some d ∧ Nat.blt d N = true ∧ ((dps o).all fun i => (look i kn).isSome) = true ∧
    ∀ a w, R w → Fr a N (dsl ops kn (dps o) ++ (base ++ oldF ops j old)) →
      (Region.wanted o (yielded ops a.tmps) = true ∧ (execOp a.eval o).run P w = .ok (.value v) w) ∨ (Region.wanted o (yielded ops a.tmps) = false ∧ v = undef)
inductive VAllo (P : Program) (ops : Array Oper) (N : Nat) (base : List (Nat × Value)) (old : List (Nat × Value × Nat)) (kn : List (Nat × Value)) (R : World → Prop) : List (Nat × Value) → Prop where
  | nil : VAllo P ops N base old kn R []
  | cons {j : Nat} {v : Value} {r : List (Nat × Value)} : QVo P ops N base old kn R j v → VAllo P ops N base old kn R r → VAllo P ops N base old kn R ((j, v) :: r)
theorem VAllo.get {kn : List (Nat × Value)} {R : World → Prop} {l : List (Nat × Value)} (h : VAllo P ops N base old kn R l) : ∀ j v, look j l = some v → QVo P ops N base old kn R j v := by
  induction h with
  | nil => intro j v h; cases h
  | @cons j v r hq _ ih =>
    intro i u hi
    simp only [look] at hi
    cases e : Nat.beq i j with
    | true =>
      have e' : i = j := Nat.eq_of_beq_eq_true e
      rw [e] at hi; simp at hi; subst hi; subst e'; exact hq
    | false => rw [e] at hi; simp at hi; exact ih i u hi
def RWo (P : Program) (ops : Array Oper) (Q : Exit → Act → World → Prop) (N : Nat) (base : List (Nat × Value)) (old : List (Nat × Value × Nat)) (n0 : Nat) (tail : List Oper) : Nat → List Nat → List (Nat × Value) → (World → Prop) → (World → Prop) → Prop
  | 0, E, kn, R, S => E = [] ∧ chk ops n0 E kn = true ∧ keysOk n0 kn = true ∧ ∀ a w, R w → S w → Fr a N (slots ops kn ++ base) → wpList P ops Q tail a w
  | k + 1, E, kn, R, S => chk ops n0 E kn = true ∧ ∀ e ∈ E, rdy ops kn e = true → ∃ o, ops[e]? = some o ∧ (∀ d, o.dst = some d → Nat.blt d N = true) ∧
      ∀ a w, R w → S w → Fr a N (dsl ops kn (dps o) ++ (base ++ oldF ops e old)) → Region.wanted o (yielded ops a.tmps) = true ∧
        EStep P o a w fun v w' => ∃ (new : List (Nat × Value)) (Rn S' : World → Prop), R w' ∧ Rn w' ∧ S' w' ∧ keysOk n0 (new ++ (e, v) :: kn) = true ∧
          VAllo P ops N base old (new ++ (e, v) :: kn) (fun w => R w ∧ Rn w) new ∧ RWo P ops Q N base old n0 tail k (E.erase e) (new ++ (e, v) :: kn) (fun w => R w ∧ Rn w) S'
theorem sub_mem {fs' fs : List (Nat × Value)} (h : Sub fs' fs) : ∀ p ∈ fs', look p.1 fs = some p.2 := by
  induction fs' with
  | nil => intro p hp; cases hp
  | cons q r ih =>
    intro p hp
    rcases List.mem_cons.1 hp with rfl | hp
    · exact h.1
    · exact ih h.2 p hp
theorem RWo.zero {kn : List (Nat × Value)} {R S : World → Prop} (hc : chk ops n0 [] kn = true) (hk : keysOk n0 kn = true) (fs : List (Nat × Value)) (hsub : Sub fs (slots ops kn ++ base)) (h : ∀ a w, R w → S w → Fr a N fs → wpList P ops Q tail a w) : RWo P ops Q N base old n0 tail 0 [] kn R S :=
  ⟨rfl, hc, hk, fun a w hR hS hf => h a w hR hS (hf.sub hsub)⟩
theorem RWo.one {k : Nat} {E : List Nat} {kn : List (Nat × Value)} {R S : World → Prop} (e : Nat) {o : Oper} (hc : chk ops n0 E kn = true) (hflt : E.filter (rdy ops kn) = [e]) (ho : ops[e]? = some o) (hd : ∀ d, o.dst = some d → Nat.blt d N = true) (fs : List (Nat × Value)) (hsub : Sub fs (dsl ops kn (dps o) ++ (base ++ oldF ops e old)))
    (h : ∀ a w, R w → S w → Fr a N fs → Region.wanted o (yielded ops a.tmps) = true ∧
        EStep P o a w fun v w' => ∃ (new kn' : List (Nat × Value)) (E' : List Nat) (Rn S' : World → Prop), new ++ (e, v) :: kn = kn' ∧ E.erase e = E' ∧ R w' ∧ Rn w' ∧ S' w' ∧ keysOk n0 kn' = true ∧
          VAllo P ops N base old kn' (fun w => R w ∧ Rn w) new ∧ RWo P ops Q N base old n0 tail k E' kn' (fun w => R w ∧ Rn w) S') : RWo P ops Q N base old n0 tail (k + 1) E kn R S := by
  refine ⟨hc, fun e' he hr => ?_⟩
  have : e' ∈ E.filter (rdy ops kn) := List.mem_filter.2 ⟨he, hr⟩
  rw [hflt] at this
  simp only [List.mem_singleton] at this
  subst this
  refine ⟨o, ho, hd, fun a w hR hS hf => ?_⟩
  obtain ⟨h1, h2⟩ := h a w hR hS (hf.sub hsub)
  refine ⟨h1, ?_⟩
  have mono : ∀ {N1 N2 : Value → World → Prop}, (∀ v w, N1 v w → N2 v w) → EStep P o a w N1 → EStep P o a w N2 := by
    rintro N1 N2 hn (⟨v, w', q1, q2⟩ | ⟨w', q1, q2⟩ | ⟨f, args, q1, q2⟩)
    · exact .inl ⟨v, w', q1, hn _ _ q2⟩
    · exact .inr (.inl ⟨w', q1, hn _ _ q2⟩)
    · exact .inr (.inr ⟨f, args, q1, q2.mono fun e w' ⟨v, q3, q4⟩ => ⟨v, q3, hn _ _ q4⟩⟩)
  refine mono ?_ h2
  rintro v w' ⟨new, kn', E', Rn, S', rfl, rfl, q⟩
  exact ⟨new, Rn, S', q⟩
end
end Go.Sx
