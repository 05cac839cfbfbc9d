/- The words of a symbolic walk: what is known of a frame ('Fr'), of own memory ('St'), and one law for each operation that reads no memory. -/
import Derived.WalkKit
import Derived.KernelRfl
import Derived.Laws.OwnMore
import Derived.Maps.AppendAt
import Derived.WalkLawsBesides
namespace Go.Sx
open Go Go.RowKit
def look (t : Nat) : List (Nat × Value) → Option Value
  | [] => none
  | p :: r => bif Nat.beq t p.1 then some p.2 else look t r
structure Fr (a : Act) (N : Nat) (fs : List (Nat × Value)) : Prop where
  df : a.defers = []
  sz : a.tmps.size = N
  get : ∀ t v, look t fs = some v → a.tmps[t]? = some v
def ev (fs : List (Nat × Value)) : Operand → Option Value
  | .tmp t => look t fs
  | .const v => some v
  | .global g => some (.pointer (some ⟨g, 0, none⟩))
  | .func f => some (.func (.func f) #[] #[])
variable {P : Program} {a : Act} {w w' : World} {N : Nat} {fs : List (Nat × Value)} {ops : Array Oper} {rest : List Oper} {Q : Exit → Act → World → Prop}
theorem Fr.ev {x : Operand} {v : Value} (hf : Fr a N fs) (h : ev fs x = some v) : a.eval x = v := by
  cases x with
  | tmp t => have := hf.get t v h; simp [Act.eval, this]
  | const u => simpa [Sx.ev, Act.eval] using h
  | global g => simpa [Sx.ev, Act.eval] using h
  | func f => simpa [Sx.ev, Act.eval] using h
theorem Fr.put (hf : Fr a N fs) {d : Nat} (v : Value) (hd : Nat.blt d N = true) : Fr (a.put (some d) v) N ((d, v) :: fs) := by
  have hd' : d < N := by simpa [Nat.blt_eq] using hd
  refine ⟨hf.df, by simp [Act.put, hf.sz], fun t u h => ?_⟩
  simp only [look] at h
  cases e : Nat.beq t d with
  | true =>
    have e' : t = d := Nat.eq_of_beq_eq_true e
    rw [e] at h; simp at h; subst h; subst e'
    simp [Act.put, hf.sz, hd']
  | false =>
    have e' : t ≠ d := Nat.ne_of_beq_eq_false e
    rw [e] at h; simp at h
    have := hf.get t u h
    simp [Act.put, e'.symm, this]
def Sub : List (Nat × Value) → List (Nat × Value) → Prop
  | [], _ => True
  | p :: r, fs => look p.1 fs = some p.2 ∧ Sub r fs
theorem look_sub {fs' fs : List (Nat × Value)} (h : Sub fs' fs) : ∀ t v, look t fs' = some v → look t fs = some v := by
  induction fs' with
  | nil => intro t v h; cases h
  | cons p r ih =>
    intro t v ht
    simp only [look] at ht
    cases e : Nat.beq t p.1 with
    | true =>
      have e' : t = p.1 := Nat.eq_of_beq_eq_true e
      rw [e] at ht; simp at ht; subst ht; subst e'
      exact h.1
    | false => rw [e] at ht; simp at ht; exact ih h.2 t v ht
theorem Fr.sub {fs' : List (Nat × Value)} (hf : Fr a N fs) (h : Sub fs' fs) : Fr a N fs' :=
  ⟨hf.df, hf.sz, fun t v ht => hf.get t v (look_sub h t v ht)⟩
def wtB (ops : Array Oper) (fs : List (Nat × Value)) : Option (Nat × Bool) → Bool
  | none => true
  | some (j, b) => match (ops[j]?).bind (·.dst) with
    | some t => match look t fs with
      | some (.bool c) => c == b
      | _ => false
    | none => false
def noB (ops : Array Oper) (fs : List (Nat × Value)) : Option (Nat × Bool) → Bool
  | none => false
  | some (j, b) => match (ops[j]?).bind (·.dst) with
    | some t => match look t fs with
      | some (.bool c) => c != b
      | some (.tuple _) => true
      | _ => false
    | none => false
theorem wanted_yes {o : Oper} (hf : Fr a N fs) (h : wtB ops fs o.guard = true) : Region.wanted o (yielded ops a.tmps) = true := by
  unfold Region.wanted
  cases hg : o.guard with
  | none => rfl
  | some gb =>
    obtain ⟨j, b⟩ := gb
    rw [hg] at h
    simp only [wtB] at h
    simp only [yielded]
    cases ht : (ops[j]?).bind (·.dst) with
    | none => rw [ht] at h; cases h
    | some t =>
      rw [ht] at h
      cases hl : look t fs with
      | none => simp [hl] at h
      | some v =>
        have := hf.get t v hl
        simp only [hl] at h
        cases v <;> simp at h
        rename_i c
        simp [this, h]
theorem wanted_no {o : Oper} (hf : Fr a N fs) (h : noB ops fs o.guard = true) : Region.wanted o (yielded ops a.tmps) = false := by
  unfold Region.wanted
  cases hg : o.guard with
  | none => rw [hg] at h; cases h
  | some gb =>
    obtain ⟨j, b⟩ := gb
    rw [hg] at h
    simp only [noB] at h
    simp only [yielded]
    cases ht : (ops[j]?).bind (·.dst) with
    | none => rw [ht] at h; cases h
    | some t =>
      rw [ht] at h
      cases hl : look t fs with
      | none => simp [hl] at h
      | some v =>
        have := hf.get t v hl
        simp only [hl] at h
        cases v <;> simp at h
        · rename_i c
          simp [this, h]
        · simp [this]
theorem stq {o : Oper} {d : Nat} {v : Value} (hf : Fr a N fs) (hg : wtB ops fs o.guard = true) (hd : o.dst = some d) (hN : Nat.blt d N = true)
    (hv : (execOp a.eval o).run P w = .ok (.value v) w') (K : ∀ a, Fr a N ((d, v) :: fs) → wpList P ops Q rest a w') : wpList P ops Q (o :: rest) a w := by
  unfold wpList
  rw [if_pos (wanted_yes hf hg)]
  refine .inl ?_
  unfold Oper.wp
  rw [hv]
  show wpList P ops Q rest (a.put o.dst v) w'
  rw [hd]
  exact K _ (hf.put v hN)
theorem stepU {o : Oper} (hf : Fr a N fs) (hg : wtB ops fs o.guard = true) (hd : o.dst = none)
    (hv : (execOp a.eval o).run P w = .ok .skip w') (K : wpList P ops Q rest a w') : wpList P ops Q (o :: rest) a w := by
  unfold wpList
  rw [if_pos (wanted_yes hf hg)]
  refine .inl ?_
  unfold Oper.wp
  rw [hv]
  show wpList P ops Q rest (a.put o.dst undef) w'
  rw [hd]
  exact K
theorem stepN {o : Oper} {d : Nat} (hf : Fr a N fs) (hg : noB ops fs o.guard = true) (hd : o.dst = some d) (hN : Nat.blt d N = true)
    (K : ∀ a, Fr a N ((d, undef) :: fs) → wpList P ops Q rest a w) : wpList P ops Q (o :: rest) a w := by
  unfold wpList
  rw [if_neg (by rw [wanted_no hf hg]; simp)]
  rw [hd]
  exact K _ (hf.put undef hN)
theorem stepC {o : Oper} {d : Nat} {f : FuncId} {args : Array Value} {R : Ending → World → Prop} (hf : Fr a N fs) (hg : wtB ops fs o.guard = true) (hd : o.dst = some d) (hN : Nat.blt d N = true)
    (hv : (execOp a.eval o).run P w = .ok (.enter f args) w) (hc : Calls P f args w R)
    (K : ∀ e w', R e w' → ∃ v, e = .returned v ∧ ∀ a, Fr a N ((d, v) :: fs) → wpList P ops Q rest a w') : wpList P ops Q (o :: rest) a w := by
  unfold wpList
  rw [if_pos (wanted_yes hf hg)]
  refine .inl ?_
  unfold Oper.wp
  rw [hv]
  refine hc.mono fun e w' hR => ?_
  obtain ⟨v, rfl, K⟩ := K e w' hR
  show wpList P ops Q rest (a.put o.dst v) w'
  rw [hd]
  exact K _ (hf.put v hN)
theorem region_k {id : Nat} {l : List Oper} (h : ∀ K : Exit → Act → World → Prop, (∀ a w, Q .normal a w → K .normal a w) → wpList P l.toArray K l a w) :
    (Code.region id l.toArray false).wp P Q a w := wp_region_lit (h Q (fun _ _ h => h))
theorem Z.{u} {α : Sort u} {a : α} : a = a := rfl
end Go.Sx
