/- A region whose order is open where a slot is read and later written inside: what the slot held goes on to hold for those that its writer waits for. -/
import Derived.Test.YtigadacjaglfeaaSx9
namespace Go.Sx
open Go Go.RowKit
section
variable {P : Program} {ops : Array Oper} {Q : Exit → Act → World → Prop} {N : Nat} {base : List (Nat × Value)} {old : List (Nat × Value × Nat)} {n0 : Nat} {tail : List Oper}
/-- what operation j may still read of the slots that are written inside -/
def oldF (ops : Array Oper) (j : Nat) : List (Nat × Value × Nat) → List (Nat × Value)
  | [] => []
  | (t, v, q) :: r => if (dpsAt ops q).contains j then (t, v) :: oldF ops j r else oldF ops j r
def oldOk (ops : Array Oper) (n0 : Nat) (old : List (Nat × Value × Nat)) : Bool := old.all fun p => Nat.blt p.2.2 n0 && dstAt ops p.2.2 == some p.1
def OldH (old : List (Nat × Value × Nat)) (listed : Array Bool) (a : Act) : Prop := ∀ p ∈ old, listed.getD p.2.2 true = false → a.tmps[p.1]? = some p.2.1
def Shut (ops : Array Oper) (n0 : Nat) (listed : Array Bool) : Prop := ∀ q, q < n0 → listed.getD q true = true → ∀ i ∈ dpsAt ops q, listed.getD i true = true
theorem oldF_mem {j : Nat} : ∀ {old : List (Nat × Value × Nat)} {p : Nat × Value}, p ∈ oldF ops j old → ∃ q, (p.1, p.2, q) ∈ old ∧ j ∈ dpsAt ops q
  | [], _, h => by cases h
  | (t, v, q) :: r, p, h => by
    simp only [oldF] at h
    by_cases c : (dpsAt ops q).contains j = true
    · rw [if_pos c] at h
      rcases List.mem_cons.1 h with rfl | h
      · exact ⟨q, List.mem_cons_self, by simpa using c⟩
      · obtain ⟨q', h1, h2⟩ := oldF_mem h; exact ⟨q', List.mem_cons_of_mem _ h1, h2⟩
    · rw [if_neg c] at h
      obtain ⟨q', h1, h2⟩ := oldF_mem h; exact ⟨q', List.mem_cons_of_mem _ h1, h2⟩
theorem fr_old {listed : Array Bool} {a : Act} {j : Nat} (hf : Fr a N base) (ho : OldH old listed a) (hok : oldOk ops n0 old = true) (hs : Shut ops n0 listed) (hj : listed.getD j true = false) : Fr a N (base ++ oldF ops j old) := by
  refine ⟨hf.df, hf.sz, fun t v ht => ?_⟩
  rw [look_append] at ht
  cases hb : look t base with
  | some u => rw [hb] at ht; exact hf.get t v (by rw [hb]; simpa using ht)
  | none =>
    rw [hb, Option.none_or] at ht
    obtain ⟨q, h1, h2⟩ := oldF_mem (look_mem ht)
    refine ho _ h1 ?_
    have hq := List.all_eq_true.1 hok _ h1
    simp only [Bool.and_eq_true, Nat.blt_eq] at hq
    cases c : listed.getD q true with
    | false => rfl
    | true => have := hs q hq.1 c j h2; rw [hj] at this; cases this
theorem oldH_put {listed : Array Bool} {a : Act} {j : Nat} {v : Value} (hdst : dstOk ops base n0 = true) (hok : oldOk ops n0 old = true) (hl : j < listed.size) (hj : j < n0) (ho : OldH old listed a) : OldH old (listed.setIfInBounds j true) (a.put (dstAt ops j) v) := by
  intro p hp hq
  rw [getD_set hl] at hq
  by_cases e : j = p.2.2
  · rw [if_pos e] at hq; cases hq
  · rw [if_neg e] at hq
    have h1 := ho p hp hq
    have hq' := List.all_eq_true.1 hok _ hp
    simp only [Bool.and_eq_true, Nat.blt_eq, beq_iff_eq] at hq'
    cases hd : dstAt ops j with
    | none => simpa [Act.put] using h1
    | some d =>
      have hne : d ≠ p.1 := by
        intro hdd
        have hdj := allB_spec hdst
        rcases Nat.lt_or_gt_of_ne e with hlt | hlt
        · have := hdj p.2.2 hq'.1; rw [hq'.2] at this; simp only [Bool.and_eq_true] at this
          have := allB_spec this.2 j hlt; simp [hd, hdd] at this
        · have := hdj j hj; rw [hd] at this; simp only [Bool.and_eq_true] at this
          have := allB_spec this.2 p.2.2 hlt; simp [hq'.2, hdd] at this
      simp [Act.put, hne, h1]
theorem shut_put {listed : Array Bool} {j : Nat} (hl : j < listed.size) (hs : Shut ops n0 listed) (hd : ∀ i ∈ dpsAt ops j, listed.getD i true = true) : Shut ops n0 (listed.setIfInBounds j true) := by
  intro q hq h i hi
  rw [getD_set hl] at h ⊢
  by_cases e : j = i
  · rw [if_pos e]
  · rw [if_neg e]
    by_cases e2 : j = q
    · subst e2; exact hd i hi
    · rw [if_neg e2] at h; exact hs q hq h i hi
/-- a quiet operation: its value, wherever it comes up -/
def QVo (P : Program) (ops : Array Oper) (N : Nat) (base : List (Nat × Value)) (old : List (Nat × Value × Nat)) (kn : List (Nat × Value)) (R : World → Prop) (j : Nat) (v : Value) : Prop :=
  ∃ o d, ops[j]? = some o ∧ o.dst = some d ∧ Nat.blt d N = true ∧ ((dps o).all fun i => (look i kn).isSome) = true ∧
    ∀ a w, R w → Fr a N (dsl ops kn (dps o) ++ (base ++ oldF ops j old)) →
      (Region.wanted o (yielded ops a.tmps) = true ∧ (execOp a.eval o).run P w = .ok (.value v) w) ∨ (Region.wanted o (yielded ops a.tmps) = false ∧ v = undef)

inductive VAllo (P : Program) (ops : Array Oper) (N : Nat) (base : List (Nat × Value)) (old : List (Nat × Value × Nat)) (kn : List (Nat × Value)) (R : World → Prop) : List (Nat × Value) → Prop where
  | nil : VAllo P ops N base old kn R []
  | cons {j : Nat} {v : Value} {r : List (Nat × Value)} : QVo P ops N base old kn R j v → VAllo P ops N base old kn R r → VAllo P ops N base old kn R ((j, v) :: r)

theorem VAllo.get {kn : List (Nat × Value)} {R : World → Prop} {l : List (Nat × Value)} (h : VAllo P ops N base old kn R l) : ∀ j v, look j l = some v → QVo P ops N base old kn R j v := by
  induction h with
  | nil => intro j v h; cases h
  | @cons j v r hq _ ih =>
    intro i u hi
    simp only [look] at hi
    cases e : Nat.beq i j with
    | true =>
      have e' : i = j := Nat.eq_of_beq_eq_true e
      rw [e] at hi; simp at hi; subst hi; subst e'; exact hq
    | false => rw [e] at hi; simp at hi; exact ih i u hi

def RWo (P : Program) (ops : Array Oper) (Q : Exit → Act → World → Prop) (N : Nat) (base : List (Nat × Value)) (old : List (Nat × Value × Nat)) (n0 : Nat) (tail : List Oper) : Nat → List Nat → List (Nat × Value) → (World → Prop) → (World → Prop) → Prop
  | 0, E, kn, R, S => E = [] ∧ chk ops n0 E kn = true ∧ keysOk n0 kn = true ∧ ∀ a w, R w → S w → Fr a N (slots ops kn ++ base) → wpList P ops Q tail a w
  | k + 1, E, kn, R, S => chk ops n0 E kn = true ∧ ∀ e ∈ E, rdy ops kn e = true → ∃ o, ops[e]? = some o ∧ (∀ d, o.dst = some d → Nat.blt d N = true) ∧
      ∀ a w, R w → S w → Fr a N (dsl ops kn (dps o) ++ (base ++ oldF ops e old)) → Region.wanted o (yielded ops a.tmps) = true ∧
        EStep P o a w fun v w' => ∃ (new : List (Nat × Value)) (Rn S' : World → Prop), R w' ∧ Rn w' ∧ S' w' ∧ keysOk n0 (new ++ (e, v) :: kn) = true ∧
          VAllo P ops N base old (new ++ (e, v) :: kn) (fun w => R w ∧ Rn w) new ∧ RWo P ops Q N base old n0 tail k (E.erase e) (new ++ (e, v) :: kn) (fun w => R w ∧ Rn w) S'

theorem sub_mem {fs' fs : List (Nat × Value)} (h : Sub fs' fs) : ∀ p ∈ fs', look p.1 fs = some p.2 := by
  induction fs' with
  | nil => intro p hp; cases hp
  | cons q r ih =>
    intro p hp
    rcases List.mem_cons.1 hp with rfl | hp
    · exact h.1
    · exact ih h.2 p hp
theorem wp_maino {l : List Oper} {n0 : Nat} (ht : tblOk l.toArray n0 l.length = true) (hdst : dstOk l.toArray base n0 = true) (hok : oldOk l.toArray n0 old = true) (hn0 : n0 ≤ l.length) :
    ∀ (fuel : Nat) (k : Nat) (E : List Nat) (kn : List (Nat × Value)) (R S : World → Prop) (listed : Array Bool) (a : Act) (w : World),
      RWo P l.toArray Q N base old n0 (l.drop n0) k E kn R S → (∀ j v, look j kn = some v → listed.getD j true = false → QVo P l.toArray N base old kn R j v) → R w → S w → Fr a N base → Held l.toArray kn listed a n0 → OldH old listed a → Shut l.toArray n0 listed →
      listed.size = l.length → (∀ i, n0 ≤ i → i < l.length → listed.getD i true = false) → (∀ e ∈ E, listed.getD e true = false ∧ e < n0) → E.Nodup → k = E.length → left listed n0 + (l.length - n0) ≤ fuel →
      wpAny P .any l.toArray Q fuel listed a w := by
  have ht0 := ht
  simp only [tblOk, Bool.and_eq_true] at ht
  obtain ⟨ht1, ht2⟩ := ht
  have hlen : l.toArray.size = l.length := by simp
  intro fuel
  -- where all of the main part has come up
  have fin : ∀ (fuel k : Nat) (E : List Nat) (kn : List (Nat × Value)) (R S : World → Prop) (listed : Array Bool) (a : Act) (w : World),
      RWo P l.toArray Q N base old n0 (l.drop n0) k E kn R S → R w → S w → Fr a N base → Held l.toArray kn listed a n0 →
      listed.size = l.length → (∀ i, n0 ≤ i → i < l.length → listed.getD i true = false) → (∀ e ∈ E, listed.getD e true = false ∧ e < n0) → k = E.length → left listed n0 = 0 → (l.length - n0) ≤ fuel →
      wpAny P .any l.toArray Q fuel listed a w := by
    intro fuel k E kn R S listed a w h hR hS hf hh hs htl hE hk hl hfu
    have hall := left_zero hl
    have hE0 : E = [] := by
      cases E with
      | nil => rfl
      | cons e r =>
        have := hE e List.mem_cons_self
        have h2 := hall e this.2
        rw [this.1] at h2; cases h2
    subst hE0
    subst hk
    obtain ⟨_, _, hko, hgo⟩ := h
    obtain ⟨k1, k2⟩ := keysOk_spec hko
    refine wp_tail ht0 fuel n0 listed a w (Nat.le_refl _) hn0 hfu hs (fun i hi => ?_) (hgo a w hR hS (fr_slots hf hh hall k1 k2))
    by_cases e : i < n0
    · rw [hall i e]; simp [e]
    · rw [htl i (by omega) hi]; simp [e]
  induction fuel with
  | zero =>
    intro k E kn R S listed a w h hQV hR hS hf hh hoh hsh hs htl hE _ hk hfu
    exact fin 0 k E kn R S listed a w h hR hS hf hh hs htl hE hk (by omega) (by omega)
  | succ fuel ih =>
    intro k E kn R S listed a w h hQV hR hS hf hh hoh hsh hs htl hE hnd hk hfu
    by_cases hl0 : left listed n0 = 0
    · exact fin _ k E kn R S listed a w h hR hS hf hh hs htl hE hk hl0 (by omega)
    have hdepslt : ∀ i (hi : i < l.length), ∀ k ∈ dps l[i], k < i := fun i hi k hkk => by
      have h4 := allB_spec ht1 i hi
      have hd : dpsAt l.toArray i = dps l[i] := by simp [dpsAt, hi]
      rw [hd] at h4
      have h5 := List.all_eq_true.1 h4 k hkk
      rwa [Nat.blt_eq] at h5
    refine ⟨fun he => ?_, fun j hjr => ?_⟩
    · exfalso
      obtain ⟨i, h1, h2, h3⟩ := left_pos (listed := listed) (n := n0) (by omega)
      have : i ∈ Region.ready .any l.toArray listed := by
        rw [ready_spec]
        refine ⟨h2, l[i], by simp [show i < l.length by omega], fun k hkk => ?_⟩
        have h5 := hdepslt i (by omega) k hkk
        rw [← getD_both (by omega)]
        exact h3 k h5
      rw [he] at this; cases this
    · rw [ready_spec] at hjr
      obtain ⟨hjl, o, ho, hdeps⟩ := hjr
      have hjlen : j < l.length := by simpa using (Array.getElem?_eq_some_iff.1 ho).1
      have hoj : o = l[j] := by simpa [hjlen] using ho.symm
      have hdo : dpsAt l.toArray j = dps o := by simp only [dpsAt, ho]
      have hdst' : dstAt l.toArray j = o.dst := by simp [dstAt, ho]
      -- it is none of the tail
      have hjn : j < n0 := by
        refine Nat.lt_of_not_le fun hge => ?_
        have h4 := allB_spec ht2 j hjlen
        have hn : Nat.blt j n0 = false := by
          cases e : Nat.blt j n0 with
          | true => rw [Nat.blt_eq] at e; omega
          | false => rfl
        rw [hn, Bool.false_or, hdo, Bool.and_eq_true] at h4
        obtain ⟨i, h1, h2, _⟩ := left_pos (listed := listed) (n := n0) (by omega)
        have h5 := allB_spec h4.1 i h1
        have h6 := hdeps i (by simpa using h5)
        rw [← getD_both (by omega), h2] at h6; cases h6
      have hdk : ∀ i ∈ dps o, i < n0 ∧ listed.getD i true = true := fun i hi => by
        have h5 := hdepslt j hjlen i (hoj ▸ hi)
        have := hdeps i hi
        rw [← getD_both (by omega)] at this
        exact ⟨by omega, this⟩
      have hknown : ∀ i ∈ dps o, hasK i kn = true := fun i hi => by
        obtain ⟨v, hv, _⟩ := hh i (hdk i hi).1 (hdk i hi).2
        simp [hasK, hv]
      have hfd := fr_dsl (fr_old (j := j) hf hoh hok hsh hjl) hh (dps o) hdk
      have hoh' := fun v : Value => oldH_put (j := j) (v := v) hdst hok (by omega) hjn hoh
      have hsh' := shut_put (j := j) (by omega) hsh (fun i hi => by rw [hdo] at hi; exact (hdk i hi).2)
      have hlt : left (listed.setIfInBounds j true) n0 + 1 = left listed n0 := by
        have := left_set hjl (by omega) n0
        rwa [if_pos hjn] at this
      have htl' : ∀ i, n0 ≤ i → i < l.length → (listed.setIfInBounds j true).getD i true = false := fun i h1 h2 => by
        rw [getD_set (by omega), if_neg (by omega)]; exact htl i h1 h2
      -- what the table says
      have hchk : chk l.toArray n0 E kn = true := by
        cases k with
        | zero => exact h.2.1
        | succ k => exact h.1
      have hc := allB_spec hchk j hjn
      by_cases hjE : j ∈ E
      · -- it acts
        obtain ⟨k, rfl⟩ : ∃ m, k = m + 1 := by
          refine ⟨k - 1, ?_⟩
          have : 0 < E.length := List.length_pos_of_mem hjE
          omega
        obtain ⟨_, hgo⟩ := h
        obtain ⟨o', ho', hN', hrun⟩ := hgo j hjE (by simp only [rdy, hdo]; exact List.all_eq_true.2 hknown)
        have : o' = o := by rw [ho] at ho'; simpa using ho'.symm
        subst this
        obtain ⟨hw, hst⟩ := hrun a w hR hS hfd
        refine hst.wpOp ho hw fun v w' hnext => ?_
        obtain ⟨new, Rn, S', hR', hRn, hS', hko, hva, hrw⟩ := hnext
        obtain ⟨k1, k2⟩ := keysOk_spec hko
        have hnj : look j kn = none := by
          cases hl : look j kn with
          | none => rfl
          | some u =>
            exfalso
            have hko' := keysOk_tail new hko
            simp only [keysOk, Bool.and_eq_true, hasK, hl] at hko'
            simp at hko'
        have hsub : ∀ i u, look i kn = some u → look i (new ++ (j, v) :: kn) = some u := fun i u hiu => by
          have hm : (i, u) ∈ new ++ (j, v) :: kn := List.mem_append_right _ (List.mem_cons_of_mem _ (look_mem hiu))
          obtain ⟨u', hu'⟩ := look_of_mem hm
          have := k2 _ hm u' hu'
          simp only at this
          rw [this]; exact hu'
        have hjv : look j (new ++ (j, v) :: kn) = some v := by
          have hm : (j, v) ∈ new ++ (j, v) :: kn := List.mem_append_right _ List.mem_cons_self
          obtain ⟨u', hu'⟩ := look_of_mem hm
          have := k2 _ hm u' hu'
          simp only at this
          rw [← this] at hu'; exact hu'
        obtain ⟨hf', hh'⟩ := held_put (a := a) (v := v) hdst (by omega) (by omega) hjn hf (fun d' h' => hN' d' (by rw [← hdst']; exact h')) hh hjv (fun i u _ h => hsub i u h)
        rw [hdst'] at hf' hh' hoh'
        refine ih k (E.erase j) (new ++ (j, v) :: kn) _ S' (listed.setIfInBounds j true) (a.put o'.dst v) w' hrw (fun i u hi hl => ?_) ⟨hR', hRn⟩ hS' hf' hh' (hoh' v) hsh' (by simp [hs]) htl' (fun e he => ?_) (hnd.erase j) (by rw [List.length_erase_of_mem hjE]; omega) (by omega)
        · have hij : i ≠ j := fun e => by
            rw [getD_set (by omega), if_pos e.symm] at hl; cases hl
          have hl' : listed.getD i true = false := by rw [getD_set (by omega), if_neg (fun e => hij e.symm)] at hl; exact hl
          cases hn : look i new with
          | some x =>
            have : x = u := by rw [look_append, hn] at hi; simpa using hi
            subst this
            exact hva.get i x hn
          | none =>
            have hik : look i kn = some u := by rw [look_append, hn, Option.none_or, look_cons_ne hij] at hi; exact hi
            obtain ⟨o2, d2, q1, q2, q3, q4, q5⟩ := hQV i u hik hl'
            refine ⟨o2, d2, q1, q2, q3, ?_, fun a w hr hf => q5 a w hr.1 ?_⟩
            · refine List.all_eq_true.2 fun x hx => ?_
              have := List.all_eq_true.1 q4 x hx
              obtain ⟨y, hy⟩ := Option.isSome_iff_exists.1 this
              rw [hsub x y hy]; rfl
            · rwa [dsl_same q4 hsub] at hf
        · have hne : e ≠ j := fun x => by
            have := hnd.not_mem_erase (a := j)
            exact this (x ▸ he)
          refine ⟨?_, (hE e (List.mem_of_mem_erase he)).2⟩
          rw [getD_set (by omega), if_neg (fun x => hne x.symm)]
          exact (hE e (List.mem_of_mem_erase he)).1
      · -- it is quiet
        have hkj : hasK j kn = true := by
          rcases Bool.or_eq_true _ _ ▸ hc with h1 | h1
          · rcases Bool.or_eq_true _ _ ▸ h1 with h2 | h2
            · exact h2
            · exact absurd (by simpa using h2) hjE
          · exfalso
            rw [hdo] at h1
            obtain ⟨i, hi, hno⟩ := List.any_eq_true.1 h1
            rw [hknown i hi] at hno; cases hno
        obtain ⟨v, hv⟩ := Option.isSome_iff_exists.1 hkj
        obtain ⟨o', d, ho', hd, hN', _, hrun⟩ := hQV j v hv hjl
        have : o' = o := by rw [ho] at ho'; simpa using ho'.symm
        subst this
        obtain ⟨hf', hh'⟩ := held_put (a := a) (v := v) hdst (by omega) (by omega) hjn hf (fun d' h' => by rw [hdst', hd] at h'; simp at h'; subst h'; exact hN') hh hv (fun i u _ h => h)
        rw [hdst'] at hf' hh' hoh'
        have goal := ih k E kn R S (listed.setIfInBounds j true) (a.put o'.dst v) w h (fun i u hi hl => hQV i u hi (by
            rw [getD_set (by omega)] at hl
            by_cases e : j = i
            · rw [if_pos e] at hl; cases hl
            · rwa [if_neg e] at hl)) hR hS hf' hh' (hoh' v) hsh' (by simp [hs]) htl' (fun e he => by
            refine ⟨?_, (hE e he).2⟩
            rw [getD_set (by omega), if_neg (fun x : j = e => hjE (by rw [x]; exact he))]
            exact (hE e he).1) hnd hk (by omega)
        unfold wpOp
        rw [ho]
        rcases hrun a w hR hfd with ⟨hw, hr⟩ | ⟨hw, rfl⟩
        · simp only [hw, if_true]
          refine .inl ?_
          unfold Oper.wp
          rw [hr]
          exact goal
        · simp only [hw, Bool.false_eq_true, if_false]
          exact goal

/-- A region whose order is open. -/
theorem region_o {id : Nat} {l : List Oper} {a : Act} {w : World} {fs : List (Nat × Value)} (hm : P.follows .mixedOrders = true) (n0 : Nat) (base : List (Nat × Value)) (old : List (Nat × Value × Nat)) (kn : List (Nat × Value)) (E : List Nat) (R S : World → Prop) (hf : Fr a N fs) (hsub : Sub base fs) (hso : Sub (old.map fun p => (p.1, p.2.1)) fs)
    (ht : tblOk l.toArray n0 l.length = true) (hdst : dstOk l.toArray base n0 = true) (hok : oldOk l.toArray n0 old = true) (hn0 : Nat.ble n0 l.length = true) (hE : E.Nodup ∧ ∀ e ∈ E, e < n0) (hR : R w.drew) (hS : S w.drew) (hva : VAllo P l.toArray N base old kn R kn)
    (h : ∀ K : Exit → Act → World → Prop, (∀ a w, Q .normal a w → K .normal a w) → RWo P l.toArray K N base old n0 (l.drop n0) E.length E kn R S) :
    (Code.region id l.toArray true).wp P Q a w := by
  refine wp_region_any hm ?_
  show wpAny P .any l.toArray Q l.toArray.size (Array.replicate l.toArray.size false) a w.drew
  have hn0' : n0 ≤ l.length := by simpa using hn0
  have hrep : ∀ i, i < l.length → (Array.replicate l.length false).getD i true = false := fun i hi => by simp [Array.getD_eq_getD_getElem?, hi]
  have hz : ∀ n, n ≤ l.length → left (Array.replicate l.length false) n = n := by
    intro n
    induction n with
    | zero => intro _; rfl
    | succ n ih => intro hn; simp only [left, hrep n (by omega)]; rw [ih (by omega)]; simp; omega
  have hsz : l.toArray.size = l.length := by simp
  rw [hsz]
  refine wp_maino ht hdst hok hn0' l.length E.length E kn R S _ a w.drew (h Q (fun _ _ h => h)) (fun j v hj _ => hva.get j v hj) hR hS (hf.sub hsub) (fun j hj hl => ?_) (fun p hp _ => ?_) (fun q hq h => ?_) (by simp) (fun i _ hi => hrep i hi) (fun e he => ⟨hrep e (by have := hE.2 e he; omega), hE.2 e he⟩) hE.1 rfl ?_
  · rw [hrep j (by omega)] at hl; cases hl
  · exact hf.get _ _ (sub_mem hso _ (List.mem_map.2 ⟨p, hp, rfl⟩))
  · rw [hrep q (by omega)] at h; cases h
  · rw [hz n0 hn0']; omega
theorem RWo.zero {kn : List (Nat × Value)} {R S : World → Prop} (hc : chk ops n0 [] kn = true) (hk : keysOk n0 kn = true) (fs : List (Nat × Value)) (hsub : Sub fs (slots ops kn ++ base)) (h : ∀ a w, R w → S w → Fr a N fs → wpList P ops Q tail a w) : RWo P ops Q N base old n0 tail 0 [] kn R S :=
  ⟨rfl, hc, hk, fun a w hR hS hf => h a w hR hS (hf.sub hsub)⟩

theorem RWo.one {k : Nat} {E : List Nat} {kn : List (Nat × Value)} {R S : World → Prop} (e : Nat) {o : Oper} (hc : chk ops n0 E kn = true) (hflt : E.filter (rdy ops kn) = [e]) (ho : ops[e]? = some o) (hd : ∀ d, o.dst = some d → Nat.blt d N = true) (fs : List (Nat × Value)) (hsub : Sub fs (dsl ops kn (dps o) ++ (base ++ oldF ops e old)))
    (h : ∀ a w, R w → S w → Fr a N fs → Region.wanted o (yielded ops a.tmps) = true ∧
        EStep P o a w fun v w' => ∃ (new kn' : List (Nat × Value)) (E' : List Nat) (Rn S' : World → Prop), new ++ (e, v) :: kn = kn' ∧ E.erase e = E' ∧ R w' ∧ Rn w' ∧ S' w' ∧ keysOk n0 kn' = true ∧
          VAllo P ops N base old kn' (fun w => R w ∧ Rn w) new ∧ RWo P ops Q N base old n0 tail k E' kn' (fun w => R w ∧ Rn w) S') : RWo P ops Q N base old n0 tail (k + 1) E kn R S := by
  refine ⟨hc, fun e' he hr => ?_⟩
  have : e' ∈ E.filter (rdy ops kn) := List.mem_filter.2 ⟨he, hr⟩
  rw [hflt] at this
  simp only [List.mem_singleton] at this
  subst this
  refine ⟨o, ho, hd, fun a w hR hS hf => ?_⟩
  obtain ⟨h1, h2⟩ := h a w hR hS (hf.sub hsub)
  refine ⟨h1, ?_⟩
  have mono : ∀ {N1 N2 : Value → World → Prop}, (∀ v w, N1 v w → N2 v w) → EStep P o a w N1 → EStep P o a w N2 := by
    rintro N1 N2 hn (⟨v, w', q1, q2⟩ | ⟨w', q1, q2⟩ | ⟨f, args, q1, q2⟩)
    · exact .inl ⟨v, w', q1, hn _ _ q2⟩
    · exact .inr (.inl ⟨w', q1, hn _ _ q2⟩)
    · exact .inr (.inr ⟨f, args, q1, q2.mono fun e w' ⟨v, q3, q4⟩ => ⟨v, q3, hn _ _ q4⟩⟩)
  refine mono ?_ h2
  rintro v w' ⟨new, kn', E', Rn, S', rfl, rfl, q⟩
  exact ⟨new, Rn, S', q⟩
end
end Go.Sx
