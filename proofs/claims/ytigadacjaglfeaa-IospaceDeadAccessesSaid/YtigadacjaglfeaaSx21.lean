/- A region whose order is open, its tail waiting for all that stands ahead, through others too. -/
import Derived.Test.YtigadacjaglfeaaSx13
namespace Go.Sx
open Go Go.RowKit
section
variable {P : Program} {ops : Array Oper} {Q : Exit → Act → World → Prop} {N : Nat} {base : List (Nat × Value)} {old : List (Nat × Value × Nat)} {n0 : Nat} {tail : List Oper}
def reachB (ops : Array Oper) : Nat → Nat → Nat → Bool
  | 0, j, i => (dpsAt ops j).contains i
  | f + 1, j, i => (dpsAt ops j).contains i || (dpsAt ops j).any fun q => reachB ops f q i
def tblOk2 (ops : Array Oper) (n0 n : Nat) : Bool :=
  allB (fun j => (dpsAt ops j).all fun i => Nat.blt i j) n && allB (fun j => Nat.blt j n0 || (allB (fun i => reachB ops 3 j i) n0 && (Nat.beq j n0 || (dpsAt ops j).contains (j - 1)))) n
theorem reach_spec {n : Nat} {listed : Array Bool} (hsh : Shut ops n0 listed) (htl : ∀ i, n0 ≤ i → i < n → listed.getD i true = false) (hlow : ∀ q, q < n → ∀ x ∈ dpsAt ops q, x < n) :
    ∀ (f j i : Nat), (∀ x ∈ dpsAt ops j, x < n ∧ listed.getD x true = true) → reachB ops f j i = true → listed.getD i true = true := by
  intro f
  induction f with
  | zero => intro j i hd h; exact (hd i (by simpa [reachB] using h)).2
  | succ f ih =>
    intro j i hd h
    simp only [reachB, Bool.or_eq_true] at h
    rcases h with h | h
    · exact (hd i (by simpa using h)).2
    · obtain ⟨q, hq, h⟩ := List.any_eq_true.1 h
      obtain ⟨h1, h2⟩ := hd q hq
      have hq0 : q < n0 := by
        refine Nat.lt_of_not_le fun hge => ?_
        rw [htl q hge h1] at h2; cases h2
      exact ih q i (fun x hx => ⟨hlow q h1 x hx, hsh q hq0 h2 x hx⟩) h
theorem wp_tail2 {l : List Oper} {n0 : Nat} (ht : tblOk2 l.toArray n0 l.length = true) : ∀ (fuel j : Nat) (listed : Array Bool) (a : Act) (w : World), n0 ≤ j → j ≤ l.length → l.length - j ≤ fuel → listed.size = l.length →
    (∀ i, i < l.length → listed.getD i true = decide (i < j)) → wpList P l.toArray Q (l.drop j) a w → wpAny P .any l.toArray Q fuel listed a w := by
  simp only [tblOk2, Bool.and_eq_true] at ht
  obtain ⟨ht1, ht2⟩ := ht
  intro fuel
  have rd : ∀ (j : Nat) (listed : Array Bool), n0 ≤ j → listed.size = l.length → (∀ i, i < l.length → listed.getD i true = decide (i < j)) → ∀ i, i ∈ Region.ready .any l.toArray listed ↔ i = j ∧ j < l.length := by
    intro j listed hj hs hl i
    rw [ready_spec]
    constructor
    · rintro ⟨h1, o, h2, h3⟩
      have hil : i < l.length := by simpa using (Array.getElem?_eq_some_iff.1 h2).1
      have hij : ¬ i < j := by have := hl i hil; rw [h1] at this; simpa using this.symm
      have h4 := allB_spec ht2 i hil
      have hd : dpsAt l.toArray i = dps o := by simp only [dpsAt, h2]
      rw [hd] at h4
      have hn : Nat.blt i n0 = false := by
        cases e : Nat.blt i n0 with
        | true => rw [Nat.blt_eq] at e; omega
        | false => rfl
      rw [hn, Bool.false_or, Bool.and_eq_true] at h4
      by_cases e : i = j
      · exact ⟨e, by omega⟩
      · have h5 := h4.2
        have hne : Nat.beq i n0 = false := by
          cases e2 : Nat.beq i n0 with
          | true => have := Nat.eq_of_beq_eq_true e2; omega
          | false => rfl
        rw [hne, Bool.false_or] at h5
        have h6 := h3 (i - 1) (by simpa using h5)
        rw [← getD_both (by omega), hl (i - 1) (by omega)] at h6
        simp at h6; omega
    · rintro ⟨rfl, hil⟩
      refine ⟨by rw [hl i hil]; simp, l[i], by simp [hil], fun k hk => ?_⟩
      have h4 := allB_spec ht1 i hil
      have hd : dpsAt l.toArray i = dps l[i] := by simp [dpsAt, hil]
      rw [hd] at h4
      have h5 := List.all_eq_true.1 h4 k hk
      rw [Nat.blt_eq] at h5
      rw [← getD_both (by omega), hl k (by omega)]
      simpa using h5
  induction fuel with
  | zero =>
    intro j listed a w hj hjl hf hs hl h
    have : j = l.length := by omega
    subst this
    refine ⟨List.eq_nil_iff_forall_not_mem.2 fun i hi => ?_, by simpa [wpList] using h⟩
    have := (rd _ _ hj hs hl i).1 hi
    omega
  | succ fuel ih =>
    intro j listed a w hj hjl hf hs hl h
    refine ⟨fun he => ?_, fun i hi => ?_⟩
    · by_cases e : j < l.length
      · have := (rd _ _ hj hs hl j).2 ⟨rfl, e⟩
        rw [he] at this; cases this
      · have : j = l.length := by omega
        subst this
        simpa [wpList] using h
    · obtain ⟨rfl, hil⟩ := (rd _ _ hj hs hl i).1 hi
      have hdrop : l.drop i = l[i] :: l.drop (i + 1) := List.drop_eq_getElem_cons hil
      rw [hdrop] at h
      have ih' := fun a w => ih (i + 1) (listed.setIfInBounds i true) a w (by omega) (by omega) (by omega) (by simp [hs]) (fun k hk => by
        rw [getD_set (by omega), hl k hk]
        by_cases e : i = k
        · subst e; simp
        · rw [if_neg e]
          congr 1
          exact propext ⟨fun _ => by omega, fun _ => by omega⟩)
      unfold wpOp
      have ho : l.toArray[i]? = some l[i] := by simp [hil]
      rw [ho]
      simp only [wpList] at h
      by_cases hw : Region.wanted l[i] (yielded l.toArray a.tmps) = true
      · simp only [hw, if_true] at h ⊢
        exact h.imp (Oper.wp_mono ih') id
      · simp only [hw] at h ⊢
        exact ih' _ _ h
theorem wp_maino2 {l : List Oper} {n0 : Nat} (ht : tblOk2 l.toArray n0 l.length = true) (hdst : dstOk l.toArray base n0 = true) (hok : oldOk l.toArray n0 old = true) (hn0 : n0 ≤ l.length) :
    ∀ (fuel : Nat) (k : Nat) (E : List Nat) (kn : List (Nat × Value)) (R S : World → Prop) (listed : Array Bool) (a : Act) (w : World),
      RWo P l.toArray Q N base old n0 (l.drop n0) k E kn R S → (∀ j v, look j kn = some v → listed.getD j true = false → QVo P l.toArray N base old kn R j v) → R w → S w → Fr a N base → Held l.toArray kn listed a n0 → OldH old listed a → Shut l.toArray n0 listed →
      listed.size = l.length → (∀ i, n0 ≤ i → i < l.length → listed.getD i true = false) → (∀ e ∈ E, listed.getD e true = false ∧ e < n0) → E.Nodup → k = E.length → left listed n0 + (l.length - n0) ≤ fuel →
      wpAny P .any l.toArray Q fuel listed a w := by
  have ht0 := ht
  simp only [tblOk2, Bool.and_eq_true] at ht
  obtain ⟨ht1, ht2⟩ := ht
  have hlen : l.toArray.size = l.length := by simp
  intro fuel
  -- where all of the main part has come up
  have fin : ∀ (fuel k : Nat) (E : List Nat) (kn : List (Nat × Value)) (R S : World → Prop) (listed : Array Bool) (a : Act) (w : World),
      RWo P l.toArray Q N base old n0 (l.drop n0) k E kn R S → R w → S w → Fr a N base → Held l.toArray kn listed a n0 →
      listed.size = l.length → (∀ i, n0 ≤ i → i < l.length → listed.getD i true = false) → (∀ e ∈ E, listed.getD e true = false ∧ e < n0) → k = E.length → left listed n0 = 0 → (l.length - n0) ≤ fuel →
      wpAny P .any l.toArray Q fuel listed a w := by
    intro fuel k E kn R S listed a w h hR hS hf hh hs htl hE hk hl hfu
    have hall := left_zero hl
    have hE0 : E = [] := by
      cases E with
      | nil => rfl
      | cons e r =>
        have := hE e List.mem_cons_self
        have h2 := hall e this.2
        rw [this.1] at h2; cases h2
    subst hE0
    subst hk
    obtain ⟨_, _, hko, hgo⟩ := h
    obtain ⟨k1, k2⟩ := keysOk_spec hko
    refine wp_tail2 ht0 fuel n0 listed a w (Nat.le_refl _) hn0 hfu hs (fun i hi => ?_) (hgo a w hR hS (fr_slots hf hh hall k1 k2))
    by_cases e : i < n0
    · rw [hall i e]; simp [e]
    · rw [htl i (by omega) hi]; simp [e]
  induction fuel with
  | zero =>
    intro k E kn R S listed a w h hQV hR hS hf hh hoh hsh hs htl hE _ hk hfu
    exact fin 0 k E kn R S listed a w h hR hS hf hh hs htl hE hk (by omega) (by omega)
  | succ fuel ih =>
    intro k E kn R S listed a w h hQV hR hS hf hh hoh hsh hs htl hE hnd hk hfu
    by_cases hl0 : left listed n0 = 0
    · exact fin _ k E kn R S listed a w h hR hS hf hh hs htl hE hk hl0 (by omega)
    have hdepslt : ∀ i (hi : i < l.length), ∀ k ∈ dps l[i], k < i := fun i hi k hkk => by
      have h4 := allB_spec ht1 i hi
      have hd : dpsAt l.toArray i = dps l[i] := by simp [dpsAt, hi]
      rw [hd] at h4
      have h5 := List.all_eq_true.1 h4 k hkk
      rwa [Nat.blt_eq] at h5
    refine ⟨fun he => ?_, fun j hjr => ?_⟩
    · exfalso
      obtain ⟨i, h1, h2, h3⟩ := left_pos (listed := listed) (n := n0) (by omega)
      have : i ∈ Region.ready .any l.toArray listed := by
        rw [ready_spec]
        refine ⟨h2, l[i], by simp [show i < l.length by omega], fun k hkk => ?_⟩
        have h5 := hdepslt i (by omega) k hkk
        rw [← getD_both (by omega)]
        exact h3 k h5
      rw [he] at this; cases this
    · rw [ready_spec] at hjr
      obtain ⟨hjl, o, ho, hdeps⟩ := hjr
      have hjlen : j < l.length := by simpa using (Array.getElem?_eq_some_iff.1 ho).1
      have hoj : o = l[j] := by simpa [hjlen] using ho.symm
      have hdo : dpsAt l.toArray j = dps o := by simp only [dpsAt, ho]
      have hdst' : dstAt l.toArray j = o.dst := by simp [dstAt, ho]
      -- it is none of the tail
      have hjn : j < n0 := by
        refine Nat.lt_of_not_le fun hge => ?_
        have h4 := allB_spec ht2 j hjlen
        have hn : Nat.blt j n0 = false := by
          cases e : Nat.blt j n0 with
          | true => rw [Nat.blt_eq] at e; omega
          | false => rfl
        rw [hn, Bool.false_or, Bool.and_eq_true] at h4
        obtain ⟨i, h1, h2, _⟩ := left_pos (listed := listed) (n := n0) (by omega)
        have h5 := allB_spec h4.1 i h1
        have hdl : ∀ x ∈ dpsAt l.toArray j, x < l.length ∧ listed.getD x true = true := fun x hx => by
          rw [hdo] at hx
          have h7 := hdepslt j hjlen x (hoj ▸ hx)
          have h8 := hdeps x hx
          rw [← getD_both (by omega)] at h8
          exact ⟨by omega, h8⟩
        have hlow : ∀ q, q < l.length → ∀ x ∈ dpsAt l.toArray q, x < l.length := fun q hq x hx => by
          have hd : dpsAt l.toArray q = dps l[q] := by simp [dpsAt, hq]
          rw [hd] at hx
          have := hdepslt q hq x hx
          omega
        have h6 := reach_spec (listed := listed) (n := l.length) hsh htl hlow 3 j i hdl h5
        rw [h2] at h6; cases h6
      have hdk : ∀ i ∈ dps o, i < n0 ∧ listed.getD i true = true := fun i hi => by
        have h5 := hdepslt j hjlen i (hoj ▸ hi)
        have := hdeps i hi
        rw [← getD_both (by omega)] at this
        exact ⟨by omega, this⟩
      have hknown : ∀ i ∈ dps o, hasK i kn = true := fun i hi => by
        obtain ⟨v, hv, _⟩ := hh i (hdk i hi).1 (hdk i hi).2
        simp [hasK, hv]
      have hfd := fr_dsl (fr_old (j := j) hf hoh hok hsh hjl) hh (dps o) hdk
      have hoh' := fun v : Value => oldH_put (j := j) (v := v) hdst hok (by omega) hjn hoh
      have hsh' := shut_put (j := j) (by omega) hsh (fun i hi => by rw [hdo] at hi; exact (hdk i hi).2)
      have hlt : left (listed.setIfInBounds j true) n0 + 1 = left listed n0 := by
        have := left_set hjl (by omega) n0
        rwa [if_pos hjn] at this
      have htl' : ∀ i, n0 ≤ i → i < l.length → (listed.setIfInBounds j true).getD i true = false := fun i h1 h2 => by
        rw [getD_set (by omega), if_neg (by omega)]; exact htl i h1 h2
      -- what the table says
      have hchk : chk l.toArray n0 E kn = true := by
        cases k with
        | zero => exact h.2.1
        | succ k => exact h.1
      have hc := allB_spec hchk j hjn
      by_cases hjE : j ∈ E
      · -- it acts
        obtain ⟨k, rfl⟩ : ∃ m, k = m + 1 := by
          refine ⟨k - 1, ?_⟩
          have : 0 < E.length := List.length_pos_of_mem hjE
          omega
        obtain ⟨_, hgo⟩ := h
        obtain ⟨o', ho', hN', hrun⟩ := hgo j hjE (by simp only [rdy, hdo]; exact List.all_eq_true.2 hknown)
        have : o' = o := by rw [ho] at ho'; simpa using ho'.symm
        subst this
        obtain ⟨hw, hst⟩ := hrun a w hR hS hfd
        refine hst.wpOp ho hw fun v w' hnext => ?_
        obtain ⟨new, Rn, S', hR', hRn, hS', hko, hva, hrw⟩ := hnext
        obtain ⟨k1, k2⟩ := keysOk_spec hko
        have hnj : look j kn = none := by
          cases hl : look j kn with
          | none => rfl
          | some u =>
            exfalso
            have hko' := keysOk_tail new hko
            simp only [keysOk, Bool.and_eq_true, hasK, hl] at hko'
            simp at hko'
        have hsub : ∀ i u, look i kn = some u → look i (new ++ (j, v) :: kn) = some u := fun i u hiu => by
          have hm : (i, u) ∈ new ++ (j, v) :: kn := List.mem_append_right _ (List.mem_cons_of_mem _ (look_mem hiu))
          obtain ⟨u', hu'⟩ := look_of_mem hm
          have := k2 _ hm u' hu'
          simp only at this
          rw [this]; exact hu'
        have hjv : look j (new ++ (j, v) :: kn) = some v := by
          have hm : (j, v) ∈ new ++ (j, v) :: kn := List.mem_append_right _ List.mem_cons_self
          obtain ⟨u', hu'⟩ := look_of_mem hm
          have := k2 _ hm u' hu'
          simp only at this
          rw [← this] at hu'; exact hu'
        obtain ⟨hf', hh'⟩ := held_put (a := a) (v := v) hdst (by omega) (by omega) hjn hf (fun d' h' => hN' d' (by rw [← hdst']; exact h')) hh hjv (fun i u _ h => hsub i u h)
        rw [hdst'] at hf' hh' hoh'
        refine ih k (E.erase j) (new ++ (j, v) :: kn) _ S' (listed.setIfInBounds j true) (a.put o'.dst v) w' hrw (fun i u hi hl => ?_) ⟨hR', hRn⟩ hS' hf' hh' (hoh' v) hsh' (by simp [hs]) htl' (fun e he => ?_) (hnd.erase j) (by rw [List.length_erase_of_mem hjE]; omega) (by omega)
        · have hij : i ≠ j := fun e => by
            rw [getD_set (by omega), if_pos e.symm] at hl; cases hl
          have hl' : listed.getD i true = false := by rw [getD_set (by omega), if_neg (fun e => hij e.symm)] at hl; exact hl
          cases hn : look i new with
          | some x =>
            have : x = u := by rw [look_append, hn] at hi; simpa using hi
            subst this
            exact hva.get i x hn
          | none =>
            have hik : look i kn = some u := by rw [look_append, hn, Option.none_or, look_cons_ne hij] at hi; exact hi
            obtain ⟨o2, d2, q1, q2, q3, q4, q5⟩ := hQV i u hik hl'
            refine ⟨o2, d2, q1, q2, q3, ?_, fun a w hr hf => q5 a w hr.1 ?_⟩
            · refine List.all_eq_true.2 fun x hx => ?_
              have := List.all_eq_true.1 q4 x hx
              obtain ⟨y, hy⟩ := Option.isSome_iff_exists.1 this
              rw [hsub x y hy]; rfl
            · rwa [dsl_same q4 hsub] at hf
        · have hne : e ≠ j := fun x => by
            have := hnd.not_mem_erase (a := j)
            exact this (x ▸ he)
          refine ⟨?_, (hE e (List.mem_of_mem_erase he)).2⟩
          rw [getD_set (by omega), if_neg (fun x => hne x.symm)]
          exact (hE e (List.mem_of_mem_erase he)).1
      · -- it is quiet
        have hkj : hasK j kn = true := by
          rcases Bool.or_eq_true _ _ ▸ hc with h1 | h1
          · rcases Bool.or_eq_true _ _ ▸ h1 with h2 | h2
            · exact h2
            · exact absurd (by simpa using h2) hjE
          · exfalso
            rw [hdo] at h1
            obtain ⟨i, hi, hno⟩ := List.any_eq_true.1 h1
            rw [hknown i hi] at hno; cases hno
        obtain ⟨v, hv⟩ := Option.isSome_iff_exists.1 hkj
        obtain ⟨o', d, ho', hd, hN', _, hrun⟩ := hQV j v hv hjl
        have : o' = o := by rw [ho] at ho'; simpa using ho'.symm
        subst this
        obtain ⟨hf', hh'⟩ := held_put (a := a) (v := v) hdst (by omega) (by omega) hjn hf (fun d' h' => by rw [hdst', hd] at h'; simp at h'; subst h'; exact hN') hh hv (fun i u _ h => h)
        rw [hdst'] at hf' hh' hoh'
        have goal := ih k E kn R S (listed.setIfInBounds j true) (a.put o'.dst v) w h (fun i u hi hl => hQV i u hi (by
            rw [getD_set (by omega)] at hl
            by_cases e : j = i
            · rw [if_pos e] at hl; cases hl
            · rwa [if_neg e] at hl)) hR hS hf' hh' (hoh' v) hsh' (by simp [hs]) htl' (fun e he => by
            refine ⟨?_, (hE e he).2⟩
            rw [getD_set (by omega), if_neg (fun x : j = e => hjE (by rw [x]; exact he))]
            exact (hE e he).1) hnd hk (by omega)
        unfold wpOp
        rw [ho]
        rcases hrun a w hR hfd with ⟨hw, hr⟩ | ⟨hw, rfl⟩
        · simp only [hw, if_true]
          refine .inl ?_
          unfold Oper.wp
          rw [hr]
          exact goal
        · simp only [hw, Bool.false_eq_true, if_false]
          exact goal
theorem region_o2 {id : Nat} {l : List Oper} {a : Act} {w : World} {fs : List (Nat × Value)} (hm : P.follows .mixedOrders = true) (n0 : Nat) (base : List (Nat × Value)) (old : List (Nat × Value × Nat)) (kn : List (Nat × Value)) (E : List Nat) (R S : World → Prop) (hf : Fr a N fs) (hsub : Sub base fs) (hso : Sub (old.map fun p => (p.1, p.2.1)) fs)
    (ht : tblOk2 l.toArray n0 l.length = true) (hdst : dstOk l.toArray base n0 = true) (hok : oldOk l.toArray n0 old = true) (hn0 : Nat.ble n0 l.length = true) (hE : E.Nodup ∧ ∀ e ∈ E, e < n0) (hR : R w.drew) (hS : S w.drew) (hva : VAllo P l.toArray N base old kn R kn)
    (h : ∀ K : Exit → Act → World → Prop, (∀ a w, Q .normal a w → K .normal a w) → RWo P l.toArray K N base old n0 (l.drop n0) E.length E kn R S) :
    (Code.region id l.toArray true).wp P Q a w := by
  refine wp_region_any hm ?_
  show wpAny P .any l.toArray Q l.toArray.size (Array.replicate l.toArray.size false) a w.drew
  have hn0' : n0 ≤ l.length := by simpa using hn0
  have hrep : ∀ i, i < l.length → (Array.replicate l.length false).getD i true = false := fun i hi => by simp [Array.getD_eq_getD_getElem?, hi]
  have hz : ∀ n, n ≤ l.length → left (Array.replicate l.length false) n = n := by
    intro n
    induction n with
    | zero => intro _; rfl
    | succ n ih => intro hn; simp only [left, hrep n (by omega)]; rw [ih (by omega)]; simp; omega
  have hsz : l.toArray.size = l.length := by simp
  rw [hsz]
  refine wp_maino2 ht hdst hok hn0' l.length E.length E kn R S _ a w.drew (h Q (fun _ _ h => h)) (fun j v hj _ => hva.get j v hj) hR hS (hf.sub hsub) (fun j hj hl => ?_) (fun p hp _ => ?_) (fun q hq h => ?_) (by simp) (fun i _ hi => hrep i hi) (fun e he => ⟨hrep e (by have := hE.2 e he; omega), hE.2 e he⟩) hE.1 rfl ?_
  · rw [hrep j (by omega)] at hl; cases hl
  · exact hf.get _ _ (sub_mem hso _ (List.mem_map.2 ⟨p, hp, rfl⟩))
  · rw [hrep q (by omega)] at h; cases h
  · rw [hz n0 hn0']; omega
end
end Go.Sx
