/- The words of a symbolic walk: what an argument is that reads as data. -/
import Derived.Test.YtigadacjaglfeaaSx9
import Derived.Deep.Slices
import Derived.Deep.Fields
import Derived.ChangeSame
import Derived.WideShapes
namespace Go.Sx
open Go Go.RowKit Go.ChangeShapes Go.WideShapes Go.Deep
variable {S : Type} {K : EK S} {P : Program} {W : World} {wf : S → Prop}
def inK (k : IntKind) (n : Int) : Prop := k.min ≤ n ∧ n ≤ k.max
theorem inK_of {k : IntKind} {n : Int} (h : (Lit.int k n).wf = true) : inK k n := by simpa [Lit.wf, inK] using h
theorem inK_u64 {n : Int} (h : inK .u64 n) : 0 ≤ n ∧ n < 18446744073709551616 := by have h1 : (0 : Int) ≤ n := h.1; have h2 : n ≤ 18446744073709551615 := h.2; omega
def RdI (P : Program) (K : EK S) (wf : S → Prop) : Prop :=
  P.cellsOf K.E = K.sz ∧ ∀ {H : Type} (enc : TypeId × Value → H) (w : World) (base : Nat) (spare : Nat → Bool) (held : Bool) (n : Nat) (cs : List Value) (x : DataW H × List MemPlace),
    DataW.trod enc P w base spare held n K.E cs = some x → ∃ s, K.enc s = cs ∧ wf s
section
variable {H : Type} {enc : TypeId × Value → H} {w : World} {base : Nat} {spare : Nat → Bool} {held : Bool} {n o : Nat} {t : TypeId} {cs : List Value}
theorem fld_int {k : IntKind} {y : Option (DataW H × List MemPlace)} {c : Value} (h : DataW.trod enc P w base spare held n t ((cs.drop o).take (P.cellsOf t)) = y) (hy : y.isSome) (hu : P.underlying t = some (.int k)) (hc : cs[o]? = some c) (hz : P.cellsOf t = 1) :
    ∃ m, c = .int k m ∧ inK k m := by
  obtain ⟨y, rfl⟩ := Option.isSome_iff_exists.1 hy
  obtain ⟨m, e, _, hw⟩ := DataW.trod_int hu h
  obtain ⟨hlt, e2⟩ := List.getElem?_eq_some_iff.1 hc
  rw [hz, List.drop_eq_getElem_cons hlt, List.take_succ_cons, List.take_zero, e2] at e
  refine ⟨m, ?_, inK_of hw⟩
  simpa using e
theorem fld_bool {y : Option (DataW H × List MemPlace)} {c : Value} (h : DataW.trod enc P w base spare held n t ((cs.drop o).take (P.cellsOf t)) = y) (hy : y.isSome) (hu : P.underlying t = some .bool) (hc : cs[o]? = some c) (hz : P.cellsOf t = 1) :
    ∃ m, c = .bool m := by
  obtain ⟨y, rfl⟩ := Option.isSome_iff_exists.1 hy
  obtain ⟨m, e, _⟩ := DataW.trod_bool hu h
  obtain ⟨hlt, e2⟩ := List.getElem?_eq_some_iff.1 hc
  rw [hz, List.drop_eq_getElem_cons hlt, List.take_succ_cons, List.take_zero, e2] at e
  refine ⟨m, ?_⟩
  simpa using e
end
theorem cell_lt {a : Addr} {v : Value} (h : W.cell? a = some v) : a.block < W.heap.size := by
  unfold World.cell? at h
  cases hb : W.heap[a.block]? with
  | none => rw [hb] at h; cases h
  | some b => exact (Array.getElem?_eq_some_iff.1 hb).1
theorem sla_of {A : Addr} {n c : Nat} (j : Nat) : (sla (.slice (some A) n c) j) = A.add j := rfl
variable {H : Type} {enc : TypeId × Value → H} {base : Nat} {spare : Nat → Bool} {held : Bool}
theorem open_rsl0 (hK : RdI P K wf) {t : TypeId} {fuel : Nat} {v : Value} {x : DataW H × List MemPlace} (ht : P.underlying t = some (.slice K.E)) (h : DataW.trod enc P W base spare held fuel t [v] = some x) (hsp : ∀ b, spare b = true) :
    ∃ xs : List S, (rsl K v xs).ok W ∧ (∀ x ∈ xs, wf x) ∧ (∀ b, (rsl K v xs).fs b → b < W.heap.size) ∧ xs.length ≤ maxLen := by
  rcases open_slice ht h with ⟨h0, _⟩ | ⟨A, len, cap, m, n, D, Pl, hcs, hb, hl, hm, hmm, hx, hi⟩
  · obtain rfl : v = .slice none 0 0 := by simpa using h0
    exact ⟨[], nil_rsl K W, (fun _ h => by cases h), (fun b h => absurd h (nil_fs b)), Nat.zero_le _⟩
  · obtain rfl : v = .slice (some A) len cap := by simpa using hcs
    rw [hsp, if_pos rfl] at hmm
    subst hmm
    have hex : ∀ i, i < len → ∃ s, wf s ∧ ∀ j, j < K.sz → W.cell? (A.add (i * K.sz + j)) = (K.enc s)[j]? := by
      intro i him
      obtain ⟨cs', h1, h2⟩ := hi i (by omega)
      obtain ⟨s, rfl, hw⟩ := hK.2 enc W base spare held n cs' _ h2
      obtain ⟨_, hcl, hat⟩ := World.cells?_some h1
      refine ⟨s, hw, fun j hj => ?_⟩
      have := hat j (by rw [hK.1]; exact hj)
      rw [hK.1, Go.Deep.add_add] at this
      exact this
    let f : Nat → S := fun i => if h : i < len then Classical.choose (hex i h) else K.z
    have hf : ∀ i, i < len → wf (f i) ∧ ∀ j, j < K.sz → W.cell? (A.add (i * K.sz + j)) = (K.enc (f i))[j]? := by
      intro i hil
      have := Classical.choose_spec (hex i hil)
      simp only [f, dif_pos hil]
      exact this
    have hlen : ((List.range len).map f).length = len := by simp
    refine ⟨(List.range len).map f, ⟨⟨some A, m, by rw [hlen], by rw [hlen]; exact hl, fun h => by cases h⟩, fun j u hu => ?_⟩, ?_, ?_, by rw [hlen]; omega⟩
    · have hjl := (List.getElem?_eq_some_iff.1 hu).1
      rw [flatMap_length, hlen] at hjl
      have hp := K.pos
      have hk : j / K.sz < len := Nat.div_lt_of_lt_mul (by rw [Nat.mul_comm]; exact hjl)
      have hr : j % K.sz < K.sz := Nat.mod_lt _ hp
      have hj : j = j / K.sz * K.sz + j % K.sz := by rw [Nat.mul_comm]; exact (Nat.div_add_mod j K.sz).symm
      have e := flat_get (K := K) ((List.range len).map f) (j / K.sz) (j % K.sz) (by rw [hlen]; exact hk) hr
      rw [← hj, hu] at e
      have e2 : ((List.range len).map f).getD (j / K.sz) K.z = f (j / K.sz) := by
        simp [List.getD, List.getElem?_map, List.getElem?_range hk]
      rw [e2, ← (hf _ hk).2 _ hr, ← hj] at e
      rw [sla_of]; exact e.symm
    · intro x hx
      obtain ⟨i, hi', rfl⟩ := List.mem_map.1 hx
      exact (hf i (List.mem_range.1 hi')).1
    · rintro b ⟨hb1, hb2⟩
      rw [hlen] at hb2
      have hcl : A.block = b := by simpa [Value.ownBlock] using hb1
      have h0 := (hf 0 hb2).2 0 K.pos
      have hl0 : 0 < (K.enc (f 0)).length := by rw [K.len]; exact K.pos
      rw [List.getElem?_eq_getElem hl0] at h0
      have := cell_lt h0
      rw [← hcl]
      simpa [Addr.add] using this
theorem open_rsl (hK : RdI P K wf) {t : TypeId} {v : Value} {d : DataW H} {p : List MemPlace} (ht : P.underlying t = some (.slice K.E)) (h : DataW.Trod enc P W base (fun _ => true) held t v d p) {r : Reach} {b0 : Nat} (hv : Value.okWide P W r b0 t v) :
    ∃ xs : List S, (rsl K v xs).ok W ∧ (∀ x ∈ xs, wf x) ∧ (∀ b, (rsl K v xs).fs b → b < W.heap.size) ∧ xs.length ≤ maxLen := by
  obtain ⟨a, len, cap, rfl⟩ := okWide_slice ht hv
  obtain ⟨fuel, hf⟩ := h
  exact open_rsl0 hK ht (by simpa [Value.cells] using hf) (fun _ => rfl)
theorem open_flat (hK : RdI P K wf) {fs : Array Field} {v : Value} {d : DataW H} {p : List MemPlace} (ht : P.underlying K.E = some (.struct fs)) (h : DataW.Trod enc P W base (fun _ => true) held K.E v d p) {r : Reach} {b0 : Nat} (hv : Value.okWide P W r b0 K.E v) :
    ∃ s : S, v = .agg (K.enc s).toArray ∧ wf s := by
  obtain ⟨cs, rfl, _⟩ := okWide_struct ht hv
  obtain ⟨fuel, hf⟩ := h
  obtain ⟨s, hs, hw⟩ := hK.2 enc W base _ held fuel _ _ hf
  refine ⟨s, ?_, hw⟩
  rw [hs]
  simp [Value.cells]
theorem isSome_of {α : Type} {xs : List α} {n i : Nat} (h : xs.length = n) (hi : i < n) : xs[i]?.isSome := by simp [List.getElem?_eq_getElem (show i < xs.length by omega)]
theorem len_le {n : Nat} (h : n ≤ maxLen) : (n : Int) ≤ 9223372036854775807 := by
  have h' : n ≤ 9223372036854775807 := h
  omega
theorem Sr.arg {rs : List Ob} {o : Ob} (h : o.ok W) (hl : ∀ b, o.fs b → b < W.heap.size) (hr : Sr none_ W rs) : Sr none_ W (o :: rs) := by
  intro p hp
  rcases List.mem_cons.1 hp with rfl | hp
  · exact ⟨h, fun b hb => ⟨hl b hb, fun x => x⟩⟩
  · exact hr p hp
end Go.Sx
