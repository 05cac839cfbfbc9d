/- The words of a symbolic walk: values built out of parts; make, append, slicing. -/
import Derived.Test.YtigadacjaglfeaaSx6
namespace Go.Sx
open Go Go.RowKit
variable {P : Program} {a : Act} {w : World} {N : Nat} {fs : List (Nat × Value)} {ops : Array Oper} {m : Nat → Prop} {w0 : World} {os ks : List Ob} {d : Option Tmp} {T ty : TypeId} {pos : String} {aft : Array Edge} {g : Option (Nat × Bool)} {x y : Operand}
def CL (v : Value) (cs : List Value) : Prop := v.cells = cs.toArray
theorem CL.one {v : Value} (h : v.oneCell' = true) : CL v [v] := by cases v <;> first | rfl | simp [Value.oneCell'] at h
theorem IsSl.one {v : Value} {n : Nat} (h : IsSl v n) : v.oneCell' = true := by obtain ⟨A, c, rfl, _⟩ := h; rfl
inductive PC : List (Nat × Value) → List (Nat × List Value) → Prop where
  | nil : PC [] []
  | cons {i : Nat} {v : Value} {cs : List Value} {r : List (Nat × Value)} {q : List (Nat × List Value)} : CL v cs → PC r q → PC ((i, v) :: r) ((i, cs) :: q)
def fillL (place : Nat → Option (Nat × Nat)) (cells : List Value) : List (Nat × List Value) → Option (List Value)
  | [] => some cells
  | (i, v) :: rest =>
    match place i with
    | none => none
    | some (off, size) =>
      bif (!Nat.beq v.length size) || !Nat.ble (off + v.length) cells.length then none
      else fillL place (cells.take off ++ v ++ cells.drop (off + v.length)) rest
theorem foldl_set (vs : List Value) : ∀ (off k : Nat) (cs : Array Value), off + k + vs.length ≤ cs.size →
    ((vs.zipIdx k).foldl (fun cs (p : Value × Nat) => cs.setIfInBounds (off + p.2) p.1) cs).toList = cs.toList.take (off + k) ++ vs ++ cs.toList.drop (off + k + vs.length) := by
  induction vs with
  | nil => intro off k cs _; simp
  | cons v vs ih =>
    intro off k cs h
    simp only [List.length_cons] at h
    simp only [List.zipIdx_cons, List.foldl_cons]
    rw [ih off (k + 1) _ (by simp; omega)]
    simp only [Array.toList_setIfInBounds, List.length_cons]
    have hk : off + k < cs.toList.length := by simp; omega
    rw [List.set_eq_take_append_cons_drop, if_pos hk]
    have e1 : (cs.toList.take (off + k)).length = off + k := by rw [List.length_take]; omega
    have e2 : off + (k + 1) = (cs.toList.take (off + k)).length + 1 := by rw [e1]; omega
    rw [e2]
    have e3 : (cs.toList.take (off + k)).length + 1 + vs.length = (cs.toList.take (off + k)).length + (1 + vs.length) := by omega
    rw [e3, List.take_length_add_append, List.drop_length_add_append]
    have e4 : 1 + vs.length = vs.length + 1 := by omega
    have e5 : off + k + (vs.length + 1) = off + k + 1 + vs.length := by omega
    rw [e4, e5]
    simp
theorem fill_eq (place : Nat → Option (Nat × Nat)) {parts : List (Nat × Value)} {q : List (Nat × List Value)} (h : PC parts q) : ∀ (cells : List Value) {cs : List Value}, fillL place cells q = some cs → Instr.fill place cells.toArray parts = some cs.toArray := by
  induction h with
  | nil => intro cells cs h; simp [fillL] at h; subst h; rfl
  | @cons i v vs r q hv _ ih =>
    intro cells cs h
    simp only [fillL] at h
    simp only [Instr.fill]
    cases hp : place i with
    | none => rw [hp] at h; cases h
    | some os =>
      obtain ⟨off, size⟩ := os
      rw [hp] at h
      simp only at h ⊢
      cases hc : (!Nat.beq vs.length size) || !Nat.ble (off + vs.length) cells.length with
      | true => rw [hc] at h; cases h
      | false =>
        rw [hc] at h
        simp only [Bool.or_eq_false_iff, Bool.not_eq_false', Nat.beq_eq, Nat.ble_eq] at hc
        have hs : v.cells.size = vs.length := by rw [hv]; simp
        rw [if_neg (by rw [hs, List.size_toArray]; simp only [Bool.or_eq_true, decide_eq_true_eq, not_or]; exact ⟨by simp [hc.1], by omega⟩)]
        have := ih _ h
        rw [← this]
        congr 1
        apply Array.ext'
        have hf := foldl_set vs off 0 cells.toArray (by simpa using hc.2)
        simp only [Nat.add_zero] at hf
        rw [hv]
        rw [← Array.foldl_toList, Array.toList_zipIdx]
        simpa using hf
def evps (fs : List (Nat × Value)) : List (Nat × Operand) → Option (List (Nat × Value))
  | [] => some []
  | p :: r => match ev fs p.2, evps fs r with | some v, some vs => some ((p.1, v) :: vs) | _, _ => none
theorem Fr.evps {l : List (Nat × Operand)} {vs : List (Nat × Value)} (hf : Fr a N fs) (h : evps fs l = some vs) : l.map (fun p => (p.1, a.eval p.2)) = vs := by
  induction l generalizing vs with
  | nil => simp [Sx.evps] at h; subst h; rfl
  | cons p r ih =>
    simp only [Sx.evps] at h
    cases h1 : Sx.ev fs p.2 with
    | none => rw [h1] at h; cases h
    | some v =>
      cases h2 : Sx.evps fs r with
      | none => rw [h1, h2] at h; cases h
      | some us => rw [h1, h2] at h; simp at h; subst h; simp [hf.ev h1, ih h2]
def BT (P : Program) (T : TypeId) (zero : List Value) (places : List (Nat × Nat)) : Prop :=
  ∃ fields z bytes, P.underlying T = some (.struct fields) ∧ TI P T z zero.length bytes ∧ z.cells.toList = zero ∧ fields.toList.map (fun f => (f.offset, (P.info? f.type).map (·.size))) = places.map (fun p => (p.1, some p.2))
theorem run_places (w : World) : ∀ (fields : List Field) (places : List (Nat × Nat)), fields.map (fun f => (f.offset, (P.info? f.type).map (·.size))) = places.map (fun p => (p.1, some p.2)) →
    (fields.mapM (m := Sem) fun f => do pure (f.offset, ← sizeOf f.type)).run P w = .ok places w
  | [], [], _ => by simp
  | [], _ :: _, h => by cases h
  | _ :: _, [], h => by cases h
  | f :: fr, p :: pr, h => by
    simp only [List.map_cons, List.cons.injEq, Prod.mk.injEq] at h
    have ih := run_places w fr pr h.2
    simp only [List.mapM_cons, Sem.run_bind, run_sizeOf h.1.2, Result.andThen_ok, Sem.run_pure, ih, h.1.1]
theorem ex_build {zero cs : List Value} {places : List (Nat × Nat)} {parts : List (Nat × Operand)} {vs : List (Nat × Value)} {q : List (Nat × List Value)} (hB : BT P T zero places) (hf : Fr a N fs) (hx : evps fs parts = some vs) (hq : PC vs q)
    (hfill : fillL (fun i => places[i]?) zero q = some cs) :
    (execOp a.eval ⟨d, .build T parts.toArray, ty, pos, aft, g⟩).run P w = .ok (.value (.agg cs.toArray)) w := by
  obtain ⟨fields, z, bytes, hT, hI, hz, hp⟩ := hB
  obtain ⟨i, hi, h1, _, _⟩ := hI.parts
  have hm : (parts.toArray.map fun p => (p.1, a.eval p.2)) = vs.toArray := by simp [hf.evps hx]
  have hpl := run_places (P := P) w fields.toList places hp
  simp only [bind_pure_comp] at hpl
  have hzv : (zeroValue T).run P w = .ok z w := by simp [zeroValue, typeInfo, hi, h1]
  have hff := fill_eq (fun i => places[i]?) hq zero hfill
  have hzz : z.cells = zero.toArray := by rw [← hz]
  simp only [execOp, Instr.build, Sem.run_bind]
  rw [hzv]
  simp only [Result.andThen_ok]
  rw [run_underlying hT]
  simp only [Result.andThen_ok, Sem.run_bind, Array.mapM_eq_mapM_toList, bind_pure_comp, hm, hzz, Sem.run_map, hpl]
  simp [hff]
variable {S : Type} {K : EK S}
def EP (P : Program) (K : EK S) (bytes : Nat) : Prop := ∃ z, TI P K.E z K.sz bytes ∧ z.cells.toList = K.enc K.z
theorem st_grown {w' : World} {v v' : Value} {xs xs' : List S} (hown : w'.ownsRow 0 K.E K.sz v' xs'.length (xs'.flatMap K.enc)) (hg : w.grownBy w' v.ownBlock) (hl : v'.ownBlock = v.ownBlock ∨ v'.ownBlock = some w.heap.size) : St (fsl [osl K v xs]) w w' [osl K v' xs'] := by
  refine st_one ⟨hg.os, hg.tape, hg.output, hg.size, fun k hk hm => hg.block k hk (fun e => hm ⟨_, List.mem_cons_self, e.symm⟩)⟩ hown (fun b hb' => ?_)
  have h1 := (World.ownsRow.lt hown b hb').2
  refine ⟨h1, ?_⟩
  rcases hl with h | h
  · exact .inr ⟨_, List.mem_cons_self, by show v.ownBlock = some b; rw [← h]; exact hb'⟩
  · have hb2 : v'.ownBlock = some b := hb'
    rw [h] at hb2; simp at hb2; omega
theorem st_fresh {w' : World} {v' : Value} {xs' : List S} (hown : w'.ownsRow 0 K.E K.sz v' xs'.length (xs'.flatMap K.enc)) (hg : w.grownBy w' none) (hl : v'.ownBlock = none ∨ v'.ownBlock = some w.heap.size) : St (fsl []) w w' [osl K v' xs'] := by
  refine st_one ⟨hg.os, hg.tape, hg.output, hg.size, fun k hk _ => hg.block k hk (by simp)⟩ hown (fun b hb' => ?_)
  have hb2 : v'.ownBlock = some b := hb'
  have h1 := (World.ownsRow.lt hown b hb').2
  refine ⟨h1, .inl ?_⟩
  rcases hl with h | h
  · rw [h] at hb2; cases hb2
  · rw [h] at hb2; simp at hb2; omega
theorem St.nilS (K : EK S) (hs : St m w0 w os) : St m w0 w (osl K (.slice none 0 0) [] :: os) := by
  have h : St (fsl []) w w [osl K (.slice none 0 0) []] :=
    st_one (.refl _ w) (World.ownsRow_nil w 0 K.E K.sz) (fun b hb => by cases (show (none : Option Nat) = some b from hb))
  exact hs.step (split_none os) h
theorem zero_cells (z : List Value) (n : Nat) : ((Array.range (n * z.length)).map (fun i => z.toArray[i % z.toArray.size]!)).toList = (List.replicate n z).flatten := by
  induction n with
  | zero => simp
  | succ n ih =>
    rw [List.replicate_succ', List.flatten_append, ← ih]
    simp only [Nat.succ_mul, Array.range_add, Array.map_append, Array.toList_append, List.flatten_cons, List.flatten_nil, List.append_nil]
    congr 1
    apply List.ext_getElem?
    intro j
    simp only [Array.getElem?_toList, Array.getElem?_map]
    by_cases hj : j < z.length
    · simp [hj, Nat.mul_add_mod_of_lt hj]
    · simp [hj]
theorem er_makeSlice {bytes : Nat} {kl kc : IntKind} {n : Int} (hs : St m w0 w os) (hT : P.underlying T = some (.slice K.E)) (hE : EP P K bytes) (h0 : 0 ≤ n) (hn : n ≤ 1048576) (hby : Nat.ble bytes 134217728 = true) (hf : Fr a N fs) (hx : ev fs x = some (.int kl n)) (hy : ev fs y = some (.int kc n)) :
    ∃ v w', (execOp a.eval ⟨d, .makeSlice T x y, ty, pos, aft, g⟩).run P w = .ok (.value v) w' ∧ St m w0 w' (osl K v (List.replicate n.toNat K.z) :: os) := by
  obtain ⟨z, hI, hz⟩ := hE
  obtain ⟨i, hi, h1, h2, h3⟩ := hI.parts
  obtain ⟨k, rfl⟩ : ∃ k : Nat, n = k := ⟨n.toNat, by omega⟩
  rw [Nat.ble_eq] at hby
  have hb : i.bytes * k ≤ 281474976710656 := by
    rw [h3]
    calc bytes * k ≤ 134217728 * 1048576 := Nat.mul_le_mul hby (by omega)
      _ ≤ _ := by decide
  obtain ⟨w', hr, hown, hg⟩ := run_make_full (P := P) w 0 T K.E i z K.sz hT hi h1 h2 kl kc k hb (by unfold maxLen; omega) (Nat.zero_le _)
  have hzl : z.cells = (K.enc K.z).toArray := by rw [← hz]
  have hcells : (madeCells z.cells (k * K.sz)).toList = (List.replicate k K.z).flatMap K.enc := by
    rw [List.flatMap_replicate, ← zero_cells _ k, K.len]
    simp only [madeCells, hzl]
  refine ⟨_, w', ?_, hs.step (split_none os) (st_fresh (K := K) (xs' := List.replicate k K.z) (v' := .slice (some ⟨w.heap.size, 0, none⟩) k k) ?_ hg (.inr rfl))⟩
  · simp only [execOp, hf.ev hx, hf.ev hy, Sem.run_bind, hr, Result.andThen_ok, Sem.run_pure]
  · rw [← hcells]; simpa using hown
theorem er_buildSlice {bytes : Nat} {n : Nat} {parts : List (Nat × Operand)} {vs : List (Nat × Value)} {q : List (Nat × List Value)} {xs : List S} (hs : St m w0 w os) (hT : P.underlying T = some (.slice K.E)) (hE : EP P K bytes) (hn : Nat.ble (n * K.sz) 16777216 = true) (hn0 : Nat.ble n 1048576 = true)
    (hf : Fr a N fs) (hx : evps fs parts = some vs) (hq : PC vs q) (hfill : fillL (fun i => some (i * K.sz, K.sz)) (List.replicate n (K.enc K.z)).flatten q = some (xs.flatMap K.enc)) (hl : xs.length = n) :
    ∃ v w', (execOp a.eval ⟨d, .buildSlice T n parts.toArray, ty, pos, aft, g⟩).run P w = .ok (.value v) w' ∧ St m w0 w' (osl K v xs :: os) := by
  obtain ⟨z, hI, hz⟩ := hE
  obtain ⟨i, hi, h1, h2, h3⟩ := hI.parts
  rw [Nat.ble_eq] at hn hn0
  have hm : (parts.toArray.map fun p => (p.1, a.eval p.2)) = vs.toArray := by simp [hf.evps hx]
  have hzl : z.cells = (K.enc K.z).toArray := by rw [← hz]
  have hzv : (zeroValue K.E).run P w = .ok z w := by simp [zeroValue, typeInfo, hi, h1]
  have hszv : (sizeOf K.E).run P w = .ok K.sz w := by simp [sizeOf, typeInfo, hi, h2]
  have hcells : ((Array.range (n * K.sz)).map (fun i => z.cells[i % z.cells.size]!)) = ((List.replicate n (K.enc K.z)).flatten).toArray := by
    rw [← Array.toArray_toList (xs := (Array.range (n * K.sz)).map (fun i => z.cells[i % z.cells.size]!)), hzl, ← K.len K.z, zero_cells]
  have hff := fill_eq (fun i => some (i * K.sz, K.sz)) hq _ hfill
  refine ⟨.slice (some ⟨w.heap.size, 0, none⟩) n n, w.alloc (.cells (xs.flatMap K.enc).toArray K.E (0, 0)), ?_, hs.step (split_none os) (st_fresh (K := K) (xs' := xs) ?_ (World.grownBy_alloc w _ none) (.inr rfl))⟩
  · simp only [execOp, Instr.buildSlice, Sem.run_bind, run_underlying hT, Result.andThen_ok, hszv]
    rw [if_neg (by omega)]
    by_cases h0 : n * K.sz = 0
    · have hn' : n = 0 := by
        rcases Nat.mul_eq_zero.1 h0 with h | h
        · exact h
        · have := K.pos; omega
      subst hn'
      have hff' : Instr.fill (fun i => some (i * K.sz, K.sz)) #[] vs = some (xs.flatMap K.enc).toArray := hff
      have hr0 : ∀ f : Nat → Value, Array.map f (Array.range 0) = #[] := fun f => by simp
      simp [hm, hr0, hff', newRow]
    · simp only [h0, if_false, Sem.run_bind, hzv, Result.andThen_ok, bind_pure_comp, hm, Sem.run_pure]
      erw [hcells, hff]
      simp [newRow]
  · refine ⟨flatMap_length K xs, .inr ⟨w.heap.size, n, _, by rw [hl], Nat.zero_le _, heap_alloc_new w _, by omega, by unfold maxLen; omega, ?_, ?_⟩⟩
    · simp only [List.size_toArray]; rw [flatMap_length, hl]
    · show List.take (xs.length * K.sz) (xs.flatMap K.enc) = _
      rw [← flatMap_length]; exact List.take_length
theorem run_sl_none {v : Value} {n : Nat} (h : IsSl v n) : (∃ c, v = .slice none 0 c ∧ n = 0) ∨ ∃ ad c, v = .slice (some ad) n c ∧ n ≤ c := by
  obtain ⟨A, c, rfl, hc, hA⟩ := h
  cases A with
  | none => have := hA rfl; subst this; exact .inl ⟨c, rfl, rfl⟩
  | some ad => exact .inr ⟨ad, c, rfl, hc⟩
theorem er_append {bytes : Nat} {tys : Array TypeId} {v u : Value} {xs ys : List S} (hs : St m w0 w os) (sp : Split os [osl K v xs] ks) (hr : (rsl K u ys).ok w) (htys : tys = #[T, T]) (hT : P.underlying T = some (.slice K.E)) (hE : EP P K bytes) (hn : (xs.length : Int) + ys.length ≤ 1048576) (hby : Nat.ble bytes 134217728 = true)
    (hf : Fr a N fs) (hx : ev fs x = some v) (hy : ev fs y = some u) :
    ∃ v' w', (execOp a.eval ⟨d, .call { callee := .builtin .append, args := #[x, y], argTypes := tys }, ty, pos, aft, g⟩).run P w = .ok (.value v') w' ∧ St m w0 w' (osl K v' (xs ++ ys) :: ks) := by
  subst htys
  obtain ⟨z, hI, hz⟩ := hE
  obtain ⟨i, hi, h1, h2, h3⟩ := hI.parts
  rw [Nat.ble_eq] at hby
  have hb : (osl K v xs).ok w := (hs.enter sp).get (i := 0) rfl
  have hzl : z.cells = (K.enc K.z).toArray := by rw [← hz]
  obtain ⟨hu, hrd⟩ := hr
  rcases run_sl_none hu with ⟨c, rfl, hlen⟩ | ⟨ad, c, rfl, _⟩
  · have hys : ys = [] := List.eq_nil_of_length_eq_zero hlen
    subst hys
    obtain ⟨A, c0, rfl, hle, _⟩ := osl_isSl hb
    refine ⟨.slice A xs.length c0, w, ?_, ?_⟩
    · have hap : (Builtin.append_ #[T, T] ty #[.slice A xs.length c0, .slice none 0 c]).run P w = .ok (.slice A xs.length c0) w := by
        cases A <;> simp [Builtin.append_, run_underlying hT, sizeOf, typeInfo, hi, Builtin.lenOf, hle, Builtin.firstCells, storeCells]
      simp [execOp, resolve, invoke, builtin, hf.ev hx, hf.ev hy, hap]
    · rw [List.append_nil]; exact hs.pick sp
  · have hlen : (ys.flatMap K.enc).length = ys.length * K.sz := flatMap_length K ys
    have hnews : ∀ j u, (ys.flatMap K.enc)[j]? = some u → w.cell? (ad.add j) = some u := hrd
    obtain ⟨v', w', hr, h4, h5, _, h6⟩ := run_append_own_at (P := P) w 0 T ty K.E i z K.sz bytes hT hi h1 h2 h3 (by rw [hzl]; simpa using K.len K.z) K.pos v xs.length _ hb ad ys.length c (ys.flatMap K.enc) hlen hnews
      (fun u hu => by obtain ⟨e, _, he⟩ := List.mem_flatMap.1 hu; exact K.one e u he) (by unfold maxLen; omega)
      (by calc (xs.length + ys.length) * bytes ≤ 1048576 * 134217728 := Nat.mul_le_mul (by omega) hby
            _ ≤ _ := by decide) (Nat.zero_le _)
    refine ⟨v', w', ?_, hs.step sp (st_grown (K := K) (xs' := xs ++ ys) (by rw [List.length_append, List.flatMap_append]; exact h4) h5 h6)⟩
    simp [execOp, resolve, invoke, builtin, hf.ev hx, hf.ev hy, hr]
def slv (v : Value) (lo hi sz : Nat) : Value := match v with | .slice A _ c => sliced A lo hi c sz | u => u
theorem rsl_slv {v : Value} {xs : List S} {lo hi : Nat} (w : World) (h : (rsl K v xs).ok w) (h1 : lo ≤ hi) (h2 : hi ≤ xs.length) : (rsl K (slv v lo hi K.sz) ((xs.drop lo).take (hi - lo))).ok w := by
  obtain ⟨⟨A, c, rfl, hc, hA⟩, hr⟩ := h
  have hl : ((xs.drop lo).take (hi - lo)).length = hi - lo := by rw [List.length_take, List.length_drop]; omega
  refine ⟨⟨if c = lo then A else A.map (·.add (lo * K.sz)), c - lo, by rw [hl]; rfl, by rw [hl]; omega, fun h => ?_⟩, fun j u hj => ?_⟩
  · rw [hl]
    cases A with
    | none => have := hA rfl; omega
    | some ad => split at h <;> simp at h
  · have hcells : ((xs.drop lo).take (hi - lo)).flatMap K.enc = ((xs.flatMap K.enc).drop (lo * K.sz)).take ((hi - lo) * K.sz) := by
      clear hr hA hc hl hj
      have ht : ∀ (n : Nat) (ys : List S), (ys.take n).flatMap K.enc = (ys.flatMap K.enc).take (n * K.sz) := by
        intro n
        induction n with
        | zero => intro ys; simp
        | succ n ih =>
          intro ys
          cases ys with
          | nil => simp
          | cons y r =>
            simp only [List.take_succ_cons, List.flatMap_cons, ih]
            have : (n + 1) * K.sz = (K.enc y).length + n * K.sz := by rw [K.len, Nat.succ_mul]; omega
            rw [this, List.take_length_add_append]
      have hd : ∀ (n : Nat) (ys : List S), (ys.drop n).flatMap K.enc = (ys.flatMap K.enc).drop (n * K.sz) := by
        intro n
        induction n with
        | zero => intro ys; simp
        | succ n ih =>
          intro ys
          cases ys with
          | nil => simp
          | cons y r =>
            simp only [List.drop_succ_cons, List.flatMap_cons, ih]
            have : (n + 1) * K.sz = (K.enc y).length + n * K.sz := by rw [K.len, Nat.succ_mul]; omega
            rw [this, List.drop_length_add_append]
      rw [ht, hd]
    rw [hcells] at hj
    have hjlt : j < (hi - lo) * K.sz := by
      refine Nat.lt_of_not_le fun hge => ?_
      rw [List.getElem?_take, if_neg (by omega)] at hj; cases hj
    rw [List.getElem?_take, if_pos hjlt, List.getElem?_drop] at hj
    have := hr _ u hj
    cases A with
    | none => have := hA rfl; have h0 : hi - lo = 0 := by omega
              rw [h0, Nat.zero_mul] at hjlt; omega
    | some ad =>
      have hne : ¬ c = lo := by
        intro e
        have : 0 < (hi - lo) := by
          refine Nat.pos_of_ne_zero fun h0 => ?_
          rw [h0, Nat.zero_mul] at hjlt; omega
        omega
      simp only [slv, sliced, sla, hne, if_false, Option.map_some, add_add]
      exact this
end Go.Sx
