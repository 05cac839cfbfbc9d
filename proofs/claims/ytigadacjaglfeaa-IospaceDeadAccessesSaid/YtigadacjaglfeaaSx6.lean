/- The words of a symbolic walk: slices of elements of one kind; operations that make memory or write into it, as steps. -/
import Derived.Test.YtigadacjaglfeaaSx5
namespace Go.Sx
open Go Go.RowKit
structure EK (S : Type) where
  E : TypeId
  sz : Nat
  enc : S → List Value
  z : S
  len : ∀ x, (enc x).length = sz
  one : ∀ x, ∀ v ∈ enc x, v.oneCell' = true
  pos : 0 < sz
def EK.at {S : Type} (K : EK S) (xs : List S) (i : Int) : S := xs.getD i.toNat K.z
variable {S : Type} (K : EK S)
def osl (v : Value) (xs : List S) : Ob := sv K.E K.sz v xs.length (xs.flatMap K.enc)
def rsl (v : Value) (xs : List S) : Ob where
  fs k := v.ownBlock = some k ∧ 0 < xs.length
  ok w := IsSl v xs.length ∧ Rd v (xs.flatMap K.enc) w
  loc w w' h := by
    rintro ⟨h1, h2⟩
    refine ⟨h1, fun j u hu => ?_⟩
    have hc := h2 j u hu
    have hpos : 0 < xs.length := by
      refine Nat.pos_of_ne_zero fun h0 => ?_
      have := List.eq_nil_of_length_eq_zero h0
      subst this; simp at hu
    obtain ⟨A, c, rfl, _, hA⟩ := h1
    cases A with
    | none => have := hA rfl; omega
    | some ad =>
      rw [← hc]
      have hb : (sla (.slice (some ad) xs.length c) j).block = ad.block := by simp only [sla, Addr.add]; split <;> rfl
      exact World.cell?_of_block (by rw [hb]; exact h ad.block ⟨rfl, hpos⟩)
theorem flatMap_length (xs : List S) : (xs.flatMap K.enc).length = xs.length * K.sz := by
  induction xs with
  | nil => simp
  | cons x r ih => simp only [List.flatMap_cons, List.length_append, ih, K.len, List.length_cons, Nat.add_mul, Nat.one_mul]; omega
variable {K} {w w' : World} {v : Value} {xs : List S} {i : Int}
theorem osl_isSl (h : (osl K v xs).ok w) : IsSl v xs.length := sv_isSl h
theorem osl_rd (h : (osl K v xs).ok w) : Rd v (xs.flatMap K.enc) w := sv_rd h
theorem osl_rsl (w : World) (h : (osl K v xs).ok w) : (rsl K v xs).ok w := ⟨osl_isSl h, osl_rd h⟩
theorem flat_get (xs : List S) (k f : Nat) (hk : k < xs.length) (hf : f < K.sz) : (xs.flatMap K.enc)[k * K.sz + f]? = (K.enc (xs.getD k K.z))[f]? := by
  induction xs generalizing k with
  | nil => simp at hk
  | cons x r ih =>
    rw [List.flatMap_cons]
    cases k with
    | zero => simp only [Nat.zero_mul, Nat.zero_add, List.getD_cons_zero]; rw [List.getElem?_append_left (by rw [K.len]; exact hf)]
    | succ k =>
      rw [List.getElem?_append_right (by rw [K.len, Nat.succ_mul]; omega), K.len]
      have : (k + 1) * K.sz + f - K.sz = k * K.sz + f := by rw [Nat.succ_mul]; omega
      rw [this, ih k (by simpa using hk)]
      simp
theorem el_cell {f : Nat} {u : Value} (h : Rd v (xs.flatMap K.enc) w) (h0 : 0 ≤ i) (h1 : i < xs.length) (hu : (K.enc (K.at xs i))[f]? = some u) : w.cell? (sla v (i.toNat * K.sz + f)) = some u := by
  refine h _ _ ?_
  have hf : f < K.sz := by
    have := (List.getElem?_eq_some_iff.1 hu).1
    rwa [K.len] at this
  rw [flat_get xs i.toNat f (by omega) hf]
  exact hu
theorem el_cells {cs : List Value} (h : Rd v (xs.flatMap K.enc) w) (h0 : 0 ≤ i) (h1 : i < xs.length) (hu : K.enc (K.at xs i) = cs) : ∀ j u, cs[j]? = some u → w.cell? ((sla v (i.toNat * K.sz)).add j) = some u := by
  intro j u hj
  rw [sla_add]
  exact el_cell h h0 h1 (by rw [hu]; exact hj)
theorem flat_seg (xs : List S) (k f : Nat) (vs : List Value) (x' : S) (hk : k < xs.length) (hl : f + vs.length ≤ K.sz)
    (hx : K.enc x' = (K.enc (xs.getD k K.z)).take f ++ vs ++ (K.enc (xs.getD k K.z)).drop (f + vs.length)) :
    (xs.flatMap K.enc).take (k * K.sz + f) ++ vs ++ (xs.flatMap K.enc).drop (k * K.sz + f + vs.length) = (xs.set k x').flatMap K.enc := by
  induction xs generalizing k with
  | nil => simp at hk
  | cons x r ih =>
    cases k with
    | zero =>
      simp only [Nat.zero_mul, Nat.zero_add, List.set_cons_zero, List.flatMap_cons, List.getD_cons_zero] at hx ⊢
      rw [hx, List.take_append_of_le_length (by rw [K.len]; omega), List.drop_append_of_le_length (by rw [K.len]; omega)]
      simp
    | succ k =>
      simp only [List.set_cons_succ, List.flatMap_cons, List.getD_cons_succ] at hx ⊢
      have e1 : (k + 1) * K.sz + f = (K.enc x).length + (k * K.sz + f) := by rw [K.len, Nat.succ_mul]; omega
      have e2 : (k + 1) * K.sz + f + vs.length = (K.enc x).length + (k * K.sz + f + vs.length) := by rw [e1]; omega
      rw [e1, Nat.add_assoc, List.take_length_add_append, List.drop_length_add_append, ← ih k (by simpa using hk) hx]
      simp [List.append_assoc]
variable {P : Program} {a : Act} {N : Nat} {fs : List (Nat × Value)} {ops : Array Oper} {rest : List Oper} {Q : Exit → Act → World → Prop} {m : Nat → Prop} {w0 : World} {os ks : List Ob}
theorem stepV {o : Oper} {d : Nat} {R : Value → World → Prop} (hf : Fr a N fs) (hg : wtB ops fs o.guard = true) (hd : o.dst = some d) (hN : Nat.blt d N = true)
    (hv : ∃ v w', (execOp a.eval o).run P w = .ok (.value v) w' ∧ R v w') (K : ∀ v w', R v w' → ∀ a, Fr a N ((d, v) :: fs) → wpList P ops Q rest a w') : wpList P ops Q (o :: rest) a w := by
  obtain ⟨v, w', h1, h2⟩ := hv
  exact stq hf hg hd hN h1 (K v w' h2)
theorem stepS {o : Oper} {R : World → Prop} (hf : Fr a N fs) (hg : wtB ops fs o.guard = true) (hd : o.dst = none)
    (hv : ∃ w', (execOp a.eval o).run P w = .ok .skip w' ∧ R w') (K : ∀ w', R w' → wpList P ops Q rest a w') : wpList P ops Q (o :: rest) a w := by
  obtain ⟨w', h1, h2⟩ := hv
  exact stepU hf hg hd h1 (K w' h2)
theorem stepF {o : Oper} {d : Nat} {f : FuncId} {args : Array Value} {R : Value → World → Prop} (hf : Fr a N fs) (hg : wtB ops fs o.guard = true) (hd : o.dst = some d) (hN : Nat.blt d N = true)
    (hv : (execOp a.eval o).run P w = .ok (.enter f args) w) (hc : Calls P f args w fun e w' => ∃ v, e = .returned v ∧ R v w')
    (K : ∀ v w', R v w' → ∀ a, Fr a N ((d, v) :: fs) → wpList P ops Q rest a w') : wpList P ops Q (o :: rest) a w :=
  stepC hf hg hd hN hv hc fun _ w' ⟨v, he, hR⟩ => ⟨v, he, K v w' hR⟩
variable {d : Option Tmp} {T ty : TypeId} {pos : String} {aft : Array Edge} {g : Option (Nat × Bool)} {x y : Operand}
def evs (fs : List (Nat × Value)) : List Operand → Option (List Value)
  | [] => some []
  | x :: r => match ev fs x, evs fs r with | some v, some vs => some (v :: vs) | _, _ => none
theorem Fr.evs {l : List Operand} {vs : List Value} (hf : Fr a N fs) (h : evs fs l = some vs) : l.map a.eval = vs := by
  induction l generalizing vs with
  | nil => simp [Sx.evs] at h; subst h; rfl
  | cons x r ih =>
    simp only [Sx.evs] at h
    cases h1 : Sx.ev fs x with
    | none => rw [h1] at h; cases h
    | some v =>
      cases h2 : Sx.evs fs r with
      | none => rw [h1, h2] at h; cases h
      | some us => rw [h1, h2] at h; simp at h; subst h; simp [hf.ev h1, ih h2]
def CF (P : Program) (f : FuncId) : Prop := ∃ fn, P.funcs[f]? = some fn ∧ (fn.name == "runtime.NumGoroutine") = false ∧ fn.body.isNone = false
theorem ex_call {f : FuncId} {l : List Operand} {tys : Array TypeId} {vs : List Value} (hF : CF P f) (hf : Fr a N fs) (hx : evs fs l = some vs) :
    (execOp a.eval ⟨d, .call { callee := .value (.func f), args := l.toArray, argTypes := tys }, ty, pos, aft, g⟩).run P w = .ok (.enter f vs.toArray) w := by
  obtain ⟨fn, h1, h2, h3⟩ := hF
  have h2' : ¬ fn.name = "runtime.NumGoroutine" := by simpa using h2
  have h3' : ¬ fn.body = none := by intro h; rw [h] at h3; cases h3
  have hm : l.toArray.map a.eval = vs.toArray := by simp [hf.evs hx]
  have he : a.eval (.func f) = .func (.func f) #[] #[] := rfl
  simp [execOp, resolve, hm, he, Deferred.ofValue, invoke, callFunc, h1, h2', h3']
theorem ex_callV {f : FuncId} {x : Operand} {l : List Operand} {tys : Array TypeId} {vs cap : List Value} (hF : CF P f) (hf : Fr a N fs) (hy : ev fs x = some (.func (.func f) #[] cap.toArray)) (hx : evs fs l = some vs) :
    (execOp a.eval ⟨d, .call { callee := .value x, args := l.toArray, argTypes := tys }, ty, pos, aft, g⟩).run P w = .ok (.enter f (vs ++ cap).toArray) w := by
  obtain ⟨fn, h1, h2, h3⟩ := hF
  have h2' : ¬ fn.name = "runtime.NumGoroutine" := by simpa using h2
  have h3' : ¬ fn.body = none := by intro h; rw [h] at h3; cases h3
  have hm : l.toArray.map a.eval = vs.toArray := by simp [hf.evs hx]
  simp [execOp, resolve, hm, hf.ev hy, Deferred.ofValue, invoke, callFunc, h1, h2', h3']
theorem er_alloc {z : Value} {size bytes : Nat} {cs : List Value} (hs : St m w0 w os) (h : TI P T z size bytes) (hz : z.cells.toList = cs) :
    ∃ v w', (execOp a.eval ⟨d, .alloc T, ty, pos, aft, g⟩).run P w = .ok (.value v) w' ∧ ∃ b, v = .pointer (some ⟨b, 0, none⟩) ∧ St m w0 w' (bx b T cs :: os) :=
  ⟨_, _, ex_alloc h hz, _, rfl, hs.step (split_none os) (st_alloc w T cs)⟩
theorem er_box {u : Value} {cs : List Value} (hs : St m w0 w os) (hf : Fr a N fs) (hx : ev fs x = some u) (hz : u.cells.toList = cs) :
    ∃ v w', (execOp a.eval ⟨d, .box T x, ty, pos, aft, g⟩).run P w = .ok (.value v) w' ∧ ∃ b, v = .pointer (some ⟨b, 0, none⟩) ∧ St m w0 w' (bx b T cs :: os) :=
  ⟨_, _, ex_box hf hx hz, _, rfl, hs.step (split_none os) (st_alloc w T cs)⟩
theorem er_storeB {b j : Nat} {E : TypeId} {cs : List Value} {u : Value} (hs : St m w0 w os) (sp : Split os [bx b E cs] ks) (hf : Fr a N fs) (hx : ev fs x = some (.pointer (some ⟨b, j, none⟩))) (hy : ev fs y = some u) (h1 : u.oneCell' = true) (hsz : (P.info? T).map (·.size) = some 1) (hj : Nat.blt j cs.length = true) :
    ∃ w', (execOp a.eval ⟨none, .store T x y, ty, pos, aft, g⟩).run P w = .ok .skip w' ∧ St m w0 w' (bx b E (cs.set j u) :: ks) :=
  have hb : (bx b E cs).ok w := (hs.enter sp).get (i := 0) rfl
  ⟨_, ex_storeB hf hx hy h1 hsz hb hj, hs.step sp (st_set hb j u)⟩
theorem er_storeAB {b off : Nat} {E : TypeId} {cs vs cs' : List Value} (hs : St m w0 w os) (sp : Split os [bx b E cs] ks) (hsz : (P.info? T).map (·.size) = some vs.length) (hf : Fr a N fs) (hx : ev fs x = some (.pointer (some ⟨b, off, none⟩))) (hy : ev fs y = some (.agg vs.toArray))
    (h1 : ∀ v ∈ vs, v.oneCell' = true) (hl : Nat.ble (off + vs.length) cs.length = true) (hc : cs.take off ++ vs ++ cs.drop (off + vs.length) = cs') :
    ∃ w', (execOp a.eval ⟨none, .store T x y, ty, pos, aft, g⟩).run P w = .ok .skip w' ∧ St m w0 w' (bx b E cs' :: ks) := by
  have hb : (bx b E cs).ok w := (hs.enter sp).get (i := 0) rfl
  subst hc
  exact ⟨_, ex_storeAB hsz hf hx hy h1 hb (by simpa using hl), hs.step sp (st_setRow hb)⟩
theorem run_storeVar1 {u : Value} {ad : Addr} (hsz : (P.info? T).map (·.size) = some 1) (h1 : u.oneCell' = true) : (storeVar T ad u).run P w = (storeCells ad [u] 0).run P w := by
  have hcs : u.cells = #[u] := by cases u <;> first | rfl | simp [Value.oneCell'] at h1
  simp only [storeVar, Sem.run_bind, run_sizeOf hsz, Result.andThen_ok, hcs]
  simp
theorem er_storeE {f : Nat} {u : Value} {x' : S} (hs : St m w0 w os) (sp : Split os [osl K v xs] ks) (h0 : 0 ≤ i) (h1 : i < xs.length) (hf : Fr a N fs) (hx : ev fs x = some (.pointer (some (sla v (i.toNat * K.sz + f))))) (hy : ev fs y = some u)
    (hone : u.oneCell' = true) (hsz : (P.info? T).map (·.size) = some 1) (hfl : Nat.blt f K.sz = true) (hx' : K.enc x' = (K.enc (K.at xs i)).set f u) :
    ∃ w', (execOp a.eval ⟨none, .store T x y, ty, pos, aft, g⟩).run P w = .ok .skip w' ∧ St m w0 w' (osl K v (xs.set i.toNat x') :: ks) := by
  have hb : (osl K v xs).ok w := (hs.enter sp).get (i := 0) rfl
  have hfl' : f < K.sz := by simpa [Nat.blt_eq] using hfl
  have hkl : i.toNat < xs.length := by omega
  have hle : i.toNat * K.sz + f + 1 ≤ xs.length * K.sz := by
    have := Nat.mul_le_mul_right K.sz (show i.toNat + 1 ≤ xs.length by omega)
    rw [Nat.add_mul, Nat.one_mul] at this; omega
  obtain ⟨w', hr, hst⟩ := st_sv_store (P := P) (vs := [u]) (off := i.toNat * K.sz + f) hb (by rw [flatMap_length]; simpa using hle) (by simp) (by simpa using hone)
  refine ⟨w', ?_, ?_⟩
  · simp only [execOp, Instr.storeAt, hf.ev hx, hf.ev hy, Instr.sureAddr, Sem.run_bind, Sem.run_pure, Result.andThen_ok, run_storeVar1 hsz hone, hr]
  · have e := flat_seg (K := K) xs i.toNat f [u] x' hkl (by show f + 1 ≤ K.sz; omega) (by
      rw [hx']
      have hl : f < (K.enc (K.at xs i)).length := by rw [K.len]; exact hfl'
      rw [List.set_eq_take_append_cons_drop, if_pos hl]
      simp [EK.at])
    have : osl K v (xs.set i.toNat x') = sv K.E K.sz v xs.length ((xs.flatMap K.enc).take (i.toNat * K.sz + f) ++ [u] ++ (xs.flatMap K.enc).drop (i.toNat * K.sz + f + [u].length)) := by
      rw [e]; simp [osl]
    rw [this]
    exact hs.step sp hst
end Go.Sx
