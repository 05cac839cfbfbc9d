/- The words of a symbolic walk: a slice whose capacity is its length, appended zeros, copies. -/
import Derived.Test.YtigadacjaglfeaaSx12
import Derived.Lib.AppendZerosOnto
import Derived.Laws.StructEq
namespace Go.Sx
open Go Go.RowKit
variable {P : Program} {a : Act} {w w0 : World} {N : Nat} {fs : List (Nat × Value)} {d : Option Tmp} {T T' ty : TypeId} {pos : String} {aft : Array Edge} {g : Option (Nat × Bool)} {x y z : Operand} {m : Nat → Prop} {os ks : List Ob} {S : Type} {K : EK S}
set_option linter.unusedSimpArgs false
def capOf : Value → Nat
  | .slice _ _ c => c
  | _ => 0
theorem fm_take (K : EK S) : ∀ (n : Nat) (ys : List S), (ys.take n).flatMap K.enc = (ys.flatMap K.enc).take (n * K.sz)
  | 0, ys => by simp
  | n + 1, [] => by simp
  | n + 1, y :: r => by
    have ih := fm_take K n r
    have : (n + 1) * K.sz = (K.enc y).length + n * K.sz := by rw [K.len, Nat.succ_mul]; omega
    simp only [List.take_succ_cons, List.flatMap_cons, ih]
    rw [this, List.take_length_add_append]
theorem fm_drop (K : EK S) : ∀ (n : Nat) (ys : List S), (ys.drop n).flatMap K.enc = (ys.flatMap K.enc).drop (n * K.sz)
  | 0, ys => by simp
  | n + 1, [] => by simp
  | n + 1, y :: r => by
    have ih := fm_drop K n r
    have : (n + 1) * K.sz = (K.enc y).length + n * K.sz := by rw [K.len, Nat.succ_mul]; omega
    simp only [List.drop_succ_cons, List.flatMap_cons, ih]
    rw [this, List.drop_length_add_append]
theorem add_zero (ad : Addr) : ad.add 0 = ad := by simp [Addr.add]
def cpy {α : Type} (xs : List α) (lo hi : Nat) (ys : List α) : List α := xs.take lo ++ ys.take (min ys.length (hi - lo)) ++ xs.drop (lo + min ys.length (hi - lo))
theorem er_copyS {v u : Value} {xs ys : List S} {lo hi : Nat} (hs : St m w0 w os) (sp : Split os [osl K v xs] ks) (hr : (rsl K u ys).ok w) (hT : P.underlying T = some (.slice K.E)) (hsz : (P.info? K.E).map (·.size) = some K.sz) (h1 : lo ≤ hi) (h2 : hi ≤ xs.length) (hf : Fr a N fs) (hx : ev fs x = some (slv v lo hi K.sz)) (hy : ev fs y = some u) :
    ∃ v' w', (execOp a.eval ⟨d, .call { callee := .builtin .copy, args := #[x, y], argTypes := #[T, T'] }, ty, pos, aft, g⟩).run P w = .ok (.value v') w' ∧ v' = .int .i64 ((min ys.length (hi - lo) : Nat) : Int) ∧ St m w0 w' (osl K v (cpy xs lo hi ys) :: ks) := by
  have hb : (osl K v xs).ok w := (hs.enter sp).get (i := 0) rfl
  obtain ⟨hu, hrd⟩ := hr
  obtain ⟨A, c, hv, hc, hA⟩ := osl_isSl hb
  obtain ⟨B, cu, rfl, hcu, hB⟩ := hu
  generalize hn : min ys.length (hi - lo) = n
  have hlen : ((ys.take n).flatMap K.enc).length = n * K.sz := by rw [flatMap_length, List.length_take]; congr 1; omega
  have hfc : (Builtin.firstCells K.sz n (.slice B ys.length cu)).run P w = .ok ((ys.take n).flatMap K.enc).toArray w := by
    cases B with
    | none =>
      have h0 : ys = [] := List.eq_nil_of_length_eq_zero (hB rfl)
      subst h0
      simp [Builtin.firstCells]
    | some ad =>
      have := run_loadCells_list (P := P) w ad ((ys.take n).flatMap K.enc) (fun j x hj => by
        rw [fm_take] at hj
        have hj2 : (ys.flatMap K.enc)[j]? = some x := by
          rw [List.getElem?_take] at hj
          split at hj
          · exact hj
          · cases hj
        exact hrd j x hj2)
      rw [hlen] at this
      simpa [Builtin.firstCells] using this
  have hmin : Nat.min ys.length (hi - lo) = n := hn
  have hcp : cpy xs lo hi ys = xs.take lo ++ ys.take n ++ xs.drop (lo + n) := by rw [cpy, hn]
  have hcl : (cpy xs lo hi ys).length = xs.length := by rw [hcp]; simp; omega
  by_cases hz : n = 0
  · subst hz
    have he : cpy xs lo hi ys = xs := by rw [hcp]; simp
    refine ⟨_, w, ?_, rfl, by rw [he]; exact hs.pick sp⟩
    have hnil : ((ys.take 0).flatMap K.enc).toArray = #[] := by simp
    rw [hnil] at hfc
    have hs1 : (sizeOf K.E).run P w = .ok K.sz w := run_sizeOf hsz w
    rw [hv] at hx
    cases A with
    | none =>
      have e : (if c = lo then (none : Option Addr) else none) = none := by split <;> rfl
      simp [execOp, resolve, invoke, builtin, hf.ev hx, hf.ev hy, Builtin.copy_, slv, sliced, run_underlying hT, Builtin.lenOf, hmin, hs1, hfc, goInt]
    | some ad =>
      by_cases e : c = lo <;> simp [execOp, resolve, invoke, builtin, hf.ev hx, hf.ev hy, Builtin.copy_, slv, sliced, run_underlying hT, Builtin.lenOf, hmin, hs1, hfc, goInt, e, storeCells]
  · have hne : (ys.take n).flatMap K.enc ≠ [] := by
      intro h
      have : ((ys.take n).flatMap K.enc).length = 0 := by rw [h]; rfl
      rw [hlen] at this
      rcases Nat.mul_eq_zero.1 this with h | h
      · exact hz h
      · have := K.pos; omega
    have hlo : lo < hi := by omega
    obtain ⟨w', hst, h3⟩ := st_sv_store (P := P) (off := lo * K.sz) (vs := (ys.take n).flatMap K.enc) hb (by
      rw [hlen, flatMap_length, ← Nat.add_mul]
      exact Nat.mul_le_mul_right _ (by omega)) hne (fun u hu => by obtain ⟨e, _, he⟩ := List.mem_flatMap.1 hu; exact K.one e u he)
    have he : (xs.flatMap K.enc).take (lo * K.sz) ++ (ys.take n).flatMap K.enc ++ (xs.flatMap K.enc).drop (lo * K.sz + ((ys.take n).flatMap K.enc).length) = (cpy xs lo hi ys).flatMap K.enc := by
      rw [hcp, List.flatMap_append, List.flatMap_append, fm_take K lo, fm_drop, hlen, ← Nat.add_mul]
    rw [he] at h3
    have h3' : St (fsl [osl K v xs]) w w' [osl K v (cpy xs lo hi ys)] := by
      unfold osl
      rw [hcl]; exact h3
    refine ⟨_, w', ?_, rfl, hs.step sp h3'⟩
    have hs1 : (sizeOf K.E).run P w = .ok K.sz w := run_sizeOf hsz w
    subst hv
    cases A with
    | none => have := hA rfl; omega
    | some ad =>
      have hcne : ¬ c = lo := by omega
      have hst' : (storeCells (ad.add (lo * K.sz)) ((ys.take n).flatMap K.enc) 0).run P w = .ok () w' := hst
      simp [execOp, resolve, invoke, builtin, hf.ev hx, hf.ev hy, Builtin.copy_, slv, sliced, run_underlying hT, Builtin.lenOf, hmin, hs1, hfc, goInt, hcne, hst']
inductive FEs (P : Program) (xs ys : List Value) : List Field → Bool → Prop where
  | nil : FEs P xs ys [] true
  | i {f : Field} {r : List Field} {q k : IntKind} {m n : Int} {b : Bool} : f.name ≠ "_" → P.underlying f.type = some (.int q) → xs[f.offset]? = some (.int k m) → ys[f.offset]? = some (.int k n) → FEs P xs ys r b → FEs P xs ys (f :: r) ((m == n) && b)
  | b {f : Field} {r : List Field} {m n b : Bool} : f.name ≠ "_" → P.underlying f.type = some .bool → xs[f.offset]? = some (.bool m) → ys[f.offset]? = some (.bool n) → FEs P xs ys r b → FEs P xs ys (f :: r) ((m == n) && b)
def FE (P : Program) (T : TypeId) (xs ys : List Value) (b : Bool) : Prop := (∀ w, (Op.equalIn 10000 T (.agg xs.toArray) (.agg ys.toArray)).run P w = .ok b w) ∧ P.eqGuardType P.depth T = false
theorem run_part_sc {e : TypeId} (hS : SC P e) {xs : List Value} {off : Nat} {u : Value} (hx : xs[off]? = some u) (w : World) : (part e xs.toArray off).run P w = .ok u w := by
  unfold part
  simp only [Sem.run_bind, run_isAgg_no hS, Result.andThen_ok]
  simp [hx]
theorem FEs.run {xs ys : List Value} {l : List Field} {b : Bool} (h : FEs P xs ys l b) (w : World) : (Op.eqFields 9999 xs.toArray ys.toArray l).run P w = .ok b w := by
  induction h with
  | nil => simp [Op.eqFields]
  | @i f r q k m n b h1 h2 h3 h4 _ ih =>
    have e := run_equalIn_int (P := P) w 9998 f.type k q m n h2
    simp only [Op.eqFields, if_pos h1, Sem.run_bind, run_part_sc ⟨_, h2, rfl⟩ h3, run_part_sc ⟨_, h2, rfl⟩ h4, Result.andThen_ok]
    rw [show (9999 : Nat) = 9998 + 1 from rfl, e]
    cases hb : (m == n) <;> simp [Result.andThen, ih]
  | @b f r m n b h1 h2 h3 h4 _ ih =>
    have e := run_equalIn_bool' (P := P) w 9998 f.type m n h2
    simp only [Op.eqFields, if_pos h1, Sem.run_bind, run_part_sc ⟨_, h2, rfl⟩ h3, run_part_sc ⟨_, h2, rfl⟩ h4, Result.andThen_ok]
    rw [show (9999 : Nat) = 9998 + 1 from rfl, e]
    cases hb : (m == n) <;> simp [Result.andThen, ih]
theorem FE.mk {fa : Array Field} {xs ys : List Value} {b : Bool} (hu : P.underlying T = some (.struct fa)) (hp : P.stoodInHeld T = false) (hg : P.eqGuardType P.depth T = false) (h : FEs P xs ys fa.toList b) : FE P T xs ys b := by
  refine ⟨fun w => ?_, hg⟩
  have hf : P.fieldsOf T = fa := by simp [Program.fieldsOf, hu]
  rw [run_equalIn_agg w 9999 T _ _ (by rw [hf]; exact hu) hp, hf]
  exact h.run w
theorem ex_eqS {xs ys : List Value} {b : Bool} (hE : FE P T xs ys b) (hf : Fr a N fs) (hx : ev fs x = some (.agg xs.toArray)) (hy : ev fs y = some (.agg ys.toArray)) : (execOp a.eval ⟨d, .binOp .eql T x y T', ty, pos, aft, g⟩).run P w = .ok (.value (.bool b)) w := by
  simp only [execOp, hf.ev hx, hf.ev hy, Sem.run_bind, run_eqGuard_agg w .eql T x y _ _ hE.2, Result.andThen_ok, run_eql_struct, hE.1]
  rfl
theorem ex_neS {xs ys : List Value} {b : Bool} (hE : FE P T xs ys b) (hf : Fr a N fs) (hx : ev fs x = some (.agg xs.toArray)) (hy : ev fs y = some (.agg ys.toArray)) : (execOp a.eval ⟨d, .binOp .neq T x y T', ty, pos, aft, g⟩).run P w = .ok (.value (.bool (!b))) w := by
  simp only [execOp, hf.ev hx, hf.ev hy, Sem.run_bind, run_eqGuard_agg w .neq T x y _ _ hE.2, Result.andThen_ok, run_neq_struct, hE.1]
  rfl
end Go.Sx
