/- The words of a symbolic walk: nil slices, arrays as values, structs compared. -/
import Derived.Test.YtmjfdknjloidoaaSx9
import Derived.Lib.SliceRun
import Derived.Laws.StructEq
namespace Go.Sx
open Go Go.RowKit
section
variable {P : Program} {a : Act} {w : World} {N : Nat} {fs : List (Nat × Value)} {d : Option Nat} {T T' e : TypeId} {ty : TypeId} {pos : String} {aft : Array Edge} {g : Option (Nat × Bool)} {x y z : Operand}

def isNil : Value → Bool
  | .slice none _ _ => true
  | _ => false
theorem isNil_len {v : Value} {n : Nat} (h : IsSl v n) (hn : isNil v = true) : n = 0 := by
  obtain ⟨A, c, rfl, _, hA⟩ := h
  cases A with
  | none => exact hA rfl
  | some _ => cases hn
theorem isNil_nil {α : Type} {v : Value} {xs : List α} (h : IsSl v xs.length) (hn : isNil v = true) : xs = [] := List.eq_nil_of_length_eq_zero (isNil_len h hn)
theorem ex_eqnil {v : Value} {n : Nat} (hT : P.underlying T = some (.slice e)) (hv : IsSl v n) (hf : Fr a N fs) (hx : ev fs x = some v) (hy : ev fs y = some (.slice none 0 0)) : (execOp a.eval ⟨d, .binOp .eql T x y T', ty, pos, aft, g⟩).run P w = .ok (.value (.bool (isNil v))) w := by
  obtain ⟨A, c, rfl, _, _⟩ := hv
  have e1 : isNil (.slice A n c) = A.isNone := by cases A <;> rfl
  simp [execOp, hf.ev hx, hf.ev hy, eqGuard, Go.Lib.run_eql_slice_nil w T e A n c 0 0 hT, e1]
theorem ex_castI {s : Sem Next} {k : IntKind} {m n : Int} (h : s.run P w = .ok (.value (.int k m)) w) (hx : m = n) : s.run P w = .ok (.value (.int k n)) w := by subst hx; exact h

/-! ## arrays as values -/
def BA (P : Program) (T e : TypeId) (n sz : Nat) (zero : List Value) : Prop :=
  ∃ z bytes, P.underlying T = some (.array n e) ∧ TI P T z zero.length bytes ∧ z.cells.toList = zero ∧ (P.info? e).map (·.size) = some sz
theorem ex_buildA {n sz : Nat} {zero cs : List Value} {parts : List (Nat × Operand)} {vs : List (Nat × Value)} {q : List (Nat × List Value)} (hB : BA P T e n sz zero) (hf : Fr a N fs) (hx : evps fs parts = some vs) (hq : PC vs q)
    (hfill : fillL (fun i => some (i * sz, sz)) zero q = some cs) :
    (execOp a.eval ⟨d, .build T parts.toArray, ty, pos, aft, g⟩).run P w = .ok (.value (.agg cs.toArray)) w := by
  obtain ⟨z, bytes, hT, hI, hz, hs⟩ := hB
  obtain ⟨i, hi, h1, _, _⟩ := hI.parts
  have hm : (parts.toArray.map fun p => (p.1, a.eval p.2)) = vs.toArray := by simp [hf.evps hx]
  have hzv : (zeroValue T).run P w = .ok z w := by simp [zeroValue, typeInfo, hi, h1]
  have hff := fill_eq (fun i => some (i * sz, sz)) hq zero hfill
  have hzz : z.cells = zero.toArray := by rw [← hz]
  simp only [execOp, Instr.build, Sem.run_bind]
  rw [hzv]
  simp only [Result.andThen_ok]
  rw [run_underlying hT]
  simp only [Result.andThen_ok, Sem.run_bind, run_sizeOf hs, hm, hzz]
  simp [hff]

/-- an element of an array, by an index that is known -/
def IA (P : Program) (T e : TypeId) (n sz : Nat) : Prop := P.underlying T = some (.array n e) ∧ (P.info? e).map (·.size) = some sz
theorem ex_indexC {n sz : Nat} {cs : List Value} {k : IntKind} {i : Int} (m : Nat) {v : Value} (hI : IA P T e n sz) (hS : SC P e) (hi : i = m) (hm : m < n) (hf : Fr a N fs) (hx : ev fs x = some (.agg cs.toArray)) (hy : ev fs y = some (.int k i)) (hv : cs[m * sz]? = some v) :
    (execOp a.eval ⟨d, .index T x y, ty, pos, aft, g⟩).run P w = .ok (.value v) w := by
  obtain ⟨hT, hs⟩ := hI
  subst hi
  have h2 : (0 : Int) ≤ (m : Int) ∧ (m : Int) < n := ⟨by omega, by omega⟩
  simp [execOp, Instr.index, hf.ev hx, hf.ev hy, asIntOf, run_underlying hT, hm, run_sizeOf hs, part, run_isAgg_no hS, hv]
theorem ex_indexG {n sz : Nat} {cs : List Value} {k : IntKind} {i : Int} (m : Nat) {vs : List Value} (hI : IA P T e n sz) (hS : AG P e sz) (hi : i = m) (hm : m < n) (hf : Fr a N fs) (hx : ev fs x = some (.agg cs.toArray)) (hy : ev fs y = some (.int k i)) (hv : (cs.drop (m * sz)).take sz = vs) :
    (execOp a.eval ⟨d, .index T x y, ty, pos, aft, g⟩).run P w = .ok (.value (.agg vs.toArray)) w := by
  obtain ⟨hT, hs⟩ := hI
  subst hi
  subst hv
  have h2 : (0 : Int) ≤ (m : Int) ∧ (m : Int) < n := ⟨by omega, by omega⟩
  simp [execOp, Instr.index, hf.ev hx, hf.ev hy, asIntOf, run_underlying hT, hm, run_sizeOf hs, part, run_isAgg_yes hS, List.extract_eq_take_drop]
end
end Go.Sx
