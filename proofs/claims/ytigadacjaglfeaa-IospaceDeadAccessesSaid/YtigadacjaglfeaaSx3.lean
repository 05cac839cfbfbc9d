/- The words of a symbolic walk: what one operation comes to, given what the frame holds. -/
import Derived.Test.YtigadacjaglfeaaSx2
namespace Go.Sx
open Go Go.RowKit
variable {P : Program} {a : Act} {w : World} {N : Nat} {fs : List (Nat × Value)} {d : Option Tmp} {T T' ty : TypeId} {pos : String} {aft : Array Edge} {g : Option (Nat × Bool)} {x y z : Operand}
set_option linter.unusedSimpArgs false
theorem ex_move {v : Value} (hf : Fr a N fs) (hx : ev fs x = some v) : (execOp a.eval ⟨d, .move x, ty, pos, aft, g⟩).run P w = .ok (.value v) w := by
  simp [execOp, hf.ev hx]
theorem ex_assign {v : Value} (hf : Fr a N fs) (hx : ev fs x = some v) : (execOp a.eval ⟨d, .assign x, ty, pos, aft, g⟩).run P w = .ok (.value v) w := by
  simp [execOp, hf.ev hx]
theorem ex_pickT {v : Value} (hf : Fr a N fs) (hx : ev fs x = some (.bool true)) (hy : ev fs y = some v) : (execOp a.eval ⟨d, .pick x y z, ty, pos, aft, g⟩).run P w = .ok (.value v) w := by
  simp [execOp, hf.ev hx, hf.ev hy, asBool]
theorem ex_pickF {v : Value} (hf : Fr a N fs) (hx : ev fs x = some (.bool false)) (hy : ev fs z = some v) : (execOp a.eval ⟨d, .pick x y z, ty, pos, aft, g⟩).run P w = .ok (.value v) w := by
  simp [execOp, hf.ev hx, hf.ev hy, asBool]
theorem ex_cmp {k : IntKind} {i j : Int} {op : BinOp} {v : Bool} (hf : Fr a N fs) (hx : ev fs x = some (.int k i)) (hy : ev fs y = some (.int k j))
    (hop : (Op.intCmp op i j) = .pure (.bool v)) (h1 : (op matches .lss | .leq | .gtr | .geq | .eql | .neq) = true) : (execOp a.eval ⟨d, .binOp op T x y T', ty, pos, aft, g⟩).run P w = .ok (.value (.bool v)) w := by
  cases op <;> simp at h1 <;> simp [execOp, hf.ev hx, hf.ev hy, eqGuard, binOp, hop]
theorem ex_lss {k : IntKind} {i j : Int} (hf : Fr a N fs) (hx : ev fs x = some (.int k i)) (hy : ev fs y = some (.int k j)) : (execOp a.eval ⟨d, .binOp .lss T x y T', ty, pos, aft, g⟩).run P w = .ok (.value (.bool (decide (i < j)))) w := ex_cmp hf hx hy rfl rfl
theorem ex_leq {k : IntKind} {i j : Int} (hf : Fr a N fs) (hx : ev fs x = some (.int k i)) (hy : ev fs y = some (.int k j)) : (execOp a.eval ⟨d, .binOp .leq T x y T', ty, pos, aft, g⟩).run P w = .ok (.value (.bool (decide (i ≤ j)))) w := ex_cmp hf hx hy rfl rfl
theorem ex_gtr {k : IntKind} {i j : Int} (hf : Fr a N fs) (hx : ev fs x = some (.int k i)) (hy : ev fs y = some (.int k j)) : (execOp a.eval ⟨d, .binOp .gtr T x y T', ty, pos, aft, g⟩).run P w = .ok (.value (.bool (decide (j < i)))) w := ex_cmp hf hx hy rfl rfl
theorem ex_geq {k : IntKind} {i j : Int} (hf : Fr a N fs) (hx : ev fs x = some (.int k i)) (hy : ev fs y = some (.int k j)) : (execOp a.eval ⟨d, .binOp .geq T x y T', ty, pos, aft, g⟩).run P w = .ok (.value (.bool (decide (j ≤ i)))) w := ex_cmp hf hx hy rfl rfl
theorem ex_eql {k : IntKind} {i j : Int} (hf : Fr a N fs) (hx : ev fs x = some (.int k i)) (hy : ev fs y = some (.int k j)) : (execOp a.eval ⟨d, .binOp .eql T x y T', ty, pos, aft, g⟩).run P w = .ok (.value (.bool (decide (i = j)))) w := ex_cmp hf hx hy rfl rfl
theorem ex_neq {k : IntKind} {i j : Int} (hf : Fr a N fs) (hx : ev fs x = some (.int k i)) (hy : ev fs y = some (.int k j)) : (execOp a.eval ⟨d, .binOp .neq T x y T', ty, pos, aft, g⟩).run P w = .ok (.value (.bool (!decide (i = j)))) w := ex_cmp hf hx hy rfl rfl
theorem ex_geqB {k : IntKind} {i j : Int} {b : Bool} (hf : Fr a N fs) (hx : ev fs x = some (.int k i)) (hy : ev fs y = some (.int k j)) (h : decide (j ≤ i) = b) : (execOp a.eval ⟨d, .binOp .geq T x y T', ty, pos, aft, g⟩).run P w = .ok (.value (.bool b)) w := h ▸ ex_geq hf hx hy
theorem ex_eqlB {k : IntKind} {i j : Int} {b : Bool} (hf : Fr a N fs) (hx : ev fs x = some (.int k i)) (hy : ev fs y = some (.int k j)) (h : decide (i = j) = b) : (execOp a.eval ⟨d, .binOp .eql T x y T', ty, pos, aft, g⟩).run P w = .ok (.value (.bool b)) w := h ▸ ex_eql hf hx hy
theorem ex_add {k : IntKind} {i j : Int} (hf : Fr a N fs) (hx : ev fs x = some (.int k i)) (hy : ev fs y = some (.int k j)) : (execOp a.eval ⟨d, .binOp .add T x y T', ty, pos, aft, g⟩).run P w = .ok (.value (.int k (k.wrap (i + j)))) w := by
  simp [execOp, hf.ev hx, hf.ev hy, eqGuard, binOp, Op.intArith]
theorem ex_sub {k : IntKind} {i j : Int} (hf : Fr a N fs) (hx : ev fs x = some (.int k i)) (hy : ev fs y = some (.int k j)) : (execOp a.eval ⟨d, .binOp .sub T x y T', ty, pos, aft, g⟩).run P w = .ok (.value (.int k (k.wrap (i - j)))) w := by
  simp [execOp, hf.ev hx, hf.ev hy, eqGuard, binOp, Op.intArith]
theorem ex_mul {k : IntKind} {i j : Int} (hf : Fr a N fs) (hx : ev fs x = some (.int k i)) (hy : ev fs y = some (.int k j)) : (execOp a.eval ⟨d, .binOp .mul T x y T', ty, pos, aft, g⟩).run P w = .ok (.value (.int k (k.wrap (i * j)))) w := by
  simp [execOp, hf.ev hx, hf.ev hy, eqGuard, binOp, Op.intArith]
theorem ex_rem {k : IntKind} {i j : Int} (hf : Fr a N fs) (hx : ev fs x = some (.int k i)) (hy : ev fs y = some (.int k j)) (hj : j ≠ 0) : (execOp a.eval ⟨d, .binOp .rem T x y T', ty, pos, aft, g⟩).run P w = .ok (.value (.int k (i.tmod j))) w := by
  simp [execOp, hf.ev hx, hf.ev hy, eqGuard, binOp, Op.intDiv, hj]
def bitw (op : BinOp) (k : IntKind) (i j : Int) : Int :=
  let a := BitVec.ofInt k.bits i
  let b := BitVec.ofInt k.bits j
  k.wrap ((match op with | .and => a &&& b | .or => a ||| b | .xor => a ^^^ b | _ => a &&& ~~~b).toNat : Int)
theorem ex_bits {k : IntKind} {i j : Int} {op : BinOp} (hop : (op matches .and | .or | .xor | .andNot) = true) (hf : Fr a N fs) (hx : ev fs x = some (.int k i)) (hy : ev fs y = some (.int k j)) :
    (execOp a.eval ⟨d, .binOp op T x y T', ty, pos, aft, g⟩).run P w = .ok (.value (.int k (bitw op k i j))) w := by
  cases op <;> simp at hop <;> simp [execOp, hf.ev hx, hf.ev hy, eqGuard, binOp, Op.intBits, bitw]
def shlw (k : IntKind) (i j : Int) : Int := k.wrap (i * 2 ^ min j.toNat k.bits)
def shrw (k : IntKind) (i j : Int) : Int := i.fdiv (2 ^ min j.toNat k.bits)
theorem ex_shl {k k' : IntKind} {i j : Int} (hf : Fr a N fs) (hx : ev fs x = some (.int k i)) (hy : ev fs y = some (.int k' j)) (hj : 0 ≤ j) : (execOp a.eval ⟨d, .binOp .shl T x y T', ty, pos, aft, g⟩).run P w = .ok (.value (.int k (shlw k i j))) w := by
  simp [execOp, hf.ev hx, hf.ev hy, eqGuard, binOp, Op.shift, Int.not_lt.2 hj, shlw]
theorem ex_shr {k k' : IntKind} {i j : Int} (hf : Fr a N fs) (hx : ev fs x = some (.int k i)) (hy : ev fs y = some (.int k' j)) (hj : 0 ≤ j) : (execOp a.eval ⟨d, .binOp .shr T x y T', ty, pos, aft, g⟩).run P w = .ok (.value (.int k (shrw k i j))) w := by
  simp [execOp, hf.ev hx, hf.ev hy, eqGuard, binOp, Op.shift, Int.not_lt.2 hj, shrw]
theorem ex_not {b : Bool} (hf : Fr a N fs) (hx : ev fs x = some (.bool b)) : (execOp a.eval ⟨d, .unOp .not T x, ty, pos, aft, g⟩).run P w = .ok (.value (.bool (!b))) w := by
  simp [execOp, hf.ev hx, Op.unary]
theorem ex_conv {k k' : IntKind} {i : Int} {s : TypeId} {dst : TypeDesc} (hs : P.underlying s = some dst) (hT : P.underlying T = some (.int k')) (hf : Fr a N fs) (hx : ev fs x = some (.int k i)) :
    (execOp a.eval ⟨d, .convert s T x, ty, pos, aft, g⟩).run P w = .ok (.value (.int k' (k'.wrap i))) w := by
  simp [execOp, hf.ev hx, convert, run_underlying hs, run_underlying hT, Conv.intToInt]
theorem ex_eqb {b c : Bool} (hT : P.underlying T = some .bool) (hf : Fr a N fs) (hx : ev fs x = some (.bool b)) (hy : ev fs y = some (.bool c)) : (execOp a.eval ⟨d, .binOp .eql T x y T', ty, pos, aft, g⟩).run P w = .ok (.value (.bool (b == c))) w := by
  simp [execOp, hf.ev hx, hf.ev hy, eqGuard, run_eql_bool w T b c hT]
theorem ex_eqp {p : Option Addr} {e : TypeId} (hT : P.underlying T = some (.pointer e)) (hf : Fr a N fs) (hx : ev fs x = some (.pointer p)) (hy : ev fs y = some (.pointer none)) : (execOp a.eval ⟨d, .binOp .eql T x y T', ty, pos, aft, g⟩).run P w = .ok (.value (.bool p.isNone)) w := by
  have h' : P.underlying T = some (.pointer (P.pointee T)) := by rw [hT]; simp [Program.pointee, hT]
  simp [execOp, hf.ev hx, hf.ev hy, eqGuard, run_eql_pointer_nil w T p h']
theorem ex_nep {p : Option Addr} {e : TypeId} (hT : P.underlying T = some (.pointer e)) (hf : Fr a N fs) (hx : ev fs x = some (.pointer p)) (hy : ev fs y = some (.pointer none)) : (execOp a.eval ⟨d, .binOp .neq T x y T', ty, pos, aft, g⟩).run P w = .ok (.value (.bool p.isSome)) w := by
  have h' : P.underlying T = some (.pointer (P.pointee T)) := by rw [hT]; simp [Program.pointee, hT]
  simp [execOp, hf.ev hx, hf.ev hy, eqGuard, run_neq_pointer_nil w T p h']
theorem ex_extract {vs : Array Value} {i : Nat} {v : Value} (hf : Fr a N fs) (hx : ev fs x = some (.tuple vs)) (hi : vs[i]? = some v) : (execOp a.eval ⟨d, .extract x i, ty, pos, aft, g⟩).run P w = .ok (.value v) w := by
  simp [execOp, hf.ev hx, Instr.extract, hi]
theorem ex_len {e : TypeId} {A : Option Addr} {n c : Nat} (hT : P.underlying T = some (.slice e)) (hf : Fr a N fs) (hx : ev fs x = some (.slice A n c)) :
    (execOp a.eval ⟨d, .call { callee := .builtin .len, args := #[x], argTypes := #[T] }, ty, pos, aft, g⟩).run P w = .ok (.value (.int .i64 n)) w := by
  simp [execOp, resolve, invoke, builtin, hf.ev hx, Builtin.len_, run_underlying hT, goInt]
def FA (P : Program) (T : TypeId) (f off : Nat) : Prop := ∃ fields fd sz, P.underlying T = some (.struct fields) ∧ fields[f]? = some fd ∧ fd.offset = off ∧ (P.info? fd.type).map (·.size) = some sz ∧ sz ≠ 0
theorem ex_fieldAddr {ad : Addr} {f off : Nat} (hF : FA P T f off) (hf : Fr a N fs) (hx : ev fs x = some (.pointer (some ad))) :
    (execOp a.eval ⟨d, .fieldAddr T x f, ty, pos, aft, g⟩).run P w = .ok (.value (.pointer (some (ad.add off)))) w := by
  obtain ⟨fields, fd, sz, hT, hfd, rfl, hsz, h0⟩ := hF
  obtain ⟨i, hi, rfl⟩ := Option.map_eq_some_iff.1 hsz
  simp [execOp, Instr.fieldAt, run_underlying hT, hfd, hf.ev hx, Instr.sureAddr, fieldPlace, sizeOf, typeInfo, hi, h0]
theorem ex_fieldAddrB {b o f off o' : Nat} (hF : FA P T f off) (ho : o + off = o') (hf : Fr a N fs) (hx : ev fs x = some (.pointer (some ⟨b, o, none⟩))) :
    (execOp a.eval ⟨d, .fieldAddr T x f, ty, pos, aft, g⟩).run P w = .ok (.value (.pointer (some ⟨b, o', none⟩))) w := by
  subst ho
  rw [ex_fieldAddr hF hf hx, Addr.add_lit]
def sla (v : Value) (k : Nat) : Addr := match v with | .slice (some a) _ _ => a.add k | _ => (⟨0, 0, none⟩ : Addr).add k
theorem add_add (a : Addr) (p q : Nat) : (a.add p).add q = a.add (p + q) := by
  unfold Addr.add
  by_cases hp : p = 0 <;> by_cases hq : q = 0 <;> simp [hp, hq, Nat.add_assoc]
theorem sla_add (v : Value) (p q : Nat) : (sla v p).add q = sla v (p + q) := by
  unfold sla; split <;> exact add_add _ _ _
theorem ex_fieldAddrS {v : Value} {k f off k' : Nat} (hF : FA P T f off) (hk : k + off = k') (hf : Fr a N fs) (hx : ev fs x = some (.pointer (some (sla v k)))) :
    (execOp a.eval ⟨d, .fieldAddr T x f, ty, pos, aft, g⟩).run P w = .ok (.value (.pointer (some (sla v k')))) w := by
  subst hk
  rw [ex_fieldAddr hF hf hx, sla_add]
def IsSl (v : Value) (n : Nat) : Prop := ∃ A c, v = .slice A n c ∧ n ≤ c ∧ (A = none → n = 0)
def SA (P : Program) (T e : TypeId) (sz : Nat) : Prop := P.underlying T = some (.slice e) ∧ (P.info? e).map (·.size) = some sz
theorem ex_indexAddr {v : Value} {n sz : Nat} {e : TypeId} {k : IntKind} {i : Int} (hS : SA P T e sz) (hv : IsSl v n) (h0 : 0 ≤ i) (h1 : i < n) (hf : Fr a N fs) (hx : ev fs x = some v) (hy : ev fs y = some (.int k i)) :
    (execOp a.eval ⟨d, .indexAddr T x y, ty, pos, aft, g⟩).run P w = .ok (.value (.pointer (some (sla v (i.toNat * sz))))) w := by
  obtain ⟨hT, hsz⟩ := hS
  obtain ⟨j, hj, rfl⟩ := Option.map_eq_some_iff.1 hsz
  obtain ⟨A, c, rfl, _, hA⟩ := hv
  cases A with
  | none => have := hA rfl; omega
  | some ad => simp [execOp, Instr.indexAt, run_underlying hT, hf.ev hx, hf.ev hy, asIntOf, sizeOf, typeInfo, hj, h0, h1, sla]
theorem ex_lenS {e : TypeId} {v : Value} {n : Nat} (hT : P.underlying T = some (.slice e)) (hv : IsSl v n) (hf : Fr a N fs) (hx : ev fs x = some v) :
    (execOp a.eval ⟨d, .call { callee := .builtin .len, args := #[x], argTypes := #[T] }, ty, pos, aft, g⟩).run P w = .ok (.value (.int .i64 n)) w := by
  obtain ⟨A, c, rfl, _, _⟩ := hv
  exact ex_len hT hf hx
def notAgg : TypeDesc → Bool | .struct _ => false | .array _ _ => false | _ => true
def SC (P : Program) (T : TypeId) : Prop := ∃ u, P.underlying T = some u ∧ notAgg u = true
def AG (P : Program) (T : TypeId) (n : Nat) : Prop := ∃ u, P.underlying T = some u ∧ notAgg u = false ∧ (P.info? T).map (·.size) = some n
theorem run_isAgg_no (hS : SC P T) (w : World) : (isAgg T).run P w = .ok false w := by
  obtain ⟨u, hu, hn⟩ := hS
  unfold isAgg
  simp only [Sem.run_bind, run_underlying hu, Result.andThen_ok]
  cases u <;> simp [notAgg] at hn <;> rfl
theorem run_isAgg_yes {n : Nat} (hS : AG P T n) (w : World) : (isAgg T).run P w = .ok true w := by
  obtain ⟨u, hu, hn, _⟩ := hS
  unfold isAgg
  simp only [Sem.run_bind, run_underlying hu, Result.andThen_ok]
  cases u <;> simp [notAgg] at hn <;> rfl
theorem run_sizeOf {n : Nat} (h : (P.info? T).map (·.size) = some n) (w : World) : (sizeOf T).run P w = .ok n w := by
  obtain ⟨j, hj, rfl⟩ := Option.map_eq_some_iff.1 h
  simp [sizeOf, typeInfo, hj]
theorem ex_load {ad : Addr} {v : Value} (hS : SC P T) (hf : Fr a N fs) (hx : ev fs x = some (.pointer (some ad))) (hc : w.cell? ad = some v) :
    (execOp a.eval ⟨d, .load T x, ty, pos, aft, g⟩).run P w = .ok (.value v) w := by
  simp [execOp, Instr.loadAt, hf.ev hx, Instr.sureAddr, loadVar, run_isAgg_no hS, load, Sem.run, hc]
theorem ex_loadA {ad : Addr} {cs : List Value} (hS : AG P T cs.length) (hf : Fr a N fs) (hx : ev fs x = some (.pointer (some ad))) (hc : ∀ j v, cs[j]? = some v → w.cell? (ad.add j) = some v) :
    (execOp a.eval ⟨d, .load T x, ty, pos, aft, g⟩).run P w = .ok (.value (.agg cs.toArray)) w := by
  obtain ⟨_, _, _, hsz⟩ := id hS
  simp [execOp, Instr.loadAt, hf.ev hx, Instr.sureAddr, loadVar, run_isAgg_yes hS, run_sizeOf hsz, run_loadCells_list w ad cs hc]
theorem ex_nilCheck {ad : Addr} (hf : Fr a N fs) (hx : ev fs x = some (.pointer (some ad))) : (execOp a.eval ⟨d, .nilCheck x, ty, pos, aft, g⟩).run P w = .ok (.value (.pointer (some ad))) w := by
  simp [execOp, hf.ev hx]
end Go.Sx
