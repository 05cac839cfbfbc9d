/- The words of a symbolic walk: two structs held against each other, with structs inside. -/
import Derived.Test.YtigadacjaglfeaaSx22
namespace Go.Sx
open Go Go.RowKit
variable {P : Program} {a : Act} {w w0 : World} {T : TypeId}
theorem FEs.run' {xs ys : List Value} {l : List Field} {b : Bool} (h : FEs P xs ys l b) (n : Nat) (w : World) : (Op.eqFields (n + 1) xs.toArray ys.toArray l).run P w = .ok b w := by
  induction h with
  | nil => simp [Op.eqFields]
  | @i f r q k m n' b h1 h2 h3 h4 _ ih =>
    have e := run_equalIn_int (P := P) w n f.type k q m n' h2
    simp only [Op.eqFields, if_pos h1, Sem.run_bind, run_part_sc ⟨_, h2, rfl⟩ h3, run_part_sc ⟨_, h2, rfl⟩ h4, Result.andThen_ok]
    rw [e]
    cases hb : (m == n') <;> simp [Result.andThen, ih]
  | @b f r m n' b h1 h2 h3 h4 _ ih =>
    have e := run_equalIn_bool' (P := P) w n f.type m n' h2
    simp only [Op.eqFields, if_pos h1, Sem.run_bind, run_part_sc ⟨_, h2, rfl⟩ h3, run_part_sc ⟨_, h2, rfl⟩ h4, Result.andThen_ok]
    rw [e]
    cases hb : (m == n') <;> simp [Result.andThen, ih]
inductive FEt (P : Program) (xs ys : List Value) : List Field → Bool → Prop where
  | nil : FEt P xs ys [] true
  | i {f : Field} {r : List Field} {q k : IntKind} {m n : Int} {b : Bool} : f.name ≠ "_" → P.underlying f.type = some (.int q) → xs[f.offset]? = some (.int k m) → ys[f.offset]? = some (.int k n) → FEt P xs ys r b → FEt P xs ys (f :: r) ((m == n) && b)
  | b {f : Field} {r : List Field} {m n b : Bool} : f.name ≠ "_" → P.underlying f.type = some .bool → xs[f.offset]? = some (.bool m) → ys[f.offset]? = some (.bool n) → FEt P xs ys r b → FEt P xs ys (f :: r) ((m == n) && b)
  | s {f : Field} {r : List Field} {fa : Array Field} {us vs : List Value} {c b : Bool} : f.name ≠ "_" → P.underlying f.type = some (.struct fa) → P.stoodInHeld f.type = false → (P.info? f.type).map (·.size) = some us.length → us.length = vs.length → (xs.drop f.offset).take us.length = us → (ys.drop f.offset).take vs.length = vs → FEs P us vs fa.toList c → FEt P xs ys r b → FEt P xs ys (f :: r) (c && b)
theorem run_part_ag {e : TypeId} {xs us : List Value} {off : Nat} {fa : Array Field} (hu : P.underlying e = some (.struct fa)) (hz : (P.info? e).map (·.size) = some us.length) (hx : (xs.drop off).take us.length = us) (w : World) : (part e xs.toArray off).run P w = .ok (.agg us.toArray) w := by
  unfold part
  simp only [Sem.run_bind, run_isAgg_yes (n := us.length) ⟨_, hu, rfl, hz⟩, Result.andThen_ok, run_sizeOf hz, if_true, Sem.run_pure]
  congr 2
  simp only [List.extract_toArray, List.extract_eq_take_drop, List.drop_take, Nat.add_sub_cancel_left, hx]
theorem FEt.run {xs ys : List Value} {l : List Field} {b : Bool} (h : FEt P xs ys l b) (w : World) : (Op.eqFields 9999 xs.toArray ys.toArray l).run P w = .ok b w := by
  induction h with
  | nil => simp [Op.eqFields]
  | @i f r q k m n b h1 h2 h3 h4 _ ih =>
    have e := run_equalIn_int (P := P) w 9998 f.type k q m n h2
    simp only [Op.eqFields, if_pos h1, Sem.run_bind, run_part_sc ⟨_, h2, rfl⟩ h3, run_part_sc ⟨_, h2, rfl⟩ h4, Result.andThen_ok]
    rw [show (9999 : Nat) = 9998 + 1 from rfl, e]
    cases hb : (m == n) <;> simp [Result.andThen, ih]
  | @b f r m n b h1 h2 h3 h4 _ ih =>
    have e := run_equalIn_bool' (P := P) w 9998 f.type m n h2
    simp only [Op.eqFields, if_pos h1, Sem.run_bind, run_part_sc ⟨_, h2, rfl⟩ h3, run_part_sc ⟨_, h2, rfl⟩ h4, Result.andThen_ok]
    rw [show (9999 : Nat) = 9998 + 1 from rfl, e]
    cases hb : (m == n) <;> simp [Result.andThen, ih]
  | @s f r fa us vs c b h1 h2 hp hz hl h3 h4 h5 _ ih =>
    have hfo : P.fieldsOf f.type = fa := by simp [Program.fieldsOf, h2]
    have e : (Op.equalIn (9998 + 1) f.type (.agg us.toArray) (.agg vs.toArray)).run P w = .ok c w := by
      rw [run_equalIn_agg w 9998 f.type _ _ (by rw [hfo]; exact h2) hp, hfo]
      exact h5.run' 9997 w
    simp only [Op.eqFields, if_pos h1, Sem.run_bind, run_part_ag h2 hz h3, run_part_ag h2 (by rw [← hl]; exact hz) h4, Result.andThen_ok]
    rw [show (9999 : Nat) = 9998 + 1 from rfl, e]
    cases c <;> simp [Result.andThen, ih]
theorem FE.mkt {fa : Array Field} {xs ys : List Value} {b : Bool} (hu : P.underlying T = some (.struct fa)) (hp : P.stoodInHeld T = false) (hg : P.eqGuardType P.depth T = false) (h : FEt P xs ys fa.toList b) : FE P T xs ys b := by
  refine ⟨fun w => ?_, hg⟩
  have hf : P.fieldsOf T = fa := by simp [Program.fieldsOf, hu]
  rw [run_equalIn_agg w 9999 T _ _ (by rw [hf]; exact hu) hp, hf]
  exact h.run w
end Go.Sx
