/- The words of a symbolic walk: nil slices, arrays as values, structs compared. -/
import Derived.Test.YtigadacjaglfeaaSx9
import Derived.Lib.SliceRun
import Derived.Laws.StructEq
namespace Go.Sx
open Go Go.RowKit
section
variable {P : Program} {a : Act} {w : World} {N : Nat} {fs : List (Nat × Value)} {d : Option Nat} {T T' e : TypeId} {ty : TypeId} {pos : String} {aft : Array Edge} {g : Option (Nat × Bool)} {x y z : Operand}
theorem isl_nil : IsSl (.slice none 0 0) 0 := ⟨none, 0, rfl, Nat.le_refl _, fun _ => rfl⟩
def IA (P : Program) (T e : TypeId) (n sz : Nat) : Prop := P.underlying T = some (.array n e) ∧ (P.info? e).map (·.size) = some sz
theorem ex_indexC {n sz : Nat} {cs : List Value} {k : IntKind} {i : Int} (m : Nat) {v : Value} (hI : IA P T e n sz) (hS : SC P e) (hi : i = m) (hm : m < n) (hf : Fr a N fs) (hx : ev fs x = some (.agg cs.toArray)) (hy : ev fs y = some (.int k i)) (hv : cs[m * sz]? = some v) :
    (execOp a.eval ⟨d, .index T x y, ty, pos, aft, g⟩).run P w = .ok (.value v) w := by
  obtain ⟨hT, hs⟩ := hI
  subst hi
  have h2 : (0 : Int) ≤ (m : Int) ∧ (m : Int) < n := ⟨by omega, by omega⟩
  simp [execOp, Instr.index, hf.ev hx, hf.ev hy, asIntOf, run_underlying hT, hm, run_sizeOf hs, part, run_isAgg_no hS, hv]
end
end Go.Sx
namespace Go.Sx
open Go Go.RowKit
section
variable {P : Program} {ops : Array Oper} {Q : Exit → Act → World → Prop} {N : Nat} {base : List (Nat × Value)} {n0 : Nat} {tail : List Oper}
def RWe (P : Program) (ops : Array Oper) (Q : Exit → Act → World → Prop) (N : Nat) (base : List (Nat × Value)) (n0 : Nat) (tail : List Oper) (k : Nat) (E : List Nat) (kn : List (Nat × Value)) (R S : World → Prop) (e : Nat) : Prop :=
  ∃ o, ops[e]? = some o ∧ (∀ d, o.dst = some d → Nat.blt d N = true) ∧
      ∀ a w, R w → S w → Fr a N (dsl ops kn (dps o) ++ base) → Region.wanted o (yielded ops a.tmps) = true ∧
        EStep P o a w fun v w' => ∃ (new : List (Nat × Value)) (Rn S' : World → Prop), R w' ∧ Rn w' ∧ S' w' ∧ keysOk n0 (new ++ (e, v) :: kn) = true ∧
          VAll P ops N base (new ++ (e, v) :: kn) (fun w => R w ∧ Rn w) new ∧ RW P ops Q N base n0 tail k (E.erase e) (new ++ (e, v) :: kn) (fun w => R w ∧ Rn w) S'
def RWa (P : Program) (ops : Array Oper) (Q : Exit → Act → World → Prop) (N : Nat) (base : List (Nat × Value)) (n0 : Nat) (tail : List Oper) (k : Nat) (E : List Nat) (kn : List (Nat × Value)) (R S : World → Prop) : List Nat → Prop
  | [] => True
  | e :: es => RWe P ops Q N base n0 tail k E kn R S e ∧ RWa P ops Q N base n0 tail k E kn R S es
theorem RWa.mem {k : Nat} {E : List Nat} {kn : List (Nat × Value)} {R S : World → Prop} : ∀ {es : List Nat}, RWa P ops Q N base n0 tail k E kn R S es → ∀ e ∈ es, RWe P ops Q N base n0 tail k E kn R S e
  | [], _, _, h => by cases h
  | _ :: _, h, e, he => by
    rcases List.mem_cons.1 he with rfl | he
    · exact h.1
    · exact RWa.mem h.2 e he
theorem RW.fork {k : Nat} {E : List Nat} {kn : List (Nat × Value)} {R S : World → Prop} (es : List Nat) (hc : chk ops n0 E kn = true) (hflt : E.filter (rdy ops kn) = es) (h : RWa P ops Q N base n0 tail k E kn R S es) : RW P ops Q N base n0 tail (k + 1) E kn R S := by
  refine ⟨hc, fun e' he hr => ?_⟩
  have : e' ∈ E.filter (rdy ops kn) := List.mem_filter.2 ⟨he, hr⟩
  rw [hflt] at this
  exact h.mem e' this
theorem RWe.mk {k : Nat} {E : List Nat} {kn : List (Nat × Value)} {R S : World → Prop} (e : Nat) {o : Oper} (ho : ops[e]? = some o) (hd : ∀ d, o.dst = some d → Nat.blt d N = true) (fs : List (Nat × Value)) (hsub : Sub fs (dsl ops kn (dps o) ++ base))
    (h : ∀ a w, R w → S w → Fr a N fs → Region.wanted o (yielded ops a.tmps) = true ∧
        EStep P o a w fun v w' => ∃ (new kn' : List (Nat × Value)) (E' : List Nat) (Rn S' : World → Prop), new ++ (e, v) :: kn = kn' ∧ E.erase e = E' ∧ R w' ∧ Rn w' ∧ S' w' ∧ keysOk n0 kn' = true ∧
          VAll P ops N base kn' (fun w => R w ∧ Rn w) new ∧ RW P ops Q N base n0 tail k E' kn' (fun w => R w ∧ Rn w) S') : RWe P ops Q N base n0 tail k E kn R S e := by
  refine ⟨o, ho, hd, fun a w hR hS hf => ?_⟩
  obtain ⟨h1, h2⟩ := h a w hR hS (hf.sub hsub)
  refine ⟨h1, ?_⟩
  have mono : ∀ {N1 N2 : Value → World → Prop}, (∀ v w, N1 v w → N2 v w) → EStep P o a w N1 → EStep P o a w N2 := by
    rintro N1 N2 hn (⟨v, w', q1, q2⟩ | ⟨w', q1, q2⟩ | ⟨f, args, q1, q2⟩)
    · exact .inl ⟨v, w', q1, hn _ _ q2⟩
    · exact .inr (.inl ⟨w', q1, hn _ _ q2⟩)
    · exact .inr (.inr ⟨f, args, q1, q2.mono fun e w' ⟨v, q3, q4⟩ => ⟨v, q3, hn _ _ q4⟩⟩)
  refine mono ?_ h2
  rintro v w' ⟨new, kn', E', Rn, S', rfl, rfl, q⟩
  exact ⟨new, Rn, S', q⟩
theorem wp_cut {c : Code} {a : Act} {w : World} (J : Act → World → Prop) (h : ∀ Q' : Exit → Act → World → Prop, (∀ a w, J a w → Q' .normal a w) → c.wp P Q' a w) (k : ∀ a w, J a w → Q .normal a w) : c.wp P Q a w := h Q k
end
end Go.Sx
