/- The words of a symbolic walk: shorter forms for the printed texts. -/
import Derived.Test.YtigadacjaglfeaaSx8
namespace Go.Sx
open Go Go.RowKit
variable {P : Program} {ops : Array Oper} {Q : Exit → Act → World → Prop} {N : Nat} {base : List (Nat × Value)} {n0 : Nat} {tail : List Oper} {a : Act} {w w0 : World} {fs : List (Nat × Value)} {m : Nat → Prop} {os ks cs : List Ob}
theorem Fr.castB (hf : Fr a N fs) {t : Nat} {x b : Bool} (hl : look t fs = some (.bool x)) (hx : x = b) : Fr a N ((t, .bool b) :: fs) := by
  subst hx
  refine ⟨hf.df, hf.sz, fun t' v h => ?_⟩
  simp only [look] at h
  cases e : Nat.beq t' t with
  | true =>
    have e' : t' = t := Nat.eq_of_beq_eq_true e
    rw [e] at h; simp at h; subst h; subst e'
    exact hf.get _ _ hl
  | false => rw [e] at h; exact hf.get t' v (by simpa using h)
theorem St.keep (h : St m w0 w os) (sp : Split os [] ks) : St m w0 w ks := h.pick sp
theorem RW.zero {kn : List (Nat × Value)} {R S : World → Prop} (hc : chk ops n0 [] kn = true) (hk : keysOk n0 kn = true) (fs : List (Nat × Value)) (hsub : Sub fs (slots ops kn ++ base)) (h : ∀ a w, R w → S w → Fr a N fs → wpList P ops Q tail a w) : RW P ops Q N base n0 tail 0 [] kn R S :=
  ⟨rfl, hc, hk, fun a w hR hS hf => h a w hR hS (hf.sub hsub)⟩
theorem RW.one {k : Nat} {E : List Nat} {kn : List (Nat × Value)} {R S : World → Prop} (e : Nat) {o : Oper} (hc : chk ops n0 E kn = true) (hflt : E.filter (rdy ops kn) = [e]) (ho : ops[e]? = some o) (hd : ∀ d, o.dst = some d → Nat.blt d N = true) (fs : List (Nat × Value)) (hsub : Sub fs (dsl ops kn (dps o) ++ base))
    (h : ∀ a w, R w → S w → Fr a N fs → Region.wanted o (yielded ops a.tmps) = true ∧
        EStep P o a w fun v w' => ∃ (new kn' : List (Nat × Value)) (E' : List Nat) (Rn S' : World → Prop), new ++ (e, v) :: kn = kn' ∧ E.erase e = E' ∧ R w' ∧ Rn w' ∧ S' w' ∧ keysOk n0 kn' = true ∧
          VAll P ops N base kn' (fun w => R w ∧ Rn w) new ∧ RW P ops Q N base n0 tail k E' kn' (fun w => R w ∧ Rn w) S') : RW P ops Q N base n0 tail (k + 1) E kn R S := by
  refine ⟨hc, fun e' he hr => ?_⟩
  have : e' ∈ E.filter (rdy ops kn) := List.mem_filter.2 ⟨he, hr⟩
  rw [hflt] at this
  simp only [List.mem_singleton] at this
  subst this
  refine ⟨o, ho, hd, fun a w hR hS hf => ?_⟩
  obtain ⟨h1, h2⟩ := h a w hR hS (hf.sub hsub)
  refine ⟨h1, ?_⟩
  have mono : ∀ {N1 N2 : Value → World → Prop}, (∀ v w, N1 v w → N2 v w) → EStep P o a w N1 → EStep P o a w N2 := by
    rintro N1 N2 hn (⟨v, w', q1, q2⟩ | ⟨w', q1, q2⟩ | ⟨f, args, q1, q2⟩)
    · exact .inl ⟨v, w', q1, hn _ _ q2⟩
    · exact .inr (.inl ⟨w', q1, hn _ _ q2⟩)
    · exact .inr (.inr ⟨f, args, q1, q2.mono fun e w' ⟨v, q3, q4⟩ => ⟨v, q3, hn _ _ q4⟩⟩)
  refine mono ?_ h2
  rintro v w' ⟨new, kn', E', Rn, S', rfl, rfl, q⟩
  exact ⟨new, Rn, S', q⟩
end Go.Sx
namespace Go.Sx
open Go Go.RowKit
variable {P : Program} {a : Act} {w : World} {N : Nat} {fs : List (Nat × Value)} {d : Option Tmp} {T T' ty : TypeId} {pos : String} {aft : Array Edge} {g : Option (Nat × Bool)} {x y z : Operand} {S : Type} {K : EK S}
theorem nil_rsl (K : EK S) (w : World) : (rsl K (.slice none 0 0) []).ok w := ⟨⟨none, 0, rfl, Nat.le_refl _, fun _ => rfl⟩, fun j u h => by simp at h⟩
theorem nil_fs : ∀ b, ¬ (rsl K (.slice none 0 0) []).fs b := fun b h => by cases h.1
theorem bool_f {b : Bool} (h : ¬ b = true) : b = false := by cases b <;> simp_all
theorem nbool_f {b : Bool} (h : b = true) : (!b) = false := by rw [h]; rfl
theorem nbool_t {b : Bool} (h : ¬ b = true) : (!b) = true := by rw [bool_f h]; rfl
theorem ex_makeFunc {f : FuncId} {l : List Operand} {vs : List Value} (hf : Fr a N fs) (hx : evs fs l = some vs) : (execOp a.eval ⟨d, .makeFunc (.func f) #[] l.toArray, ty, pos, aft, g⟩).run P w = .ok (.value (.func (.func f) #[] vs.toArray)) w := by
  have hm : l.toArray.map a.eval = vs.toArray := by simp [hf.evs hx]
  simp [execOp, Instr.makeFunc, hm]
theorem all1_nil : ∀ v ∈ ([] : List Value), v.oneCell' = true := fun _ h => by cases h
theorem all1 {v : Value} {cs : List Value} (h : v.oneCell' = true) (hs : ∀ v ∈ cs, v.oneCell' = true) : ∀ u ∈ v :: cs, u.oneCell' = true := fun u hu => by
  rcases List.mem_cons.1 hu with rfl | hu
  · exact h
  · exact hs u hu
theorem view_1 {lo hi n : Int} (h : 0 ≤ lo ∧ lo ≤ hi ∧ hi ≤ n) : lo.toNat ≤ hi.toNat := by omega
theorem view_2 {lo hi : Int} {n : Nat} (h : 0 ≤ lo ∧ lo ≤ hi ∧ hi ≤ n) : hi.toNat ≤ n := by omega
variable {e : TypeId} {sz n : Nat} {v : Value}
theorem ex_slice_h {k2 : IntKind} {hi : Int} (hT : SA P T e sz) (hv : IsSl v n) (h : 0 ≤ (0 : Int) ∧ 0 ≤ hi ∧ hi ≤ (n : Int)) (hf : Fr a N fs) (hx : ev fs x = some v) (hz : ev fs z = some (.int k2 hi)) :
    (execOp a.eval ⟨d, .slice T x none (some z) none, ty, pos, aft, g⟩).run P w = .ok (.value (slv v 0 hi.toNat sz)) w := by
  obtain ⟨hT1, hsz⟩ := hT
  obtain ⟨A, c, rfl, hc, _⟩ := hv
  have h' : P.underlying T = some (.slice (P.elem T)) := by simp [Program.elem, hT1]
  have he : P.elem T = e := by simp [Program.elem, hT1]
  simp [execOp, hf.ev hx, hf.ev hz, run_sliceAt_slice w T _ _ _ _ h', run_slice_h w T A n c h' k2 hi h.2.1 (by omega), he, run_sizeOf hsz, slv]
theorem ex_slice_l {k1 : IntKind} {lo : Int} (hT : SA P T e sz) (hv : IsSl v n) (h : 0 ≤ lo ∧ lo ≤ (n : Int) ∧ (n : Int) ≤ (n : Int)) (hf : Fr a N fs) (hx : ev fs x = some v) (hy : ev fs y = some (.int k1 lo)) :
    (execOp a.eval ⟨d, .slice T x (some y) none none, ty, pos, aft, g⟩).run P w = .ok (.value (slv v lo.toNat (n : Int).toNat sz)) w := by
  obtain ⟨hT1, hsz⟩ := hT
  obtain ⟨A, c, rfl, hc, _⟩ := hv
  have h' : P.underlying T = some (.slice (P.elem T)) := by simp [Program.elem, hT1]
  have he : P.elem T = e := by simp [Program.elem, hT1]
  simp [execOp, hf.ev hx, hf.ev hy, run_sliceAt_slice w T _ _ _ _ h', run_slice_l w T A n c h' k1 lo h.1 h.2.1, he, run_sizeOf hsz, slv]
end Go.Sx
namespace Go.Sx
open Go Go.RowKit
variable {P : Program} {o : Oper} {a : Act} {w : World}
theorem ex_castB {s : Sem Next} {x b : Bool} {w : World} (h : s.run P w = .ok (.value (.bool x)) w) (hx : x = b) : s.run P w = .ok (.value (.bool b)) w := by subst hx; exact h
theorem estep_v {R Next : Value → World → Prop} (h : ∃ v w', (execOp a.eval o).run P w = .ok (.value v) w' ∧ R v w') (k : ∀ v w', R v w' → Next v w') : EStep P o a w Next := by
  obtain ⟨v, w', h1, h2⟩ := h
  exact .inl ⟨v, w', h1, k v w' h2⟩
theorem estep_s {R : World → Prop} {Next : Value → World → Prop} (h : ∃ w', (execOp a.eval o).run P w = .ok .skip w' ∧ R w') (k : ∀ w', R w' → Next undef w') : EStep P o a w Next := by
  obtain ⟨w', h1, h2⟩ := h
  exact .inr (.inl ⟨w', h1, k w' h2⟩)
theorem estep_f {f : FuncId} {args : Array Value} {R Next : Value → World → Prop} (hv : (execOp a.eval o).run P w = .ok (.enter f args) w) (hc : Calls P f args w fun e w' => ∃ v, e = .returned v ∧ R v w') (k : ∀ v w', R v w' → Next v w') : EStep P o a w Next :=
  .inr (.inr ⟨f, args, hv, hc.mono fun _ w' ⟨v, he, hR⟩ => ⟨v, he, k v w' hR⟩⟩)
end Go.Sx
