/- The laws on the pure side: io8. -/
import Derived.Test.YtigadacjaglfeaaQ7
namespace Go.Proofs.Ytigadacjaglfeaa.X
open Go Go.Sx
theorem awake_f : law09_awake.f 1000 = some true := by kernel_rfl
theorem mod_f (k : Nat) {a m : Int} (h0 : 0 < m) (h1 : m < 4611686018427387904) : help_Mod.f k a m = some (a % 18446744073709551616 % m) := by
  unfold help_Mod.f
  have e : IntKind.u64.wrap m = m := wu _ (by omega) (by omega)
  have q0 := Int.emod_nonneg (a % 18446744073709551616) (show m ≠ 0 by omega)
  have q1 := Int.emod_lt_of_pos (a % 18446744073709551616) h0
  have hn : 0 ≤ a % 18446744073709551616 := by omega
  rw [e, ck_t (by omega), wu64, tm _ hn, wi _ (by omega) (by omega)]
theorem ins_gd {α : Type} {z x : α} {L : List α} {p : Int} (h0 : 0 ≤ p) (h1 : p ≤ L.length) {j : Int} (hj : 0 ≤ j) : gd z (L.take p.toNat ++ x :: L.drop p.toNat) j = if j < p then gd z L j else if j = p then x else gd z L (j - 1) := by
  unfold gd
  rw [List.getD_eq_getElem?_getD, List.getD_eq_getElem?_getD, List.getD_eq_getElem?_getD]
  have hl : (L.take p.toNat).length = p.toNat := by simp; omega
  by_cases c : j < p
  · rw [if_pos c, List.getElem?_append_left (by omega), List.getElem?_take, if_pos (by omega)]
  · rw [if_neg c, List.getElem?_append_right (by omega), hl]
    by_cases c2 : j = p
    · rw [if_pos c2, show j.toNat - p.toNat = 0 by omega]; rfl
    · rw [if_neg c2, show j.toNat - p.toNat = (j.toNat - p.toNat - 1) + 1 by omega, List.getElem?_cons_succ, List.getElem?_drop, show p.toNat + (j.toNat - p.toNat - 1) = (j - 1).toNat by omega]
theorem LW.ins {L : List mapping} {x : mapping} {p : Int} (h : LW L) (hx : MW x) (h0 : 0 ≤ p) (h1 : p ≤ L.length) (hl : L.length < 256) (hd : ∀ i : Int, 0 ≤ i → i < L.length → ¬ ov (gd mapping.zero L i).r x.r) : LW (L.take p.toNat ++ x :: L.drop p.toNat) := by
  have hlen : (L.take p.toNat ++ x :: L.drop p.toNat).length = L.length + 1 := by simp; omega
  have hsym : ∀ a b : Range, ov a b → ov b a := fun a b q => ⟨q.2, q.1⟩
  refine ⟨fun i i0 i1 => ?_, fun i j i0 i1 j0 j1 hij => ?_, by omega⟩
  · rw [ins_gd h0 h1 i0]
    split
    · exact h.mw i i0 (by omega)
    · split
      · exact hx
      · exact h.mw (i - 1) (by omega) (by omega)
  · rw [ins_gd h0 h1 i0, ins_gd h0 h1 j0]
    split
    · split
      · exact h.dis i j i0 (by omega) j0 (by omega) hij
      · split
        · exact hd i i0 (by omega)
        · exact h.dis i (j - 1) i0 (by omega) (by omega) (by omega) (by omega)
    · split
      · split
        · exact fun q => hd j j0 (by omega) (hsym _ _ q)
        · split
          · omega
          · exact fun q => hd (j - 1) (by omega) (by omega) (hsym _ _ q)
      · split
        · exact h.dis (i - 1) j (by omega) (by omega) j0 (by omega) (by omega)
        · split
          · exact hd (i - 1) (by omega) (by omega)
          · exact h.dis (i - 1) (j - 1) (by omega) (by omega) (by omega) (by omega) (by omega)
theorem LW.nil : LW [] := ⟨fun i h0 h1 => by simp at h1; omega, fun i j h0 h1 => by simp at h1; omega, by simp⟩
theorem BL.of {n0 n1 n2 : List mapping} (h : ∀ t, SP t → LW (sel t n0 n1 n2)) : BL n0 n1 n2 := ⟨h 0 (.inl rfl), h 1 (.inr (.inl rfl)), h 2 (.inr (.inr rfl))⟩
theorem FL.nil : FL [] := ⟨fun i h0 h1 => by simp at h1; omega, by simp⟩
section
variable {s : Int} {m : mapping} {n0 n1 n2 : List mapping} {en : List Bool} {tr : List Traced} {a : Access} {k : Nat}
end
theorem MW.st {m : mapping} (h : MW m) (a v : Int) (n : Nat) : MW { m with data := stN m.data a v n } := ⟨h.r, h.o, stN_bd h.d a v n⟩
theorem noF_nil {α : Type} {z : α} {p : α → Prop} : NoF z p [] := fun j h0 h1 => by simp at h1; omega
theorem width_of {i : Int} (h0 : 0 ≤ i) (h1 : i < 4) : WW (gd 0 ([1, 2, 4, 8] : List Int) i) := by
  have : i = 0 ∨ i = 1 ∨ i = 2 ∨ i = 3 := by omega
  unfold WW
  rcases this with rfl | rfl | rfl | rfl
  · exact .inl rfl
  · exact .inr (.inl rfl)
  · exact .inr (.inr (.inl rfl))
  · exact .inr (.inr (.inr rfl))
end Go.Proofs.Ytigadacjaglfeaa.X
