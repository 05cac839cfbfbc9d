/- Words of the pure side: ranges, elements of a list, rounds. -/
import Derived.Test.YtigadacjaglfeaaSx10
namespace Go.Sx
open Go

theorem wu64 (n : Int) : IntKind.u64.wrap n = n % 18446744073709551616 := by
  simp [IntKind.wrap, IntKind.signed, IntKind.bits]
theorem wi64 (n : Int) : IntKind.i64.wrap n = if 9223372036854775808 ≤ n % 18446744073709551616 then n % 18446744073709551616 - 18446744073709551616 else n % 18446744073709551616 := by
  simp [IntKind.wrap, IntKind.signed, IntKind.bits]
/-- a number in its range stays -/
theorem wu (n : Int) (h0 : 0 ≤ n) (h1 : n < 18446744073709551616) : IntKind.u64.wrap n = n := by rw [wu64]; omega
theorem wi (n : Int) (h0 : -9223372036854775808 ≤ n) (h1 : n < 9223372036854775808) : IntKind.i64.wrap n = n := by rw [wi64]; omega
theorem wu_lo (n : Int) : 0 ≤ IntKind.u64.wrap n := by rw [wu64]; omega
theorem wu_hi (n : Int) : IntKind.u64.wrap n < 18446744073709551616 := by rw [wu64]; omega
theorem wi_lo (n : Int) : -9223372036854775808 ≤ IntKind.i64.wrap n := by rw [wi64]; omega
theorem wi_hi (n : Int) : IntKind.i64.wrap n < 9223372036854775808 := by rw [wi64]; omega
theorem tm {a : Int} (b : Int) (h : 0 ≤ a) : Int.tmod a b = a % b := Int.tmod_eq_emod_of_nonneg h
theorem td {a : Int} (b : Int) (h : 0 ≤ a) : Int.tdiv a b = a / b := Int.tdiv_eq_ediv_of_nonneg h

variable {α : Type} {z : α} {xs : List α} {i j : Int} {x : α}
theorem gd_set (h0 : 0 ≤ i) (h1 : i < xs.length) (hj : 0 ≤ j) : gd z (xs.set i.toNat x) j = if j = i then x else gd z xs j := by
  unfold gd
  rw [List.getD_eq_getElem?_getD, List.getD_eq_getElem?_getD, List.getElem?_set]
  by_cases h : j = i
  · subst h; rw [if_pos rfl, if_pos rfl, if_pos (by omega)]; rfl
  · rw [if_neg (by omega), if_neg h]
theorem gd_set_same (h0 : 0 ≤ i) (h1 : i < xs.length) : gd z (xs.set i.toNat x) i = x := by rw [gd_set h0 h1 h0, if_pos rfl]
theorem gd_set_other (h0 : 0 ≤ i) (h1 : i < xs.length) (hj : 0 ≤ j) (h : j ≠ i) : gd z (xs.set i.toNat x) j = gd z xs j := by rw [gd_set h0 h1 hj, if_neg h]
theorem gd_rep {n : Nat} {j : Int} : gd z (List.replicate n z) j = z := by
  unfold gd
  rw [List.getD_eq_getElem?_getD, List.getElem?_replicate]
  split <;> rfl
theorem gd_mem {z : α} {xs : List α} {i : Int} (h0 : 0 ≤ i) (h1 : i < xs.length) : gd z xs i ∈ xs := by
  unfold gd
  rw [List.getD_eq_getElem?_getD, List.getElem?_eq_getElem (show i.toNat < xs.length by omega)]
  exact List.getElem_mem _
theorem bind_s {α β : Type} {x : Option α} {y : α} {f : α → Option β} (h : x = some y) : x.bind f = f y := by rw [h]; rfl
theorem el_g {σ ρ β : Type} {s : σ} {f : σ → Option β} {g : ρ → Option β} : (Ex.go s : Ex σ ρ).el f g = f s := rfl
theorem el_r {σ ρ β : Type} {s : ρ} {f : σ → Option β} {g : ρ → Option β} : (Ex.rt s : Ex σ ρ).el f g = g s := rfl
theorem tm_u {k : IntKind} {a : Int} (h : inK k a) : k.min ≤ a ∧ a ≤ k.max := h
theorem bind_q {α β : Type} {X : Option α} {f : α → Option β} {Q : β → Prop} (h : ∃ x, X = some x) (k : ∀ x, X = some x → ∃ r, f x = some r ∧ Q r) : ∃ r, X.bind f = some r ∧ Q r := by
  obtain ⟨x, rfl⟩ := h
  exact k x rfl
theorem bind_e {α β : Type} {X : Option α} {f : α → Option β} (h : ∃ x, X = some x) (k : ∀ x, X = some x → ∃ r, f x = some r) : ∃ r, X.bind f = some r := by
  obtain ⟨x, rfl⟩ := h
  exact k x rfl
theorem mul_bd {a b A B : Int} (h0 : 0 ≤ a) (h1 : a ≤ A) (h2 : 0 ≤ b) (h3 : b ≤ B) : 0 ≤ a * b ∧ a * b ≤ A * B :=
  ⟨Int.mul_nonneg h0 h2, Int.le_trans (Int.mul_le_mul_of_nonneg_right h1 h2) (Int.mul_le_mul_of_nonneg_left h3 (Int.le_trans h0 h1))⟩
theorem drop_gd {α : Type} {z : α} {xs : List α} {i : Int} (h0 : 0 ≤ i) (h1 : i < xs.length) : xs.drop i.toNat = gd z xs i :: xs.drop (i + 1).toNat := by
  rw [List.drop_eq_getElem_cons (show i.toNat < xs.length by omega), show (i + 1).toNat = i.toNat + 1 by omega]
  congr 1
  unfold gd
  rw [List.getD_eq_getElem?_getD, List.getElem?_eq_getElem (show i.toNat < xs.length by omega)]
  rfl
theorem drop_end {α : Type} {xs : List α} {i : Int} (h1 : ¬ i < xs.length) : xs.drop i.toNat = [] := List.drop_eq_nil_of_le (by omega)
theorem mx_ge (a b : Int) : a ≤ mx a b ∧ b ≤ mx a b ∧ (mx a b = a ∨ mx a b = b) := by unfold mx; split <;> omega
theorem mn_le (a b : Int) : mn a b ≤ a ∧ mn a b ≤ b ∧ (mn a b = a ∨ mn a b = b) := by unfold mn; split <;> omega
theorem mx_comm (a b : Int) : mx a b = mx b a := by unfold mx; split <;> split <;> omega
theorem mx_assoc (a b c : Int) : mx (mx a b) c = mx a (mx b c) := by
  have := mx_ge a b; have := mx_ge b c; have := mx_ge (mx a b) c; have := mx_ge a (mx b c); omega
instance : Std.Commutative mx := ⟨mx_comm⟩
instance : Std.Associative mx := ⟨mx_assoc⟩
end Go.Sx
