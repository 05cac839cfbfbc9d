/- Words of the pure side: ranges, elements of a list, rounds. -/
import Derived.Test.YtigadacjaglfeaaSx10
namespace Go.Sx
open Go
theorem wu64 (n : Int) : IntKind.u64.wrap n = n % 18446744073709551616 := by
  simp [IntKind.wrap, IntKind.signed, IntKind.bits]
theorem wi64 (n : Int) : IntKind.i64.wrap n = if 9223372036854775808 ≤ n % 18446744073709551616 then n % 18446744073709551616 - 18446744073709551616 else n % 18446744073709551616 := by
  simp [IntKind.wrap, IntKind.signed, IntKind.bits]
theorem wu (n : Int) (h0 : 0 ≤ n) (h1 : n < 18446744073709551616) : IntKind.u64.wrap n = n := by rw [wu64]; omega
theorem wi (n : Int) (h0 : -9223372036854775808 ≤ n) (h1 : n < 9223372036854775808) : IntKind.i64.wrap n = n := by rw [wi64]; omega
theorem wu_lo (n : Int) : 0 ≤ IntKind.u64.wrap n := by rw [wu64]; omega
theorem wu_hi (n : Int) : IntKind.u64.wrap n < 18446744073709551616 := by rw [wu64]; omega
theorem tm {a : Int} (b : Int) (h : 0 ≤ a) : Int.tmod a b = a % b := Int.tmod_eq_emod_of_nonneg h
variable {α : Type} {z : α} {xs : List α} {i j : Int} {x : α}
theorem gd_set (h0 : 0 ≤ i) (h1 : i < xs.length) (hj : 0 ≤ j) : gd z (xs.set i.toNat x) j = if j = i then x else gd z xs j := by
  unfold gd
  rw [List.getD_eq_getElem?_getD, List.getD_eq_getElem?_getD, List.getElem?_set]
  by_cases h : j = i
  · subst h; rw [if_pos rfl, if_pos rfl, if_pos (by omega)]; rfl
  · rw [if_neg (by omega), if_neg h]
theorem gd_set_same (h0 : 0 ≤ i) (h1 : i < xs.length) : gd z (xs.set i.toNat x) i = x := by rw [gd_set h0 h1 h0, if_pos rfl]
theorem gd_rep {n : Nat} {j : Int} : gd z (List.replicate n z) j = z := by
  unfold gd
  rw [List.getD_eq_getElem?_getD, List.getElem?_replicate]
  split <;> rfl
theorem gd_mem {z : α} {xs : List α} {i : Int} (h0 : 0 ≤ i) (h1 : i < xs.length) : gd z xs i ∈ xs := by
  unfold gd
  rw [List.getD_eq_getElem?_getD, List.getElem?_eq_getElem (show i.toNat < xs.length by omega)]
  exact List.getElem_mem _
theorem el_g {σ ρ β : Type} {s : σ} {f : σ → Option β} {g : ρ → Option β} : (Ex.go s : Ex σ ρ).el f g = f s := rfl
theorem el_r {σ ρ β : Type} {s : ρ} {f : σ → Option β} {g : ρ → Option β} : (Ex.rt s : Ex σ ρ).el f g = g s := rfl
theorem drop_gd {α : Type} {z : α} {xs : List α} {i : Int} (h0 : 0 ≤ i) (h1 : i < xs.length) : xs.drop i.toNat = gd z xs i :: xs.drop (i + 1).toNat := by
  rw [List.drop_eq_getElem_cons (show i.toNat < xs.length by omega), show (i + 1).toNat = i.toNat + 1 by omega]
  congr 1
  unfold gd
  rw [List.getD_eq_getElem?_getD, List.getElem?_eq_getElem (show i.toNat < xs.length by omega)]
  rfl
theorem drop_end {α : Type} {xs : List α} {i : Int} (h1 : ¬ i < xs.length) : xs.drop i.toNat = [] := List.drop_eq_nil_of_le (by omega)
end Go.Sx
