/- The laws on the pure side: io1. -/
import Derived.Test.YtigadacjaglfeaaFa
import Derived.Test.YtigadacjaglfeaaSx11
namespace Go.Proofs.Ytigadacjaglfeaa.X
open Go Go.Sx
theorem wu8 (n : Int) : IntKind.u8.wrap n = n % 256 := by
  show (let m := n % (2 ^ 8 : Int); if (IntKind.u8.signed && m ≥ (2 ^ (8 - 1) : Int)) = true then m - (2 ^ 8 : Int) else m) = _
  simp [IntKind.signed]
theorem mget_put (D : List (Int × Int)) (a v b : Int) : mgetd (mput D a v) b = if b = a then v else mgetd D b := by
  have h : ∀ D : List (Int × Int), mget (mput D a v) b = if b = a then some v else mget D b := by
    intro D
    induction D with
    | nil =>
      simp only [mput, mget]
      by_cases e : a = b
      · rw [if_pos e, if_pos e.symm]
      · rw [if_neg e, if_neg (Ne.symm e)]
    | cons p r ih =>
      simp only [mput]
      by_cases e : p.1 = a
      · rw [if_pos e]
        simp only [mget]
        by_cases e2 : a = b
        · rw [if_pos e2, if_pos e2.symm]
        · rw [if_neg e2, if_neg (Ne.symm e2), if_neg (by omega)]
      · rw [if_neg e]
        simp only [mget]
        by_cases e2 : p.1 = b
        · rw [if_pos e2, if_pos e2, if_neg (by omega)]
        · rw [if_neg e2, if_neg e2, ih]
  unfold mgetd
  rw [h D]
  by_cases e : b = a
  · rw [if_pos e, if_pos e]; rfl
  · rw [if_neg e, if_neg e]
theorem nat_u64 (n : Nat) (h : n < 18446744073709551616) : (BitVec.ofInt IntKind.u64.bits (n : Int)).toNat = n := by
  show (BitVec.ofInt 64 (n : Int)).toNat = n
  rw [BitVec.toNat_ofInt]; omega
theorem and_u64 (a b : Nat) (ha : a < 18446744073709551616) (hb : b < 18446744073709551616) : bitw .and .u64 a b = ((a &&& b : Nat) : Int) := by
  unfold bitw
  simp only [BitVec.toNat_and, nat_u64 a ha, nat_u64 b hb]
  exact wu _ (by omega) (by have := Nat.and_le_left (n := a) (m := b); omega)
theorem or_u64 (a b : Nat) (ha : a < 18446744073709551616) (hb : b < 18446744073709551616) : bitw .or .u64 a b = ((a ||| b : Nat) : Int) := by
  unfold bitw
  simp only [BitVec.toNat_or, nat_u64 a ha, nat_u64 b hb]
  exact wu _ (by omega) (by have := Nat.or_lt_two_pow (x := a) (y := b) (n := 64) (by omega) (by omega); omega)
theorem or_add (y b i : Nat) (hy : y < 2 ^ i) : y ||| (b * 2 ^ i) = y + b * 2 ^ i := by
  have := Nat.two_pow_add_eq_or_of_lt hy b
  rw [Nat.or_comm, Nat.mul_comm b, ← this, Nat.add_comm]
def WW (w : Int) : Prop := w = 1 ∨ w = 2 ∨ w = 4 ∨ w = 8
def pw (w : Int) : Int := if w = 1 then 256 else if w = 2 then 65536 else if w = 4 then 4294967296 else 18446744073709551616
theorem mask_f (k : Nat) {w : Int} (h : WW w) : iospace_mask.f k w = some (pw w - 1) := by
  rcases h with rfl | rfl | rfl | rfl <;> kernel_rfl
theorem ones_f (k : Nat) {w : Int} (h : WW w) : ref09_Ones.f k w = some (pw w - 1) := by
  rcases h with rfl | rfl | rfl | rfl <;> kernel_rfl
theorem and_mask {v w : Int} (h : WW w) (h0 : 0 ≤ v) (h1 : v < 18446744073709551616) : bitw .and .u64 v (pw w - 1) = v % pw w := by
  obtain ⟨n, rfl⟩ : ∃ n : Nat, v = n := ⟨v.toNat, by omega⟩
  have key : ∀ (j : Nat), j ≤ 64 → bitw .and .u64 n (((2 ^ j - 1 : Nat)) : Int) = ((n % 2 ^ j : Nat) : Int) := fun j hj => by
    have : 2 ^ j ≤ 2 ^ 64 := Nat.pow_le_pow_right (by omega) hj
    rw [and_u64 n (2 ^ j - 1) (by omega) (by omega), Nat.and_two_pow_sub_one_eq_mod]
  rcases h with rfl | rfl | rfl | rfl
  · exact (key 8 (by omega)).trans (by simp [pw])
  · exact (key 16 (by omega)).trans (by simp [pw])
  · exact (key 32 (by omega)).trans (by simp [pw])
  · exact (key 64 (by omega)).trans (by simp [pw])
structure VR (r : Range) : Prop where
  b0 : 0 ≤ r.Base
  l1 : 1 ≤ r.Len
  l2 : r.Len ≤ 1048576
  e : r.Base + r.Len ≤ 18446744073709551616
def inr (r : Range) (a : Int) : Prop := r.Base ≤ a ∧ a < r.Base + r.Len
def ov (a b : Range) : Prop := a.Base < b.Base + b.Len ∧ b.Base < a.Base + a.Len
instance (r : Range) (a : Int) : Decidable (inr r a) := by unfold inr; infer_instance
instance (a b : Range) : Decidable (ov a b) := by unfold ov; infer_instance
theorem last_f (k : Nat) {r : Range} (h : VR r) : iospace_last.f k r = some (r.Base + r.Len - 1) := by
  obtain ⟨h1, h2, h3, h4⟩ := h
  unfold iospace_last.f
  rw [wu (r.Len - 1) (by omega) (by omega), wu _ (by omega) (by omega)]
  congr 1; omega
theorem bnd_s {α β : Type} {x : Option α} {a : α} {f : α → Option β} (h : x = some a) : x.bind f = f a := by rw [h]; rfl
theorem overlap_f (k : Nat) {a b : Range} (ha : VR a) (hb : VR b) : iospace_overlap.f k a b = some (decide (ov a b)) := by
  obtain ⟨h1, h2, h3, h4⟩ := id ha
  obtain ⟨q1, q2, q3, q4⟩ := id hb
  unfold iospace_overlap.f
  rw [bnd_s (last_f k hb)]
  by_cases c : a.Base ≤ b.Base + b.Len - 1
  · rw [if_pos c, bnd_s (last_f k ha)]
    congr 1
    unfold ov
    exact decide_eq_decide.2 ⟨fun _ => by omega, fun _ => by omega⟩
  · rw [if_neg c]
    congr 1
    unfold ov
    exact (decide_eq_false (by omega)).symm
theorem has_f (k : Nat) {r : Range} {a : Int} (h : VR r) (h0 : 0 ≤ a) (h1 : a < 18446744073709551616) : ref09_has.f k r a = some (decide (inr r a)) := by
  obtain ⟨q1, q2, q3, q4⟩ := id h
  unfold ref09_has.f
  by_cases c : r.Base ≤ a
  · rw [if_pos c, wu (a - r.Base) (by omega) (by omega)]
    congr 1
    unfold inr
    exact decide_eq_decide.2 ⟨fun _ => by omega, fun _ => by omega⟩
  · rw [if_neg c]
    congr 1
    unfold inr
    exact (decide_eq_false (by omega)).symm
theorem roverlap_f (k : Nat) {a b : Range} (ha : VR a) (hb : VR b) : ref09_overlap.f k a b = some (decide (ov a b)) := by
  obtain ⟨h1, h2, h3, h4⟩ := id ha
  obtain ⟨q1, q2, q3, q4⟩ := id hb
  unfold ref09_overlap.f
  rw [bnd_s (has_f k ha q1 (by omega))]
  by_cases c : inr a b.Base
  · rw [if_pos (decide_eq_true c)]
    congr 1
    unfold inr at c
    unfold ov
    exact (decide_eq_true (by omega)).symm
  · rw [if_neg (by rw [decide_eq_false c]; decide), bnd_s (has_f k hb h1 (by omega))]
    congr 1
    unfold inr at c
    unfold ov inr
    exact decide_eq_decide.2 ⟨fun _ => by omega, fun _ => by omega⟩
instance (r : Range) : Decidable (VR r) := decidable_of_iff (0 ≤ r.Base ∧ 1 ≤ r.Len ∧ r.Len ≤ 1048576 ∧ r.Base + r.Len ≤ 18446744073709551616) ⟨fun ⟨a, b, c, d⟩ => ⟨a, b, c, d⟩, fun ⟨a, b, c, d⟩ => ⟨a, b, c, d⟩⟩
def U (a : Int) : Prop := 0 ≤ a ∧ a < 18446744073709551616
theorem validRange_f (k : Nat) {r : Range} (hb : U r.Base) (hl : U r.Len) : iospace_validRange.f k r = some (decide (VR r)) := by
  obtain ⟨h1, h2⟩ := hb
  obtain ⟨h3, h4⟩ := hl
  unfold iospace_validRange.f
  by_cases c1 : 1 ≤ r.Len
  · rw [if_pos c1]
    by_cases c2 : r.Len ≤ 1048576
    · rw [if_pos c2, wu (r.Len - 1) (by omega) (by omega), wu (18446744073709551615 - r.Base) (by omega) (by omega)]
      congr 1
      exact decide_eq_decide.2 ⟨fun _ => ⟨by omega, by omega, by omega, by omega⟩, fun ⟨_, _, _, _⟩ => by omega⟩
    · rw [if_neg c2]
      congr 1
      exact (decide_eq_false fun ⟨_, _, _, _⟩ => by omega).symm
  · rw [if_neg c1]
    congr 1
    exact (decide_eq_false fun ⟨_, _, _, _⟩ => by omega).symm
theorem rvalidRange_f (k : Nat) {r : Range} (hb : U r.Base) (hl : U r.Len) : ref09_ValidRange.f k r = some (decide (VR r)) := by
  obtain ⟨h1, h2⟩ := hb
  obtain ⟨h3, h4⟩ := hl
  unfold ref09_ValidRange.f
  by_cases c1 : 1 ≤ r.Len
  · rw [if_pos c1]
    by_cases c2 : r.Len ≤ 1048576
    · rw [if_pos c2, wu (r.Len - 1) (by omega) (by omega), wu (18446744073709551615 - (r.Len - 1)) (by omega) (by omega)]
      congr 1
      exact decide_eq_decide.2 ⟨fun _ => ⟨by omega, by omega, by omega, by omega⟩, fun ⟨_, _, _, _⟩ => by omega⟩
    · rw [if_neg c2]
      congr 1
      exact (decide_eq_false fun ⟨_, _, _, _⟩ => by omega).symm
  · rw [if_neg c1]
    congr 1
    exact (decide_eq_false fun ⟨_, _, _, _⟩ => by omega).symm
def SP (s : Int) : Prop := s = 0 ∨ s = 1 ∨ s = 2
instance (s : Int) : Decidable (SP s) := by unfold SP; infer_instance
theorem validSpace_f (k : Nat) (s : Int) : iospace_validSpace.f k s = some (decide (SP s)) := by
  unfold iospace_validSpace.f SP
  by_cases c : 0 ≤ s
  · rw [if_pos c]; congr 1
    exact decide_eq_decide.2 ⟨fun _ => by omega, fun _ => by omega⟩
  · rw [if_neg c]; congr 1
    exact (decide_eq_false (by omega)).symm
theorem ordinary_f (k : Nat) (s : Int) : ref09_ordinary.f k s = some (decide (SP s)) := by
  unfold ref09_ordinary.f SP
  by_cases c : 0 ≤ s
  · rw [if_pos c]; congr 1
    exact decide_eq_decide.2 ⟨fun _ => by omega, fun _ => by omega⟩
  · rw [if_neg c]; congr 1
    exact (decide_eq_false (by omega)).symm
def OW (o : Int) : Prop := 0 ≤ o ∧ o < 256
instance (s : Int) : Decidable (OW s) := by unfold OW; infer_instance
theorem validOwner_f (k : Nat) (o : Int) : iospace_validOwner.f k o = some (decide (OW o)) := by
  unfold iospace_validOwner.f OW
  by_cases c : 0 ≤ o
  · rw [if_pos c]; congr 1
    exact decide_eq_decide.2 ⟨fun _ => by omega, fun _ => by omega⟩
  · rw [if_neg c]; congr 1
    exact (decide_eq_false (by omega)).symm
def Fnd {α : Type} (z : α) (p : α → Prop) (L : List α) (i : Int) : Prop := 0 ≤ i ∧ i < L.length ∧ p (gd z L i) ∧ ∀ j : Int, 0 ≤ j → j < i → ¬ p (gd z L j)
def NoF {α : Type} (z : α) (p : α → Prop) (L : List α) : Prop := ∀ j : Int, 0 ≤ j → j < L.length → ¬ p (gd z L j)
theorem srch {α ρ : Type} (z : α) (p : α → Prop) [DecidablePred p] (X : Int → ρ) (L : List α) (l : Nat → Int → Option (Ex Unit ρ))
    (step : ∀ k y, 0 ≤ y → y < (L.length : Int) → p (gd z L y) → l (k + 1) y = some (.rt (X y)))
    (next : ∀ k y, 0 ≤ y → y < (L.length : Int) → ¬ p (gd z L y) → l (k + 1) y = l k (y + 1))
    (stop : ∀ k y, (L.length : Int) ≤ y → l (k + 1) y = some (.go ())) :
    ∀ (n k : Nat) (y : Int), 0 ≤ y → y ≤ L.length → (L.length : Int) - y ≤ n → n < k → (∀ j : Int, 0 ≤ j → j < y → ¬ p (gd z L j)) →
      (∃ i, Fnd z p L i ∧ l k y = some (.rt (X i))) ∨ (NoF z p L ∧ l k y = some (.go ())) := by
  intro n
  induction n with
  | zero =>
    intro k y h0 h1 h2 h3 h4
    obtain ⟨k, rfl⟩ : ∃ m, k = m + 1 := ⟨k - 1, by omega⟩
    exact .inr ⟨fun j hj0 hj1 => h4 j hj0 (by omega), stop k y (by omega)⟩
  | succ n ih =>
    intro k y h0 h1 h2 h3 h4
    obtain ⟨k, rfl⟩ : ∃ m, k = m + 1 := ⟨k - 1, by omega⟩
    by_cases c : y < (L.length : Int)
    · by_cases hp : p (gd z L y)
      · exact .inl ⟨y, ⟨h0, c, hp, h4⟩, step k y h0 c hp⟩
      · rw [next k y h0 c hp]
        refine ih k (y + 1) (by omega) (by omega) (by omega) (by omega) fun j hj0 hj1 => ?_
        by_cases e : j = y
        · subst e; exact hp
        · exact h4 j hj0 (by omega)
    · exact .inr ⟨fun j hj0 hj1 => h4 j hj0 (by omega), stop k y (by omega)⟩
theorem srch0 {α ρ : Type} (z : α) (p : α → Prop) [DecidablePred p] (X : Int → ρ) (L : List α) (l : Nat → Int → Option (Ex Unit ρ)) {k : Nat} (hk : L.length < k)
    (step : ∀ k y, 0 ≤ y → y < (L.length : Int) → p (gd z L y) → l (k + 1) y = some (.rt (X y)))
    (next : ∀ k y, 0 ≤ y → y < (L.length : Int) → ¬ p (gd z L y) → l (k + 1) y = l k (y + 1))
    (stop : ∀ k y, (L.length : Int) ≤ y → l (k + 1) y = some (.go ())) :
      (∃ i, Fnd z p L i ∧ l k 0 = some (.rt (X i))) ∨ (NoF z p L ∧ l k 0 = some (.go ())) :=
  srch z p X L l step next stop L.length k 0 (by omega) (by omega) (by omega) hk (fun j h0 h1 => by omega)
theorem Fnd.uniq {α : Type} {z : α} {p : α → Prop} {L : List α} {i j : Int} (h : Fnd z p L i) (h' : Fnd z p L j) : i = j := by
  obtain ⟨a1, a2, a3, a4⟩ := h
  obtain ⟨b1, b2, b3, b4⟩ := h'
  by_cases e : i < j
  · exact absurd a3 (b4 i a1 e)
  · by_cases e2 : j < i
    · exact absurd b3 (a4 j b1 e2)
    · omega
end Go.Proofs.Ytigadacjaglfeaa.X
