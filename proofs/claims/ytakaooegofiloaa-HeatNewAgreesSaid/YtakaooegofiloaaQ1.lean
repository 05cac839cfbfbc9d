/- The laws on the pure side: heatmath. -/
import Derived.Test.YtakaooegofiloaaFa
import Derived.Test.YtakaooegofiloaaSx11
namespace Go.Proofs.Ytakaooegofiloaa.X
open Go Go.Sx

/-! ## numbers modulo 2^64 -/
abbrev ws (n : Int) : Int := IntKind.i64.wrap n
theorem ws_cong {a b : Int} (h : (a - b) % 18446744073709551616 = 0) : ws a = ws b := by
  unfold ws; rw [wi64, wi64, show a % 18446744073709551616 = b % 18446744073709551616 by omega]
theorem ws_dif (a : Int) : (ws a - a) % 18446744073709551616 = 0 := by unfold ws; rw [wi64]; omega
theorem ws_addl (a b : Int) : ws (ws a + b) = ws (a + b) := ws_cong (by have := ws_dif a; omega)
theorem ws_addr (a b : Int) : ws (a + ws b) = ws (a + b) := ws_cong (by have := ws_dif b; omega)
theorem ws_subl (a b : Int) : ws (ws a - b) = ws (a - b) := ws_cong (by have := ws_dif a; omega)
theorem ws_subr (a b : Int) : ws (a - ws b) = ws (a - b) := ws_cong (by have := ws_dif b; omega)
theorem ws_mulr (a b : Int) : ws (a * ws b) = ws (a * b) := ws_cong (by
  have h := ws_dif b
  obtain ⟨c, hc⟩ := Int.dvd_of_emod_eq_zero h
  rw [← Int.mul_sub, hc, Int.mul_left_comm]; exact Int.mul_emod_right _ _)
theorem ws_mull (a b : Int) : ws (ws a * b) = ws (a * b) := by rw [Int.mul_comm, ws_mulr, Int.mul_comm]
theorem ws_ws (a : Int) : ws (ws a) = ws a := ws_cong (ws_dif a)
theorem ws_in {a : Int} (h0 : -9223372036854775808 ≤ a) (h1 : a < 9223372036854775808) : ws a = a := wi a h0 h1
theorem ws_lo (a : Int) : -9223372036854775808 ≤ ws a := wi_lo a
theorem ws_hi (a : Int) : ws a < 9223372036854775808 := wi_hi a
/-- division toward negative infinity, as the program does it -/
theorem floorW (a b : Int) (hb : 0 < b) (h0 : -9223372036854775808 ≤ a) (h1 : a < 9223372036854775808) :
    (if Int.tmod a b < 0 then ws (ws (Int.tdiv a b) - 1) else ws (Int.tdiv a b)) = a / b := by
  by_cases ha : 0 ≤ a
  · have h2 : a / b ≤ a := Int.ediv_le_self _ ha
    have h3 : 0 ≤ a / b := Int.ediv_nonneg ha (by omega)
    rw [tm _ ha, td _ ha, if_neg (by have := Int.emod_nonneg a (show b ≠ 0 by omega); omega), ws_in (by omega) (by omega)]
  · have e1 := Int.mul_tdiv_add_tmod a b
    have e2 := Int.mul_ediv_add_emod a b
    have e3 := Int.emod_nonneg a (show b ≠ 0 by omega)
    have e4 := Int.emod_lt_of_pos a hb
    have e5 : Int.tmod a b ≤ 0 := by
      have := Int.tmod_nonneg b (show 0 ≤ -a by omega)
      rw [Int.neg_tmod] at this; omega
    have e6 : -b < Int.tmod a b := by
      have := Int.tmod_lt_of_pos (-a) hb
      rw [Int.neg_tmod] at this; omega
    have e7 : Int.tdiv a b ≤ 0 := by
      have := Int.tdiv_nonneg (show 0 ≤ -a by omega) (show 0 ≤ b by omega)
      rw [Int.neg_tdiv] at this; omega
    have e8 : a ≤ Int.tdiv a b := by
      have := Int.tdiv_le_self (b := b) (show 0 ≤ -a by omega)
      rw [Int.neg_tdiv] at this; omega
    have e9 : a ≤ a / b := Int.le_ediv_of_mul_le hb (by have := Int.mul_le_mul_of_nonpos_left (show a ≤ 0 by omega) (show 1 ≤ b by omega); omega)
    by_cases c : Int.tmod a b < 0
    · have e : a / b = Int.tdiv a b - 1 := by
        refine (Int.ediv_emod_unique hb |>.2 ⟨?_, ?_, ?_⟩ : a / b = Int.tdiv a b - 1 ∧ a % b = Int.tmod a b + b).1
        · rw [Int.mul_sub]; omega
        · omega
        · omega
      rw [if_pos c, ws_subl, ← e, ws_in (by omega) (by omega)]
    · have e : a / b = Int.tdiv a b := by
        refine (Int.ediv_emod_unique hb |>.2 ⟨?_, ?_, ?_⟩ : a / b = Int.tdiv a b ∧ a % b = Int.tmod a b).1 <;> omega
      rw [if_neg c, ws_in (by omega) (by omega), e]
/-! ## lists by their elements -/
def tab {α : Type} (f : Int → α) : Nat → Int → List α
  | 0, _ => []
  | n + 1, i => f i :: tab f n (i + 1)
theorem tab_len {α : Type} (f : Int → α) : ∀ (n : Nat) (i : Int), (tab f n i).length = n
  | 0, _ => rfl
  | n + 1, i => by rw [tab, List.length_cons, tab_len f n]
theorem tab_gd {α : Type} (z : α) (f : Int → α) : ∀ (n : Nat) (i j : Int), 0 ≤ j → j < n → gd z (tab f n i) j = f (i + j)
  | 0, _, _, _, _ => by omega
  | n + 1, i, j, h0, h1 => by
    rw [tab]
    by_cases h : j = 0
    · subst h; simp [gd]
    · have e : j.toNat = (j - 1).toNat + 1 := by omega
      have := tab_gd z f n (i + 1) (j - 1) (by omega) (by omega)
      unfold gd at this ⊢
      rw [e, List.getD_cons_succ, this]; congr 1; omega
theorem gd_ext {α : Type} (z : α) (a b : List α) (hl : a.length = b.length) (h : ∀ j : Int, 0 ≤ j → j < a.length → gd z a j = gd z b j) : a = b := by
  refine List.ext_getElem hl (fun n h1 h2 => ?_)
  have := h n (by omega) (by omega)
  unfold gd at this
  simpa [List.getD_eq_getElem?_getD, List.getElem?_eq_getElem h1, List.getElem?_eq_getElem h2] using this
/-! ## the flows of links -/
/-- what the links bring to domain j at temperatures t -/
def fl : List HeatLink → (Int → Int) → Int → Int
  | [], _, _ => 0
  | l :: r, t, j => (if l.B = j then l.Conductance * (t l.A - t l.B) else 0) - (if l.A = j then l.Conductance * (t l.A - t l.B) else 0) + fl r t j
/-- the conductances at domain j -/
def cs : List HeatLink → Int → Int
  | [], _ => 0
  | l :: r, j => (if l.A = j ∨ l.B = j then l.Conductance else 0) + cs r j
theorem cs_nonneg : ∀ (L : List HeatLink) (j : Int), (∀ l ∈ L, 0 ≤ l.Conductance) → 0 ≤ cs L j
  | [], _, _ => Int.le_refl _
  | l :: r, j, h => by
    have := cs_nonneg r j (fun x hx => h x (List.mem_cons_of_mem _ hx))
    have := h l List.mem_cons_self
    rw [cs]; split <;> omega
/-- links inside the first n domains -/
def inL (n : Int) (l : HeatLink) : Prop := 0 ≤ l.A ∧ l.A < n ∧ 0 ≤ l.B ∧ l.B < n ∧ l.A ≠ l.B ∧ 1 ≤ l.Conductance
theorem fl_hi (n hi : Int) (t : Int → Int) (ht : ∀ j : Int, 0 ≤ j → j < n → t j ≤ hi) : ∀ (L : List HeatLink) (_ : ∀ l ∈ L, inL n l) (j : Int), fl L t j ≤ cs L j * (hi - t j)
  | [], _, _ => by simp [fl, cs]
  | l :: r, h, j => by
    have ih := fl_hi n hi t ht r (fun x hx => h x (List.mem_cons_of_mem _ hx)) j
    obtain ⟨a0, a1, b0, b1, hab, hc⟩ := h l List.mem_cons_self
    rw [fl, cs, Int.add_mul]
    by_cases hA : l.A = j
    · have hB : ¬ l.B = j := fun e => hab (hA.trans e.symm)
      have := Int.mul_le_mul_of_nonneg_left (show t l.B - t j ≤ hi - t j by have := ht l.B b0 b1; omega) (show 0 ≤ l.Conductance by omega)
      rw [if_neg hB, if_pos hA, if_pos (.inl hA), hA]
      rw [show l.Conductance * (t l.B - t j) = - (l.Conductance * (t j - t l.B)) by rw [← Int.mul_neg]; congr 1; omega] at this
      omega
    · by_cases hB : l.B = j
      · have := Int.mul_le_mul_of_nonneg_left (show t l.A - t j ≤ hi - t j by have := ht l.A a0 a1; omega) (show 0 ≤ l.Conductance by omega)
        rw [if_pos hB, if_neg hA, if_pos (.inr hB), hB]
        omega
      · rw [if_neg hB, if_neg hA, if_neg (by omega)]; omega
theorem fl_lo (n lo : Int) (t : Int → Int) (ht : ∀ j : Int, 0 ≤ j → j < n → lo ≤ t j) : ∀ (L : List HeatLink) (_ : ∀ l ∈ L, inL n l) (j : Int), cs L j * (lo - t j) ≤ fl L t j
  | [], _, _ => by simp [fl, cs]
  | l :: r, h, j => by
    have ih := fl_lo n lo t ht r (fun x hx => h x (List.mem_cons_of_mem _ hx)) j
    obtain ⟨a0, a1, b0, b1, hab, hc⟩ := h l List.mem_cons_self
    rw [fl, cs, Int.add_mul]
    by_cases hA : l.A = j
    · have hB : ¬ l.B = j := fun e => hab (hA.trans e.symm)
      have := Int.mul_le_mul_of_nonneg_left (show lo - t j ≤ t l.B - t j by have := ht l.B b0 b1; omega) (show 0 ≤ l.Conductance by omega)
      rw [if_neg hB, if_pos hA, if_pos (.inl hA), hA]
      rw [show l.Conductance * (t l.B - t j) = - (l.Conductance * (t j - t l.B)) by rw [← Int.mul_neg]; congr 1; omega] at this
      omega
    · by_cases hB : l.B = j
      · have := Int.mul_le_mul_of_nonneg_left (show lo - t j ≤ t l.A - t j by have := ht l.A a0 a1; omega) (show 0 ≤ l.Conductance by omega)
        rw [if_pos hB, if_neg hA, if_pos (.inr hB), hB]
        omega
      · rw [if_neg hB, if_neg hA, if_neg (by omega)]; omega
/-! ## one step of one domain: between ambient and a bound -/
theorem stay (C A S amb b t r p f : Int) (hC : A + S ≤ C) (ht0 : amb ≤ t) (ht1 : t ≤ b) (hr0 : 0 ≤ r) (hr1 : r < C) (hp0 : 0 ≤ p) (hp1 : p ≤ A * (b - amb)) (hf0 : S * (amb - t) ≤ f) (hf1 : f ≤ S * (b - t)) :
    C * amb ≤ C * t + r + p - A * (t - amb) + f ∧ C * t + r + p - A * (t - amb) + f < C * (b + 1) := by
  have h1 := Int.mul_le_mul_of_nonneg_right hC (show 0 ≤ t - amb by omega)
  have h2 := Int.mul_le_mul_of_nonneg_right hC (show 0 ≤ b - t by omega)
  simp only [Int.mul_sub, Int.add_mul, Int.mul_add, Int.mul_one] at *
  omega
end Go.Proofs.Ytakaooegofiloaa.X
