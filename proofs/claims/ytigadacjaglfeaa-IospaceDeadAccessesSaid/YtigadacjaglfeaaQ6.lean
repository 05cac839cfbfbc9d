/- The laws on the pure side: io6. -/
import Derived.Test.YtigadacjaglfeaaQ5
namespace Go.Proofs.Ytigadacjaglfeaa.X
open Go Go.Sx
structure RFW (x : ref09_fault) : Prop where
  r : VR x.m
  n0 : 0 ≤ x.left
  n1 : x.left ≤ 64
structure RFL (G : List ref09_fault) : Prop where
  fw : ∀ i : Int, 0 ≤ i → i < G.length → RFW (gd ref09_fault.zero G i)
  len : G.length ≤ 200
def rhit (s : Int) (r : Range) : ref09_fault → Prop := fun x => 0 < x.left ∧ x.space = s ∧ ov x.m r
instance (s : Int) (r : Range) : DecidablePred (rhit s r) := fun m => by unfold rhit; infer_instance
def lft (x : ref09_fault) : Bool := decide (0 < x.left)
def rused (G : List ref09_fault) (i : Int) : List ref09_fault := G.set i.toNat { gd ref09_fault.zero G i with left := (gd ref09_fault.zero G i).left - 1 }
section
variable {X : List ref09_mapping} {en : List Bool} {G : List ref09_fault} {tr : List Traced} {k : Nat}
theorem count_l (hG : G.length ≤ 200) : ∀ (n k : Nat) (c y : Int), 0 ≤ y → y ≤ G.length → (G.length : Int) - y ≤ n → n < k → 0 ≤ c → c ≤ y → ref09_Bus_PlanFault.l1 k G c y = some (c + ((G.drop y.toNat).filter lft).length) := by
  intro n
  induction n with
  | zero =>
    intro k c y h0 h1 h2 h3 h4 h5
    obtain ⟨k, rfl⟩ : ∃ m, k = m + 1 := ⟨k - 1, by omega⟩
    rw [ref09_Bus_PlanFault.l1, if_neg (by omega), drop_end (by omega)]; simp
  | succ n ih =>
    intro k c y h0 h1 h2 h3 h4 h5
    obtain ⟨k, rfl⟩ : ∃ m, k = m + 1 := ⟨k - 1, by omega⟩
    by_cases hc : y < (G.length : Int)
    · rw [ref09_Bus_PlanFault.l1, if_pos hc, ck_t ⟨h0, hc⟩, drop_gd (z := ref09_fault.zero) h0 hc]
      by_cases c2 : 0 < (gd ref09_fault.zero G y).left
      · rw [if_pos c2, Option.bind_some, wi_next h0 hc (by omega), wi (c + 1) (by omega) (by omega), ih k (c + 1) (y + 1) (by omega) (by omega) (by omega) (by omega) (by omega) (by omega), List.filter_cons_of_pos (by unfold lft; exact decide_eq_true c2), List.length_cons]
        congr 1; omega
      · rw [if_neg c2, Option.bind_some, wi_next h0 hc (by omega), ih k c (y + 1) (by omega) (by omega) (by omega) (by omega) (by omega) (by omega), List.filter_cons_of_neg (by unfold lft; rw [decide_eq_false c2]; decide)]
    · rw [ref09_Bus_PlanFault.l1, if_neg hc, drop_end hc]; simp
theorem rplan_f {s n : Int} {r : Range} (hb : U r.Base) (hl : U r.Len) (hG : RFL G) (hk : 300 < k) :
    ref09_Bus_PlanFault.f k X en G tr s r n = if SP s ∧ VR r ∧ 1 ≤ n ∧ n ≤ 64 then (if 64 ≤ (G.filter lft).length then some (G, 8) else some (G ++ [⟨s, r, n⟩], 0)) else some (G, 1) := by
  have hlen := hG.len
  have hc := count_l (G := G) hlen G.length k 0 0 (by omega) (by omega) (by omega) (by omega) (by omega) (by omega)
  have hc' : ref09_Bus_PlanFault.l1 k G 0 0 = some ((G.filter lft).length : Int) := by rw [hc]; simp
  unfold ref09_Bus_PlanFault.f
  rw [bnd_s (ordinary_f k s)]
  by_cases c1 : SP s
  · rw [if_pos (decide_eq_true c1), bnd_s (rvalidRange_f k hb hl)]
    by_cases c2 : VR r
    · rw [if_pos (decide_eq_true c2)]
      by_cases c3 : n < 1
      · rw [if_pos c3, Option.bind_some, if_pos rfl, if_neg (fun h => by omega)]
      · rw [if_neg c3, Option.bind_some]
        by_cases c4 : 64 < n
        · rw [if_pos (decide_eq_true c4), if_neg (fun h => by omega)]
        · have hcc : SP s ∧ VR r ∧ 1 ≤ n ∧ n ≤ 64 := ⟨c1, c2, by omega, by omega⟩
          rw [if_neg (by rw [decide_eq_false c4]; decide), if_pos hcc, bnd_s hc']
          by_cases c5 : 64 ≤ (G.filter lft).length
          · rw [if_pos (by omega), if_pos c5]
          · rw [if_neg (by omega), if_neg c5, ck_t (by simp; omega)]
    · rw [if_neg (by rw [decide_eq_false c2]; decide), Option.bind_some, if_pos rfl, if_neg (fun h => c2 h.2.1)]
  · rw [if_neg (by rw [decide_eq_false c1]; decide), Option.bind_some, if_pos rfl, if_neg (fun h => c1 h.1)]
theorem rfail_f {a : Access} (hG : RFL G) (hk : 300 < k) (hw : WW a.Width) (ha : VR ⟨a.Addr, a.Width⟩) :
    (∃ i, Fnd ref09_fault.zero (rhit a.Space ⟨a.Addr, a.Width⟩) G i ∧ ref09_Bus_failing.f k X en G tr a = some (rused G i, true)) ∨ (NoF ref09_fault.zero (rhit a.Space ⟨a.Addr, a.Width⟩) G ∧ ref09_Bus_failing.f k X en G tr a = some (G, false)) := by
  have hlen := hG.len
  have pre : ∀ k y, 0 ≤ y → y < (G.length : Int) → ref09_Bus_failing.l1 (k + 1) G a y = if rhit a.Space ⟨a.Addr, a.Width⟩ (gd ref09_fault.zero G y) then some (.rt (some (rused G y, true))) else ref09_Bus_failing.l1 k G a (y + 1) := fun k y h0 h1 => by
    obtain ⟨hm, n0, n1⟩ := hG.fw y h0 h1
    rw [ref09_Bus_failing.l1, if_pos h1, ck_t ⟨h0, h1⟩, wi_next h0 h1 (by omega), wrapW hw]
    by_cases c0 : 0 < (gd ref09_fault.zero G y).left
    · rw [if_pos c0]
      by_cases c1 : (gd ref09_fault.zero G y).space = a.Space
      · rw [if_pos c1, bnd_s (roverlap_f k (a := ⟨_, _⟩) hm ha)]
        by_cases c : ov (gd ref09_fault.zero G y).m ⟨a.Addr, a.Width⟩
        · rw [if_pos (show rhit a.Space ⟨a.Addr, a.Width⟩ (gd ref09_fault.zero G y) from ⟨c0, c1, c⟩), if_pos (decide_eq_true (show ov ⟨(gd ref09_fault.zero G y).m.Base, (gd ref09_fault.zero G y).m.Len⟩ _ from c)), Option.bind_some, el_r, wi _ (by omega) (by omega)]
          rfl
        · rw [if_neg (show ¬ rhit a.Space ⟨a.Addr, a.Width⟩ (gd ref09_fault.zero G y) from fun h => c h.2.2), if_neg (by rw [decide_eq_false (show ¬ ov ⟨(gd ref09_fault.zero G y).m.Base, (gd ref09_fault.zero G y).m.Len⟩ _ from c)]; decide)]; rfl
      · rw [if_neg c1, if_neg (show ¬ rhit a.Space ⟨a.Addr, a.Width⟩ (gd ref09_fault.zero G y) from fun h => c1 h.2.1)]; rfl
    · rw [if_neg c0, if_neg (show ¬ rhit a.Space ⟨a.Addr, a.Width⟩ (gd ref09_fault.zero G y) from fun h => c0 h.1)]; rfl
  unfold ref09_Bus_failing.f
  rcases srch0 ref09_fault.zero (rhit a.Space ⟨a.Addr, a.Width⟩) (fun y => some (rused G y, true)) G (fun k y => ref09_Bus_failing.l1 k G a y) (k := k) (by omega)
    (fun k y h0 h1 hp => by show ref09_Bus_failing.l1 (k + 1) G a y = _; rw [pre k y h0 h1, if_pos hp])
    (fun k y h0 h1 hp => by show ref09_Bus_failing.l1 (k + 1) G a y = _; rw [pre k y h0 h1, if_neg hp])
    (fun k y h1 => by show ref09_Bus_failing.l1 (k + 1) G a y = _; rw [ref09_Bus_failing.l1, if_neg (by omega)]) with ⟨i, h1, h2⟩ | ⟨h1, h2⟩
  · refine .inl ⟨i, h1, ?_⟩
    have h2' : ref09_Bus_failing.l1 k G a 0 = some (.rt (some (rused G i, true))) := h2
    rw [bnd_s h2']; rfl
  · refine .inr ⟨h1, ?_⟩
    have h2' : ref09_Bus_failing.l1 k G a 0 = some (.go ()) := h2
    rw [bnd_s h2']; rfl
end
def dn (B : List Int) (off v : Int) : Nat → List Int
  | 0 => B
  | n + 1 => dn (B.set (off + n).toNat (v / 256 ^ n % 256)) off v n
theorem dn_len (off v : Int) : ∀ (n : Nat) (B : List Int), (dn B off v n).length = B.length
  | 0, _ => rfl
  | n + 1, B => by rw [dn, dn_len off v n, List.length_set]
theorem dn_get (off v : Int) (ho : 0 ≤ off) : ∀ (n : Nat) (B : List Int) (j : Int), off + n ≤ B.length → 0 ≤ j → gd 0 (dn B off v n) j = if off ≤ j ∧ j < off + n then v / 256 ^ (j - off).toNat % 256 else gd 0 B j
  | 0, B, j, _, _ => by rw [if_neg (by omega)]; rfl
  | n + 1, B, j, hn, hj => by
    rw [dn, dn_get off v ho n _ j (by rw [List.length_set]; omega) hj, gd_set (by omega) (by omega) hj]
    by_cases e : j = off + n
    · subst e
      rw [if_neg (by omega), if_pos rfl, if_pos (by omega), show (off + (n : Int) - off).toNat = n by omega]
    · rw [if_neg e]
      by_cases c : off ≤ j ∧ j < off + n
      · rw [if_pos c, if_pos (by omega)]
      · rw [if_neg c, if_neg (by omega)]
def ldB (B : List Int) (off : Int) : Nat → Int
  | 0 => 0
  | n + 1 => ldB B off n + gd 0 B (off + n) * 256 ^ n
theorem set_gd {α : Type} (z : α) {xs : List α} {i : Int} (h0 : 0 ≤ i) (h1 : i < xs.length) : xs.set i.toNat (gd z xs i) = xs := by
  refine List.ext_getElem (by simp) fun j hj _ => ?_
  rw [List.getElem_set]
  split
  · rename_i e
    subst e
    unfold gd
    rw [List.getD_eq_getElem?_getD, List.getElem?_eq_getElem (by omega)]; rfl
  · rfl
theorem or_low {x b : Int} (x0 : 0 ≤ x) (x1 : x * 256 < 18446744073709551616) (b0 : 0 ≤ b) (b1 : b < 256) : bitw .or .u64 (shlw .u64 x 8) b = x * 256 + b := by
  obtain ⟨p, rfl⟩ : ∃ p : Nat, x = p := ⟨x.toNat, by omega⟩
  obtain ⟨q, rfl⟩ : ∃ q : Nat, b = q := ⟨b.toNat, by omega⟩
  have es : shlw .u64 (p : Int) 8 = ((p * 2 ^ 8 : Nat) : Int) := by
    unfold shlw
    have e1 : min ((8 : Int)).toNat IntKind.u64.bits = 8 := by decide
    rw [e1]
    have e2 : (p : Int) * 2 ^ 8 = ((p * 2 ^ 8 : Nat) : Int) := by simp
    rw [e2]
    exact wu _ (by omega) (by omega)
  rw [es, or_u64 _ q (by omega) (by omega), Nat.or_comm, or_add q p 8 (by omega)]
  omega
section
variable {X : List ref09_mapping} {en : List Bool} {G : List ref09_fault} {tr : List Traced}
theorem racc_w {a : Access} {i v : Int} {s48 : List ref09_fault × Bool} {c12 x : Int} (hi0 : 0 ≤ i) (hi1 : i < X.length) (hwr : a.Write = true) (hv : bitw .and .u64 a.Value c12 = v) (ho0 : 0 ≤ a.Addr - (rat X i).m.Base) (hoe : IntKind.u64.wrap (a.Addr - (gd ref09_mapping.zero X i).m.Base) = a.Addr - (rat X i).m.Base) (hlt : a.Addr - (rat X i).m.Base < 2000000) :
    ∀ (n k : Nat) (Y : List ref09_mapping) (B : List Int), n ≤ 8 → n < k → Y.length = X.length → gd ref09_mapping.zero Y i = { rat X i with bytes := B } → (∀ z, Y.set i.toNat z = X.set i.toNat z) → a.Addr - (rat X i).m.Base + n ≤ B.length →
      ref09_Bus_Access.l1 k a i X c12 s48 Y x ((n : Int) - 1) = some (X.set i.toNat { rat X i with bytes := dn B (a.Addr - (rat X i).m.Base) v n }, s48.1, x, false) := by
  intro n
  induction n with
  | zero =>
    intro k Y B _ hk hl hg hs _
    obtain ⟨k, rfl⟩ : ∃ m, k = m + 1 := ⟨k - 1, by omega⟩
    rw [ref09_Bus_Access.l1, if_neg (by decide)]
    have : Y = X.set i.toNat { rat X i with bytes := dn B (a.Addr - (rat X i).m.Base) v 0 } := by
      rw [← hs, show dn B (a.Addr - (rat X i).m.Base) v 0 = B from rfl, ← hg, set_gd _ hi0 (by omega)]
    rw [← this]
  | succ n ih =>
    intro k Y B hn hk hl hg hs hb
    obtain ⟨k, rfl⟩ : ∃ m, k = m + 1 := ⟨k - 1, by omega⟩
    have e1 : ((n + 1 : Nat) : Int) - 1 = n := by omega
    have h8 : IntKind.i64.wrap (8 * (n : Int)) = 8 * n := wi _ (by omega) (by omega)
    have h8' : IntKind.u64.wrap (8 * (n : Int)) = 8 * n := wu _ (by omega) (by omega)
    have hnn : IntKind.u64.wrap (n : Int) = n := wu _ (by omega) (by omega)
    have hof : IntKind.u64.wrap (a.Addr - (rat X i).m.Base + (n : Int)) = a.Addr - (rat X i).m.Base + n := wu _ (by omega) (by omega)
    rw [e1, ref09_Bus_Access.l1, if_pos (by omega), if_pos hwr, ck_t ⟨hi0, by omega⟩, h8, h8', ck_t (by omega), hoe, hnn, hof, hg, ck_t ⟨by omega, by show _ < (B.length : Int); omega⟩, hv, shr_byte (by omega), Option.bind_some]
    rw [wi ((n : Int) - 1) (by omega) (by omega)]
    refine ih k _ (B.set (a.Addr - (rat X i).m.Base + (n : Int)).toNat (v / 256 ^ n % 256)) (by omega) (by omega) (by rw [List.length_set, hl]) ?_ (fun z => ?_) (by rw [List.length_set]; omega)
    · show gd ref09_mapping.zero (Y.set i.toNat _) i = _
      rw [gd_set_same hi0 (by omega)]
    · show (Y.set i.toNat _).set i.toNat z = _
      rw [List.set_set, hs]
theorem racc_r {a : Access} {i : Int} {s48 : List ref09_fault × Bool} {c12 : Int} (hi0 : 0 ≤ i) (hi1 : i < X.length) (hwr : ¬ a.Write = true) (ho0 : 0 ≤ a.Addr - (rat X i).m.Base) (hoe : IntKind.u64.wrap (a.Addr - (gd ref09_mapping.zero X i).m.Base) = a.Addr - (rat X i).m.Base) (hlt : a.Addr - (rat X i).m.Base < 2000000) (hB : ∀ j, 0 ≤ gd 0 (rat X i).bytes j ∧ gd 0 (rat X i).bytes j < 256) :
    ∀ (n k : Nat) (x : Int), n ≤ 8 → n < k → 0 ≤ x → x * 256 ^ n < 18446744073709551616 → a.Addr - (rat X i).m.Base + n ≤ (rat X i).bytes.length →
      ref09_Bus_Access.l1 k a i X c12 s48 X x ((n : Int) - 1) = some (X, s48.1, x * 256 ^ n + ldB (rat X i).bytes (a.Addr - (rat X i).m.Base) n, false) := by
  intro n
  induction n with
  | zero =>
    intro k x _ hk _ _ _
    obtain ⟨k, rfl⟩ : ∃ m, k = m + 1 := ⟨k - 1, by omega⟩
    rw [ref09_Bus_Access.l1, if_neg (by decide)]
    simp [ldB]
  | succ n ih =>
    intro k x hn hk hx0 hx1 hb
    obtain ⟨k, rfl⟩ : ∃ m, k = m + 1 := ⟨k - 1, by omega⟩
    have e1 : ((n + 1 : Nat) : Int) - 1 = n := by omega
    have hnn : IntKind.u64.wrap (n : Int) = n := wu _ (by omega) (by omega)
    have hof : IntKind.u64.wrap (a.Addr - (rat X i).m.Base + (n : Int)) = a.Addr - (rat X i).m.Base + n := wu _ (by omega) (by omega)
    obtain ⟨b0, b1⟩ := hB (a.Addr - (rat X i).m.Base + n)
    have hp : (1 : Int) ≤ 256 ^ n := by have : (0 : Int) < 256 ^ n := Int.pow_pos (by omega); omega
    have hx2 : x * 256 < 18446744073709551616 := by
      have : x * 256 * 1 ≤ x * 256 * 256 ^ n := Int.mul_le_mul_of_nonneg_left hp (by omega)
      rw [Int.pow_succ, Int.mul_comm (256 ^ n), ← Int.mul_assoc] at hx1
      omega
    rw [e1, ref09_Bus_Access.l1, if_pos (by omega), if_neg hwr, ck_t ⟨hi0, hi1⟩, hoe, hnn, hof]
    show (ck (0 ≤ a.Addr - (rat X i).m.Base + (n : Int) ∧ a.Addr - (rat X i).m.Base + (n : Int) < ((rat X i).bytes.length : Int)) (some (X, bitw .or .u64 (shlw .u64 x 8) (IntKind.u64.wrap (gd 0 (rat X i).bytes (a.Addr - (rat X i).m.Base + (n : Int))))))).bind _ = _
    rw [ck_t ⟨by omega, by omega⟩, wu _ b0 (by omega), or_low hx0 hx2 b0 b1, Option.bind_some]
    rw [wi ((n : Int) - 1) (by omega) (by omega)]
    have hb' : gd 0 (rat X i).bytes (a.Addr - (rat X i).m.Base + n) * 256 ^ n < 256 * 256 ^ n := Int.mul_lt_mul_of_pos_right b1 (by omega)
    have e2 : (x * 256 + gd 0 (rat X i).bytes (a.Addr - (rat X i).m.Base + n)) * 256 ^ n = x * 256 ^ (n + 1) + gd 0 (rat X i).bytes (a.Addr - (rat X i).m.Base + n) * 256 ^ n := by
      rw [Int.add_mul, Int.mul_assoc, ← Int.pow_succ']
    have h3 : (x * 256 + gd 0 (rat X i).bytes (a.Addr - (rat X i).m.Base + n)) * 256 ^ n < 18446744073709551616 := by
      have e3 : x * 256 ^ (n + 1) + 256 ^ (n + 1) ≤ 18446744073709551616 := by
        have q : (256 : Int) ^ (n + 1) ∣ 18446744073709551616 := ⟨256 ^ (8 - (n + 1)), by rw [← Int.pow_add, show n + 1 + (8 - (n + 1)) = 8 by omega]; rfl⟩
        obtain ⟨c, hc⟩ := q
        have hpp : (0 : Int) < 256 ^ (n + 1) := Int.pow_pos (by omega)
        have hxc : x < c := by
          refine Int.lt_of_not_ge fun h => ?_
          have := Int.mul_le_mul_of_nonneg_right h (Int.le_of_lt hpp)
          rw [hc, Int.mul_comm] at hx1
          rw [Int.mul_comm c, Int.mul_comm x] at this
          omega
        have := Int.mul_le_mul_of_nonneg_right (show x + 1 ≤ c by omega) (Int.le_of_lt hpp)
        rw [Int.add_mul, Int.one_mul, Int.mul_comm c, ← hc] at this
        exact this
      rw [e2]
      rw [Int.pow_succ (256 : Int) n, Int.mul_comm _ (256 : Int)] at e3
      rw [Int.pow_succ (256 : Int) n, Int.mul_comm _ (256 : Int)]
      omega
    rw [ih k _ (by omega) (by omega) (by omega) h3 (by omega), e2]
    show some (X, s48.1, _, false) = some (X, s48.1, x * 256 ^ (n + 1) + (ldB (rat X i).bytes (a.Addr - (rat X i).m.Base) n + gd 0 (rat X i).bytes (a.Addr - (rat X i).m.Base + n) * 256 ^ n), false)
    congr 3
    congr 1
    omega
end
end Go.Proofs.Ytigadacjaglfeaa.X
