/- The laws on the pure side: io8. -/
import Derived.Test.YtigadacjaglfeaaQ7
namespace Go.Proofs.Ytigadacjaglfeaa.X
open Go Go.Sx

/-! ## what the laws of one bus share -/
theorem awake_f : law09_awake.f 1000 = some true := by kernel_rfl
theorem mod_f (k : Nat) {a m : Int} (h0 : 0 < m) (h1 : m < 4611686018427387904) : help_Mod.f k a m = some (a % 18446744073709551616 % m) := by
  unfold help_Mod.f
  have e : IntKind.u64.wrap m = m := wu _ (by omega) (by omega)
  have q0 := Int.emod_nonneg (a % 18446744073709551616) (show m ≠ 0 by omega)
  have q1 := Int.emod_lt_of_pos (a % 18446744073709551616) h0
  have hn : 0 ≤ a % 18446744073709551616 := by omega
  rw [e, ck_t (by omega), wu64, tm _ hn, wi _ (by omega) (by omega)]
theorem andNot63 {n : Int} (h : U n) : bitw .andNot .u64 n 63 = n - n % 64 := by
  obtain ⟨h0, h1⟩ := h
  obtain ⟨n, rfl⟩ : ∃ p : Nat, n = p := ⟨n.toNat, by omega⟩
  have e : bitw .andNot .u64 (n : Int) 63 = IntKind.u64.wrap (((BitVec.ofInt 64 (n : Int) &&& ~~~(BitVec.ofInt 64 63)).toNat : Nat) : Int) := rfl
  rw [e, BitVec.toNat_and]
  have e2 : (BitVec.ofInt 64 (n : Int)).toNat = n := by rw [BitVec.toNat_ofInt]; omega
  have e3 : (~~~(BitVec.ofInt 64 63)).toNat = (2 ^ 58 - 1) * 2 ^ 6 := by decide
  have e4 : n &&& ((2 ^ 58 - 1) * 2 ^ 6) = n / 64 * 64 := by
    refine Nat.eq_of_testBit_eq fun i => ?_
    rw [Nat.testBit_and, show (64 : Nat) = 2 ^ 6 from rfl, Nat.testBit_mul_two_pow, Nat.testBit_mul_two_pow, Nat.testBit_two_pow_sub_one, Nat.testBit_div_two_pow]
    by_cases c : 6 ≤ i
    · simp only [c, decide_true, Bool.true_and, show i - 6 + 6 = i by omega]
      by_cases c2 : i - 6 < 58
      · simp [c2]
      · have : n.testBit i = false := Nat.testBit_lt_two_pow (Nat.lt_of_lt_of_le (show n < 2 ^ 64 by omega) (Nat.pow_le_pow_right (by omega) (by omega)))
        simp [this]
    · simp [c]
  rw [e2, e3, e4, wu _ (by omega) (by omega)]
  omega
/-- one mapping alone -/
def One (s : Int) (m : mapping) (n0 n1 n2 : List mapping) : Prop := ∀ t, SP t → sel t n0 n1 n2 = if t = s then [m] else []
theorem LW.nil : LW [] := ⟨fun i h0 h1 => by simp at h1; omega, fun i j h0 h1 => by simp at h1; omega, by simp⟩
theorem LW.sing {m : mapping} (h : MW m) : LW [m] := by
  refine ⟨fun i h0 h1 => ?_, fun i j h0 h1 h2 h3 hij => ?_, by simp⟩
  · simp at h1
    have : i = 0 := by omega
    subst this; exact h
  · simp at h1 h3; omega
theorem BL.of {n0 n1 n2 : List mapping} (h : ∀ t, SP t → LW (sel t n0 n1 n2)) : BL n0 n1 n2 := ⟨h 0 (.inl rfl), h 1 (.inr (.inl rfl)), h 2 (.inr (.inr rfl))⟩
theorem One.bl {s : Int} {m : mapping} {n0 n1 n2 : List mapping} (h : One s m n0 n1 n2) (hm : MW m) : BL n0 n1 n2 := BL.of fun t ht => by
  rw [h t ht]; split
  · exact .sing hm
  · exact .nil
theorem One.found {s a : Int} {m : mapping} {n0 n1 n2 : List mapping} (hs : SP s) (h : One s m n0 n1 n2) (ha : inr m.r a) : Found s a n0 n1 n2 0 := by
  unfold Found
  rw [h s hs, if_pos rfl]
  exact ⟨by omega, by simp, ha, fun j h0 h1 => by omega⟩
theorem One.at {s : Int} {m : mapping} {n0 n1 n2 : List mapping} (hs : SP s) (h : One s m n0 n1 n2) : at_ s n0 n1 n2 0 = m := by
  unfold at_
  rw [h s hs, if_pos rfl]; rfl
theorem noFnd {α : Type} {z : α} {p : α → Prop} {i : Int} : ¬ Fnd z p [] i := fun h => by have := h.1; have := h.2.1; simp at this; omega
theorem FL.nil : FL [] := ⟨fun i h0 h1 => by simp at h1; omega, by simp⟩
theorem map_one {s o : Int} {r : Range} {k : Nat} {en : List Bool} {fa : List fault} {tr : List Traced} (hk : 256 < k) (hs : SP s) (hr : VR r) (ho : OW o) : ∃ n0 n1 n2, iospace_Bus_Map.f k [] [] [] en fa tr s r o = some (n0, n1, n2, 0) ∧ One s ⟨r, o, []⟩ n0 n1 n2 := by
  have h0 : ∀ t, SP t → sel t ([] : List mapping) [] [] = [] := fun t ht => by rcases ht with rfl | rfl | rfl <;> rfl
  rcases map_f (en := en) (fa := fa) (tr := tr) (BL.of (n0 := []) (n1 := []) (n2 := []) fun t ht => by rw [h0 t ht]; exact .nil) hk hs hr ho (by simp) with ⟨_, i, h⟩ | ⟨_, n0, n1, n2, i, h1, h2, h3, h4⟩
  · rw [h0 s hs] at h; exact absurd h noFnd
  · refine ⟨n0, n1, n2, h1, fun t ht => ?_⟩
    rw [h4 t ht, h0 s hs, h0 t ht]; simp
section
variable {s : Int} {m : mapping} {n0 n1 n2 : List mapping} {en : List Bool} {tr : List Traced} {a : Access} {k : Nat}
theorem one_write {F : List fault} (hF : FL F) (hz : NoF fault.zero (hits a.Space ⟨a.Addr, a.Width⟩) F) (h : One a.Space m n0 n1 n2) (hm : MW m) (hk : 300 < k) (hn : AW a) (hf : WF a) (ht : tr.length < 65536) (hi : inr m.r a.Addr) (hl : live en a m) (hw : a.Write = true) :
    ∃ x n0' n1' n2', iospace_Bus_Access.f k n0 n1 n2 en F tr a = some (F, tr ++ [x], n0', n1', n2', 0, 0) ∧ One a.Space { m with data := stN m.data a.Addr (val a) a.Width.toNat } n0' n1' n2' := by
  have hfo := h.found hf.s hi
  have hat := h.at hf.s
  rcases acc_live (h.bl hm) hk hn hf hF ht hfo (by rw [hat]; exact hl) with ⟨q, h1, _⟩ | ⟨_, n0', n1', n2', h1, h2⟩
  · exact absurd h1.2.2.1 (hz q h1.1 h1.2.1)
  · rw [if_pos hw] at h2
    rw [if_pos hw, if_pos hw] at h1
    refine ⟨_, n0', n1', n2', h1, fun t ht => ?_⟩
    rw [h2 t ht, h _ hf.s, if_pos rfl, hat]
    split
    · rfl
    · rename_i c; rw [h t ht, if_neg c]
theorem one_read {F : List fault} (hF : FL F) (hz : NoF fault.zero (hits a.Space ⟨a.Addr, a.Width⟩) F) (h : One a.Space m n0 n1 n2) (hm : MW m) (hk : 300 < k) (hn : AW a) (hf : WF a) (ht : tr.length < 65536) (hi : inr m.r a.Addr) (hl : live en a m) (hw : ¬ a.Write = true) :
    ∃ x, iospace_Bus_Access.f k n0 n1 n2 en F tr a = some (F, tr ++ [x], n0, n1, n2, ldN m.data a.Addr a.Width.toNat, 0) := by
  have hfo := h.found hf.s hi
  have hat := h.at hf.s
  rcases acc_live (h.bl hm) hk hn hf hF ht hfo (by rw [hat]; exact hl) with ⟨q, h1, _⟩ | ⟨_, n0', n1', n2', h1, h2⟩
  · exact absurd h1.2.2.1 (hz q h1.1 h1.2.1)
  · rw [if_neg hw] at h2
    obtain ⟨rfl, rfl, rfl⟩ := h2
    rw [if_neg hw, if_neg hw, hat] at h1
    exact ⟨_, h1⟩
end
theorem MW.st {m : mapping} (h : MW m) (a v : Int) (n : Nat) : MW { m with data := stN m.data a v n } := ⟨h.r, h.o, stN_bd h.d a v n⟩
theorem noF_nil {α : Type} {z : α} {p : α → Prop} : NoF z p [] := fun j h0 h1 => by simp at h1; omega
/-! ## what was written is read back -/
theorem rb_loop {others : List Int} (hoth : ∀ x ∈ others, inK .u8 x) (hol : (others.length : Int) ≤ 9223372036854775807) {s base w V : Int} (hs : SP s) (hb0 : 0 ≤ base) (hb1 : base + 64 ≤ 18446744073709551616) (hw : WW w) {o : Int} {x31 : (List mapping) × (List mapping) × (List mapping) × (List Bool) × Bool} (hen : gd false x31.2.2.2.1 o = true) :
    ∀ (n k : Nat) (y : Int) (D : List (Int × Int)) (n0 n1 n2 : List mapping) (tr : List Traced), 0 ≤ y → y ≤ 40 → 40 - y ≤ n → n + 301 < k → One s ⟨⟨base, 64⟩, o, D⟩ n0 n1 n2 → MW ⟨⟨base, 64⟩, o, D⟩ → ldN D (base + 16) w.toNat = V → (tr.length : Int) ≤ 1 + y →
      ∃ n0' n1' n2' D' tr', law09_IospaceReadsBack.l1 k others x31 s base n0 n1 n2 [] tr y = some (n0', n1', n2', [], tr') ∧ One s ⟨⟨base, 64⟩, o, D'⟩ n0' n1' n2' ∧ MW ⟨⟨base, 64⟩, o, D'⟩ ∧ ldN D' (base + 16) w.toNat = V ∧ tr'.length ≤ 100 := by
  intro n
  induction n with
  | zero =>
    intro k y D n0 n1 n2 tr h0 h1 h2 h3 h4 h5 h6 h7
    obtain ⟨k, rfl⟩ : ∃ m, k = m + 1 := ⟨k - 1, by omega⟩
    refine ⟨n0, n1, n2, D, tr, ?_, h4, h5, h6, by omega⟩
    rw [law09_IospaceReadsBack.l1]
    by_cases c : y < (others.length : Int)
    · rw [if_pos c, Option.bind_some, if_neg (by rw [decide_eq_false (show ¬ y < 40 by omega)]; decide)]
    · rw [if_neg c, Option.bind_some, if_neg (by decide)]
  | succ n ih =>
    intro k y D n0 n1 n2 tr h0 h1 h2 h3 h4 h5 h6 h7
    obtain ⟨k, rfl⟩ : ∃ m, k = m + 1 := ⟨k - 1, by omega⟩
    rw [law09_IospaceReadsBack.l1]
    by_cases c : y < (others.length : Int)
    · rw [if_pos c, Option.bind_some]
      by_cases c4 : y < 40
      · rw [if_pos (decide_eq_true c4), ck_t ⟨h0, c⟩]
        have hx := hoth _ (gd_mem (z := 0) h0 c)
        have hx0 : 0 ≤ gd 0 others y := hx.1
        have hx1 : gd 0 others y ≤ 255 := hx.2
        have ew : IntKind.u64.wrap (Int.tmod (gd 0 others y) 64) = gd 0 others y % 64 := by rw [tm _ hx0, wu _ (by omega) (by omega)]
        have ew2 : IntKind.u64.wrap (gd 0 others y) = gd 0 others y := wu _ (by omega) (by omega)
        rw [ew, ew2, wi (y + 1) (by omega) (by omega)]
        have go : ∀ (b : Bool), (b = true → gd 0 others y % 64 < 16 ∨ 24 ≤ gd 0 others y % 64) → ∃ n0' n1' n2' D' tr', ((if b = true then ((iospace_Bus_Access.f k n0 n1 n2 x31.2.2.2.1 [] tr ⟨s, (IntKind.u64.wrap (base + gd 0 others y % 64)), 1, true, gd 0 others y⟩).bind fun s94 => (some (s94.2.2.1, s94.2.2.2.1, s94.2.2.2.2.1, s94.1, s94.2.1))) else (some (n0, n1, n2, [], tr))).bind fun x82 => law09_IospaceReadsBack.l1 k others x31 s base x82.1 x82.2.1 x82.2.2.1 x82.2.2.2.1 x82.2.2.2.2 (y + 1)) = some (n0', n1', n2', [], tr') ∧ One s ⟨⟨base, 64⟩, o, D'⟩ n0' n1' n2' ∧ MW ⟨⟨base, 64⟩, o, D'⟩ ∧ ldN D' (base + 16) w.toNat = V ∧ tr'.length ≤ 100 := by
          intro b hb
          cases b with
          | false =>
            rw [if_neg (by decide), Option.bind_some]
            exact ih k (y + 1) D n0 n1 n2 tr (by omega) (by omega) (by omega) (by omega) h4 h5 h6 (by omega)
          | true =>
            have hj := hb rfl
            have ea : IntKind.u64.wrap (base + gd 0 others y % 64) = base + gd 0 others y % 64 := wu _ (by omega) (by omega)
            rw [if_pos rfl, ea]
            obtain ⟨x, q0, q1, q2, h8, h9⟩ := one_write (a := ⟨s, base + gd 0 others y % 64, 1, true, gd 0 others y⟩) (en := x31.2.2.2.1) (tr := tr) (k := k) FL.nil noF_nil h4 h5 (by omega) ⟨⟨by show 0 ≤ base + _; omega, by show base + gd 0 others y % 64 < _; omega⟩, ⟨hx0, by show gd 0 others y < _; omega⟩⟩ ⟨hs, .inl rfl, by show (base + gd 0 others y % 64) % 1 = 0; omega⟩ (by omega) ⟨by show base ≤ base + _; omega, by show base + gd 0 others y % 64 < base + 64; omega⟩ ⟨by show base + gd 0 others y % 64 + 1 ≤ base + 64; omega, hen⟩ rfl
            rw [bnd_s h8, Option.bind_some]
            refine ih k (y + 1) _ q0 q1 q2 _ (by omega) (by omega) (by omega) (by omega) h9 (h5.st _ _ _) ?_ (by simp; omega)
            rw [← h6]
            refine ldN_congr fun b b0 b1 => ?_
            show mgetd (stN D _ _ _) b = _
            rw [stN_get, if_neg]
            have := hw.pos
            show ¬ (base + gd 0 others y % 64 ≤ b ∧ b < base + gd 0 others y % 64 + ((1 : Int).toNat : Int))
            have e1 : ((1 : Int).toNat : Int) = 1 := rfl
            omega
        by_cases c5 : gd 0 others y % 64 < 16
        · rw [if_pos c5, Option.bind_some]
          exact go true (fun _ => .inl c5)
        · rw [if_neg c5, Option.bind_some]
          exact go (decide (24 ≤ gd 0 others y % 64)) (fun h => .inr (of_decide_eq_true h))
      · rw [if_neg (by rw [decide_eq_false c4]; decide)]
        exact ⟨n0, n1, n2, D, tr, rfl, h4, h5, h6, by omega⟩
    · rw [if_neg c, Option.bind_some, if_neg (by decide)]
      exact ⟨n0, n1, n2, D, tr, rfl, h4, h5, h6, by omega⟩
theorem width_of {i : Int} (h0 : 0 ≤ i) (h1 : i < 4) : WW (gd 0 ([1, 2, 4, 8] : List Int) i) := by
  have : i = 0 ∨ i = 1 ∨ i = 2 ∨ i = 3 := by omega
  unfold WW
  rcases this with rfl | rfl | rfl | rfl
  · exact .inl rfl
  · exact .inr (.inl rfl)
  · exact .inr (.inr (.inl rfl))
  · exact .inr (.inr (.inr rfl))
theorem pureIospaceReadsBack : law09_IospaceReadsBack.Pure := by
  intro a0 a1 a2 a3 a4 a5 _ _ k2 k3 k4 k5 k6
  have u2 := inK_u64 k2
  have u4 := inK_u64 k4
  have u30 : (0 : Int) ≤ a3 := k3.1
  refine ⟨1000, ?_⟩
  unfold law09_IospaceReadsBack.f
  rw [bnd_s (show iospace_New.f 1000 = some _ from rfl), bnd_s awake_f, if_pos rfl]
  have et : Int.tmod a3 4 = a3 % 4 := tm _ u30
  rw [et, ck_t (by show 0 ≤ a3 % 4 ∧ a3 % 4 < 4; omega), bnd_s (mod_f 1000 (a := a0) (show (0 : Int) < 3 by decide) (by decide)), bnd_s (mod_f 1000 (a := a1) (show (0 : Int) < 256 by decide) (by decide)), andNot63 u2]
  have hs : SP (a0 % 18446744073709551616 % 3) := by unfold SP; omega
  generalize a0 % 18446744073709551616 % 3 = s at hs
  have ho : OW (a1 % 18446744073709551616 % 256) := by unfold OW; omega
  generalize a1 % 18446744073709551616 % 256 = o at ho
  have hw : WW (gd 0 ([1, 2, 4, 8] : List Int) (a3 % 4)) := width_of (by omega) (by omega)
  generalize gd 0 ([1, 2, 4, 8] : List Int) (a3 % 4) = w at hw
  rw [if_neg (by omega), Option.bind_some]
  obtain ⟨base, hb, hb0, hb1, hb2⟩ : ∃ base, a2 - a2 % 64 = base ∧ 0 ≤ base ∧ base + 64 ≤ 18446744073709551616 ∧ base % 64 = 0 := ⟨_, rfl, by omega, by omega, by omega⟩
  rw [hb]
  have hwp := hw.pos
  obtain ⟨n0, n1, n2, h1, h2⟩ := map_one (s := s) (o := o) (r := ⟨base, 64⟩) (k := 1000) (en := List.replicate 256 false) (fa := []) (tr := []) (by decide) hs ⟨hb0, by show (1 : Int) ≤ 64; decide, by show (64 : Int) ≤ 1048576; decide, hb1⟩ ho
  have hm : MW ⟨⟨base, 64⟩, o, []⟩ := ⟨⟨hb0, by show (1 : Int) ≤ 64; decide, by show (64 : Int) ≤ 1048576; decide, hb1⟩, ho, fun a => ⟨Int.le_refl _, by show (0 : Int) < 256; decide⟩⟩
  rw [bnd_s h1, if_pos rfl, enable_f, if_pos ho, Option.bind_some, Option.bind_some]
  have hen : gd false ((List.replicate 256 false).set o.toNat true) o = true := gd_set_same ho.1 (by rw [List.length_replicate]; exact ho.2)
  rw [show (!decide ((0 : Int) = 0)) = false from rfl, if_neg (by exact hft)]
  have ea : IntKind.u64.wrap (base + 16) = base + 16 := wu _ (by omega) (by omega)
  rw [ea]
  have hal : (base + 16) % w = 0 := by rcases hw with rfl | rfl | rfl | rfl <;> omega
  obtain ⟨x, q0, q1, q2, h3, h4⟩ := one_write (a := ⟨s, base + 16, w, true, a4⟩) (en := (List.replicate 256 false).set o.toNat true) (tr := []) (k := 1000) FL.nil noF_nil h2 hm (by decide) ⟨⟨by show 0 ≤ base + 16; omega, by show base + 16 < _; omega⟩, u4⟩ ⟨hs, hw, hal⟩ (by simp) ⟨by show base ≤ base + 16; omega, by show base + 16 < base + 64; omega⟩ ⟨by show base + 16 + w ≤ base + 64; omega, hen⟩ rfl
  rw [bnd_s h3, if_pos rfl]
  have hld : ldN (stN [] (base + 16) (a4 % pw w) w.toNat) (base + 16) w.toNat = a4 % pw w := by rw [ld_st, pw_pow hw, Int.emod_emod_of_dvd _ (Int.dvd_refl _)]
  obtain ⟨r0, r1, r2, D', tr', g1, g2, g3, g4, g5⟩ := rb_loop (others := a5) k6 k5 (s := s) (base := base) (w := w) (V := a4 % pw w) hs hb0 hb1 hw (o := o) (x31 := (n0, n1, n2, (List.replicate 256 false).set o.toNat true, false)) hen 40 1000 0 _ q0 q1 q2 ([] ++ [x]) (by decide) (by decide) (by decide) (by decide) h4 (hm.st _ _ _) hld (by simp)
  rw [bnd_s g1]
  obtain ⟨x', h5⟩ := one_read (a := ⟨s, base + 16, w, false, 0⟩) (en := (List.replicate 256 false).set o.toNat true) (tr := tr') (k := 1000) FL.nil noF_nil g2 g3 (by decide) ⟨⟨by show 0 ≤ base + 16; omega, by show base + 16 < _; omega⟩, ⟨by show (0 : Int) ≤ 0; decide, by show (0 : Int) < _; decide⟩⟩ ⟨hs, hw, hal⟩ (by omega) ⟨by show base ≤ base + 16; omega, by show base + 16 < base + 64; omega⟩ ⟨by show base + 16 + w ≤ base + 64; omega, hen⟩ (by exact hft)
  rw [bnd_s h5, if_pos rfl, bnd_s (ones_f 1000 hw), and_mask hw u4.1 u4.2]
  congr 1
  exact decide_eq_true g4
end Go.Proofs.Ytigadacjaglfeaa.X
