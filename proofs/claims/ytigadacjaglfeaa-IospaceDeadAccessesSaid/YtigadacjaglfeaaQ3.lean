/- The laws on the pure side: io3. -/
import Derived.Test.YtigadacjaglfeaaQ2
namespace Go.Proofs.Ytigadacjaglfeaa.X
open Go Go.Sx
def ldN (D : List (Int × Int)) (a : Int) : Nat → Int
  | 0 => 0
  | n + 1 => ldN D a n + mgetd D (a + n) * 256 ^ n
def stN (D : List (Int × Int)) (a v : Int) : Nat → List (Int × Int)
  | 0 => D
  | n + 1 => mput (stN D a v n) (a + n) (v / 256 ^ n % 256)
theorem ldN_bd {D : List (Int × Int)} (hD : ∀ a, 0 ≤ mgetd D a ∧ mgetd D a < 256) (a : Int) : ∀ n, 0 ≤ ldN D a n ∧ ldN D a n < 256 ^ n
  | 0 => by simp [ldN]
  | n + 1 => by
    obtain ⟨h0, h1⟩ := ldN_bd hD a n
    obtain ⟨q0, q1⟩ := hD (a + n)
    have hp : (0 : Int) < 256 ^ n := Int.pow_pos (by omega)
    have e : (256 : Int) ^ (n + 1) = 256 ^ n * 256 := Int.pow_succ ..
    have b1 : mgetd D (a + n) * 256 ^ n ≤ 255 * 256 ^ n := Int.mul_le_mul_of_nonneg_right (by omega) (by omega)
    have b0 : 0 ≤ mgetd D (a + n) * 256 ^ n := Int.mul_nonneg q0 (by omega)
    have e2 : ldN D a (n + 1) = ldN D a n + mgetd D (a + n) * 256 ^ n := rfl
    rw [e, e2]
    omega
theorem stN_get (D : List (Int × Int)) (a v : Int) : ∀ (n : Nat) (b : Int), mgetd (stN D a v n) b = if a ≤ b ∧ b < a + n then v / 256 ^ (b - a).toNat % 256 else mgetd D b
  | 0, b => by rw [if_neg (by omega)]; rfl
  | n + 1, b => by
    show mgetd (mput (stN D a v n) (a + n) (v / 256 ^ n % 256)) b = _
    rw [mget_put, stN_get D a v n b]
    by_cases e : b = a + n
    · subst e
      rw [if_pos rfl, if_pos (by omega), show (a + (n : Int) - a).toNat = n by omega]
    · rw [if_neg e]
      by_cases c : a ≤ b ∧ b < a + n
      · rw [if_pos c, if_pos (by omega)]
      · rw [if_neg c, if_neg (by omega)]
theorem WW.pos {w : Int} (h : WW w) : 1 ≤ w ∧ w ≤ 8 := by unfold WW at h; omega
theorem stN_bd {D : List (Int × Int)} (hD : ∀ a, 0 ≤ mgetd D a ∧ mgetd D a < 256) (a v : Int) (n : Nat) : ∀ b, 0 ≤ mgetd (stN D a v n) b ∧ mgetd (stN D a v n) b < 256 := fun b => by
  rw [stN_get]
  split
  · have := Int.emod_nonneg (v / 256 ^ (b - a).toNat) (show (256 : Int) ≠ 0 by omega)
    have := Int.emod_lt_of_pos (v / 256 ^ (b - a).toNat) (show (0 : Int) < 256 by omega)
    omega
  · exact hD b
theorem pow256 (n : Nat) : (256 : Int) ^ n = ((2 ^ (8 * n) : Nat) : Int) := by
  rw [Nat.pow_mul]; simp
theorem or_byte {y b : Int} {n : Nat} (hn : n < 8) (y0 : 0 ≤ y) (y1 : y < 256 ^ n) (b0 : 0 ≤ b) (b1 : b < 256) : bitw .or .u64 y (shlw .u64 b (8 * n)) = y + b * 256 ^ n := by
  obtain ⟨p, rfl⟩ : ∃ p : Nat, y = p := ⟨y.toNat, by omega⟩
  obtain ⟨q, rfl⟩ : ∃ q : Nat, b = q := ⟨b.toNat, by omega⟩
  rw [pow256] at y1 ⊢
  have y1' : p < 2 ^ (8 * n) := by omega
  have hq : q * 2 ^ (8 * n) < 2 ^ 64 := by
    have e : 2 ^ (8 * n) ≤ 2 ^ 56 := Nat.pow_le_pow_right (by omega) (by omega)
    calc q * 2 ^ (8 * n) ≤ 255 * 2 ^ 56 := Nat.mul_le_mul (by omega) e
      _ < 2 ^ 64 := by omega
  have hp : p < 2 ^ 64 := Nat.lt_of_lt_of_le y1' (Nat.pow_le_pow_right (by omega) (by omega))
  have es : shlw .u64 (q : Int) (8 * (n : Int)) = ((q * 2 ^ (8 * n) : Nat) : Int) := by
    unfold shlw
    have e1 : min (8 * (n : Int)).toNat IntKind.u64.bits = 8 * n := by
      show min (8 * (n : Int)).toNat 64 = 8 * n
      omega
    rw [e1]
    have e2 : (q : Int) * 2 ^ (8 * n) = ((q * 2 ^ (8 * n) : Nat) : Int) := by simp
    rw [e2]
    exact wu _ (by omega) (by omega)
  rw [es, or_u64 p _ (by omega) (by omega), or_add p q (8 * n) y1']
  simp
theorem shr_byte {v : Int} {n : Nat} (hn : n < 8) : IntKind.u8.wrap (shrw .u64 v (8 * n)) = v / 256 ^ n % 256 := by
  rw [wu8]
  unfold shrw
  have e1 : min (8 * (n : Int)).toNat IntKind.u64.bits = 8 * n := by
    show min (8 * (n : Int)).toNat 64 = 8 * n
    omega
  rw [e1, Int.fdiv_eq_ediv_of_nonneg _ (by exact Int.le_of_lt (Int.pow_pos (by omega))), pow256]
  simp
theorem load_l {D : List (Int × Int)} {a w : Int} (hD : ∀ a, 0 ≤ mgetd D a ∧ mgetd D a < 256) (ha : 0 ≤ a) (hw : WW w) (he : a + w ≤ 18446744073709551616) : ∀ (m k n : Nat), (n : Int) ≤ w → w.toNat - n ≤ m → m < k → iospace_mapping_load.l1 k w D a (ldN D a n) n = some (ldN D a w.toNat) := by
  have := hw.pos
  intro m
  induction m with
  | zero =>
    intro k n h0 h1 h2
    obtain ⟨k, rfl⟩ : ∃ m, k = m + 1 := ⟨k - 1, by omega⟩
    have e : w.toNat = n := by omega
    rw [iospace_mapping_load.l1, if_neg (by omega), e]
  | succ m ih =>
    intro k n h0 h1 h2
    obtain ⟨k, rfl⟩ : ∃ m, k = m + 1 := ⟨k - 1, by omega⟩
    by_cases c : (n : Int) < w
    · obtain ⟨q0, q1⟩ := hD (a + n)
      obtain ⟨p0, p1⟩ := ldN_bd hD a n
      rw [iospace_mapping_load.l1, if_pos c, wi (8 * (n : Int)) (by omega) (by omega), ck_t (by omega), wu (n : Int) (by omega) (by omega), wu (a + n) (by omega) (by omega), wu (mgetd D (a + n)) (by omega) (by omega),
        or_byte (by omega) p0 p1 q0 q1, wi ((n : Int) + 1) (by omega) (by omega)]
      exact ih k (n + 1) (by omega) (by omega) (by omega)
    · have e : w.toNat = n := by omega
      rw [iospace_mapping_load.l1, if_neg c, e]
theorem load_f {D : List (Int × Int)} {a w x y o : Int} {k : Nat} (hD : ∀ a, 0 ≤ mgetd D a ∧ mgetd D a < 256) (ha : 0 ≤ a) (hw : WW w) (he : a + w ≤ 18446744073709551616) (hk : 8 < k) : iospace_mapping_load.f k x y o D a w = some (ldN D a w.toNat) := by
  have := hw.pos
  unfold iospace_mapping_load.f
  have h := load_l hD ha hw he w.toNat k 0 (by omega) (by omega) (by omega)
  have h' : iospace_mapping_load.l1 k w D a 0 0 = some (ldN D a w.toNat) := h
  rw [bnd_s h']
theorem store_l {D : List (Int × Int)} {a w v : Int} (ha : 0 ≤ a) (hw : WW w) (he : a + w ≤ 18446744073709551616) : ∀ (m k n : Nat), (n : Int) ≤ w → w.toNat - n ≤ m → m < k → iospace_mapping_store.l1 k w a v (stN D a v n) n = some (stN D a v w.toNat) := by
  have := hw.pos
  intro m
  induction m with
  | zero =>
    intro k n h0 h1 h2
    obtain ⟨k, rfl⟩ : ∃ m, k = m + 1 := ⟨k - 1, by omega⟩
    have e : w.toNat = n := by omega
    rw [iospace_mapping_store.l1, if_neg (by omega), e]
  | succ m ih =>
    intro k n h0 h1 h2
    obtain ⟨k, rfl⟩ : ∃ m, k = m + 1 := ⟨k - 1, by omega⟩
    by_cases c : (n : Int) < w
    · rw [iospace_mapping_store.l1, if_pos c, wi (8 * (n : Int)) (by omega) (by omega), ck_t (by omega), wu (n : Int) (by omega) (by omega), wu (a + n) (by omega) (by omega), shr_byte (by omega), wi ((n : Int) + 1) (by omega) (by omega)]
      exact ih k (n + 1) (by omega) (by omega) (by omega)
    · have e : w.toNat = n := by omega
      rw [iospace_mapping_store.l1, if_neg c, e]
theorem store_f {D : List (Int × Int)} {a w v x y o : Int} {k : Nat} (ha : 0 ≤ a) (hw : WW w) (he : a + w ≤ 18446744073709551616) (hk : 8 < k) : iospace_mapping_store.f k x y o D a w v = some (stN D a v w.toNat) := by
  have := hw.pos
  unfold iospace_mapping_store.f
  exact store_l ha hw he w.toNat k 0 (by omega) (by omega) (by omega)
structure FW (x : fault) : Prop where
  r : VR x.r
  n0 : 1 ≤ x.n
  n1 : x.n ≤ 64
structure FL (F : List fault) : Prop where
  fw : ∀ i : Int, 0 ≤ i → i < F.length → FW (gd fault.zero F i)
  len : F.length ≤ 64
def hits (s : Int) (r : Range) : fault → Prop := fun x => x.space = s ∧ ov x.r r
instance (s : Int) (r : Range) : DecidablePred (hits s r) := fun m => by unfold hits; infer_instance
def used (F : List fault) (i : Int) : List fault :=
  if (gd fault.zero F i).n - 1 = 0 then F.take i.toNat ++ F.drop (i + 1).toNat else F.set i.toNat { gd fault.zero F i with n := (gd fault.zero F i).n - 1 }
theorem fails_f {m0 m1 m2 : List mapping} {en : List Bool} {F : List fault} {tr : List Traced} {a : Access} {k : Nat} (hF : FL F) (hk : 256 < k) (hw : WW a.Width) (ha : VR ⟨a.Addr, a.Width⟩) :
    (∃ i, Fnd fault.zero (hits a.Space ⟨a.Addr, a.Width⟩) F i ∧ iospace_Bus_fails.f k m0 m1 m2 en F tr a = some (used F i, true)) ∨ (NoF fault.zero (hits a.Space ⟨a.Addr, a.Width⟩) F ∧ iospace_Bus_fails.f k m0 m1 m2 en F tr a = some (F, false)) := by
  have hlen := hF.len
  have hwp := hw.pos
  have ew : IntKind.u64.wrap a.Width = a.Width := wu _ (by omega) (by omega)
  have pre : ∀ k y, 0 ≤ y → y < (F.length : Int) → slices_IndexFunc_iospace_fault_iospace_fault__fails_1.l1 (k + 1) F a ⟨a.Addr, a.Width⟩ y = if hits a.Space ⟨a.Addr, a.Width⟩ (gd fault.zero F y) then some (.rt (some y)) else slices_IndexFunc_iospace_fault_iospace_fault__fails_1.l1 k F a ⟨a.Addr, a.Width⟩ (y + 1) := fun k y h0 h1 => by
    have hm := (hF.fw y h0 h1).r
    rw [slices_IndexFunc_iospace_fault_iospace_fault__fails_1.l1, if_pos h1, ck_t ⟨h0, h1⟩, wi_next h0 h1 (by omega)]
    unfold iospace_Bus_fails_1.f
    by_cases c0 : (gd fault.zero F y).space = a.Space
    · rw [if_pos c0, bnd_s (overlap_f k (a := ⟨_, _⟩) hm ha), Option.bind_some]
      by_cases c : ov (gd fault.zero F y).r ⟨a.Addr, a.Width⟩
      · rw [if_pos (show hits a.Space ⟨a.Addr, a.Width⟩ (gd fault.zero F y) from ⟨c0, c⟩), if_pos (decide_eq_true (show ov ⟨(gd fault.zero F y).r.Base, (gd fault.zero F y).r.Len⟩ _ from c))]
      · rw [if_neg (show ¬ hits a.Space ⟨a.Addr, a.Width⟩ (gd fault.zero F y) from fun h => c h.2), if_neg (by rw [decide_eq_false (show ¬ ov ⟨(gd fault.zero F y).r.Base, (gd fault.zero F y).r.Len⟩ _ from c)]; decide)]
    · rw [if_neg c0, if_neg (show ¬ hits a.Space ⟨a.Addr, a.Width⟩ (gd fault.zero F y) from fun h => c0 h.1)]; rfl
  unfold iospace_Bus_fails.f
  rw [ew]
  unfold slices_IndexFunc_iospace_fault_iospace_fault__fails_1.f
  rcases srch0 fault.zero (hits a.Space ⟨a.Addr, a.Width⟩) (fun i => some i) F (fun k y => slices_IndexFunc_iospace_fault_iospace_fault__fails_1.l1 k F a ⟨a.Addr, a.Width⟩ y) (k := k) (by omega)
    (fun k y h0 h1 hp => by show slices_IndexFunc_iospace_fault_iospace_fault__fails_1.l1 (k + 1) F a ⟨a.Addr, a.Width⟩ y = _; rw [pre k y h0 h1, if_pos hp])
    (fun k y h0 h1 hp => by show slices_IndexFunc_iospace_fault_iospace_fault__fails_1.l1 (k + 1) F a ⟨a.Addr, a.Width⟩ y = _; rw [pre k y h0 h1, if_neg hp])
    (fun k y h1 => by show slices_IndexFunc_iospace_fault_iospace_fault__fails_1.l1 (k + 1) F a ⟨a.Addr, a.Width⟩ y = _; rw [slices_IndexFunc_iospace_fault_iospace_fault__fails_1.l1, if_neg (by omega)]) with ⟨i, h1, h2⟩ | ⟨h1, h2⟩
  · refine .inl ⟨i, h1, ?_⟩
    have h2' : slices_IndexFunc_iospace_fault_iospace_fault__fails_1.l1 k F a ⟨a.Addr, a.Width⟩ 0 = some (.rt (some i)) := h2
    obtain ⟨q0, q1, _, _⟩ := h1
    obtain ⟨_, n0, n1⟩ := hF.fw i q0 q1
    rw [bnd_s h2']
    show (some i : Option Int).bind _ = _
    rw [Option.bind_some, if_neg (by omega), ck_t ⟨q0, q1⟩, wi ((gd fault.zero F i).n - 1) (by omega) (by omega), ck_t (by rw [List.length_set]; exact ⟨q0, q1⟩), gd_set_same q0 q1, wi (i + 1) (by omega) (by omega)]
    unfold used
    by_cases c : (gd fault.zero F i).n - 1 = 0
    · rw [if_pos c, if_pos c, ck_t (by rw [List.length_set]; omega), Option.bind_some]
      congr 3
      · rw [List.take_set_of_le (Nat.le_refl _)]
      · rw [List.drop_set_of_lt (by omega)]
    · rw [if_neg c, if_neg c]; rfl
  · refine .inr ⟨h1, ?_⟩
    have h2' : slices_IndexFunc_iospace_fault_iospace_fault__fails_1.l1 k F a ⟨a.Addr, a.Width⟩ 0 = some (.go ()) := h2
    rw [bnd_s h2']; rfl
theorem plan_f {m0 m1 m2 : List mapping} {en : List Bool} {F : List fault} {tr : List Traced} {s n : Int} {r : Range} {k : Nat} (hb : U r.Base) (hl : U r.Len) (hF : FL F) :
    iospace_Bus_PlanFault.f k m0 m1 m2 en F tr s r n = if SP s ∧ VR r ∧ 1 ≤ n ∧ n ≤ 64 then (if F.length = 64 then some (F, 8) else some (F ++ [⟨s, r, n⟩], 0)) else some (F, 1) := by
  have hlen := hF.len
  unfold iospace_Bus_PlanFault.f
  rw [bnd_s (validSpace_f k s)]
  by_cases c1 : SP s
  · rw [if_pos (decide_eq_true c1), bnd_s (validRange_f k hb hl)]
    by_cases c2 : VR r
    · rw [if_pos (decide_eq_true c2)]
      by_cases c3 : n < 1
      · rw [if_pos c3, Option.bind_some, if_pos rfl, if_neg (fun h => by omega)]
      · rw [if_neg c3, Option.bind_some]
        by_cases c4 : 64 < n
        · rw [if_pos (decide_eq_true c4), if_neg (fun h => by omega)]
        · have hc : SP s ∧ VR r ∧ 1 ≤ n ∧ n ≤ 64 := ⟨c1, c2, by omega, by omega⟩
          rw [if_neg (by rw [decide_eq_false c4]; decide), if_pos hc]
          by_cases c5 : F.length = 64
          · rw [if_pos (by omega), if_pos c5]
          · rw [if_neg (by omega), if_neg c5, ck_t (by omega)]
    · rw [if_neg (by rw [decide_eq_false c2]; decide), Option.bind_some, if_pos rfl, if_neg (fun h => c2 h.2.1)]
  · rw [if_neg (by rw [decide_eq_false c1]; decide), Option.bind_some, if_pos rfl, if_neg (fun h => c1 h.1)]
end Go.Proofs.Ytigadacjaglfeaa.X
