/- The laws on the pure side: p36a. -/
import Derived.Test.YthemeobgfgmblaaQ1
namespace Go.Proofs.Ythemeobgfgmblaa.X
open Go Go.Sx

/-! ## Find, Transition, Safe -/
theorem mod_ (k : Nat) (a b : Int) (h0 : 0 < b) (h1 : b < 9223372036854775808) : ∃ r, help_Mod.f k a b = some r ∧ 0 ≤ r ∧ r < b := by
  have := wu_lo a
  have h2 := Int.emod_lt_of_pos (IntKind.u64.wrap a) h0
  have h3 := Int.emod_nonneg (IntKind.u64.wrap a) (show b ≠ 0 by omega)
  rw [help_Mod.f, wu b (by omega) (by omega), ck_t (by omega), tm _ this, wi _ (by omega) (by omega)]
  exact ⟨_, rfl, h3, h2⟩
theorem find_l1 (T : List OperatingPoint) (f : Int) (hl : (T.length : Int) ≤ 16) : ∀ (k : Nat) (i : Int), 0 ≤ i → i ≤ T.length → (T.length : Int) - i < k →
    (slices_IndexFunc_api_OperatingPoint_api_OperatingPoint__Find_1.l1 k T f i = some (.go ()) ∧ ref36_Find.l1 k T f i = some (.go ()) ∧ ∀ j : Int, i ≤ j → j < T.length → (pt T j).Frequency < f) ∨
    (∃ j : Int, slices_IndexFunc_api_OperatingPoint_api_OperatingPoint__Find_1.l1 k T f i = some (.rt (some j)) ∧ ref36_Find.l1 k T f i = some (.rt (some (j, 0))) ∧ i ≤ j ∧ j < T.length ∧ f ≤ (pt T j).Frequency ∧ ∀ j' : Int, i ≤ j' → j' < j → (pt T j').Frequency < f)
  | 0, i, _, _, hk => by omega
  | k + 1, i, h0, h1, hk => by
    rw [slices_IndexFunc_api_OperatingPoint_api_OperatingPoint__Find_1.l1, ref36_Find.l1]
    by_cases h : i < (T.length : Int)
    · rw [if_pos h, if_pos h, ck_t ⟨h0, h⟩, ck_t ⟨h0, h⟩, wi (i + 1) (by omega) (by omega), perf_Find_1.f, bind_s rfl]
      dsimp only
      by_cases c : f ≤ (gd OperatingPoint.zero T i).Frequency
      · rw [decide_eq_true c, if_pos rfl, if_pos c]
        exact .inr ⟨i, rfl, rfl, by omega, h, c, fun j' j0 j1 => by omega⟩
      · rw [decide_eq_false c, if_neg (by decide), if_neg c]
        have c' : (pt T i).Frequency < f := by unfold pt; omega
        rcases find_l1 T f hl k (i + 1) (by omega) (by omega) (by omega) with ⟨a1, a2, a3⟩ | ⟨j, a1, a2, a3, a4, a5, a6⟩
        · refine .inl ⟨a1, a2, fun j j0 j1 => ?_⟩
          by_cases e : j = i
          · rw [e]; exact c'
          · exact a3 j (by omega) j1
        · refine .inr ⟨j, a1, a2, by omega, a4, a5, fun j' j0 j1 => ?_⟩
          by_cases e : j' = i
          · rw [e]; exact c'
          · exact a6 j' (by omega) j1
    · rw [if_neg h, if_neg h]
      exact .inl ⟨rfl, rfl, fun j j0 j1 => by omega⟩
/-- what Find answers, and that the reference answers so -/
theorem find_f (T : List OperatingPoint) (f : Int) (k : Nat) (hk : 20 < k) : ∃ p : Int × Int, perf_Find.f k T f = some p ∧ ref36_Find.f k T f = some p ∧
    (okT T → (p = (0, 6) ∧ ∀ j : Int, 0 ≤ j → j < T.length → (pt T j).Frequency < f) ∨ (p.2 = 0 ∧ 0 ≤ p.1 ∧ p.1 < T.length ∧ f ≤ (pt T p.1).Frequency ∧ ∀ j' : Int, 0 ≤ j' → j' < p.1 → (pt T j').Frequency < f)) := by
  rw [perf_Find.f, ref36_Find.f, rcheck_f]
  rcases check_f T k hk with ⟨o, c⟩ | ⟨o, c⟩
  · rw [bind_s c, bind_s c, if_pos rfl, if_pos rfl, slices_IndexFunc_api_OperatingPoint_api_OperatingPoint__Find_1.f]
    have hl := o.1
    rcases find_l1 T f hl.2 k 0 (by omega) (by omega) (by omega) with ⟨a1, a2, a3⟩ | ⟨j, a1, a2, a3, a4, a5, a6⟩
    · rw [bind_s a1, bind_s a2, el_g, el_g, bind_s rfl, if_pos (by omega)]
      exact ⟨_, rfl, rfl, fun _ => .inl ⟨rfl, a3⟩⟩
    · rw [bind_s a1, bind_s a2, el_r, el_r, bind_s rfl, if_neg (by omega)]
      exact ⟨_, rfl, rfl, fun _ => .inr ⟨rfl, a3, a4, a5, a6⟩⟩
  · rw [bind_s c, bind_s c, if_neg (by decide), if_neg (by decide)]
    exact ⟨_, rfl, rfl, fun h => absurd h o⟩
theorem ins0 (k : Nat) (x y : PerfOp) : slices_Insert_api_PerfOp_api_PerfOp.f k [x] 0 [y] = some [y, x] := by
  rw [slices_Insert_api_PerfOp_api_PerfOp.f]; kernel_rfl
theorem ins1 (k : Nat) (x y : PerfOp) : slices_Insert_api_PerfOp_api_PerfOp.f k [x] 1 [y] = some [x, y] := by
  rw [slices_Insert_api_PerfOp_api_PerfOp.f]; kernel_rfl
/-- the operations from one point to another -/
def tr (T : List OperatingPoint) (a b : Int) : List PerfOp :=
  if a = b then [] else if (pt T a).Voltage = (pt T b).Voltage then [⟨false, (pt T b).Frequency⟩] else if a < b then [⟨true, (pt T b).Voltage⟩, ⟨false, (pt T b).Frequency⟩] else [⟨false, (pt T b).Frequency⟩, ⟨true, (pt T b).Voltage⟩]
theorem tr_len (T : List OperatingPoint) (a b : Int) : (tr T a b).length ≤ 2 := by
  unfold tr; (repeat' split) <;> simp
theorem has_f (T : List OperatingPoint) (k : Nat) (a : Int) : perf_has.f k T a = some (decide (0 ≤ a ∧ a < (T.length : Int))) := by
  rw [perf_has.f]
  by_cases h : 0 ≤ a
  · rw [if_pos h]; simp [h]
  · rw [if_neg h]; simp [h]
theorem trans_f (T : List OperatingPoint) (a b : Int) (k : Nat) (hk : 20 < k) : ∃ p : List PerfOp × Int, perf_Transition.f k T a b = some p ∧ ref36_Transition.f k T a b = some p ∧ p.1.length ≤ 2 ∧
    (okT T → 0 ≤ a → a < T.length → 0 ≤ b → b < T.length → p = (tr T a b, 0)) := by
  rw [perf_Transition.f, ref36_Transition.f, rcheck_f]
  rcases check_f T k hk with ⟨o, c⟩ | ⟨o, c⟩
  · rw [bind_s c, bind_s c, if_pos rfl, if_pos rfl]
    by_cases r : (0 ≤ a ∧ a < T.length) ∧ (0 ≤ b ∧ b < T.length)
    · rw [bind_s (has_f T k a), decide_eq_true r.1, if_pos rfl, bind_s (has_f T k b), decide_eq_true r.2, bind_s rfl, if_neg (show ¬ ((!true) = true) by decide), if_neg (show ¬ a < 0 by omega), if_neg (show ¬ (T.length : Int) ≤ a by omega), if_neg (show ¬ b < 0 by omega), decide_eq_false (show ¬ (T.length : Int) ≤ b by omega), bind_s rfl, if_neg (show ¬ (false = true) by decide)]
      by_cases e : a = b
      · rw [if_pos e, if_pos e]
        exact ⟨_, rfl, rfl, by simp, fun _ _ _ _ _ => by rw [tr, if_pos e]⟩
      · rw [if_neg e, if_neg e, ck_t r.2, ck_t r.1, ck_t r.2, ck_t r.1]
        by_cases e2 : (gd OperatingPoint.zero T a).Voltage = (gd OperatingPoint.zero T b).Voltage
        · rw [if_pos e2, if_pos e2]
          exact ⟨_, rfl, rfl, by simp, fun _ _ _ _ _ => by rw [tr, if_neg e, if_pos e2]⟩
        · rw [if_neg e2, if_neg e2]
          by_cases e3 : a < b
          · rw [if_neg (show ¬ b < a by omega), bind_s rfl, ins0, bind_s rfl, if_pos e3]
            exact ⟨_, rfl, rfl, by simp, fun _ _ _ _ _ => by rw [tr, if_neg e, if_neg e2, if_pos e3]⟩
          · rw [if_pos (show b < a by omega), bind_s rfl, ins1, bind_s rfl, if_neg e3]
            exact ⟨_, rfl, rfl, by simp, fun _ _ _ _ _ => by rw [tr, if_neg e, if_neg e2, if_neg e3]⟩
    · have h1 : ((perf_has.f k T a).bind fun s9 => (if s9 = true then ((perf_has.f k T b).bind fun s11 => (some (!s11))) else (some true))) = some true := by
        rw [bind_s (has_f T k a)]
        by_cases ra : 0 ≤ a ∧ a < (T.length : Int)
        · rw [decide_eq_true ra, if_pos rfl, bind_s (has_f T k b), decide_eq_false (fun h => r ⟨ra, h⟩)]; rfl
        · rw [decide_eq_false ra, if_neg (by decide)]
      have h2 : (if a < 0 then (some true) else (if (T.length : Int) ≤ a then (some true) else (if b < 0 then (some true) else (some (decide ((T.length : Int) ≤ b)))))) = some true := by
        split
        · rfl
        · split
          · rfl
          · split
            · rfl
            · rw [decide_eq_true (by omega)]
      rw [bind_s h1, if_pos rfl, bind_s h2, if_pos rfl]
      exact ⟨_, rfl, rfl, by simp, fun _ h1 h2 h3 h4 => absurd ⟨⟨h1, h2⟩, h3, h4⟩ r⟩
  · rw [bind_s c, bind_s c, if_neg (by decide), if_neg (by decide)]
    exact ⟨_, rfl, rfl, by simp, fun h => absurd h o⟩
theorem eq_l1 (L : List PerfOp) (hl : L.length ≤ 100) : ∀ (k : Nat) (i : Int), 0 ≤ i → i ≤ L.length → (L.length : Int) - i < k → help_Equal_api_PerfOp.l1 k L L i = some (.go ())
  | 0, i, _, _, hk => by omega
  | k + 1, i, h0, h1, hk => by
    rw [help_Equal_api_PerfOp.l1]
    by_cases h : i < (L.length : Int)
    · rw [if_pos h, ck_t ⟨h0, h⟩, ck_t ⟨h0, h⟩, if_pos (by simp), wi (i + 1) (by omega) (by omega)]
      exact eq_l1 L hl k (i + 1) (by omega) (by omega) (by omega)
    · rw [if_neg h]
theorem eq_f (L : List PerfOp) (hl : L.length ≤ 2) (k : Nat) (hk : 2 < k) : help_Equal_api_PerfOp.f k L L = some true := by
  rw [help_Equal_api_PerfOp.f, if_pos rfl, bind_s (eq_l1 L (by omega) k 0 (by omega) (by omega) (by omega)), el_g]
/-! whether operations are safe -/
def good (T : List OperatingPoint) (f v : Int) : Prop := ∃ j : Int, 0 ≤ j ∧ j < T.length ∧ (pt T j).Frequency = f ∧ (pt T j).Voltage ≤ v
abbrev nf (o : PerfOp) (f : Int) : Int := if o.Voltage = true then f else o.Value
abbrev nv (o : PerfOp) (v : Int) : Int := if o.Voltage = true then o.Value else v
def safe (T : List OperatingPoint) : List PerfOp → Int → Int → Prop
  | [], _, _ => True
  | o :: r, f, v => good T (nf o f) (nv o v) ∧ safe T r (nf o f) (nv o v)
def fin : List PerfOp → Int → Int → Int × Int
  | [], f, v => (f, v)
  | o :: r, f, v => fin r (nf o f) (nv o v)
theorem step_eq (o : PerfOp) (f v : Int) : (if o.Voltage = true then some (f, o.Value) else some (o.Value, v)) = some (nf o f, nv o v) := by
  unfold nf nv; split <;> rfl
theorem sidx_l1 (T : List OperatingPoint) (f : Int) (hl : (T.length : Int) ≤ 16) : ∀ (k : Nat) (i : Int), 0 ≤ i → i ≤ T.length → (T.length : Int) - i < k →
    (slices_IndexFunc_api_OperatingPoint_api_OperatingPoint__Safe_1.l1 k T f i = some (.go ()) ∧ ∀ j : Int, i ≤ j → j < T.length → (pt T j).Frequency ≠ f) ∨
    (∃ j : Int, slices_IndexFunc_api_OperatingPoint_api_OperatingPoint__Safe_1.l1 k T f i = some (.rt (some j)) ∧ i ≤ j ∧ j < T.length ∧ (pt T j).Frequency = f)
  | 0, i, _, _, hk => by omega
  | k + 1, i, h0, h1, hk => by
    rw [slices_IndexFunc_api_OperatingPoint_api_OperatingPoint__Safe_1.l1]
    by_cases h : i < (T.length : Int)
    · rw [if_pos h, ck_t ⟨h0, h⟩, wi (i + 1) (by omega) (by omega), perf_Safe_1.f, bind_s rfl]
      dsimp only
      by_cases c : (gd OperatingPoint.zero T i).Frequency = f
      · rw [decide_eq_true c, if_pos rfl]
        exact .inr ⟨i, rfl, by omega, h, c⟩
      · rw [decide_eq_false c, if_neg (by decide)]
        rcases sidx_l1 T f hl k (i + 1) (by omega) (by omega) (by omega) with ⟨a1, a3⟩ | ⟨j, a1, a3, a4, a5⟩
        · refine .inl ⟨a1, fun j j0 j1 => ?_⟩
          by_cases e : j = i
          · rw [e]; exact c
          · exact a3 j (by omega) j1
        · exact .inr ⟨j, a1, by omega, a4, a5⟩
    · rw [if_neg h]
      exact .inl ⟨rfl, fun j j0 j1 => by omega⟩
theorem okT_inj {T : List OperatingPoint} (o : okT T) {i j : Int} (i0 : 0 ≤ i) (i1 : i < T.length) (j0 : 0 ≤ j) (j1 : j < T.length) (h : (pt T i).Frequency = (pt T j).Frequency) : i = j := by
  rcases Int.lt_trichotomy i j with c | c | c
  · have := okT_lt o i0 c j1; omega
  · exact c
  · have := okT_lt o j0 c i1; omega
/-- the program's test of a frequency and a voltage -/
theorem good_f (T : List OperatingPoint) (o : okT T) (f v : Int) (k : Nat) (hk : 20 < k) :
    ∃ j, slices_IndexFunc_api_OperatingPoint_api_OperatingPoint__Safe_1.f k T f = some j ∧ ∃ b, (if j < 0 then (some true) else (ck ((0 : Int) ≤ j ∧ j < (T.length : Int)) (some (decide (v < ((gd OperatingPoint.zero T j).Voltage)))))) = some b ∧ (b = false ↔ good T f v) := by
  have hl := o.1
  rw [slices_IndexFunc_api_OperatingPoint_api_OperatingPoint__Safe_1.f]
  rcases sidx_l1 T f hl.2 k 0 (by omega) (by omega) (by omega) with ⟨a1, a3⟩ | ⟨j, a1, a3, a4, a5⟩
  · rw [bind_s a1, el_g]
    refine ⟨_, rfl, true, rfl, fun h => (by cases h), fun ⟨j, j0, j1, j2, _⟩ => absurd j2 (a3 j j0 j1)⟩
  · rw [bind_s a1, el_r]
    refine ⟨_, rfl, ?_⟩
    rw [if_neg (by omega), ck_t ⟨a3, a4⟩]
    refine ⟨_, rfl, fun h => ⟨j, a3, a4, a5, by simpa using h⟩, fun ⟨j', j0, j1, j2, j3⟩ => ?_⟩
    have e := okT_inj o j0 j1 a3 a4 (by rw [j2, a5])
    subst e
    exact decide_eq_false (by unfold pt at j3; omega)
theorem safe_l1 (T : List OperatingPoint) (o : okT T) (ops : List PerfOp) (hl : ops.length ≤ 200) : ∀ (n k : Nat) (f v : Int) (i : Int), 0 ≤ i → i + n = ops.length → n + 20 < k →
    ∃ r, perf_Safe.l1 k ops T f v i = some r ∧ ((safe T (ops.drop i.toNat) f v ∧ r = .go ()) ∨ (¬ safe T (ops.drop i.toNat) f v ∧ r = .rt (some false)))
  | _, 0, _, _, _, _, _, hk => by omega
  | 0, k + 1, f, v, i, h0, h1, hk => by
    rw [perf_Safe.l1, if_neg (by omega)]
    rw [drop_end (by omega)]
    exact ⟨_, rfl, .inl ⟨trivial, rfl⟩⟩
  | n + 1, k + 1, f, v, i, h0, h1, hk => by
    have h : i < (ops.length : Int) := by omega
    rw [perf_Safe.l1, if_pos h, ck_t ⟨h0, h⟩, step_eq, bind_s rfl, wi (i + 1) (by omega) (by omega)]
    dsimp only
    obtain ⟨j, hj, b, hb, hb'⟩ := good_f T o (nf (gd PerfOp.zero ops i) f) (nv (gd PerfOp.zero ops i) v) k (by omega)
    rw [bind_s hj, bind_s hb, drop_gd (z := PerfOp.zero) h0 h]
    cases b
    · rw [if_neg (by decide)]
      obtain ⟨r, r1, r2⟩ := safe_l1 T o ops hl n k (nf (gd PerfOp.zero ops i) f) (nv (gd PerfOp.zero ops i) v) (i + 1) (by omega) (by omega) (by omega)
      refine ⟨r, r1, ?_⟩
      rcases r2 with ⟨g1, g2⟩ | ⟨g1, g2⟩
      · exact .inl ⟨⟨hb'.1 rfl, g1⟩, g2⟩
      · exact .inr ⟨fun g => g1 g.2, g2⟩
    · rw [if_pos rfl]
      exact ⟨_, rfl, .inr ⟨fun g => absurd (hb'.2 g.1) (by decide), rfl⟩⟩
theorem rgood_l2 (T : List OperatingPoint) (x : Int × Int) (hl : (T.length : Int) ≤ 16) : ∀ (k : Nat) (b : Bool) (i : Int), 0 ≤ i → i ≤ T.length → (T.length : Int) - i < k →
    ∃ r, ref36_Safe.l2 k T x b i = some r ∧ (r = true ↔ b = true ∨ ∃ j : Int, i ≤ j ∧ j < T.length ∧ (pt T j).Frequency = x.1 ∧ (pt T j).Voltage ≤ x.2)
  | 0, _, i, _, _, hk => by omega
  | k + 1, b, i, h0, h1, hk => by
    rw [ref36_Safe.l2]
    by_cases h : i < (T.length : Int)
    · have hb : ∃ c, (if b = true then (some true) else (ck ((0 : Int) ≤ i ∧ i < (T.length : Int)) (if ((gd OperatingPoint.zero T i).Frequency) = x.1 then (some (decide (((gd OperatingPoint.zero T i).Voltage) ≤ x.2))) else (some false)))) = some c ∧ (c = true ↔ b = true ∨ ((pt T i).Frequency = x.1 ∧ (pt T i).Voltage ≤ x.2)) := by
        unfold pt
        by_cases hb : b = true
        · rw [if_pos hb]; exact ⟨_, rfl, by simp [hb]⟩
        · rw [if_neg hb, ck_t ⟨h0, h⟩]
          split
          · rename_i e; exact ⟨_, rfl, by simp [hb, e]⟩
          · rename_i e; exact ⟨_, rfl, by simp [hb, e]⟩
      obtain ⟨c, c1, c2⟩ := hb
      rw [if_pos h, bind_s c1, wi (i + 1) (by omega) (by omega)]
      obtain ⟨r, r1, r2⟩ := rgood_l2 T x hl k c (i + 1) (by omega) (by omega) (by omega)
      refine ⟨r, r1, r2.trans ⟨fun g => ?_, fun g => ?_⟩⟩
      · rcases g with g | ⟨j, j0, j1, j2⟩
        · rcases c2.1 g with g | g
          · exact .inl g
          · exact .inr ⟨i, by omega, h, g⟩
        · exact .inr ⟨j, by omega, j1, j2⟩
      · rcases g with g | ⟨j, j0, j1, j2⟩
        · exact .inl (c2.2 (.inl g))
        · by_cases e : j = i
          · exact .inl (c2.2 (.inr (by rw [← e]; exact j2)))
          · exact .inr ⟨j, by omega, j1, j2⟩
    · rw [if_neg h]
      exact ⟨_, rfl, fun g => .inl g, fun g => by rcases g with g | ⟨j, j0, j1, _⟩; exact g; omega⟩
theorem rsafe_l1 (T : List OperatingPoint) (o : okT T) (ops : List PerfOp) (hl : ops.length ≤ 200) : ∀ (n k : Nat) (f v : Int) (i : Int), 0 ≤ i → i + n = ops.length → n + 20 < k →
    ∃ r, ref36_Safe.l1 k ops T f v i = some r ∧ ((safe T (ops.drop i.toNat) f v ∧ r = .go ()) ∨ (¬ safe T (ops.drop i.toNat) f v ∧ r = .rt (some false)))
  | _, 0, _, _, _, _, _, hk => by omega
  | 0, k + 1, f, v, i, h0, h1, hk => by
    rw [ref36_Safe.l1, if_neg (by omega)]
    rw [drop_end (by omega)]
    exact ⟨_, rfl, .inl ⟨trivial, rfl⟩⟩
  | n + 1, k + 1, f, v, i, h0, h1, hk => by
    have h : i < (ops.length : Int) := by omega
    have hl' := o.1
    rw [ref36_Safe.l1, if_pos h, ck_t ⟨h0, h⟩, step_eq, bind_s rfl, wi (i + 1) (by omega) (by omega)]
    obtain ⟨b, hb, hb'⟩ := rgood_l2 T (nf (gd PerfOp.zero ops i) f, nv (gd PerfOp.zero ops i) v) hl'.2 k false 0 (by omega) (by omega) (by omega)
    have hg : b = true ↔ good T (nf (gd PerfOp.zero ops i) f) (nv (gd PerfOp.zero ops i) v) := by
      rw [hb']; unfold good; simp
    rw [bind_s hb, drop_gd (z := PerfOp.zero) h0 h]
    cases b
    · rw [if_neg (by decide), bind_s rfl, el_r]
      exact ⟨_, rfl, .inr ⟨fun g => absurd (hg.2 g.1) (by decide), rfl⟩⟩
    · rw [if_pos rfl, bind_s rfl, el_g]
      dsimp only
      obtain ⟨r, r1, r2⟩ := rsafe_l1 T o ops hl n k (nf (gd PerfOp.zero ops i) f) (nv (gd PerfOp.zero ops i) v) (i + 1) (by omega) (by omega) (by omega)
      refine ⟨r, r1, ?_⟩
      rcases r2 with ⟨g1, g2⟩ | ⟨g1, g2⟩
      · exact .inl ⟨⟨hg.1 rfl, g1⟩, g2⟩
      · exact .inr ⟨fun g => g1 g.2, g2⟩
/-- what Safe answers, and that the reference answers so -/
theorem safe_f (T : List OperatingPoint) (a : Int) (ops : List PerfOp) (hl : ops.length ≤ 200) (k : Nat) (hk : 250 < k) :
    ∃ b, perf_Safe.f k T a ops = some b ∧ ref36_Safe.f k T a ops = some b ∧ (okT T → 0 ≤ a → a < T.length → (b = true ↔ safe T ops (pt T a).Frequency (pt T a).Voltage)) := by
  rw [perf_Safe.f, ref36_Safe.f, rcheck_f]
  rcases check_f T k (by omega) with ⟨o, c⟩ | ⟨o, c⟩
  · rw [bind_s c, bind_s c, if_pos rfl, if_pos rfl, bind_s (has_f T k a)]
    by_cases r : 0 ≤ a ∧ a < (T.length : Int)
    · rw [decide_eq_true r, if_neg (show ¬ a < 0 by omega), decide_eq_false (by omega), bind_s rfl, bind_s rfl, if_neg (by decide), if_neg (by decide), ck_t r, ck_t r]
      obtain ⟨x, x1, x2⟩ := safe_l1 T o ops hl ops.length k (gd OperatingPoint.zero T a).Frequency (gd OperatingPoint.zero T a).Voltage 0 (by omega) (by omega) (by omega)
      obtain ⟨y, y1, y2⟩ := rsafe_l1 T o ops hl ops.length k (gd OperatingPoint.zero T a).Frequency (gd OperatingPoint.zero T a).Voltage 0 (by omega) (by omega) (by omega)
      rw [bind_s x1, bind_s y1]
      rcases x2 with ⟨g1, rfl⟩ | ⟨g1, rfl⟩
      · rcases y2 with ⟨g2, rfl⟩ | ⟨g2, rfl⟩
        · exact ⟨true, rfl, rfl, fun _ _ _ => ⟨fun _ => g1, fun _ => rfl⟩⟩
        · exact absurd g1 g2
      · rcases y2 with ⟨g2, rfl⟩ | ⟨g2, rfl⟩
        · exact absurd g2 g1
        · exact ⟨false, rfl, rfl, fun _ _ _ => ⟨fun h => (by cases h), fun h => absurd h g1⟩⟩
    · have h2 : (if a < 0 then (some true) else (some (decide ((T.length : Int) ≤ a)))) = some true := by
        split
        · rfl
        · rw [decide_eq_true (by omega)]
      rw [decide_eq_false r, h2, bind_s rfl, bind_s rfl, if_pos (show (!false) = true from rfl), if_pos rfl]
      exact ⟨_, rfl, rfl, fun _ h1 h2 => absurd ⟨h1, h2⟩ r⟩
  · rw [bind_s c, bind_s c, if_neg (by decide), if_neg (by decide), bind_s rfl, if_pos rfl]
    exact ⟨_, rfl, rfl, fun h => absurd h o⟩
theorem safe_app (T : List OperatingPoint) : ∀ (A B : List PerfOp) (f v : Int), safe T (A ++ B) f v ↔ safe T A f v ∧ safe T B (fin A f v).1 (fin A f v).2
  | [], B, f, v => by simp [safe, fin]
  | x :: A, B, f, v => by simp only [List.cons_append, safe, fin, safe_app T A B, and_assoc]
theorem fin_app : ∀ (A B : List PerfOp) (f v : Int), fin (A ++ B) f v = fin B (fin A f v).1 (fin A f v).2
  | [], B, f, v => rfl
  | x :: A, B, f, v => by simp only [List.cons_append, fin, fin_app A B]
theorem tr_fin (T : List OperatingPoint) (a b : Int) : fin (tr T a b) (pt T a).Frequency (pt T a).Voltage = ((pt T b).Frequency, (pt T b).Voltage) := by
  unfold tr
  split
  · rename_i e; rw [e]; rfl
  · split
    · rename_i e; rw [← e]; rfl
    · split <;> rfl
theorem tr_safe (T : List OperatingPoint) (o : okT T) (a b : Int) (a0 : 0 ≤ a) (a1 : a < T.length) (b0 : 0 ≤ b) (b1 : b < T.length) : safe T (tr T a b) (pt T a).Frequency (pt T a).Voltage := by
  unfold tr
  split
  · trivial
  · split
    · rename_i e; exact ⟨⟨b, b0, b1, rfl, by show _ ≤ (pt T a).Voltage; omega⟩, trivial⟩
    · split
      · rename_i e; have := okT_le o a0 (Int.le_of_lt e) b1
        exact ⟨⟨a, a0, a1, rfl, this.2.1⟩, ⟨b, b0, b1, rfl, Int.le_refl _⟩, trivial⟩
      · rename_i e; have := okT_le o b0 (show b ≤ a by omega) a1
        exact ⟨⟨b, b0, b1, rfl, this.2.1⟩, ⟨b, b0, b1, rfl, Int.le_refl _⟩, trivial⟩
theorem awake : law36_awake.f 300 = some true := by decide +kernel
theorem awake400 : law36_awake.f 400 = some true := by decide +kernel
end Go.Proofs.Ythemeobgfgmblaa.X
