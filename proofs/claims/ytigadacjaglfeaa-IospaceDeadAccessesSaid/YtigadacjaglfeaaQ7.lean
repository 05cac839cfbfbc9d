/- The laws on the pure side: io7. -/
import Derived.Test.YtigadacjaglfeaaQ6
namespace Go.Proofs.Ytigadacjaglfeaa.X
open Go Go.Sx
structure RX (X : List ref09_mapping) : Prop where
  l : RL X
  dis : ∀ i j : Int, 0 ≤ i → i < X.length → 0 ≤ j → j < X.length → i ≠ j → (rat X i).space = (rat X j).space → ¬ ov (rat X i).m (rat X j).m
  by_ : ∀ i : Int, 0 ≤ i → i < X.length → ∀ j, 0 ≤ gd 0 (rat X i).bytes j ∧ gd 0 (rat X i).bytes j < 256
def rlive (en : List Bool) (a : Access) (m : ref09_mapping) : Prop := a.Addr + a.Width ≤ m.m.Base + m.m.Len ∧ gd false en m.owner = true
instance (en : List Bool) (a : Access) (m : ref09_mapping) : Decidable (rlive en a m) := by unfold rlive; infer_instance
section
variable {X : List ref09_mapping} {en : List Bool} {G : List ref09_fault} {tr : List Traced} {a : Access} {k : Nat}
theorem racc_bad (hn : AW a) (hf : ¬ WF a) : ref09_Bus_Access.f k X en G tr a = some (tr, X, G, 0, 1) := by
  unfold ref09_Bus_Access.f
  rw [bnd_s (rwellFormed_f k hn), if_neg (by rw [decide_eq_false hf]; decide)]
theorem racc_none (hX : RX X) (hk : 300 < k) (hn : AW a) (hf : WF a) (ht : tr.length < 65536) (hz : NoF ref09_mapping.zero (rin a.Space a.Addr) X) : ref09_Bus_Access.f k X en G tr a = some (tr ++ [tra a (if a.Write = true then val a else pw a.Width - 1) (-1) false false], X, G, if a.Write = true then 0 else pw a.Width - 1, 0) := by
  obtain ⟨ea, ua⟩ := addr_last' hn hf
  unfold ref09_Bus_Access.f
  rw [bnd_s (rwellFormed_f k hn), if_pos (decide_eq_true hf), if_neg (by omega), bnd_s (ones_f k hf.w), and_mask hf.w hn.v.1 hn.v.2, bnd_s (rfind_none hX.l (by omega) hn.ad hz), ea]
  rcases rfind_f (en := en) (G := G) (tr := tr) (s := a.Space) (k := k) hX.l (by omega) ua with ⟨j, _, h2⟩ | ⟨_, h2⟩
  all_goals
    rw [bnd_s h2, bnd_s (rowner_none hX.l (by omega) hn.ad hz), if_neg (by decide), Option.bind_some, if_neg hft]
    by_cases c : a.Write = true
    · repeat (first | rw [if_pos c] | rw [Option.bind_some])
      rw [ck_t (by simp; omega)]
      unfold tra val; rfl
    · repeat (first | rw [if_neg c] | rw [Option.bind_some] | rw [bnd_s (ones_f k hf.w)])
      rw [ck_t (by simp; omega)]
      unfold tra; rfl
theorem rlast (hX : RX X) (hk : 256 < k) (hn : AW a) (hf : WF a) {i : Int} (hi : Fnd ref09_mapping.zero (rin a.Space a.Addr) X i) : ∃ j, ref09_Bus_find.f k X en G tr a.Space (a.Addr + a.Width - 1) = some j ∧ (i = j ↔ a.Addr + a.Width ≤ (rat X i).m.Base + (rat X i).m.Len) := by
  obtain ⟨_, ua⟩ := addr_last' hn hf
  have hwp := hf.w.pos
  obtain ⟨i0, i1, ⟨p1, p2, p3⟩, p4⟩ := hi
  rcases rfind_f (en := en) (G := G) (tr := tr) (s := a.Space) (k := k) hX.l hk ua with ⟨j, ⟨h0, h1, ⟨q1, q2, q3⟩, _⟩, h2⟩ | ⟨hz, h2⟩
  · refine ⟨j, h2, fun e => ?_, fun hle => ?_⟩
    · subst e; unfold rat; omega
    · by_cases e : i = j
      · exact e
      · exact absurd ⟨by unfold rat at hle ⊢; omega, by unfold rat at hle ⊢; omega⟩ (hX.dis i j i0 i1 h0 h1 e (p1.trans q1.symm))
  · refine ⟨-1, h2, fun e => by omega, fun hle => ?_⟩
    refine absurd ?_ (hz i i0 i1)
    unfold rat at hle
    exact ⟨p1, by omega, by omega⟩
theorem racc_dead (hX : RX X) (hk : 300 < k) (hn : AW a) (hf : WF a) (ht : tr.length < 65536) {i : Int} (hi : Fnd ref09_mapping.zero (rin a.Space a.Addr) X i) (hl : ¬ rlive en a (rat X i)) : ref09_Bus_Access.f k X en G tr a = some (tr ++ [tra a (if a.Write = true then val a else pw a.Width - 1) (rat X i).owner false false], X, G, if a.Write = true then 0 else pw a.Width - 1, 0) := by
  obtain ⟨ea, ua⟩ := addr_last' hn hf
  obtain ⟨j, hj, hij⟩ := rlast (en := en) (G := G) (tr := tr) (k := k) hX (by omega) hn hf hi
  have ho := (hX.l.mw i hi.1 hi.2.1).o
  have hx : ((ref09_Bus_Owner.f k X en G tr a.Space a.Addr).bind fun s20 => (if 0 ≤ i then (if i = j then (ck ((0 : Int) ≤ i ∧ i < (X.length : Int)) (ck ((0 : Int) ≤ ((gd ref09_mapping.zero X i).owner) ∧ ((gd ref09_mapping.zero X i).owner) < 256) (some (s20, (gd false en ((gd ref09_mapping.zero X i).owner)))))) else (some (s20, false))) else (some (s20, false)))) = some ((rat X i).owner, false) := by
    rw [bnd_s (rowner_some hX.l (by omega) hn.ad hi), if_pos hi.1]
    by_cases c : i = j
    · rw [if_pos c, ck_t ⟨hi.1, hi.2.1⟩, ck_t (show 0 ≤ (gd ref09_mapping.zero X i).owner ∧ (gd ref09_mapping.zero X i).owner < 256 from ho)]
      have : gd false en (gd ref09_mapping.zero X i).owner = false := Bool.eq_false_iff.2 fun e => hl ⟨hij.1 c, e⟩
      rw [this]
    · rw [if_neg c]
  unfold ref09_Bus_Access.f
  rw [bnd_s (rwellFormed_f k hn), if_pos (decide_eq_true hf), if_neg (by omega), bnd_s (ones_f k hf.w), and_mask hf.w hn.v.1 hn.v.2, bnd_s (rfind_some hX.l (by omega) hn.ad hi), ea, bnd_s hj, bnd_s hx, if_neg hft]
  by_cases c : a.Write = true
  · repeat (first | rw [if_pos c] | rw [Option.bind_some])
    rw [ck_t (by simp; omega)]
    unfold tra val; rfl
  · repeat (first | rw [if_neg c] | rw [Option.bind_some] | rw [bnd_s (ones_f k hf.w)])
    rw [ck_t (by simp; omega)]
    unfold tra; rfl
theorem racc_live (hX : RX X) (hG : RFL G) (hk : 400 < k) (hn : AW a) (hf : WF a) (ht : tr.length < 65536) {i : Int} (hi : Fnd ref09_mapping.zero (rin a.Space a.Addr) X i) (hl : rlive en a (rat X i)) :
    (∃ q, Fnd ref09_fault.zero (rhit a.Space ⟨a.Addr, a.Width⟩) G q ∧ ref09_Bus_Access.f k X en G tr a = some (tr ++ [tra a (if a.Write = true then val a else 0) (rat X i).owner true true], X, rused G q, 0, 15)) ∨
    (NoF ref09_fault.zero (rhit a.Space ⟨a.Addr, a.Width⟩) G ∧ ref09_Bus_Access.f k X en G tr a = some (tr ++ [tra a (if a.Write = true then val a else ldB (rat X i).bytes (a.Addr - (rat X i).m.Base) a.Width.toNat) (rat X i).owner true false],
      (if a.Write = true then X.set i.toNat { rat X i with bytes := dn (rat X i).bytes (a.Addr - (rat X i).m.Base) (val a) a.Width.toNat } else X), G, if a.Write = true then 0 else ldB (rat X i).bytes (a.Addr - (rat X i).m.Base) a.Width.toNat, 0)) := by
  obtain ⟨ea, ua⟩ := addr_last' hn hf
  obtain ⟨j, hj, hij⟩ := rlast (en := en) (G := G) (tr := tr) (k := k) hX (by omega) hn hf hi
  have hm := hX.l.mw i hi.1 hi.2.1
  have ho := hm.o
  have hva := hf.range hn
  have hwp := hf.w.pos
  obtain ⟨r1, r2, r3⟩ := roff hX.l hi
  have hbl := hm.bl
  have hl2 := hm.r.l2
  have hx : ((ref09_Bus_Owner.f k X en G tr a.Space a.Addr).bind fun s20 => (if 0 ≤ i then (if i = j then (ck ((0 : Int) ≤ i ∧ i < (X.length : Int)) (ck ((0 : Int) ≤ ((gd ref09_mapping.zero X i).owner) ∧ ((gd ref09_mapping.zero X i).owner) < 256) (some (s20, (gd false en ((gd ref09_mapping.zero X i).owner)))))) else (some (s20, false))) else (some (s20, false)))) = some ((rat X i).owner, true) := by
    rw [bnd_s (rowner_some hX.l (by omega) hn.ad hi), if_pos hi.1, if_pos (hij.2 hl.1), ck_t ⟨hi.1, hi.2.1⟩, ck_t (show 0 ≤ (gd ref09_mapping.zero X i).owner ∧ (gd ref09_mapping.zero X i).owner < 256 from ho)]
    have : gd false en (gd ref09_mapping.zero X i).owner = true := hl.2
    rw [this]
  have hle : a.Addr - (rat X i).m.Base + (a.Width.toNat : Int) ≤ ((rat X i).bytes.length : Int) := by
    have := hl.1
    unfold rat at this ⊢
    omega
  have hw1 : IntKind.i64.wrap (a.Width - 1) = (a.Width.toNat : Int) - 1 := by rw [wi _ (by omega) (by omega)]; omega
  unfold ref09_Bus_Access.f
  rw [bnd_s (rwellFormed_f k hn), if_pos (decide_eq_true hf), if_neg (by omega), bnd_s (ones_f k hf.w), and_mask hf.w hn.v.1 hn.v.2, bnd_s (rfind_some hX.l (by omega) hn.ad hi), ea, bnd_s hj, bnd_s hx, if_pos htt]
  rcases rfail_f (X := X) (en := en) (G := G) (tr := tr) (a := ⟨a.Space, a.Addr, a.Width, a.Write, a.Value % pw a.Width⟩) (k := k) hG (by omega) hf.w hva with ⟨q, h1, h2⟩ | ⟨h1, h2⟩
  · refine .inl ⟨q, h1, ?_⟩
    rw [bnd_s h2]
    by_cases c : a.Write = true
    · repeat (first | rw [if_pos c] | rw [if_pos htt] | rw [Option.bind_some])
      rw [ck_t (by simp; omega)]
      unfold tra val; rfl
    · repeat (first | rw [if_neg c] | rw [if_pos htt] | rw [Option.bind_some])
      rw [ck_t (by simp; omega)]
      unfold tra; rfl
  · refine .inr ⟨h1, ?_⟩
    rw [bnd_s h2, if_neg hft, ck_t ⟨hi.1, hi.2.1⟩, hw1]
    by_cases c : a.Write = true
    · have hq := racc_w (X := X) (a := a) (i := i) (v := val a) (s48 := (G, false)) (c12 := pw a.Width - 1) (x := a.Value % pw a.Width) hi.1 hi.2.1 c (and_mask hf.w hn.v.1 hn.v.2) r2 r1 (by unfold rat at *; omega) a.Width.toNat k X (rat X i).bytes (by omega) (by omega) rfl rfl (fun _ => rfl) hle
      repeat (first | rw [if_pos c] | rw [Option.bind_some])
      rw [bnd_s hq, ck_t (by simp; omega), if_neg hft]
      repeat rw [if_pos c]
      unfold tra val; rfl
    · have hq := racc_r (X := X) (a := a) (i := i) (s48 := (G, false)) (c12 := pw a.Width - 1) hi.1 hi.2.1 c r2 r1 (by unfold rat at *; omega) (hX.by_ i hi.1 hi.2.1) a.Width.toNat k 0 (by omega) (by omega) (by omega) (by omega) hle
      rw [Int.zero_mul, Int.zero_add] at hq
      repeat (first | rw [if_neg c] | rw [Option.bind_some])
      rw [bnd_s hq, ck_t (by simp; omega), if_neg hft]
      repeat rw [if_neg c]
      unfold tra; rfl
end
theorem equal_l (T : List Traced) (hT : T.length ≤ 70000) : ∀ (n k : Nat) (y : Int), 0 ≤ y → y ≤ T.length → (T.length : Int) - y ≤ n → n < k → help_Equal_api_Traced.l1 k T T y = some (.go ()) := by
  intro n
  induction n with
  | zero =>
    intro k y h0 h1 h2 h3
    obtain ⟨k, rfl⟩ : ∃ m, k = m + 1 := ⟨k - 1, by omega⟩
    rw [help_Equal_api_Traced.l1, if_neg (by omega)]
  | succ n ih =>
    intro k y h0 h1 h2 h3
    obtain ⟨k, rfl⟩ : ∃ m, k = m + 1 := ⟨k - 1, by omega⟩
    by_cases c : y < (T.length : Int)
    · rw [help_Equal_api_Traced.l1, if_pos c, ck_t ⟨h0, c⟩, ck_t ⟨h0, c⟩, if_pos (by simp), wi (y + 1) (by omega) (by omega)]
      exact ih k (y + 1) (by omega) (by omega) (by omega) (by omega)
    · rw [help_Equal_api_Traced.l1, if_neg c]
theorem equal_f {T : List Traced} {k : Nat} (hT : T.length ≤ 200) (hk : 300 < k) : help_Equal_api_Traced.f k T T = some true := by
  unfold help_Equal_api_Traced.f
  rw [if_pos rfl, bnd_s (equal_l T (by omega) T.length k 0 (by omega) (by omega) (by omega) (by omega))]; rfl
end Go.Proofs.Ytigadacjaglfeaa.X
