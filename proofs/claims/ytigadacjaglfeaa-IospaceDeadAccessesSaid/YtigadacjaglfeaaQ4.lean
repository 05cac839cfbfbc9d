/- The laws on the pure side: io4. -/
import Derived.Test.YtigadacjaglfeaaQ3
namespace Go.Proofs.Ytigadacjaglfeaa.X
open Go Go.Sx
structure WF (a : Access) : Prop where
  s : SP a.Space
  w : WW a.Width
  al : a.Addr % a.Width = 0
structure AW (a : Access) : Prop where
  ad : U a.Addr
  v : U a.Value
theorem WF.range {a : Access} (h : WF a) (hn : AW a) : VR ⟨a.Addr, a.Width⟩ := by
  obtain ⟨_, hw, hal⟩ := h
  obtain ⟨⟨h0, h1⟩, _⟩ := hn
  rcases hw with e | e | e | e <;> (rw [e] at hal ⊢; constructor <;> dsimp only <;> omega)
instance (w : Int) : Decidable (WW w) := by unfold WW; infer_instance
instance (a : Access) : Decidable (WF a) := decidable_of_iff (SP a.Space ∧ WW a.Width ∧ a.Addr % a.Width = 0) ⟨fun ⟨x, y, z⟩ => ⟨x, y, z⟩, fun ⟨x, y, z⟩ => ⟨x, y, z⟩⟩
theorem wrapW {w : Int} (h : WW w) : IntKind.u64.wrap w = w := wu _ (by have := h.pos; omega) (by have := h.pos; omega)
theorem wellFormed_f (k : Nat) {a : Access} (hn : AW a) : iospace_wellFormed.f k a = some (decide (WF a)) := by
  unfold iospace_wellFormed.f
  have hx : (if a.Width = 1 then (some true) else (if a.Width = 2 then (some true) else (if a.Width = 4 then (some true) else (some (decide (a.Width = 8)))))) = some (decide (WW a.Width)) := by
    unfold WW
    by_cases c1 : a.Width = 1
    · rw [if_pos c1]; congr 1; exact (decide_eq_true (by omega)).symm
    · rw [if_neg c1]
      by_cases c2 : a.Width = 2
      · rw [if_pos c2]; congr 1; exact (decide_eq_true (by omega)).symm
      · rw [if_neg c2]
        by_cases c3 : a.Width = 4
        · rw [if_pos c3]; congr 1; exact (decide_eq_true (by omega)).symm
        · rw [if_neg c3]; congr 1; exact decide_eq_decide.2 ⟨fun _ => by omega, fun _ => by omega⟩
  rw [bnd_s hx]
  by_cases c1 : WW a.Width
  · rw [if_pos (decide_eq_true c1), bnd_s (validSpace_f k _)]
    by_cases c2 : SP a.Space
    · rw [if_pos (decide_eq_true c2), wrapW c1, ck_t (by have := c1.pos; omega), tm _ hn.ad.1]
      congr 1
      exact decide_eq_decide.2 ⟨fun h => ⟨c2, c1, h⟩, fun h => h.al⟩
    · rw [if_neg (by rw [decide_eq_false c2]; decide)]
      congr 1; exact (decide_eq_false (fun h => c2 h.s)).symm
  · rw [if_neg (by rw [decide_eq_false c1]; decide)]
    congr 1; exact (decide_eq_false (fun h => c1 h.w)).symm
theorem rwellFormed_f (k : Nat) {a : Access} (hn : AW a) : ref09_WellFormed.f k a = some (decide (WF a)) := by
  unfold ref09_WellFormed.f
  rw [bnd_s (ordinary_f k _)]
  by_cases c2 : SP a.Space
  · rw [if_pos (decide_eq_true c2)]
    have key : WW a.Width → ck (IntKind.u64.wrap a.Width ≠ 0) (some (decide (Int.tmod a.Addr (IntKind.u64.wrap a.Width) = 0))) = some (decide (WF a)) := fun c1 => by
      rw [wrapW c1, ck_t (by have := c1.pos; omega), tm _ hn.ad.1]
      congr 1
      exact decide_eq_decide.2 ⟨fun h => ⟨c2, c1, h⟩, fun h => h.al⟩
    by_cases c1 : a.Width = 1
    · rw [if_pos c1]; exact key (.inl c1)
    · rw [if_neg c1]
      by_cases c3 : a.Width = 2
      · rw [if_pos c3]; exact key (.inr (.inl c3))
      · rw [if_neg c3]
        by_cases c4 : a.Width = 4
        · rw [if_pos c4]; exact key (.inr (.inr (.inl c4)))
        · rw [if_neg c4]
          by_cases c5 : a.Width = 8
          · rw [if_pos c5]; exact key (.inr (.inr (.inr c5)))
          · rw [if_neg c5]
            congr 1; exact (decide_eq_false (fun h => by have := h.w; unfold WW at this; omega)).symm
  · rw [if_neg (by rw [decide_eq_false c2]; decide)]
    congr 1; exact (decide_eq_false (fun h => c2 h.s)).symm
theorem addr_last' {a : Access} (hn : AW a) (hf : WF a) : IntKind.u64.wrap (a.Addr + IntKind.u64.wrap (IntKind.i64.wrap (a.Width - 1))) = a.Addr + a.Width - 1 ∧ U (a.Addr + a.Width - 1) := by
  have := hf.w.pos
  obtain ⟨_, _, _, q4⟩ := hf.range hn
  have q4' : a.Addr + a.Width ≤ 18446744073709551616 := q4
  have := hn.ad.1
  rw [wi (a.Width - 1) (by omega) (by omega), wu (a.Width - 1) (by omega) (by omega), wu _ (by omega) (by omega)]
  exact ⟨by omega, by omega, by omega⟩
def val (a : Access) : Int := a.Value % pw a.Width
def live (en : List Bool) (a : Access) (m : mapping) : Prop := a.Addr + a.Width ≤ m.r.Base + m.r.Len ∧ gd false en m.owner = true
instance (en : List Bool) (a : Access) (m : mapping) : Decidable (live en a m) := by unfold live; infer_instance
def tra (a : Access) (v o : Int) (l f : Bool) : Traced := ⟨⟨a.Space, a.Addr, a.Width, a.Write, v⟩, o, l, f⟩
section
variable {m0 m1 m2 : List mapping} {en : List Bool} {F : List fault} {tr : List Traced} {a : Access} {k : Nat}
theorem hft : ¬ (false = true) := by decide
theorem htt : true = true := rfl
theorem acc_bad (hn : AW a) (hf : ¬ WF a) : iospace_Bus_Access.f k m0 m1 m2 en F tr a = some (F, tr, m0, m1, m2, 0, 1) := by
  unfold iospace_Bus_Access.f
  rw [bnd_s (wellFormed_f k hn), if_neg (by rw [decide_eq_false hf]; decide)]
variable (h : BL m0 m1 m2) (hk : 300 < k) (hn : AW a) (hf : WF a) (hF : FL F) (ht : tr.length < 65536)
include h hk hn hf ht
theorem acc_none (hz : NoneF a.Space a.Addr m0 m1 m2) : iospace_Bus_Access.f k m0 m1 m2 en F tr a = some (F, tr ++ [tra a (if a.Write = true then val a else pw a.Width - 1) (-1) false false], m0, m1, m2, if a.Write = true then 0 else pw a.Width - 1, 0) := by
  unfold iospace_Bus_Access.f
  rw [bnd_s (wellFormed_f k hn), if_pos (decide_eq_true hf), if_neg (by omega), bnd_s (mask_f k hf.w), and_mask hf.w hn.v.1 hn.v.2, bnd_s (find_none h (by omega) hz),
    if_neg (by decide), if_neg (by decide), if_neg (by decide)]
  by_cases c : a.Write = true
  · repeat (first | rw [if_pos c] | rw [Option.bind_some])
    rw [ck_t (by simp; omega)]
    unfold tra val; rfl
  · repeat (first | rw [if_neg c] | rw [Option.bind_some] | rw [bnd_s (mask_f k hf.w)])
    rw [ck_t (by simp; omega)]
    unfold tra; rfl
theorem acc_dead {i : Int} (hi : Found a.Space a.Addr m0 m1 m2 i) (hl : ¬ live en a (at_ a.Space m0 m1 m2 i)) : iospace_Bus_Access.f k m0 m1 m2 en F tr a = some (F, tr ++ [tra a (if a.Write = true then val a else pw a.Width - 1) (at_ a.Space m0 m1 m2 i).owner false false], m0, m1, m2, if a.Write = true then 0 else pw a.Width - 1, 0) := by
  have hm := (h.at a.Space).mw i hi.1 hi.2.1
  obtain ⟨as, aa, aw, ar, av⟩ := a
  have hs := hf.s
  have hw := hf.w
  have ea := (addr_last' hn hf).1
  simp only [] at hs hw ea hi hl hm ⊢
  unfold iospace_Bus_Access.f
  rw [bnd_s (wellFormed_f k hn), if_pos (decide_eq_true hf), if_neg (by omega)]
  simp only []
  rw [bnd_s (mask_f k hw), and_mask hw hn.v.1 hn.v.2, bnd_s (find_some h (by omega) hs hi), ea]
  unfold live at hl
  simp only [] at hl
  rcases hs with rfl | rfl | rfl
  · have hm : MW (gd mapping.zero m0 i) := hm
    have hr := hm.r
    have hlx : ((iospace_last.f k (⟨(gd mapping.zero m0 i).r.Base, (gd mapping.zero m0 i).r.Len⟩ : Range)).bind fun s => if aa + aw - 1 ≤ s then ck (0 ≤ (gd mapping.zero m0 i).owner ∧ (gd mapping.zero m0 i).owner < 256) (some (gd false en (gd mapping.zero m0 i).owner)) else some false) = some false := by
      rw [bnd_s (last_f k (r := ⟨_, _⟩) hr)]
      by_cases c : aa + aw - 1 ≤ (gd mapping.zero m0 i).r.Base + (gd mapping.zero m0 i).r.Len - 1
      · rw [if_pos c, ck_t (show 0 ≤ (gd mapping.zero m0 i).owner ∧ (gd mapping.zero m0 i).owner < 256 from hm.o)]
        congr 1
        exact Bool.eq_false_iff.2 fun e => hl ⟨by show aa + aw ≤ (gd mapping.zero m0 i).r.Base + (gd mapping.zero m0 i).r.Len; omega, e⟩
      · rw [if_neg c]
    rw [if_pos rfl, bnd_s hlx, if_neg (by decide), Option.bind_some]
    by_cases c : ar = true
    · repeat (first | rw [if_pos c] | rw [if_neg hft] | rw [Option.bind_some])
      rw [ck_t (by simp; omega)]; repeat (first | rw [if_pos c] | rw [if_neg hft])
      rfl
    · repeat (first | rw [if_neg c] | rw [if_neg hft] | rw [Option.bind_some] | rw [bnd_s (mask_f k hw)])
      rw [ck_t (by simp; omega)]; repeat (first | rw [if_neg c] | rw [if_neg hft])
      rfl
  · have hm : MW (gd mapping.zero m1 i) := hm
    have hr := hm.r
    have hlx : ((iospace_last.f k (⟨(gd mapping.zero m1 i).r.Base, (gd mapping.zero m1 i).r.Len⟩ : Range)).bind fun s => if aa + aw - 1 ≤ s then ck (0 ≤ (gd mapping.zero m1 i).owner ∧ (gd mapping.zero m1 i).owner < 256) (some (gd false en (gd mapping.zero m1 i).owner)) else some false) = some false := by
      rw [bnd_s (last_f k (r := ⟨_, _⟩) hr)]
      by_cases c : aa + aw - 1 ≤ (gd mapping.zero m1 i).r.Base + (gd mapping.zero m1 i).r.Len - 1
      · rw [if_pos c, ck_t (show 0 ≤ (gd mapping.zero m1 i).owner ∧ (gd mapping.zero m1 i).owner < 256 from hm.o)]
        congr 1
        exact Bool.eq_false_iff.2 fun e => hl ⟨by show aa + aw ≤ (gd mapping.zero m1 i).r.Base + (gd mapping.zero m1 i).r.Len; omega, e⟩
      · rw [if_neg c]
    rw [if_neg (show ¬ ((1 : Int) = 0) by decide), if_pos rfl, bnd_s hlx, if_neg (by decide), Option.bind_some]
    by_cases c : ar = true
    · repeat (first | rw [if_pos c] | rw [if_neg hft] | rw [Option.bind_some])
      rw [ck_t (by simp; omega)]; repeat (first | rw [if_pos c] | rw [if_neg hft])
      rfl
    · repeat (first | rw [if_neg c] | rw [if_neg hft] | rw [Option.bind_some] | rw [bnd_s (mask_f k hw)])
      rw [ck_t (by simp; omega)]; repeat (first | rw [if_neg c] | rw [if_neg hft])
      rfl
  · have hm : MW (gd mapping.zero m2 i) := hm
    have hr := hm.r
    have hlx : ((iospace_last.f k (⟨(gd mapping.zero m2 i).r.Base, (gd mapping.zero m2 i).r.Len⟩ : Range)).bind fun s => if aa + aw - 1 ≤ s then ck (0 ≤ (gd mapping.zero m2 i).owner ∧ (gd mapping.zero m2 i).owner < 256) (some (gd false en (gd mapping.zero m2 i).owner)) else some false) = some false := by
      rw [bnd_s (last_f k (r := ⟨_, _⟩) hr)]
      by_cases c : aa + aw - 1 ≤ (gd mapping.zero m2 i).r.Base + (gd mapping.zero m2 i).r.Len - 1
      · rw [if_pos c, ck_t (show 0 ≤ (gd mapping.zero m2 i).owner ∧ (gd mapping.zero m2 i).owner < 256 from hm.o)]
        congr 1
        exact Bool.eq_false_iff.2 fun e => hl ⟨by show aa + aw ≤ (gd mapping.zero m2 i).r.Base + (gd mapping.zero m2 i).r.Len; omega, e⟩
      · rw [if_neg c]
    rw [if_neg (show ¬ ((2 : Int) = 0) by decide), if_neg (show ¬ ((2 : Int) = 1) by decide), if_pos rfl, bnd_s hlx, if_neg (by decide), Option.bind_some]
    by_cases c : ar = true
    · repeat (first | rw [if_pos c] | rw [if_neg hft] | rw [Option.bind_some])
      rw [ck_t (by simp; omega)]; repeat (first | rw [if_pos c] | rw [if_neg hft])
      rfl
    · repeat (first | rw [if_neg c] | rw [if_neg hft] | rw [Option.bind_some] | rw [bnd_s (mask_f k hw)])
      rw [ck_t (by simp; omega)]; repeat (first | rw [if_neg c] | rw [if_neg hft])
      rfl
include hF
theorem acc_live {i : Int} (hi : Found a.Space a.Addr m0 m1 m2 i) (hl : live en a (at_ a.Space m0 m1 m2 i)) :
    (∃ q, Fnd fault.zero (hits a.Space ⟨a.Addr, a.Width⟩) F q ∧ iospace_Bus_Access.f k m0 m1 m2 en F tr a = some (used F q, tr ++ [tra a (if a.Write = true then val a else 0) (at_ a.Space m0 m1 m2 i).owner true true], m0, m1, m2, 0, 15)) ∨
    (NoF fault.zero (hits a.Space ⟨a.Addr, a.Width⟩) F ∧ ∃ n0 n1 n2, iospace_Bus_Access.f k m0 m1 m2 en F tr a = some (F, tr ++ [tra a (if a.Write = true then val a else ldN (at_ a.Space m0 m1 m2 i).data a.Addr a.Width.toNat) (at_ a.Space m0 m1 m2 i).owner true false], n0, n1, n2, if a.Write = true then 0 else ldN (at_ a.Space m0 m1 m2 i).data a.Addr a.Width.toNat, 0) ∧
      if a.Write = true then ∀ t, SP t → sel t n0 n1 n2 = if t = a.Space then (sel a.Space m0 m1 m2).set i.toNat { at_ a.Space m0 m1 m2 i with data := stN (at_ a.Space m0 m1 m2 i).data a.Addr (val a) a.Width.toNat } else sel t m0 m1 m2 else n0 = m0 ∧ n1 = m1 ∧ n2 = m2) := by
  have hm := (h.at a.Space).mw i hi.1 hi.2.1
  have hva := hf.range hn
  have hfl := fun x => fails_f (m0 := m0) (m1 := m1) (m2 := m2) (en := en) (tr := tr) (a := ⟨a.Space, a.Addr, a.Width, a.Write, x⟩) (k := k) hF (by omega) hf.w hva
  obtain ⟨as, aa, aw, ar, av⟩ := a
  have hs := hf.s
  have hw := hf.w
  have ea := (addr_last' hn hf).1
  have ha0 : 0 ≤ aa := hn.ad.1
  have hae : aa + aw ≤ 18446744073709551616 := hva.e
  simp only [] at hs hw ea hi hl hm hfl ⊢
  unfold iospace_Bus_Access.f
  rw [bnd_s (wellFormed_f k hn), if_pos (decide_eq_true hf), if_neg (by omega)]
  simp only []
  rw [bnd_s (mask_f k hw), and_mask hw hn.v.1 hn.v.2, bnd_s (find_some h (by omega) hs hi), ea]
  unfold live at hl
  simp only [] at hl
  rcases hs with rfl | rfl | rfl
  · have hm : MW (gd mapping.zero m0 i) := hm
    have hr := hm.r
    have hd := hm.d
    have hl1 : aa + aw ≤ (gd mapping.zero m0 i).r.Base + (gd mapping.zero m0 i).r.Len := hl.1
    have hlx : ((iospace_last.f k (⟨(gd mapping.zero m0 i).r.Base, (gd mapping.zero m0 i).r.Len⟩ : Range)).bind fun s => if aa + aw - 1 ≤ s then ck (0 ≤ (gd mapping.zero m0 i).owner ∧ (gd mapping.zero m0 i).owner < 256) (some (gd false en (gd mapping.zero m0 i).owner)) else some false) = some true := by
      rw [bnd_s (last_f k (r := ⟨_, _⟩) hr), if_pos (show aa + aw - 1 ≤ (gd mapping.zero m0 i).r.Base + (gd mapping.zero m0 i).r.Len - 1 by omega), ck_t (show 0 ≤ (gd mapping.zero m0 i).owner ∧ (gd mapping.zero m0 i).owner < 256 from hm.o)]
      exact congrArg some hl.2
    rw [if_pos rfl, bnd_s hlx, if_pos rfl]
    rcases hfl (av % pw aw) with ⟨q, h1, h2⟩ | ⟨h1, h2⟩
    · refine .inl ⟨q, h1, ?_⟩
      rw [bnd_s h2, Option.bind_some]
      by_cases c : ar = true
      · repeat (first | rw [if_pos c] | rw [if_neg hft] | rw [if_pos htt] | rw [Bool.not_true] | rw [Option.bind_some])
        rw [ck_t (by simp; omega)]; repeat (first | rw [if_pos c] | rw [if_pos htt])
        rfl
      · repeat (first | rw [if_neg c] | rw [if_neg hft] | rw [if_pos htt] | rw [Option.bind_some])
        rw [ck_t (by simp; omega)]; repeat (first | rw [if_neg c] | rw [if_pos htt])
        rfl
    · rw [bnd_s h2, Option.bind_some]
      by_cases c : ar = true
      · refine .inr ⟨h1, m0.set i.toNat ⟨⟨(gd mapping.zero m0 i).r.Base, (gd mapping.zero m0 i).r.Len⟩, (gd mapping.zero m0 i).owner, stN (gd mapping.zero m0 i).data aa (av % pw aw) aw.toNat⟩, m1, m2, ?_, ?_⟩
        · repeat (first | rw [if_pos c] | rw [if_neg hft] | rw [if_pos htt] | rw [Bool.not_false] | rw [Option.bind_some] | rw [bnd_s (store_f (x := (gd mapping.zero m0 i).r.Base) (y := (gd mapping.zero m0 i).r.Len) (o := (gd mapping.zero m0 i).owner) (D := (gd mapping.zero m0 i).data) (v := av % pw aw) ha0 hw hae (show 8 < k by omega))])
          rw [ck_t (by simp; omega)]; repeat (first | rw [if_pos c] | rw [if_neg hft])
          rfl
        · rw [if_pos c]
          exact fun t ht => by rcases ht with rfl | rfl | rfl <;> rfl
      · refine .inr ⟨h1, m0, m1, m2, ?_, by rw [if_neg c]; exact ⟨rfl, rfl, rfl⟩⟩
        repeat (first | rw [if_neg c] | rw [if_neg hft] | rw [if_pos htt] | rw [Option.bind_some] | rw [bnd_s (load_f (x := (gd mapping.zero m0 i).r.Base) (y := (gd mapping.zero m0 i).r.Len) (o := (gd mapping.zero m0 i).owner) (D := (gd mapping.zero m0 i).data) hd ha0 hw hae (show 8 < k by omega))])
        rw [ck_t (by simp; omega)]; repeat (first | rw [if_neg c] | rw [if_neg hft])
        rfl
  · have hm : MW (gd mapping.zero m1 i) := hm
    have hr := hm.r
    have hd := hm.d
    have hl1 : aa + aw ≤ (gd mapping.zero m1 i).r.Base + (gd mapping.zero m1 i).r.Len := hl.1
    have hlx : ((iospace_last.f k (⟨(gd mapping.zero m1 i).r.Base, (gd mapping.zero m1 i).r.Len⟩ : Range)).bind fun s => if aa + aw - 1 ≤ s then ck (0 ≤ (gd mapping.zero m1 i).owner ∧ (gd mapping.zero m1 i).owner < 256) (some (gd false en (gd mapping.zero m1 i).owner)) else some false) = some true := by
      rw [bnd_s (last_f k (r := ⟨_, _⟩) hr), if_pos (show aa + aw - 1 ≤ (gd mapping.zero m1 i).r.Base + (gd mapping.zero m1 i).r.Len - 1 by omega), ck_t (show 0 ≤ (gd mapping.zero m1 i).owner ∧ (gd mapping.zero m1 i).owner < 256 from hm.o)]
      exact congrArg some hl.2
    rw [if_neg (show ¬ ((1 : Int) = 0) by decide), if_pos rfl, bnd_s hlx, if_pos rfl]
    rcases hfl (av % pw aw) with ⟨q, h1, h2⟩ | ⟨h1, h2⟩
    · refine .inl ⟨q, h1, ?_⟩
      rw [bnd_s h2, Option.bind_some]
      by_cases c : ar = true
      · repeat (first | rw [if_pos c] | rw [if_neg hft] | rw [if_pos htt] | rw [Bool.not_true] | rw [Option.bind_some])
        rw [ck_t (by simp; omega)]; repeat (first | rw [if_pos c] | rw [if_pos htt])
        rfl
      · repeat (first | rw [if_neg c] | rw [if_neg hft] | rw [if_pos htt] | rw [Option.bind_some])
        rw [ck_t (by simp; omega)]; repeat (first | rw [if_neg c] | rw [if_pos htt])
        rfl
    · rw [bnd_s h2, Option.bind_some]
      by_cases c : ar = true
      · refine .inr ⟨h1, m0, m1.set i.toNat ⟨⟨(gd mapping.zero m1 i).r.Base, (gd mapping.zero m1 i).r.Len⟩, (gd mapping.zero m1 i).owner, stN (gd mapping.zero m1 i).data aa (av % pw aw) aw.toNat⟩, m2, ?_, ?_⟩
        · repeat (first | rw [if_pos c] | rw [if_neg hft] | rw [if_pos htt] | rw [Bool.not_false] | rw [Option.bind_some] | rw [bnd_s (store_f (x := (gd mapping.zero m1 i).r.Base) (y := (gd mapping.zero m1 i).r.Len) (o := (gd mapping.zero m1 i).owner) (D := (gd mapping.zero m1 i).data) (v := av % pw aw) ha0 hw hae (show 8 < k by omega))])
          rw [ck_t (by simp; omega)]; repeat (first | rw [if_pos c] | rw [if_neg hft])
          rfl
        · rw [if_pos c]
          exact fun t ht => by rcases ht with rfl | rfl | rfl <;> rfl
      · refine .inr ⟨h1, m0, m1, m2, ?_, by rw [if_neg c]; exact ⟨rfl, rfl, rfl⟩⟩
        repeat (first | rw [if_neg c] | rw [if_neg hft] | rw [if_pos htt] | rw [Option.bind_some] | rw [bnd_s (load_f (x := (gd mapping.zero m1 i).r.Base) (y := (gd mapping.zero m1 i).r.Len) (o := (gd mapping.zero m1 i).owner) (D := (gd mapping.zero m1 i).data) hd ha0 hw hae (show 8 < k by omega))])
        rw [ck_t (by simp; omega)]; repeat (first | rw [if_neg c] | rw [if_neg hft])
        rfl
  · have hm : MW (gd mapping.zero m2 i) := hm
    have hr := hm.r
    have hd := hm.d
    have hl1 : aa + aw ≤ (gd mapping.zero m2 i).r.Base + (gd mapping.zero m2 i).r.Len := hl.1
    have hlx : ((iospace_last.f k (⟨(gd mapping.zero m2 i).r.Base, (gd mapping.zero m2 i).r.Len⟩ : Range)).bind fun s => if aa + aw - 1 ≤ s then ck (0 ≤ (gd mapping.zero m2 i).owner ∧ (gd mapping.zero m2 i).owner < 256) (some (gd false en (gd mapping.zero m2 i).owner)) else some false) = some true := by
      rw [bnd_s (last_f k (r := ⟨_, _⟩) hr), if_pos (show aa + aw - 1 ≤ (gd mapping.zero m2 i).r.Base + (gd mapping.zero m2 i).r.Len - 1 by omega), ck_t (show 0 ≤ (gd mapping.zero m2 i).owner ∧ (gd mapping.zero m2 i).owner < 256 from hm.o)]
      exact congrArg some hl.2
    rw [if_neg (show ¬ ((2 : Int) = 0) by decide), if_neg (show ¬ ((2 : Int) = 1) by decide), if_pos rfl, bnd_s hlx, if_pos rfl]
    rcases hfl (av % pw aw) with ⟨q, h1, h2⟩ | ⟨h1, h2⟩
    · refine .inl ⟨q, h1, ?_⟩
      rw [bnd_s h2, Option.bind_some]
      by_cases c : ar = true
      · repeat (first | rw [if_pos c] | rw [if_neg hft] | rw [if_pos htt] | rw [Bool.not_true] | rw [Option.bind_some])
        rw [ck_t (by simp; omega)]; repeat (first | rw [if_pos c] | rw [if_pos htt])
        rfl
      · repeat (first | rw [if_neg c] | rw [if_neg hft] | rw [if_pos htt] | rw [Option.bind_some])
        rw [ck_t (by simp; omega)]; repeat (first | rw [if_neg c] | rw [if_pos htt])
        rfl
    · rw [bnd_s h2, Option.bind_some]
      by_cases c : ar = true
      · refine .inr ⟨h1, m0, m1, m2.set i.toNat ⟨⟨(gd mapping.zero m2 i).r.Base, (gd mapping.zero m2 i).r.Len⟩, (gd mapping.zero m2 i).owner, stN (gd mapping.zero m2 i).data aa (av % pw aw) aw.toNat⟩, ?_, ?_⟩
        · repeat (first | rw [if_pos c] | rw [if_neg hft] | rw [if_pos htt] | rw [Bool.not_false] | rw [Option.bind_some] | rw [bnd_s (store_f (x := (gd mapping.zero m2 i).r.Base) (y := (gd mapping.zero m2 i).r.Len) (o := (gd mapping.zero m2 i).owner) (D := (gd mapping.zero m2 i).data) (v := av % pw aw) ha0 hw hae (show 8 < k by omega))])
          rw [ck_t (by simp; omega)]; repeat (first | rw [if_pos c] | rw [if_neg hft])
          rfl
        · rw [if_pos c]
          exact fun t ht => by rcases ht with rfl | rfl | rfl <;> rfl
      · refine .inr ⟨h1, m0, m1, m2, ?_, by rw [if_neg c]; exact ⟨rfl, rfl, rfl⟩⟩
        repeat (first | rw [if_neg c] | rw [if_neg hft] | rw [if_pos htt] | rw [Option.bind_some] | rw [bnd_s (load_f (x := (gd mapping.zero m2 i).r.Base) (y := (gd mapping.zero m2 i).r.Len) (o := (gd mapping.zero m2 i).owner) (D := (gd mapping.zero m2 i).data) hd ha0 hw hae (show 8 < k by omega))])
        rw [ck_t (by simp; omega)]; repeat (first | rw [if_neg c] | rw [if_neg hft])
        rfl
end
end Go.Proofs.Ytigadacjaglfeaa.X
