/- The laws on the pure side: io15. -/
import Derived.Test.YtigadacjaglfeaaQ14
namespace Go.Proofs.Ytigadacjaglfeaa.X
open Go Go.Sx
theorem da_loop {a0 : List Op} (hw : ∀ x ∈ a0, Op.wf x) (hl : (a0.length : Int) ≤ 9223372036854775807) :
    ∀ (n k : Nat) (y : Int) (m0 m1 m2 : List mapping) (en : List Bool) (F : List fault) (tr : List Traced) (X : List ref09_mapping) (G : List ref09_fault), 0 ≤ y → y ≤ 40 → 40 - y ≤ n → n + 501 < k → Sim m0 m1 m2 F tr X G y → en.length = 256 →
      ∃ n0 n1 n2 en' F' tr' X' G', law09_IospaceDeadAccesses.l1 k a0 m0 m1 m2 en F tr X en G tr y = some (n0, n1, n2, en', F', tr', X', en', G', tr') ∧ BL n0 n1 n2 ∧ FL F' ∧ en'.length = 256 := by
  intro n
  induction n with
  | zero =>
    intro k y m0 m1 m2 en F tr X G h0 h1 h2 h3 h4 h5
    obtain ⟨k, rfl⟩ : ∃ m, k = m + 1 := ⟨k - 1, by omega⟩
    refine ⟨m0, m1, m2, en, F, tr, X, G, ?_, h4.ms.bl, h4.fs.fl, h5⟩
    rw [law09_IospaceDeadAccesses.l1]
    by_cases c : y < (a0.length : Int)
    · rw [if_pos c, Option.bind_some, if_neg (by rw [decide_eq_false (show ¬ y < 40 by omega)]; exact hft)]
    · rw [if_neg c, Option.bind_some, if_neg hft]
  | succ n ih =>
    intro k y m0 m1 m2 en F tr X G h0 h1 h2 h3 h4 h5
    obtain ⟨k, rfl⟩ : ∃ m, k = m + 1 := ⟨k - 1, by omega⟩
    rw [law09_IospaceDeadAccesses.l1]
    by_cases cl : y < (a0.length : Int)
    · rw [if_pos cl, Option.bind_some]
      by_cases c4 : y < 40
      · obtain ⟨o, h6, ha, hb, hv⟩ := some_ok (hw _ (gd_mem (z := Op.zero) h0 cl)) k
        obtain ⟨n0, n1, n2, en', F', tr', X', G', h7, h8, h9⟩ := apply_sim (en := en) h4 (by omega) (by omega : 500 < k) ha hb hv
        rw [if_pos (decide_eq_true c4), ck_t ⟨h0, cl⟩, eta_op, bnd_s h6, bnd_s h7, wi (y + 1) (by omega) (by omega)]
        exact ih k (y + 1) n0 n1 n2 en' F' tr' X' G' (by omega) (by omega) (by omega) (by omega) h8 (by omega)
      · rw [if_neg (by rw [decide_eq_false c4]; exact hft)]
        exact ⟨m0, m1, m2, en, F, tr, X, G, rfl, h4.ms.bl, h4.fs.fl, h5⟩
    · rw [if_neg cl, Option.bind_some, if_neg hft]
      exact ⟨m0, m1, m2, en, F, tr, X, G, rfl, h4.ms.bl, h4.fs.fl, h5⟩
section
variable {x21 : (List mapping) × (List mapping) × (List mapping) × (List Bool) × (List fault) × (List Traced) × (List ref09_mapping) × (List Bool) × (List ref09_fault) × (List Traced)}
theorem off_l2 : ∀ (n k : Nat) (en : List Bool) (y : Int), -1 ≤ y → y ≤ 4 → 4 - y ≤ n → n < k → en.length = 256 → ∃ en', law09_IospaceDeadAccesses.l2 k x21 en y = some en' ∧ en'.length = 256 := by
  intro n
  induction n with
  | zero =>
    intro k en y h0 h1 h2 h3 h4
    obtain ⟨k, rfl⟩ : ∃ m, k = m + 1 := ⟨k - 1, by omega⟩
    exact ⟨en, by rw [law09_IospaceDeadAccesses.l2, if_neg (by omega)], h4⟩
  | succ n ih =>
    intro k en y h0 h1 h2 h3 h4
    obtain ⟨k, rfl⟩ : ∃ m, k = m + 1 := ⟨k - 1, by omega⟩
    by_cases c : y < 4
    · rw [law09_IospaceDeadAccesses.l2, if_pos c, enable_f, wi (y + 1) (by omega) (by omega)]
      by_cases c2 : OW y
      · rw [if_pos c2, Option.bind_some]
        exact ih k _ (y + 1) (by omega) (by omega) (by omega) (by omega) (by rw [List.length_set]; exact h4)
      · rw [if_neg c2, Option.bind_some]
        exact ih k en (y + 1) (by omega) (by omega) (by omega) (by omega) h4
    · exact ⟨en, by rw [law09_IospaceDeadAccesses.l2, if_neg c], h4⟩
theorem off_l3 : ∀ (n k : Nat) (en : List Bool) (y : Int), 0 ≤ y → y ≤ 256 → 256 - y ≤ n → n < k → en.length = 256 → (∀ j : Int, 0 ≤ j → j < y → gd false en j = false) → ∃ en', law09_IospaceDeadAccesses.l3 k x21 en y = some en' ∧ ∀ j : Int, 0 ≤ j → j < 256 → gd false en' j = false := by
  intro n
  induction n with
  | zero =>
    intro k en y h0 h1 h2 h3 h4 h5
    obtain ⟨k, rfl⟩ : ∃ m, k = m + 1 := ⟨k - 1, by omega⟩
    exact ⟨en, by rw [law09_IospaceDeadAccesses.l3, if_neg (by omega)], fun j j0 j1 => h5 j j0 (by omega)⟩
  | succ n ih =>
    intro k en y h0 h1 h2 h3 h4 h5
    obtain ⟨k, rfl⟩ : ∃ m, k = m + 1 := ⟨k - 1, by omega⟩
    by_cases c : y < 256
    · rw [law09_IospaceDeadAccesses.l3, if_pos c, enable_f, wi (y + 1) (by omega) (by omega), if_pos (show OW y from ⟨h0, c⟩), Option.bind_some]
      refine ih k _ (y + 1) (by omega) (by omega) (by omega) (by omega) (by rw [List.length_set]; exact h4) fun j j0 j1 => ?_
      rw [gd_set h0 (by omega) j0]
      split
      · rfl
      · exact h5 j j0 (by omega)
    · exact ⟨en, by rw [law09_IospaceDeadAccesses.l3, if_neg c], fun j j0 j1 => h5 j j0 (by omega)⟩
end
theorem peek_any {m0 m1 m2 : List mapping} (h : BL m0 m1 m2) (s a : Int) : ∃ v, ∀ (k : Nat) (en : List Bool) (F : List fault) (tr : List Traced), 256 < k → iospace_Bus_Peek.f k m0 m1 m2 en F tr s a = some v := by
  rcases find_f (en := []) (fa := []) (tr := []) (s := s) (a := a) (k := 1000) h (by decide) with ⟨hs, i, hi, _⟩ | ⟨hz, _⟩
  · exact ⟨_, fun k en F tr hk => peek_some h hk hs hi⟩
  · exact ⟨_, fun k en F tr hk => peek_none h hk hz⟩
theorem was_l {n0 n1 n2 : List mapping} {en' en : List Bool} {F' : List fault} {tr' : List Traced} {X' : List ref09_mapping} {G' : List ref09_fault} {s153 : (List Traced) × (List Traced)} {q S : Int} {o : Op} {A w : Int} {pk : Int → Int × Bool} (hw : WW w) (hq : gd 0 ([1, 2, 4, 8] : List Int) q = w) (hA : IntKind.u64.wrap (o.Addr - (Int.tmod o.Addr (IntKind.u64.wrap w))) = A) (hA0 : 0 ≤ A) (hA1 : A + w ≤ 18446744073709551616)
    (hp : ∀ a, ∀ (k : Nat) (en : List Bool) (F : List fault) (tr : List Traced), 256 < k → iospace_Bus_Peek.f k n0 n1 n2 en F tr S a = some (pk a)) :
    ∀ (n k : Nat) (B : List Int) (y : Int), 0 ≤ y → y ≤ w → w - y ≤ n → n + 257 < k → B.length = 8 → (∀ j : Int, 0 ≤ j → j < y → gd 0 B j = (pk (A + j)).1) →
      ∃ B', law09_IospaceDeadAccesses.l4 k q (n0, n1, n2, en', F', tr', X', en', G', tr') en s153 S o B y = some B' ∧ ∀ j : Int, 0 ≤ j → j < w → gd 0 B' j = (pk (A + j)).1 := by
  have hwp := hw.pos
  intro n
  induction n with
  | zero =>
    intro k B y h0 h1 h2 h3 h4 h5
    obtain ⟨k, rfl⟩ : ∃ m, k = m + 1 := ⟨k - 1, by omega⟩
    exact ⟨B, by rw [law09_IospaceDeadAccesses.l4, hq, if_neg (by omega)], fun j j0 j1 => h5 j j0 (by omega)⟩
  | succ n ih =>
    intro k B y h0 h1 h2 h3 h4 h5
    obtain ⟨k, rfl⟩ : ∃ m, k = m + 1 := ⟨k - 1, by omega⟩
    by_cases c : y < w
    · rw [law09_IospaceDeadAccesses.l4, hq, if_pos c, hA, wu y (by omega) (by omega), wu (A + y) (by omega) (by omega), bnd_s (hp (A + y) k en F' s153.1 (by omega)), ck_t (by omega), wi (y + 1) (by omega) (by omega)]
      refine ih k _ (y + 1) (by omega) (by omega) (by omega) (by omega) (by rw [List.length_set]; exact h4) fun j j0 j1 => ?_
      rw [gd_set h0 (by omega) j0]
      split
      · rename_i e; rw [e]
      · exact h5 j j0 (by omega)
    · exact ⟨B, by rw [law09_IospaceDeadAccesses.l4, hq, if_neg c], fun j j0 j1 => h5 j j0 (by omega)⟩
theorem now_l {n0 n1 n2 : List mapping} {en : List Bool} {F' : List fault} {tr' : List Traced} {v e : Int} {s180 : (List Traced) × (List Traced)} {q S : Int} {o : Op} {A w : Int} {B : List Int} {pk : Int → Int × Bool} (hw : WW w) (hq : gd 0 ([1, 2, 4, 8] : List Int) q = w) (hA : IntKind.u64.wrap (o.Addr - (Int.tmod o.Addr (IntKind.u64.wrap w))) = A) (hA0 : 0 ≤ A) (hA1 : A + w ≤ 18446744073709551616)
    (hp : ∀ a, ∀ (k : Nat) (en : List Bool) (F : List fault) (tr : List Traced), 256 < k → iospace_Bus_Peek.f k n0 n1 n2 en F tr S a = some (pk a)) (hB : ∀ j : Int, 0 ≤ j → j < w → gd 0 B j = (pk (A + j)).1) :
    ∀ (n k : Nat) (y : Int), 0 ≤ y → y ≤ w → w - y ≤ n → n + 257 < k → law09_IospaceDeadAccesses.l5 k q (F', tr', n0, n1, n2, v, e) en s180 S o B y = some (.go ()) := by
  have hwp := hw.pos
  intro n
  induction n with
  | zero =>
    intro k y h0 h1 h2 h3
    obtain ⟨k, rfl⟩ : ∃ m, k = m + 1 := ⟨k - 1, by omega⟩
    rw [law09_IospaceDeadAccesses.l5, hq, if_neg (by omega)]
  | succ n ih =>
    intro k y h0 h1 h2 h3
    obtain ⟨k, rfl⟩ : ∃ m, k = m + 1 := ⟨k - 1, by omega⟩
    by_cases c : y < w
    · rw [law09_IospaceDeadAccesses.l5, hq, if_pos c, hA, wu y (by omega) (by omega), wu (A + y) (by omega) (by omega), bnd_s (hp (A + y) k en F' s180.1 (by omega)), ck_t (by omega), if_pos (hB y h0 c).symm, wi (y + 1) (by omega) (by omega)]
      exact ih k (y + 1) (by omega) (by omega) (by omega) (by omega)
    · rw [law09_IospaceDeadAccesses.l5, hq, if_neg c]
theorem pureIospaceDeadAccesses : law09_IospaceDeadAccesses.Pure := by
  intro a0 a1 hl hw hw1
  refine ⟨1000, ?_⟩
  unfold law09_IospaceDeadAccesses.f
  rw [bnd_s (show iospace_New.f 1000 = some _ from rfl), bnd_s awake_f, if_pos rfl]
  obtain ⟨n0, n1, n2, en1, F, tr1, X, G, h1, hbl, hfl, hen1⟩ := da_loop (a0 := a0) hw hl 40 1000 0 [] [] [] (List.replicate 256 false) [] [] [] [] (by decide) (by decide) (by decide) (by decide) sim0 List.length_replicate
  obtain ⟨o, h2, ha, _, hv⟩ := some_ok hw1 1000
  dsimp only
  rw [bnd_s h1, bnd_s h2, bnd_s (mod_f 1000 (a := o.Space) (show (0 : Int) < 3 by decide) (by decide)), bnd_s (mod_f 1000 (a := o.Width) (show (0 : Int) < 4 by decide) (by decide))]
  have hs : SP (o.Space % 18446744073709551616 % 3) := by unfold SP; omega
  generalize o.Space % 18446744073709551616 % 3 = S at hs
  have hq : 0 ≤ o.Width % 18446744073709551616 % 4 ∧ o.Width % 18446744073709551616 % 4 < 4 := by omega
  generalize o.Width % 18446744073709551616 % 4 = q at hq
  have hww : WW (gd 0 ([1, 2, 4, 8] : List Int) q) := width_of hq.1 hq.2
  obtain ⟨w, hqw⟩ : ∃ w, gd 0 ([1, 2, 4, 8] : List Int) q = w := ⟨_, rfl⟩
  rw [ck_t (show 0 ≤ q ∧ q < ((([1, 2, 4, 8] : List Int).length : Nat) : Int) from hq)]
  rw [hqw] at hww ⊢
  have hwp := hww.pos
  rw [ck_t (by rw [wrapW hww]; omega)]
  obtain ⟨en2, g1, g2⟩ := off_l2 (x21 := (n0, n1, n2, en1, F, tr1, X, en1, G, tr1)) 5 1000 en1 (-1) (by decide) (by decide) (by decide) (by decide) hen1
  obtain ⟨en3, g3, g4⟩ := off_l3 (x21 := (n0, n1, n2, en1, F, tr1, X, en1, G, tr1)) 256 1000 en2 0 (by decide) (by decide) (by decide) (by decide) g2 (fun j j0 j1 => by omega)
  rw [bnd_s g1, bnd_s g3, bnd_s (show iospace_Bus_TakeTrace.f 1000 n0 n1 n2 en3 F tr1 = some ([], tr1) from rfl)]
  have hmod0 := Int.emod_nonneg o.Addr (show w ≠ 0 by omega)
  have hmod1 := Int.emod_lt_of_pos o.Addr (show 0 < w by omega)
  have hdm := Int.mul_ediv_add_emod o.Addr w
  have hA : IntKind.u64.wrap (o.Addr - (Int.tmod o.Addr (IntKind.u64.wrap w))) = o.Addr - o.Addr % w := by
    rw [wrapW hww, tm _ ha.1, wu _ (by have := Int.mul_nonneg (show 0 ≤ w by omega) (Int.ediv_nonneg ha.1 (show 0 ≤ w by omega)); omega) (by have := ha.2; omega)]
  have hal : (o.Addr - o.Addr % w) % w = 0 := by
    rw [show o.Addr - o.Addr % w = w * (o.Addr / w) by omega]; exact Int.mul_emod_right _ _
  have hAW : AW ⟨S, o.Addr - o.Addr % w, w, o.Write, o.Value⟩ := ⟨⟨by show 0 ≤ o.Addr - o.Addr % w; have := Int.mul_nonneg (show 0 ≤ w by omega) (Int.ediv_nonneg ha.1 (show 0 ≤ w by omega)); omega, by show o.Addr - o.Addr % w < _; have := ha.2; omega⟩, hv⟩
  have hWF : WF ⟨S, o.Addr - o.Addr % w, w, o.Write, o.Value⟩ := ⟨hs, hww, hal⟩
  have hA0 : 0 ≤ o.Addr - o.Addr % w := hAW.ad.1
  have hA1 : o.Addr - o.Addr % w + w ≤ 18446744073709551616 := (hWF.range hAW).e
  obtain ⟨pk, hp⟩ := Classical.axiomOfChoice (fun a => peek_any hbl S a)
  obtain ⟨B, b1, b2⟩ := was_l (n0 := n0) (n1 := n1) (n2 := n2) (en' := en1) (en := en3) (F' := F) (tr' := tr1) (X' := X) (G' := G) (s153 := ([], tr1)) (q := q) (S := S) (o := o) hww hqw hA hA0 hA1 hp 8 1000 (List.replicate 8 0) 0 (by decide) (by omega) (by omega) (by decide) (by decide) (fun j j0 j1 => by omega)
  rw [bnd_s b1, hA]
  have hacc : ∃ T : Traced, T.Live = false ∧ T.Failed = false ∧ iospace_Bus_Access.f 1000 n0 n1 n2 en3 F [] ⟨S, o.Addr - o.Addr % w, w, o.Write, o.Value⟩ = some (F, [T], n0, n1, n2, if o.Write = true then 0 else pw w - 1, 0) := by
    rcases find_f (en := []) (fa := []) (tr := []) (s := S) (a := o.Addr - o.Addr % w) (k := 1000) hbl (by decide) with ⟨_, i, hi, _⟩ | ⟨hz, _⟩
    · have hm : MW (at_ S n0 n1 n2 i) := (hbl.at S).mw i hi.1 hi.2.1
      exact ⟨_, rfl, rfl, acc_dead (F := F) (tr := []) hbl (by decide : 300 < 1000) hAW hWF (by decide) hi (fun hl => by
        have := hl.2
        rw [g4 _ hm.o.1 hm.o.2] at this; cases this)⟩
    · exact ⟨_, rfl, rfl, acc_none (F := F) (tr := []) hbl (by decide : 300 < 1000) hAW hWF (by decide) hz⟩
  obtain ⟨T, t1, t2, hacc⟩ := hacc
  dsimp only
  rw [bnd_s hacc]
  dsimp only
  rw [bnd_s (show iospace_Bus_TakeTrace.f 1000 n0 n1 n2 en3 F [T] = some ([], [T]) from rfl), bnd_s (now_l (n0 := n0) (n1 := n1) (n2 := n2) (en := en3) (F' := F) (tr' := [T]) (s180 := ([], [T])) (q := q) (S := S) (o := o) hww hqw hA hA0 hA1 hp b2 8 1000 0 (by decide) (by omega) (by omega) (by decide)), el_g, if_pos rfl]
  have hlast : (if (([T] : List Traced).length : Int) = 1 then (ck ((0 : Int) ≤ 0 ∧ 0 < (([T] : List Traced).length : Int)) (if ((gd Traced.zero [T] 0).Live) = true then (some false) else (some (!((gd Traced.zero [T] 0).Failed))))) else (some false)) = some true := by
    rw [if_pos (show (([T] : List Traced).length : Int) = 1 from rfl), ck_t ⟨by decide, by show (0 : Int) < 1; decide⟩]
    show (if T.Live = true then some false else some (!T.Failed)) = some true
    rw [t1, t2, if_neg hft]; rfl
  by_cases c : o.Write = true
  · rw [if_pos c, if_pos c, if_pos rfl]; exact hlast
  · rw [if_neg c, if_neg c, bnd_s (ones_f 1000 hww), if_pos rfl]; exact hlast
end Go.Proofs.Ytigadacjaglfeaa.X
