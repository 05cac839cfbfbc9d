/- The words of a symbolic walk: nodes of pointers, put in and taken out. -/
import Derived.Test.YtigadacjaglfeaaSx18
import Derived.Test.YtigadacjaglfeaaSx19
namespace Go.Sx
open Go Go.RowKit
variable {P : Program} {a : Act} {w w0 : World} {m : Nat → Prop} {os os' ks : List Ob} {γ α : Type}
variable {F : NF γ α} {G : List γ} {L : List α}
def insert_f (xs : List (Option Nat)) (i : Int) (ys : List (Option Nat)) : Option (List (Option Nat)) := ck ((0 : Int) ≤ i ∧ i ≤ (xs.length : Int)) (ck ((xs.length : Int) + (ys.length : Int) ≤ 1048576) (some (xs.take i.toNat ++ ys ++ xs.drop i.toNat)))
def delete_f (xs : List (Option Nat)) (i j : Int) : Option (List (Option Nat)) := ck ((0 : Int) ≤ i ∧ i ≤ j ∧ j ≤ (xs.length : Int)) (some (xs.take i.toNat ++ xs.drop j.toNat))
theorem insert_nd {g : γ} {b : Nat} {i : Int} (hl : (nds F G L).ok w) (hb : b = F.blk g) (h : 0 ≤ i ∧ i ≤ (L.length : Int)) (h2 : (L.length : Int) + 1 ≤ 1048576) : insert_f (ids F G) i [some b] = some (ids F (G.take i.toNat ++ g :: G.drop i.toNat)) := by
  subst hb
  have hn := nds_len hl
  unfold insert_f
  rw [ck_t (by rw [ids_len, hn]; exact h), ck_t (by rw [ids_len, hn]; simpa using h2), ids_ins]
  simp
theorem delete_nd {i j : Int} (hl : (nds F G L).ok w) (h : 0 ≤ i ∧ i ≤ j ∧ j ≤ (L.length : Int)) : delete_f (ids F G) i j = some (ids F (G.take i.toNat ++ G.drop j.toNat)) := by
  have hn := nds_len hl
  unfold delete_f
  rw [ck_t (by rw [ids_len, hn]; exact h)]
  simp [ids]
theorem ids_snoc {g : γ} {b : Nat} (hb : b = F.blk g) : ids F G ++ [some b] = ids F (G ++ [g]) := by subst hb; simp [ids]
theorem St.sub (h : St m w0 w os) (hs : os'.Sublist os) : St m w0 w os' :=
  ⟨h.chg, fun o ho => h.obs o (hs.subset ho), h.apart.sublist hs⟩
theorem NF.all_take_drop (F : NF γ α) (n : Nat) : ∀ {G : List γ} {L : List α}, G.length = L.length → F.all G L = F.all (G.take n) (L.take n) ++ F.all (G.drop n) (L.drop n) := by
  intro G L h
  rw [← F.all_app (by simp [h]), List.take_append_drop, List.take_append_drop]
theorem NF.all_del (F : NF γ α) {i j : Nat} (hij : i ≤ j) (h : G.length = L.length) : (F.all (G.take i ++ G.drop j) (L.take i ++ L.drop j)).Sublist (F.all G L) := by
  rw [F.all_app (by simp [h]), F.all_take_drop i h]
  refine List.Sublist.append (List.Sublist.refl _) ?_
  have h2 : (G.drop i).length = (L.drop i).length := by simp [h]
  rw [F.all_take_drop (j - i) h2]
  rw [List.drop_drop, List.drop_drop, show i + (j - i) = j by omega]
  exact List.sublist_append_right _ _
theorem St.ndel {i j : Int} (hij : 0 ≤ i ∧ i ≤ j ∧ j ≤ (L.length : Int)) (h : St m w0 w (nds F G L :: ks)) : St m w0 w (nds F (G.take i.toNat ++ G.drop j.toNat) (L.take i.toNat ++ L.drop j.toNat) :: ks) := by
  obtain ⟨hl, h2⟩ := h.nopn
  refine St.ncls (h2.sub (List.Sublist.append (F.all_del (by omega) hl) (List.Sublist.refl _))) ?_
  simp; omega
theorem St.nsnoc {g : γ} {u : α} (h : St m w0 w (F.node g u ++ nds F G L :: ks)) : St m w0 w (nds F (G ++ [g]) (L ++ [u]) :: ks) := by
  have h5 : St m w0 w (nds F G L :: (F.node g u ++ ks)) := h.perm List.perm_middle
  have hl := h5.nopn.1
  have h6 := St.nins (i := L.length) (by omega) (by omega) h
  have e1 : G.take ((L.length : Int)).toNat = G := List.take_of_length_le (by omega)
  have e2 : L.take ((L.length : Int)).toNat = L := List.take_of_length_le (by omega)
  have e3 : G.drop ((L.length : Int)).toNat = [] := List.drop_of_length_le (by omega)
  have e4 : L.drop ((L.length : Int)).toNat = [] := List.drop_of_length_le (by omega)
  rwa [e1, e2, e3, e4] at h6
theorem ids_room {b : Option Nat} {N : Int} (hl : (nds F G L).ok w) (h : (L.length : Int) + 1 ≤ N) : ((ids F G).length : Int) + (([b] : List (Option Nat)).length : Int) ≤ N := by
  rw [ids_len, nds_len hl]; simpa using h
theorem nd_bx_ok (h : (nds F G L).ok w) (g0 : γ) (z0 : α) {i : Int} (h0 : 0 ≤ i) (h1 : i < L.length) : (bx (F.blk (gd g0 G i)) F.T (F.cells (gd g0 G i) (gd z0 L i))).ok w := nd_node h g0 z0 h0 h1 _ List.mem_cons_self
theorem nd_bx_fs (hl : G.length = L.length) (g0 : γ) (z0 : α) {i : Int} (h0 : 0 ≤ i) (h1 : i < L.length) : ∀ b, (bx (F.blk (gd g0 G i)) F.T (F.cells (gd g0 G i) (gd z0 L i))).fs b → (nds F G L).fs b := nd_fs (z0 := z0) hl h0 h1 List.mem_cons_self
theorem nd_mo_ok (h : (nds F G L).ok w) (g0 : γ) (z0 : α) {i : Int} (h0 : 0 ≤ i) (h1 : i < L.length) (j : Nat) {o : Ob} (ho : (F.more (gd g0 G i) (gd z0 L i))[j]? = some o) : o.ok w := nd_more h g0 z0 h0 h1 j ho
theorem nd_mo_fs (hl : G.length = L.length) (g0 : γ) (z0 : α) {i : Int} (h0 : 0 ≤ i) (h1 : i < L.length) (j : Nat) {o : Ob} (ho : (F.more (gd g0 G i) (gd z0 L i))[j]? = some o) : ∀ b, o.fs b → (nds F G L).fs b := nd_fs (z0 := z0) hl h0 h1 (List.mem_cons_of_mem _ (List.mem_of_getElem? ho))
theorem ret0n {Q : Ending → World → Prop} {N : Nat} {fs : List (Nat × Value)} {fn : Func} (hr : fn.results = #[]) (hf : Fr a N fs) (h : Q (.returned (.tuple #[])) w) : bodyPost P fn Q .normal a w := ret0 hr hf h
theorem er_allocS {d : Option Tmp} {T ty : TypeId} {pos : String} {aft : Array Edge} {g : Option (Nat × Bool)} {z : Value} {size bytes : Nat} {S : List (List Value × Nat)} (hs : St m w0 w os) (h : TI P T z size bytes) (hz : z.cells.toList = cat S) (hl : lens S) :
    ∃ v w', (execOp a.eval ⟨d, .alloc T, ty, pos, aft, g⟩).run P w = .ok (.value v) w' ∧ ∃ b, v = .pointer (some ⟨b, 0, none⟩) ∧ St m w0 w' (bxs b T S :: os) := by
  obtain ⟨v, w', h1, b, h2, h3⟩ := er_alloc (T := T) (ty := ty) (pos := pos) (aft := aft) (g := g) (d := d) (P := P) (a := a) hs h hz
  exact ⟨v, w', h1, b, h2, ⟨h3.chg, fun o ho => by
    rcases List.mem_cons.1 ho with rfl | ho
    · obtain ⟨q1, q2⟩ := h3.obs (bx b T (cat S)) List.mem_cons_self
      exact ⟨⟨hl, q1⟩, q2⟩
    · exact h3.obs o (List.mem_cons_of_mem _ ho), by
    obtain ⟨q1, q2⟩ := List.pairwise_cons.1 h3.apart
    exact List.pairwise_cons.2 ⟨fun p hp => q1 p hp, q2⟩⟩⟩
end Go.Sx
