/- The words of a symbolic walk: pointers to structs, many of them. -/
import Derived.Test.YtigadacjaglfeaaSx14
import Derived.Test.YtigadacjaglfeaaSx17
namespace Go.Sx
open Go Go.RowKit
variable {P : Program} {a : Act} {w w0 : World} {N : Nat} {fs : List (Nat × Value)} {d : Option Tmp} {T T' ty : TypeId} {pos : String} {aft : Array Edge} {g' : Option (Nat × Bool)} {x y z : Operand} {m : Nat → Prop} {os os' ks : List Ob} {γ α : Type}
def PK (E : TypeId) : EK (Option Nat) where
  E := E
  sz := 1
  enc x := [.pointer (x.map fun b => ⟨b, 0, none⟩)]
  z := none
  len _ := rfl
  one := by intro x v hv; simp at hv; subst hv; rfl
  pos := by decide
theorem St.perm (h : St m w0 w os) (hp : os.Perm os') : St m w0 w os' :=
  ⟨h.chg, fun o ho => h.obs o (hp.mem_iff.2 ho), (hp.pairwise_iff (fun h => Ap.symm h)).1 h.apart⟩
def grp (os : List Ob) : Ob where
  fs := fsl os
  ok w := (∀ o ∈ os, o.ok w) ∧ os.Pairwise Ap
  loc w w' h := fun ⟨h1, h2⟩ => ⟨fun o ho => o.loc w w' (fun b hb => h b ⟨o, ho, hb⟩) (h1 o ho), h2⟩
theorem St.opn (h : St m w0 w (grp os :: ks)) : St m w0 w (os ++ ks) := by
  obtain ⟨h1, h2⟩ := h.obs (grp os) List.mem_cons_self
  obtain ⟨h3, h4⟩ := List.pairwise_cons.1 h.apart
  refine ⟨h.chg, fun o ho => ?_, List.pairwise_append.2 ⟨h1.2, h4, fun o ho p hp b hb hb' => h3 p hp b ⟨o, ho, hb⟩ hb'⟩⟩
  rcases List.mem_append.1 ho with ho | ho
  · exact ⟨h1.1 o ho, fun b hb => h2 b ⟨o, ho, hb⟩⟩
  · exact h.obs o (List.mem_cons_of_mem _ ho)
theorem St.cls (h : St m w0 w (os ++ ks)) : St m w0 w (grp os :: ks) := by
  obtain ⟨h1, h2, h3⟩ := List.pairwise_append.1 h.apart
  refine ⟨h.chg, fun o ho => ?_, List.pairwise_cons.2 ⟨fun p hp b ⟨o, ho, hb⟩ hb' => h3 o ho p hp b hb hb', h2⟩⟩
  rcases List.mem_cons.1 ho with rfl | ho
  · refine ⟨⟨fun o ho => (h.obs o (List.mem_append_left _ ho)).1, h1⟩, ?_⟩
    rintro b ⟨o, ho, hb⟩
    exact (h.obs o (List.mem_append_left _ ho)).2 b hb
  · exact h.obs o (List.mem_append_right _ ho)
structure NF (γ α : Type) where
  T : TypeId
  blk : γ → Nat
  cells : γ → α → List Value
  more : γ → α → List Ob
variable (F : NF γ α)
def NF.node (g : γ) (x : α) : List Ob := bx (F.blk g) F.T (F.cells g x) :: F.more g x
def NF.all : List γ → List α → List Ob
  | g :: G, x :: L => F.node g x ++ NF.all G L
  | _, _ => []
theorem NF.all_app : ∀ {G1 : List γ} {L1 : List α} {G2 : List γ} {L2 : List α}, G1.length = L1.length → F.all (G1 ++ G2) (L1 ++ L2) = F.all G1 L1 ++ F.all G2 L2
  | [], [], _, _, _ => rfl
  | [], _ :: _, _, _, h => by simp at h
  | _ :: _, [], _, _, h => by simp at h
  | g :: G, x :: L, G2, L2, h => by
    show F.node g x ++ F.all (G ++ G2) (L ++ L2) = (F.node g x ++ F.all G L) ++ F.all G2 L2
    rw [NF.all_app (by simpa using h), List.append_assoc]
theorem NF.all_mid {G1 G2 : List γ} {L1 L2 : List α} (h : G1.length = L1.length) (g : γ) (x : α) : (F.all (G1 ++ g :: G2) (L1 ++ x :: L2)).Perm (F.node g x ++ F.all (G1 ++ G2) (L1 ++ L2)) := by
  rw [F.all_app h, F.all_app h]
  show (F.all G1 L1 ++ (F.node g x ++ F.all G2 L2)).Perm _
  rw [← List.append_assoc, ← List.append_assoc]
  exact List.Perm.append_right _ List.perm_append_comm
def nds (G : List γ) (L : List α) : Ob where
  fs := fsl (F.all G L)
  ok w := G.length = L.length ∧ (grp (F.all G L)).ok w
  loc w w' h k := ⟨k.1, (grp (F.all G L)).loc w w' h k.2⟩
variable {F} {G : List γ} {L : List α}
theorem nds_len (h : (nds F G L).ok w) : G.length = L.length := h.1
theorem St.nopn (h : St m w0 w (nds F G L :: ks)) : G.length = L.length ∧ St m w0 w (F.all G L ++ ks) := by
  obtain ⟨h1, h2⟩ := h.obs _ List.mem_cons_self
  exact ⟨h1.1, St.opn (os := F.all G L) ⟨h.chg, fun o ho => by
    rcases List.mem_cons.1 ho with rfl | ho
    · exact ⟨h1.2, h2⟩
    · exact h.obs o (List.mem_cons_of_mem _ ho), by
    obtain ⟨q1, q2⟩ := List.pairwise_cons.1 h.apart
    exact List.pairwise_cons.2 ⟨fun p hp => q1 p hp, q2⟩⟩⟩
theorem St.ncls (h : St m w0 w (F.all G L ++ ks)) (hl : G.length = L.length) : St m w0 w (nds F G L :: ks) := by
  have h' := St.cls h
  obtain ⟨h1, h2⟩ := h'.obs _ List.mem_cons_self
  exact ⟨h'.chg, fun o ho => by
    rcases List.mem_cons.1 ho with rfl | ho
    · exact ⟨⟨hl, h1⟩, h2⟩
    · exact h'.obs o (List.mem_cons_of_mem _ ho), by
    obtain ⟨q1, q2⟩ := List.pairwise_cons.1 h'.apart
    exact List.pairwise_cons.2 ⟨fun p hp => q1 p hp, q2⟩⟩
theorem split_at {α : Type} (z : α) {xs : List α} {i : Int} (h0 : 0 ≤ i) (h1 : i < xs.length) : xs = xs.take i.toNat ++ gd z xs i :: xs.drop (i.toNat + 1) := by
  have : xs.drop i.toNat = gd z xs i :: xs.drop (i.toNat + 1) := by
    rw [List.drop_eq_getElem_cons (show i.toNat < xs.length by omega)]
    congr 1
    unfold gd
    rw [List.getD_eq_getElem?_getD, List.getElem?_eq_getElem (show i.toNat < xs.length by omega)]
    rfl
  rw [← this, List.take_append_drop]
theorem set_at {α : Type} {xs : List α} {i : Int} (u : α) (h0 : 0 ≤ i) (h1 : i < xs.length) : xs.set i.toNat u = xs.take i.toNat ++ u :: xs.drop (i.toNat + 1) :=
  List.set_eq_take_append_cons_drop.trans (by rw [if_pos (by omega)])
theorem St.focus (h : St m w0 w (nds F G L :: ks)) (g0 : γ) (z0 : α) {i : Int} (h0 : 0 ≤ i) (h1 : i < L.length) :
    St m w0 w (F.node (gd g0 G i) (gd z0 L i) ++ nds F (G.eraseIdx i.toNat) (L.eraseIdx i.toNat) :: ks) := by
  obtain ⟨hl, h2⟩ := h.nopn
  have e1 := split_at g0 (xs := G) h0 (by omega)
  have e2 := split_at z0 (xs := L) h0 h1
  have e3 : G.eraseIdx i.toNat = G.take i.toNat ++ G.drop (i.toNat + 1) := List.eraseIdx_eq_take_drop_succ ..
  have e4 : L.eraseIdx i.toNat = L.take i.toNat ++ L.drop (i.toNat + 1) := List.eraseIdx_eq_take_drop_succ ..
  rw [e1, e2] at h2
  have hp := F.all_mid (G1 := G.take i.toNat) (G2 := G.drop (i.toNat + 1)) (L1 := L.take i.toNat) (L2 := L.drop (i.toNat + 1)) (by simp; omega) (gd g0 G i) (gd z0 L i)
  have h3 := h2.perm (List.Perm.append_right ks hp)
  rw [List.append_assoc, ← e3, ← e4] at h3
  have h4 : St m w0 w (F.all (G.eraseIdx i.toNat) (L.eraseIdx i.toNat) ++ (F.node (gd g0 G i) (gd z0 L i) ++ ks)) := by
    refine h3.perm ?_
    rw [← List.append_assoc, ← List.append_assoc]
    exact List.Perm.append_right _ List.perm_append_comm
  have h5 := h4.ncls (by rw [List.length_eraseIdx, List.length_eraseIdx, hl])
  exact h5.perm List.perm_middle.symm
theorem St.unfocus {g : γ} {u : α} {i : Int} (h0 : 0 ≤ i) (h1 : i < L.length) (hl : G.length = L.length) (g0 : γ) (hg : gd g0 G i = g) (h : St m w0 w (F.node g u ++ nds F (G.eraseIdx i.toNat) (L.eraseIdx i.toNat) :: ks)) :
    St m w0 w (nds F G (L.set i.toNat u) :: ks) := by
  have e1 := split_at g0 (xs := G) h0 (by omega)
  have e2 := set_at u h0 h1
  have e3 : G.eraseIdx i.toNat = G.take i.toNat ++ G.drop (i.toNat + 1) := List.eraseIdx_eq_take_drop_succ ..
  have e4 : L.eraseIdx i.toNat = L.take i.toNat ++ L.drop (i.toNat + 1) := List.eraseIdx_eq_take_drop_succ ..
  have h5 : St m w0 w (nds F (G.eraseIdx i.toNat) (L.eraseIdx i.toNat) :: (F.node g u ++ ks)) := h.perm List.perm_middle
  obtain ⟨_, h4⟩ := h5.nopn
  rw [e3, e4] at h4
  have hp := F.all_mid (G1 := G.take i.toNat) (G2 := G.drop (i.toNat + 1)) (L1 := L.take i.toNat) (L2 := L.drop (i.toNat + 1)) (by simp; omega) g u
  have h6 : St m w0 w (F.node g u ++ F.all (G.take i.toNat ++ G.drop (i.toNat + 1)) (L.take i.toNat ++ L.drop (i.toNat + 1)) ++ ks) := by
    refine h4.perm ?_
    rw [← List.append_assoc]
    exact List.Perm.append_right _ List.perm_append_comm
  have h7 := h6.perm (List.Perm.append_right ks hp.symm)
  rw [← hg, ← e1, ← e2] at h7
  exact h7.ncls (by simpa using hl)
theorem St.nins {g : γ} {u : α} {i : Int} (h0 : 0 ≤ i) (h1 : i ≤ L.length) (h : St m w0 w (F.node g u ++ nds F G L :: ks)) : St m w0 w (nds F (G.take i.toNat ++ g :: G.drop i.toNat) (L.take i.toNat ++ u :: L.drop i.toNat) :: ks) := by
  have h5 : St m w0 w (nds F G L :: (F.node g u ++ ks)) := h.perm List.perm_middle
  obtain ⟨hl, h4⟩ := h5.nopn
  have hp := F.all_mid (G1 := G.take i.toNat) (G2 := G.drop i.toNat) (L1 := L.take i.toNat) (L2 := L.drop i.toNat) (by simp; omega) g u
  rw [List.take_append_drop, List.take_append_drop] at hp
  have h6 : St m w0 w (F.node g u ++ F.all G L ++ ks) := by
    refine h4.perm ?_
    rw [← List.append_assoc]
    exact List.Perm.append_right _ List.perm_append_comm
  exact (h6.perm (List.Perm.append_right ks hp.symm)).ncls (by simp; omega)
theorem nd_node (h : (nds F G L).ok w) (g0 : γ) (z0 : α) {i : Int} (h0 : 0 ≤ i) (h1 : i < L.length) : ∀ o ∈ F.node (gd g0 G i) (gd z0 L i), o.ok w := by
  obtain ⟨hl, h2, _⟩ := h
  have e1 := split_at g0 (xs := G) h0 (by omega)
  have e2 := split_at z0 (xs := L) h0 h1
  rw [e1, e2] at h2
  have hp := F.all_mid (G1 := G.take i.toNat) (G2 := G.drop (i.toNat + 1)) (L1 := L.take i.toNat) (L2 := L.drop (i.toNat + 1)) (by simp; omega) (gd g0 G i) (gd z0 L i)
  intro o ho
  exact h2 o (hp.mem_iff.2 (List.mem_append_left _ ho))
theorem nd_cell (h : (nds F G L).ok w) (g0 : γ) (z0 : α) {i : Int} (h0 : 0 ≤ i) (h1 : i < L.length) (j : Nat) {u : Value} (hu : (F.cells (gd g0 G i) (gd z0 L i))[j]? = some u) : w.cell? ⟨F.blk (gd g0 G i), j, none⟩ = some u :=
  bx_cell (nd_node h g0 z0 h0 h1 _ List.mem_cons_self) j hu
theorem nd_more (h : (nds F G L).ok w) (g0 : γ) (z0 : α) {i : Int} (h0 : 0 ≤ i) (h1 : i < L.length) (j : Nat) {o : Ob} (ho : (F.more (gd g0 G i) (gd z0 L i))[j]? = some o) : o.ok w :=
  nd_node h g0 z0 h0 h1 o (List.mem_cons_of_mem _ (List.mem_of_getElem? ho))
theorem er_storeN {g0 : γ} {z0 : α} {i : Int} {j : Nat} {u : Value} {x' : α} (hs : St m w0 w os) (sp : Split os [nds F G L] ks) (h0 : 0 ≤ i) (h1 : i < L.length) (hf : Fr a N fs) (hx : ev fs x = some (.pointer (some ⟨F.blk (gd g0 G i), j, none⟩))) (hy : ev fs y = some u) (hu : u.oneCell' = true) (hsz : (P.info? T).map (·.size) = some 1)
    (hj : Nat.blt j (F.cells (gd g0 G i) (gd z0 L i)).length = true) (hc : (F.cells (gd g0 G i) (gd z0 L i)).set j u = F.cells (gd g0 G i) x') (hm : F.more (gd g0 G i) (gd z0 L i) = F.more (gd g0 G i) x') :
    ∃ w', (execOp a.eval ⟨none, .store T x y, ty, pos, aft, g'⟩).run P w = .ok .skip w' ∧ St m w0 w' (nds F G (L.set i.toNat x') :: ks) := by
  have hp : St m w0 w (nds F G L :: ks) := hs.pick sp
  have hl := hp.nopn.1
  have h2 := hp.focus g0 z0 h0 h1
  obtain ⟨w', e1, e2⟩ := er_storeB (T := T) (ty := ty) (pos := pos) (aft := aft) (g := g') (P := P) h2 (.c (split_none _)) hf hx hy hu hsz hj
  refine ⟨w', e1, St.unfocus h0 h1 hl g0 rfl ?_⟩
  rw [hc, hm] at e2
  exact e2
theorem er_mapUpdateN {K E : TypeId} {kk vk : IntKind} {b : Nat} {D : List (Int × Int)} {k v : Int} {g0 : γ} {z0 : α} {i : Int} {x' : α} (hs : St m w0 w os) (sp : Split os [nds F G L] ks) (h0 : 0 ≤ i) (h1 : i < L.length) (hT : MT P T K E kk vk) (hf : Fr a N fs) (hx : ev fs x = some (.map (some b))) (hy : ev fs y = some (.int kk k)) (hz : ev fs z = some (.int vk v))
    (hc : F.cells (gd g0 G i) (gd z0 L i) = F.cells (gd g0 G i) x') (hm : F.more (gd g0 G i) (gd z0 L i) = [mp b kk vk D]) (hm' : F.more (gd g0 G i) x' = [mp b kk vk (mput D k v)]) :
    ∃ w', (execOp a.eval ⟨none, .mapUpdate T x y z, ty, pos, aft, g'⟩).run P w = .ok .skip w' ∧ St m w0 w' (nds F G (L.set i.toNat x') :: ks) := by
  have hp : St m w0 w (nds F G L :: ks) := hs.pick sp
  have hl := hp.nopn.1
  have h2 := hp.focus g0 z0 h0 h1
  unfold NF.node at h2
  rw [hm] at h2
  obtain ⟨w', e1, e2⟩ := er_mapUpdate (T := T) (ty := ty) (pos := pos) (aft := aft) (g := g') (P := P) h2 (.k (.c (split_none _))) hT hf hx hy hz
  refine ⟨w', e1, St.unfocus h0 h1 hl g0 rfl ?_⟩
  unfold NF.node
  rw [hm', ← hc]
  exact e2.perm (List.Perm.swap _ _ _)
def ids (F : NF γ α) (G : List γ) : List (Option Nat) := G.map fun g => some (F.blk g)
theorem ids_len : (ids F G).length = G.length := by simp [ids]
theorem ids_gd (g0 : γ) {i : Int} (h0 : 0 ≤ i) (h1 : i < G.length) : gd none (ids F G) i = some (F.blk (gd g0 G i)) := by
  unfold gd ids
  rw [List.getD_eq_getElem?_getD, List.getD_eq_getElem?_getD, List.getElem?_map, List.getElem?_eq_getElem (show i.toNat < G.length by omega)]
  rfl
theorem ids_ins {g : γ} {i : Int} : ids F (G.take i.toNat ++ g :: G.drop i.toNat) = (ids F G).take i.toNat ++ some (F.blk g) :: (ids F G).drop i.toNat := by simp [ids]
theorem ids_isSl {E : TypeId} {v : Value} (h : (rsl (PK E) v (ids F G)).ok w) (hn : (nds F G L).ok w) : IsSl v L.length := by
  have := rsl_isSl h
  rwa [ids_len, nds_len hn] at this
theorem ids_cell {E : TypeId} {v : Value} (h : (rsl (PK E) v (ids F G)).ok w) (hn : (nds F G L).ok w) (g0 : γ) {i : Int} (h0 : 0 ≤ i) (h1 : i < L.length) : w.cell? (sla v (i.toNat * 1)) = some (.pointer (some ⟨F.blk (gd g0 G i), 0, none⟩)) := by
  have hl := nds_len hn
  exact el_cell (K := PK E) (f := 0) (i := i) (rsl_rd h) h0 (by rw [ids_len]; omega) (by rw [show (PK E).at (ids F G) i = some (F.blk (gd g0 G i)) from ids_gd g0 h0 (by omega)]; rfl)
theorem nd_fs {g0 : γ} {z0 : α} (hl : G.length = L.length) {i : Int} (h0 : 0 ≤ i) (h1 : i < L.length) {o : Ob} (ho : o ∈ F.node (gd g0 G i) (gd z0 L i)) : ∀ b, o.fs b → (nds F G L).fs b := by
  have e1 := split_at g0 (xs := G) h0 (by omega)
  have e2 := split_at z0 (xs := L) h0 h1
  have hp := F.all_mid (G1 := G.take i.toNat) (G2 := G.drop (i.toNat + 1)) (L1 := L.take i.toNat) (L2 := L.drop (i.toNat + 1)) (by simp; omega) (gd g0 G i) (gd z0 L i)
  rw [← e1, ← e2] at hp
  exact fun b hb => ⟨o, hp.mem_iff.2 (List.mem_append_left _ ho), hb⟩
theorem St.nnil (F : NF γ α) (h : St m w0 w os) : St m w0 w (nds F [] [] :: os) := (St.ncls (F := F) (G := []) (L := []) (ks := os) (by simpa [NF.all] using h) rfl)
end Go.Sx
