/- The words of a symbolic walk: slices of structs that hold slices of their own. -/
import Derived.Test.YtigadacjaglfeaaSx20
namespace Go.Sx
open Go Go.RowKit
variable {P : Program} {a : Act} {w w0 : World} {N : Nat} {fs : List (Nat × Value)} {d : Option Tmp} {T T' ty : TypeId} {pos : String} {aft : Array Edge} {g' : Option (Nat × Bool)} {x y z : Operand} {m : Nat → Prop} {os os' ks : List Ob} {γ α : Type}
structure NV (γ α : Type) where
  more : γ → α → List Ob
section
variable (F : NV γ α)
def NV.node (g : γ) (x : α) : List Ob := F.more g x
def NV.all : List γ → List α → List Ob
  | g :: G, x :: L => F.node g x ++ NV.all G L
  | _, _ => []
theorem NV.all_app : ∀ {G1 : List γ} {L1 : List α} {G2 : List γ} {L2 : List α}, G1.length = L1.length → F.all (G1 ++ G2) (L1 ++ L2) = F.all G1 L1 ++ F.all G2 L2
  | [], [], _, _, _ => rfl
  | [], _ :: _, _, _, h => by simp at h
  | _ :: _, [], _, _, h => by simp at h
  | g :: G, x :: L, G2, L2, h => by
    show F.node g x ++ F.all (G ++ G2) (L ++ L2) = (F.node g x ++ F.all G L) ++ F.all G2 L2
    rw [NV.all_app (by simpa using h), List.append_assoc]
theorem NV.all_mid {G1 G2 : List γ} {L1 L2 : List α} (h : G1.length = L1.length) (g : γ) (x : α) : (F.all (G1 ++ g :: G2) (L1 ++ x :: L2)).Perm (F.node g x ++ F.all (G1 ++ G2) (L1 ++ L2)) := by
  rw [F.all_app h, F.all_app h]
  show (F.all G1 L1 ++ (F.node g x ++ F.all G2 L2)).Perm _
  rw [← List.append_assoc, ← List.append_assoc]
  exact List.Perm.append_right _ List.perm_append_comm
end
variable (F : NV γ α)
def ndv (G : List γ) (L : List α) : Ob where
  fs := fsl (F.all G L)
  ok w := G.length = L.length ∧ (grp (F.all G L)).ok w
  loc w w' h k := ⟨k.1, (grp (F.all G L)).loc w w' h k.2⟩
variable {F} {G : List γ} {L : List α}
theorem ndv_len (h : (ndv F G L).ok w) : G.length = L.length := h.1
theorem St.vopn (h : St m w0 w (ndv F G L :: ks)) : G.length = L.length ∧ St m w0 w (F.all G L ++ ks) := by
  obtain ⟨h1, h2⟩ := h.obs _ List.mem_cons_self
  exact ⟨h1.1, St.opn (os := F.all G L) ⟨h.chg, fun o ho => by
    rcases List.mem_cons.1 ho with rfl | ho
    · exact ⟨h1.2, h2⟩
    · exact h.obs o (List.mem_cons_of_mem _ ho), by
    obtain ⟨q1, q2⟩ := List.pairwise_cons.1 h.apart
    exact List.pairwise_cons.2 ⟨fun p hp => q1 p hp, q2⟩⟩⟩
theorem St.vcls (h : St m w0 w (F.all G L ++ ks)) (hl : G.length = L.length) : St m w0 w (ndv F G L :: ks) := by
  have h' := St.cls h
  obtain ⟨h1, h2⟩ := h'.obs _ List.mem_cons_self
  exact ⟨h'.chg, fun o ho => by
    rcases List.mem_cons.1 ho with rfl | ho
    · exact ⟨⟨hl, h1⟩, h2⟩
    · exact h'.obs o (List.mem_cons_of_mem _ ho), by
    obtain ⟨q1, q2⟩ := List.pairwise_cons.1 h'.apart
    exact List.pairwise_cons.2 ⟨fun p hp => q1 p hp, q2⟩⟩
theorem St.vfocus (h : St m w0 w (ndv F G L :: ks)) (g0 : γ) (z0 : α) {i : Int} (h0 : 0 ≤ i) (h1 : i < L.length) :
    St m w0 w (F.node (gd g0 G i) (gd z0 L i) ++ ndv F (G.eraseIdx i.toNat) (L.eraseIdx i.toNat) :: ks) := by
  obtain ⟨hl, h2⟩ := h.vopn
  have e1 := split_at g0 (xs := G) h0 (by omega)
  have e2 := split_at z0 (xs := L) h0 h1
  have e3 : G.eraseIdx i.toNat = G.take i.toNat ++ G.drop (i.toNat + 1) := List.eraseIdx_eq_take_drop_succ ..
  have e4 : L.eraseIdx i.toNat = L.take i.toNat ++ L.drop (i.toNat + 1) := List.eraseIdx_eq_take_drop_succ ..
  rw [e1, e2] at h2
  have hp := F.all_mid (G1 := G.take i.toNat) (G2 := G.drop (i.toNat + 1)) (L1 := L.take i.toNat) (L2 := L.drop (i.toNat + 1)) (by simp; omega) (gd g0 G i) (gd z0 L i)
  have h3 := h2.perm (List.Perm.append_right ks hp)
  rw [List.append_assoc, ← e3, ← e4] at h3
  have h4 : St m w0 w (F.all (G.eraseIdx i.toNat) (L.eraseIdx i.toNat) ++ (F.node (gd g0 G i) (gd z0 L i) ++ ks)) := by
    refine h3.perm ?_
    rw [← List.append_assoc, ← List.append_assoc]
    exact List.Perm.append_right _ List.perm_append_comm
  have h5 := h4.vcls (by rw [List.length_eraseIdx, List.length_eraseIdx, hl])
  exact h5.perm List.perm_middle.symm
theorem St.vunfocus {g : γ} {u : α} {i : Int} (h0 : 0 ≤ i) (h1 : i < L.length) (hl : G.length = L.length) (g0 : γ) (hg : gd g0 G i = g) (h : St m w0 w (F.node g u ++ ndv F (G.eraseIdx i.toNat) (L.eraseIdx i.toNat) :: ks)) :
    St m w0 w (ndv F G (L.set i.toNat u) :: ks) := by
  have e1 := split_at g0 (xs := G) h0 (by omega)
  have e2 := set_at u h0 h1
  have e3 : G.eraseIdx i.toNat = G.take i.toNat ++ G.drop (i.toNat + 1) := List.eraseIdx_eq_take_drop_succ ..
  have e4 : L.eraseIdx i.toNat = L.take i.toNat ++ L.drop (i.toNat + 1) := List.eraseIdx_eq_take_drop_succ ..
  have h5 : St m w0 w (ndv F (G.eraseIdx i.toNat) (L.eraseIdx i.toNat) :: (F.node g u ++ ks)) := h.perm List.perm_middle
  obtain ⟨_, h4⟩ := h5.vopn
  rw [e3, e4] at h4
  have hp := F.all_mid (G1 := G.take i.toNat) (G2 := G.drop (i.toNat + 1)) (L1 := L.take i.toNat) (L2 := L.drop (i.toNat + 1)) (by simp; omega) g u
  have h6 : St m w0 w (F.node g u ++ F.all (G.take i.toNat ++ G.drop (i.toNat + 1)) (L.take i.toNat ++ L.drop (i.toNat + 1)) ++ ks) := by
    refine h4.perm ?_
    rw [← List.append_assoc]
    exact List.Perm.append_right _ List.perm_append_comm
  have h7 := h6.perm (List.Perm.append_right ks hp.symm)
  rw [← hg, ← e1, ← e2] at h7
  exact h7.vcls (by simpa using hl)
theorem St.vins {g : γ} {u : α} {i : Int} (h0 : 0 ≤ i) (h1 : i ≤ L.length) (h : St m w0 w (F.node g u ++ ndv F G L :: ks)) : St m w0 w (ndv F (G.take i.toNat ++ g :: G.drop i.toNat) (L.take i.toNat ++ u :: L.drop i.toNat) :: ks) := by
  have h5 : St m w0 w (ndv F G L :: (F.node g u ++ ks)) := h.perm List.perm_middle
  obtain ⟨hl, h4⟩ := h5.vopn
  have hp := F.all_mid (G1 := G.take i.toNat) (G2 := G.drop i.toNat) (L1 := L.take i.toNat) (L2 := L.drop i.toNat) (by simp; omega) g u
  rw [List.take_append_drop, List.take_append_drop] at hp
  have h6 : St m w0 w (F.node g u ++ F.all G L ++ ks) := by
    refine h4.perm ?_
    rw [← List.append_assoc]
    exact List.Perm.append_right _ List.perm_append_comm
  exact (h6.perm (List.Perm.append_right ks hp.symm)).vcls (by simp; omega)
theorem nv_node (h : (ndv F G L).ok w) (g0 : γ) (z0 : α) {i : Int} (h0 : 0 ≤ i) (h1 : i < L.length) : ∀ o ∈ F.node (gd g0 G i) (gd z0 L i), o.ok w := by
  obtain ⟨hl, h2, _⟩ := h
  have e1 := split_at g0 (xs := G) h0 (by omega)
  have e2 := split_at z0 (xs := L) h0 h1
  rw [e1, e2] at h2
  have hp := F.all_mid (G1 := G.take i.toNat) (G2 := G.drop (i.toNat + 1)) (L1 := L.take i.toNat) (L2 := L.drop (i.toNat + 1)) (by simp; omega) (gd g0 G i) (gd z0 L i)
  intro o ho
  exact h2 o (hp.mem_iff.2 (List.mem_append_left _ ho))
theorem nv_more (h : (ndv F G L).ok w) (g0 : γ) (z0 : α) {i : Int} (h0 : 0 ≤ i) (h1 : i < L.length) (j : Nat) {o : Ob} (ho : (F.more (gd g0 G i) (gd z0 L i))[j]? = some o) : o.ok w :=
  nv_node h g0 z0 h0 h1 o (List.mem_of_getElem? ho)
theorem St.vnil (F : NV γ α) (h : St m w0 w os) : St m w0 w (ndv F [] [] :: os) := (St.vcls (F := F) (G := []) (L := []) (ks := os) (by simpa [NV.all] using h) rfl)
theorem NV.all_take_drop (F : NV γ α) (n : Nat) : ∀ {G : List γ} {L : List α}, G.length = L.length → F.all G L = F.all (G.take n) (L.take n) ++ F.all (G.drop n) (L.drop n) := by
  intro G L h
  rw [← F.all_app (by simp [h]), List.take_append_drop, List.take_append_drop]
theorem NV.all_del (F : NV γ α) {i j : Nat} (hij : i ≤ j) (h : G.length = L.length) : (F.all (G.take i ++ G.drop j) (L.take i ++ L.drop j)).Sublist (F.all G L) := by
  rw [F.all_app (by simp [h]), F.all_take_drop i h]
  refine List.Sublist.append (List.Sublist.refl _) ?_
  have h2 : (G.drop i).length = (L.drop i).length := by simp [h]
  rw [F.all_take_drop (j - i) h2]
  rw [List.drop_drop, List.drop_drop, show i + (j - i) = j by omega]
  exact List.sublist_append_right _ _
theorem St.vdel {i j : Int} (hij : 0 ≤ i ∧ i ≤ j ∧ j ≤ (L.length : Int)) (h : St m w0 w (ndv F G L :: ks)) : St m w0 w (ndv F (G.take i.toNat ++ G.drop j.toNat) (L.take i.toNat ++ L.drop j.toNat) :: ks) := by
  obtain ⟨hl, h2⟩ := h.vopn
  refine St.vcls (h2.sub (List.Sublist.append (F.all_del (by omega) hl) (List.Sublist.refl _))) ?_
  simp; omega
theorem St.vsnoc {g : γ} {u : α} (h : St m w0 w (F.node g u ++ ndv F G L :: ks)) : St m w0 w (ndv F (G ++ [g]) (L ++ [u]) :: ks) := by
  have h5 : St m w0 w (ndv F G L :: (F.node g u ++ ks)) := h.perm List.perm_middle
  have hl := h5.vopn.1
  have h6 := St.vins (i := L.length) (by omega) (by omega) h
  have e1 : G.take ((L.length : Int)).toNat = G := List.take_of_length_le (by omega)
  have e2 : L.take ((L.length : Int)).toNat = L := List.take_of_length_le (by omega)
  have e3 : G.drop ((L.length : Int)).toNat = [] := List.drop_of_length_le (by omega)
  have e4 : L.drop ((L.length : Int)).toNat = [] := List.drop_of_length_le (by omega)
  rwa [e1, e2, e3, e4] at h6
theorem St.vdelN {i j : Nat} (hij : i ≤ j ∧ j ≤ L.length) (h : St m w0 w (ndv F G L :: ks)) : St m w0 w (ndv F (G.take i ++ G.drop j) (L.take i ++ L.drop j) :: ks) := by
  have := St.vdel (i := i) (j := j) ⟨by omega, by omega, by omega⟩ h
  simpa using this
structure SlV where
  a : Option Addr
  n : Nat
  c : Nat
def SlV.v (g : SlV) : Value := .slice g.a g.n g.c
def SlV.zero : SlV := ⟨none, 0, 0⟩
theorem osl_sv {S : Type} {K : EK S} {v : Value} {xs : List S} (h : (osl K v xs).ok w) : ∃ g : SlV, v = g.v := by
  obtain ⟨A, c, h, _⟩ := osl_isSl h
  exact ⟨⟨A, _, c⟩, h⟩
variable {K : EK (γ × α)}
theorem zip_len (hl : G.length = L.length) : (G.zip L).length = L.length := by simp [hl]
theorem zip_gd {g0 : γ} {z0 : α} (hl : G.length = L.length) {i : Int} (h0 : 0 ≤ i) (h1 : i < L.length) (zz : γ × α) : gd zz (G.zip L) i = (gd g0 G i, gd z0 L i) := by
  unfold gd
  have h2 : i.toNat < L.length := by omega
  have h3 : i.toNat < G.length := by omega
  rw [List.getD_eq_getElem?_getD, List.getD_eq_getElem?_getD, List.getD_eq_getElem?_getD, List.getElem?_eq_getElem (by simp; omega), List.getElem?_eq_getElem h3, List.getElem?_eq_getElem h2]
  simp
theorem nv_isSl {v : Value} (h : (rsl K v (G.zip L)).ok w) (hn : (ndv F G L).ok w) : IsSl v L.length := by
  have := rsl_isSl h
  rwa [zip_len (ndv_len hn)] at this
theorem nv_cell {v : Value} (h : (rsl K v (G.zip L)).ok w) (hn : (ndv F G L).ok w) (g0 : γ) (z0 : α) {i : Int} (h0 : 0 ≤ i) (h1 : i < L.length) {f : Nat} {u : Value} (hu : (K.enc (gd g0 G i, gd z0 L i))[f]? = some u) : w.cell? (sla v (i.toNat * K.sz + f)) = some u := by
  have hl := ndv_len hn
  refine el_cell (K := K) (i := i) (rsl_rd h) h0 (by rw [zip_len hl]; exact h1) ?_
  rw [show K.at (G.zip L) i = gd K.z (G.zip L) i from rfl, zip_gd hl h0 h1]
  exact hu
theorem el_cellsF {S : Type} {K : EK S} {v : Value} {xs : List S} {i : Int} {f : Nat} {cs : List Value} (h : Rd v (xs.flatMap K.enc) w) (h0 : 0 ≤ i) (h1 : i < xs.length) (hu : ((K.enc (K.at xs i)).drop f).take cs.length = cs) : ∀ j u, cs[j]? = some u → w.cell? ((sla v (i.toNat * K.sz + f)).add j) = some u := by
  intro j u hj
  rw [sla_add, Nat.add_assoc]
  refine el_cell h h0 h1 ?_
  rw [← hu, List.getElem?_take] at hj
  split at hj
  · rwa [List.getElem?_drop] at hj
  · cases hj
theorem nv_cells {v : Value} (h : (rsl K v (G.zip L)).ok w) (hn : (ndv F G L).ok w) (g0 : γ) (z0 : α) {i : Int} (h0 : 0 ≤ i) (h1 : i < L.length) {f : Nat} {cs : List Value} (hu : ((K.enc (gd g0 G i, gd z0 L i)).drop f).take cs.length = cs) : ∀ j u, cs[j]? = some u → w.cell? ((sla v (i.toNat * K.sz + f)).add j) = some u := by
  have hl := ndv_len hn
  refine el_cellsF (K := K) (i := i) (rsl_rd h) h0 (by rw [zip_len hl]; exact h1) ?_
  rw [show K.at (G.zip L) i = gd K.z (G.zip L) i from rfl, zip_gd hl h0 h1]
  exact hu
theorem zip_snoc {g : γ} {u : α} (hl : G.length = L.length) : G.zip L ++ [(g, u)] = (G ++ [g]).zip (L ++ [u]) := by
  rw [List.zip_append hl]; rfl
theorem zip_room {e : γ × α} {M : Int} (hn : (ndv F G L).ok w) (h : (L.length : Int) + 1 ≤ M) : ((G.zip L).length : Int) + (([e] : List (γ × α)).length : Int) ≤ M := by
  rw [zip_len (ndv_len hn)]; simpa using h
theorem zip_view1 {M : Int} {hi : Nat} (hn : (ndv F G L).ok w) (h : ((L.take hi).length : Int) ≤ M) : (([] : List (γ × α)).length : Int) + ((((G.zip L).drop 0).take (hi - 0)).length : Int) ≤ M := by
  have := zip_len (ndv_len hn)
  have h2 : (((G.zip L).drop 0).take (hi - 0)).length = (L.take hi).length := by simp [ndv_len hn]
  rw [h2]; simpa using h
theorem zip_view2 {M : Int} {hi lo n : Nat} (hn : (ndv F G L).ok w) (hnn : n = L.length) (h : ((L.take hi).length : Int) + ((L.drop lo).length : Int) ≤ M) : ((([] : List (γ × α)) ++ ((G.zip L).drop 0).take (hi - 0)).length : Int) + ((((G.zip L).drop lo).take (n - lo)).length : Int) ≤ M := by
  subst hnn
  have h2 : (([] : List (γ × α)) ++ ((G.zip L).drop 0).take (hi - 0)).length = (L.take hi).length := by simp [ndv_len hn]
  have h3 : (((G.zip L).drop lo).take (L.length - lo)).length = (L.drop lo).length := by simp [ndv_len hn]
  rw [h2, h3]; exact h
theorem zip_cut {hi lo n : Nat} (hn : (ndv F G L).ok w) (hnn : n = L.length) : (([] : List (γ × α)) ++ ((G.zip L).drop 0).take (hi - 0)) ++ ((G.zip L).drop lo).take (n - lo) = (G.take hi ++ G.drop lo).zip (L.take hi ++ L.drop lo) := by
  subst hnn
  have hl := ndv_len hn
  rw [List.zip_append (by simp [hl]), List.drop_zero, List.nil_append, Nat.sub_zero, List.zip, List.take_zipWith, List.drop_zipWith]
  congr 1
  exact List.take_of_length_le (by simp [hl])
theorem osl_zip_set {v : Value} {i : Int} {x' : α} (z0 : α) (hl : G.length = L.length) (h0 : 0 ≤ i) (h1 : i < L.length) (he : ∀ g, K.enc (g, x') = K.enc (g, gd z0 L i)) : osl K v (G.zip (L.set i.toNat x')) = osl K v (G.zip L) := by
  have h2 : (G.zip (L.set i.toNat x')).length = (G.zip L).length := by simp
  have h3 : (G.zip (L.set i.toNat x')).flatMap K.enc = (G.zip L).flatMap K.enc := by
    have e2 := split_at z0 (xs := L) h0 h1
    have hg : i.toNat < G.length := by omega
    have e1 : G = G.take i.toNat ++ G[i.toNat] :: G.drop (i.toNat + 1) := by
      rw [← List.drop_eq_getElem_cons hg, List.take_append_drop]
    have hl2 : (G.take i.toNat).length = (L.take i.toNat).length := by simp; omega
    rw [set_at x' h0 h1]
    generalize G.take i.toNat = A at e1 hl2
    generalize G[i.toNat] = g at e1
    generalize G.drop (i.toNat + 1) = B at e1
    generalize gd z0 L i = y at e2 he
    generalize L.take i.toNat = C at e2 hl2
    generalize L.drop (i.toNat + 1) = D at e2
    subst e1
    rw [e2, List.zip_append hl2, List.zip_append hl2]
    simp only [List.zip_cons_cons, List.flatMap_append, List.flatMap_cons, he]
  unfold osl
  rw [h2, h3]
theorem er_storeV {S : Type} {K' : EK S} {g0 : γ} {z0 : α} {i j : Int} {v u : Value} {xs : List S} {e' : S} {x' : α} (hs : St m w0 w os) (sp : Split os [ndv F G L] ks) (h0 : 0 ≤ i) (h1 : i < L.length) (j0 : 0 ≤ j) (j1 : j < xs.length) (hf : Fr a N fs) (hx : ev fs x = some (.pointer (some (sla v (j.toNat * K'.sz + 0))))) (hy : ev fs y = some u) (hu : u.oneCell' = true) (hsz : (P.info? T).map (·.size) = some 1) (hk1 : K'.sz = 1) (he : K'.enc e' = [u])
    (hm : F.more (gd g0 G i) (gd z0 L i) = [osl K' v xs]) (hm' : F.more (gd g0 G i) x' = [osl K' v (xs.set j.toNat e')]) :
    ∃ w', (execOp a.eval ⟨none, .store T x y, ty, pos, aft, g'⟩).run P w = .ok .skip w' ∧ St m w0 w' (ndv F G (L.set i.toNat x') :: ks) := by
  have hp : St m w0 w (ndv F G L :: ks) := hs.pick sp
  have hl := hp.vopn.1
  have h2 := hp.vfocus g0 z0 h0 h1
  unfold NV.node at h2
  rw [hm] at h2
  obtain ⟨w', e1, e2⟩ := er_storeE (K := K') (f := 0) (x' := e') (T := T) (ty := ty) (pos := pos) (aft := aft) (g := g') (P := P) h2 (.c (split_none _)) j0 j1 hf hx hy hu hsz (by rw [hk1]; rfl) (by
    rw [he]
    have h5 : (K'.enc (K'.at xs j)).length = 1 := by rw [K'.len, hk1]
    obtain ⟨q, hq⟩ := List.length_eq_one_iff.1 h5
    rw [hq]; rfl)
  refine ⟨w', e1, St.vunfocus h0 h1 hl g0 rfl ?_⟩
  unfold NV.node
  rw [hm']
  exact e2
end Go.Sx
