/- The pieces of a global log for a region: the plain law. -/
import Derived.Test.YteehongibjkjlaaCopyp
import Derived.Test.YteehongibjkjlaaFili
set_option linter.unusedVariables false
set_option linter.unusedSimpArgs false
namespace Go.Proofs.Yteehongibjkjlaa
open Go.RowKit Classical
/-- The order at place i is a piece for region g. -/
def PcOk (g : Int) (log : List Order) (i : Nat) : Prop := FirstG log i ∧ ∃ o, log[i]? = some o ∧ g ∈ homes o
noncomputable def idx (g : Int) (log : List Order) (n : Nat) : List Nat := (List.range n).filter fun i => decide (PcOk g log i)
/-- x is the piece of place j. -/
def PcAt (log : List Order) (j : Nat) (x : Item) : Prop := x.f_Kind = 2 ∧ x.f_Index = (j : Int) ∧ ∃ o, log[j]? = some o ∧ SameO x.ord o
structure PcsOf (g : Int) (log : List Order) (n : Nat) (ps : List Item) : Prop where
  len : ps.length = (idx g log n).length
  pl : ∀ (k : Nat) x j, ps[k]? = some x → (idx g log n)[k]? = some j → PcAt log j x
theorem idx_succ (g : Int) (log : List Order) (n : Nat) : idx g log (n + 1) = if PcOk g log n then idx g log n ++ [n] else idx g log n := by
  unfold idx
  rw [List.range_succ, List.filter_append]
  by_cases h : PcOk g log n
  · rw [if_pos h]; simp [h]
  · rw [if_neg h]; simp [h]
theorem mem_idx_ {g : Int} {log : List Order} {n j : Nat} : j ∈ idx g log n ↔ j < n ∧ PcOk g log j := by unfold idx; simp
theorem idx_srt (g : Int) (log : List Order) (n : Nat) : (idx g log n).Pairwise (· < ·) := List.Pairwise.filter _ List.pairwise_lt_range
theorem idx_le (g : Int) (log : List Order) (n : Nat) : (idx g log n).length ≤ n := by
  have := List.length_filter_le (fun i => decide (PcOk g log i)) (List.range n)
  rw [List.length_range] at this; exact this
theorem pcs_0 (g : Int) (log : List Order) : PcsOf g log 0 [] := ⟨rfl, fun k x j h => by cases h⟩
theorem pcs_no {g : Int} {log : List Order} {n : Nat} {ps : List Item} (h : PcsOf g log n ps) (hn : ¬ PcOk g log n) : PcsOf g log (n + 1) ps := by
  refine ⟨?_, fun k x j => ?_⟩ <;> rw [idx_succ, if_neg hn]
  · exact h.len
  · exact h.pl k x j
theorem pcs_on {g : Int} {log : List Order} {n : Nat} {ps : List Item} {x : Item} (h : PcsOf g log n ps) (hn : PcOk g log n) (hx : PcAt log n x) : PcsOf g log (n + 1) (ps ++ [x]) := by
  refine ⟨?_, fun k y j => ?_⟩ <;> rw [idx_succ, if_pos hn]
  · simp [h.len]
  · intro hy hj
    by_cases hk : k < ps.length
    · rw [List.getElem?_append_left hk] at hy
      rw [List.getElem?_append_left (by rw [← h.len]; exact hk)] at hj
      exact h.pl k y j hy hj
    · rw [List.getElem?_append_right (by omega)] at hy
      rw [List.getElem?_append_right (by rw [← h.len]; omega)] at hj
      rw [← h.len] at hj
      have e : k - ps.length = 0 := by
        have := (List.getElem?_eq_some_iff.1 hy).1; simp at this; omega
      rw [e] at hy hj
      simp at hy hj
      subst hy; subst hj; exact hx
theorem PcsOf.mem {g : Int} {log : List Order} {n : Nat} {ps : List Item} (h : PcsOf g log n ps) {k : Nat} {x : Item} (hx : ps[k]? = some x) : ∃ j, (idx g log n)[k]? = some j ∧ PcAt log j x ∧ j < n ∧ PcOk g log j := by
  have hk := (List.getElem?_eq_some_iff.1 hx).1
  obtain ⟨j, hj⟩ : ∃ j, (idx g log n)[k]? = some j := ⟨_, List.getElem?_eq_getElem (by rw [← h.len]; exact hk)⟩
  have hm := mem_idx_.1 (List.mem_of_getElem? hj)
  exact ⟨j, hj, h.pl k x j hx hj, hm.1, hm.2⟩
/-! ### Items that are one -/
def SameI (x y : Item) : Prop := x.f_Kind = y.f_Kind ∧ x.f_Index = y.f_Index ∧ SameO x.ord y.ord
def SameIs (xs ys : List Item) : Prop := xs.length = ys.length ∧ ∀ (k : Nat) x y, xs[k]? = some x → ys[k]? = some y → SameI x y
theorem sameI_refl (x : Item) : SameI x x := ⟨rfl, rfl, sameO_refl _⟩
theorem pcAt_same {log : List Order} {j : Nat} {x y : Item} (h : PcAt log j x) (k : PcAt log j y) : SameI x y := by
  obtain ⟨h1, h2, o, h3, h4⟩ := h
  obtain ⟨k1, k2, o', k3, k4⟩ := k
  rw [h3] at k3; cases k3
  exact ⟨by rw [h1, k1], by rw [h2, k2], sameO_trans h4 (sameO_symm k4)⟩
theorem pcs_same {g : Int} {log : List Order} {n : Nat} {ps qs : List Item} (h : PcsOf g log n ps) (k : PcsOf g log n qs) : SameIs ps qs := ⟨by rw [h.len, k.len], fun i x y hx hy => by
  obtain ⟨j, hj, hp, _, _⟩ := h.mem hx
  exact pcAt_same hp (k.pl i y j hy hj)⟩
def SameTo (xs ys : List Item) (i : Nat) : Prop := ∀ (k : Nat) x y, k < i → xs[k]? = some x → ys[k]? = some y → SameI x y
theorem sameTo_on {xs ys : List Item} {i : Nat} {x y : Item} (h : SameTo xs ys i) (hx : xs[((i : Int)).toNat]? = some x) (hy : ys[((i : Int)).toNat]? = some y) (e : SameI x y) : SameTo xs ys (i + 1) := fun k a b hk ha hb => by
  have hx' : xs[i]? = some x := hx
  have hy' : ys[i]? = some y := hy
  by_cases hji : k < i
  · exact h k a b hji ha hb
  · obtain rfl : k = i := by omega
    rw [hx'] at ha; rw [hy'] at hb; cases ha; cases hb; exact e
/-! ### Memory of items -/
def itsM (ps : List Item) : Res := stars (ps.map fun x => ordM x.ord)
def ItsLen (ps : List Item) : Prop := ∀ x ∈ ps, OrdLen x.ord
theorem itsM_R {W : World} {L : List Res} {ps : List Item} (hl : ItsLen ps) (i : Nat) (h : L[i]? = some (itsM ps)) : ∀ x ∈ ps, OrdR W L x.ord := fun x hx => by
  obtain ⟨s, t, e⟩ := List.append_of_mem (List.mem_map.2 ⟨x, hx, rfl⟩ : ordM x.ord ∈ ps.map fun x => ordM x.ord)
  obtain ⟨s', t', e'⟩ := List.append_of_mem (List.mem_of_getElem? h)
  refine OrdR.in (ordM_0 (L := s ++ t ++ (s' ++ t')) (hl x hx)) fun w S => ?_
  have S1 : Sat W w (itsM ps :: (s' ++ t')) := S.perm (by rw [e']; exact List.perm_middle)
  have S2 := S1.flat
  rw [e] at S2
  refine S2.perm ?_
  rw [List.append_assoc, List.append_assoc]
  exact List.perm_middle
theorem itsM_snoc {W w : World} {L : List Res} {ps : List Item} {x : Item} (S : Sat W w (ordM x.ord :: itsM ps :: L)) : Sat W w (itsM (ps ++ [x]) :: L) := by
  have h := S.stars_snoc
  unfold itsM
  rw [List.map_append]; exact h
theorem itsM_nil {W w : World} {L : List Res} (S : Sat W w L) : Sat W w (itsM [] :: L) := S.stars_nil
theorem itsLen_snoc {ps : List Item} {x : Item} (h : ItsLen ps) (hx : OrdLen x.ord) : ItsLen (ps ++ [x]) := fun y hy => by
  rcases List.mem_append.1 hy with hy | hy
  · exact h y hy
  · rw [List.mem_singleton.1 hy]; exact hx
/-! ### What the iterator tells -/
structure OkP (g : Int) (log : List Order) (ps : List Item) : Prop where
  pcs : ∃ n, n ≤ log.length ∧ PcsOf g log n ps
  len : ItsLen ps
def DnP (g : Int) (log : List Order) (ps : List Item) : Prop := PcsOf g log log.length ps ∧ ItsLen ps
theorem vw_stay {log : List Order} {i : Nat} {o : Order} (hx : log[((i : Int)).toNat]? = some o) : log.take (i + 1) = log.take i ++ [o] := by
  have hx' : log[i]? = some o := hx
  rw [List.take_add_one, hx']; rfl
theorem pc_not1 {g : Int} {log : List Order} {i : Nat} (h : ¬ FirstG log i) : ¬ PcOk g log i := fun h9 => h h9.1
theorem pc_not2 {g : Int} {log : List Order} {i : Nat} {o : Order} (hx : log[((i : Int)).toNat]? = some o) (h : ¬ g ∈ homes o) : ¬ PcOk g log i := fun h9 => by
  obtain ⟨_, o', h1, h2⟩ := h9
  have hx' : log[i]? = some o := hx
  rw [hx'] at h1; cases h1; exact h h2
theorem pc_yes {g : Int} {log : List Order} {i : Nat} {o : Order} (hx : log[((i : Int)).toNat]? = some o) (h : FirstG log i) (h2 : g ∈ homes o) : PcOk g log i := ⟨h, o, hx, h2⟩
/-! ### The next piece -/
abbrev zItem : Item := ⟨0, 0, 0, 0, 0, 0, 0, ⟨none, [], 0⟩, ⟨none, [], 0⟩, ⟨none, [], 0⟩, 0, ⟨none, [], 0⟩⟩
def NextIs (g : Int) (log : List Order) (last : Int) (x : Item) : Prop := ∃ j, j < log.length ∧ PcOk g log j ∧ PcAt log j x ∧ last < (j : Int) ∧ ∀ i, i < j → PcOk g log i → (i : Int) ≤ last
def NoNext (g : Int) (log : List Order) (last : Int) : Prop := ∀ j, j < log.length → PcOk g log j → (j : Int) ≤ last
theorem idx_before {g : Int} {log : List Order} {n k i j : Nat} (hj : (idx g log n)[k]? = some j) (hi : i < j) (hp : PcOk g log i) : ∃ k', k' < k ∧ (idx g log n)[k']? = some i := by
  have hjn := (mem_idx_.1 (List.mem_of_getElem? hj)).1
  obtain ⟨k', hk', e⟩ := List.mem_iff_getElem.1 (mem_idx_.2 ⟨by omega, hp⟩ : i ∈ idx g log n)
  refine ⟨k', ?_, by rw [List.getElem?_eq_getElem hk', e]⟩
  obtain ⟨hk, ej⟩ := List.getElem?_eq_some_iff.1 hj
  have hs := List.pairwise_iff_getElem.1 (idx_srt g log n)
  rcases Nat.lt_trichotomy k' k with h | h | h
  · exact h
  · subst h; omega
  · have := hs k k' hk hk' h; omega
theorem next_is {g : Int} {log : List Order} {n : Nat} {last : Int} {ps : List Item} {k : Nat} {x : Item} (hn : n ≤ log.length) (h : PcsOf g log n ps) (hx : ps[k]? = some x) (hl : ∀ i y, i < k → ps[i]? = some y → y.f_Index ≤ last) (h1 : last < x.f_Index) : NextIs g log last x := by
  obtain ⟨j, hj, hp, hjn, hok⟩ := h.mem hx
  refine ⟨j, by omega, hok, hp, by rw [← hp.2.1]; exact h1, fun i hi hpi => ?_⟩
  obtain ⟨k', hk', e⟩ := idx_before hj hi hpi
  have hlen := (List.getElem?_eq_some_iff.1 hx).1
  have hy := List.getElem?_eq_getElem (show k' < ps.length by omega)
  have h2 := hl k' _ hk' hy
  rw [(h.pl k' _ i hy e).2.1] at h2
  exact h2
theorem no_next {g : Int} {log : List Order} {last : Int} {ps : List Item} (h : PcsOf g log log.length ps) (hl : ∀ y ∈ ps, y.f_Index ≤ last) : NoNext g log last := fun j hj hp => by
  obtain ⟨k, hk, e⟩ := List.mem_iff_getElem.1 (mem_idx_.2 ⟨hj, hp⟩ : j ∈ idx g log log.length)
  have hy := List.getElem?_eq_getElem (show k < ps.length by rw [h.len]; exact hk)
  have h2 := hl _ (List.mem_of_getElem? hy)
  rw [(h.pl k _ j hy (by rw [List.getElem?_eq_getElem hk, e])).2.1] at h2
  exact h2
theorem next_uniq {g : Int} {log : List Order} {last : Int} {x y : Item} (h : NextIs g log last x) (k : NextIs g log last y) : SameI x y := by
  obtain ⟨j, h1, h2, h3, h4, h5⟩ := h
  obtain ⟨i, k1, k2, k3, k4, k5⟩ := k
  have e : i = j := by
    rcases Nat.lt_trichotomy i j with q | q | q
    · have := h5 i q k2; omega
    · exact q
    · have := k5 j q h2; omega
  subst e
  exact pcAt_same h3 k3
theorem next_not {g : Int} {log : List Order} {last : Int} {x : Item} (h : NextIs g log last x) : ¬ NoNext g log last := fun k => by
  obtain ⟨j, h1, h2, h3, h4, h5⟩ := h
  have := k j h1 h2; omega
theorem ordM_zero {W w : World} {L : List Res} (S : Sat W w L) : Sat W w (ordM zItem.ord :: L) := by
  refine Sat.unflat (Ls := [txM zItem.ord.txn, vrow e_Mark zItem.ord.f_Marks]) ?_
  have S1 : Sat W w (vrow e_Mark ⟨none, [], 0⟩ :: L) := S.own_nil
  have S2 : Sat W w (stars [] :: vrow e_Mark ⟨none, [], 0⟩ :: L) := S1.stars_nil
  have S3 : Sat W w (vrow e_Op ⟨none, [], 0⟩ :: stars [] :: vrow e_Mark ⟨none, [], 0⟩ :: L) := S2.own_nil
  have S4 : Sat W w (vrow e_S ⟨none, [], 0⟩ :: vrow e_Op ⟨none, [], 0⟩ :: stars [] :: vrow e_Mark ⟨none, [], 0⟩ :: L) := S3.own_nil
  have S5 : Sat W w (vrow e_S ⟨none, [], 0⟩ :: vrow e_S ⟨none, [], 0⟩ :: vrow e_Op ⟨none, [], 0⟩ :: stars [] :: vrow e_Mark ⟨none, [], 0⟩ :: L) := S4.own_nil
  exact Sat.unflat (Ls := txL zItem.ord.txn) S5
theorem zItem_len : OrdLen zItem.ord := ⟨by simp, ⟨by simp, by simp, by simp, fun o ho => by cases ho⟩⟩
end Go.Proofs.Yteehongibjkjlaa
