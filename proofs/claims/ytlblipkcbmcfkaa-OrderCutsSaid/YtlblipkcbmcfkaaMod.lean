/- Transactions: the plain law. -/
import Derived.Test.YtlblipkcbmcfkaaTy
import Derived.Test.YtlblipkcbmcfkaaMany
set_option linter.unusedVariables false
set_option linter.unusedSimpArgs false
namespace Go.Proofs.Ytlblipkcbmcfkaa
open Go.RowKit Classical
def Short (xs : List ByteArray) (i : Nat) : Prop := ∀ j x, j < i → xs[j]? = some x → 1 ≤ x.size ∧ x.size ≤ 16
def Rises (xs : List ByteArray) (i : Nat) : Prop := ∀ j x y, j + 1 < i → xs[j]? = some x → xs[j + 1]? = some y → slt x y = true
theorem short_0 {xs : List ByteArray} : Short xs 0 := fun j x h => absurd h (by omega)
theorem rises_0 {xs : List ByteArray} {i : Nat} (h : i ≤ 1) : Rises xs i := fun j x y h1 => absurd h1 (by omega)
theorem short_on {xs : List ByteArray} {i : Nat} {x : ByteArray} (h : Short xs i) (hx : xs[i]? = some x) (h1 : 1 ≤ x.size) (h2 : x.size ≤ 16) : Short xs (i + 1) := fun j y hj hy => by
  by_cases hji : j < i
  · exact h j y hji hy
  · obtain rfl : j = i := by omega
    rw [hx] at hy; cases hy; exact ⟨h1, h2⟩
theorem rises_on {xs : List ByteArray} {i : Nat} {x y : ByteArray} (h : Rises xs (i + 1)) (hx : xs[i]? = some x) (hy : xs[i + 1]? = some y) (h1 : slt x y = true) : Rises xs (i + 2) := fun j a b hj ha hb => by
  by_cases hji : j + 1 < i + 1
  · exact h j a b hji ha hb
  · obtain rfl : j = i := by omega
    rw [hx] at ha; rw [hy] at hb; cases ha; cases hb; exact h1
theorem rises_1 {xs : List ByteArray} (h : Rises xs 0) : Rises xs 1 := rises_0 (Nat.le_refl _)
def KeysOk (xs : List ByteArray) : Prop := Short xs xs.length ∧ Rises xs xs.length
/-- declared -/
def Declared (t : Txn) : Prop := t.f_Reads.xs.length ≤ 8 ∧ t.f_Writes.xs.length + t.f_Reads.xs.length ≤ 8 ∧ KeysOk t.f_Reads.xs ∧ KeysOk t.f_Writes.xs ∧ ¬ ∃ k ∈ t.f_Reads.xs, k ∈ t.f_Writes.xs
def StepOk (t : Txn) (o : Op) : Prop := o.f_Value.xs.length ≤ 32 ∧ (o.f_N = 0 ∨ o.f_Kind = 6) ∧
  ((o.f_Kind = 2 ∧ o.f_Key ∈ t.f_Writes.xs) ∨ ((o.f_Kind = 3 ∨ o.f_Kind = 6) ∧ o.f_Key ∈ t.f_Writes.xs ∧ o.f_Value.xs.length = 0) ∨ (o.f_Kind = 4 ∧ (o.f_Key ∈ t.f_Writes.xs ∨ o.f_Key ∈ t.f_Reads.xs)) ∨
    ((o.f_Kind = 1 ∨ o.f_Kind = 5) ∧ (o.f_Key ∈ t.f_Writes.xs ∨ o.f_Key ∈ t.f_Reads.xs) ∧ o.f_Value.xs.length = 0) ∨ (o.f_Kind = 7 ∧ o.f_Key = ByteArray.empty))
def ChkOk (t : Txn) (r : Int) : Prop := 1 ≤ r ∧ r ≤ 3 ∧ Declared t ∧
  ((t.f_Kind = 1 ∧ t.f_To = 0 ∧ t.f_Ops.xs.length ≤ 16 ∧ ¬ ∃ o ∈ t.f_Ops.xs, ¬ StepOk t o) ∨ (t.f_Kind = 2 ∧ t.f_Reads.xs.length = 0 ∧ t.f_Ops.xs.length = 0 ∧ t.f_Writes.xs.length = 1 ∧ 0 ≤ t.f_To ∧ t.f_To < r))
noncomputable def chkN (t : Txn) (r : Int) : Int := if ChkOk t r then 0 else 1
/-- the document's -/
def OpOk (t : Txn) (o : Op) : Prop := o.f_Value.xs.length ≤ 32 ∧ 1 ≤ o.f_Kind ∧ o.f_Kind ≤ 7 ∧
  ((o.f_Kind = 7 ∧ o.f_Key = ByteArray.empty ∧ o.f_N = 0) ∨ (o.f_Kind ≠ 7 ∧ (o.f_Key ∈ t.f_Writes.xs ∨ (o.f_Key ∈ t.f_Reads.xs ∧ o.f_Kind ≠ 2 ∧ o.f_Kind ≠ 3 ∧ o.f_Kind ≠ 6)) ∧ (o.f_Kind = 6 ∨ o.f_N = 0) ∧ (o.f_Kind = 2 ∨ o.f_Kind = 4 ∨ o.f_Value.xs.length = 0)))
def AllKeys (t : Txn) (i : Nat) : Prop := ∀ j x, j < i → (t.f_Reads.xs ++ t.f_Writes.xs)[j]? = some x → 1 ≤ x.size ∧ x.size ≤ 16 ∧ (j < t.f_Reads.xs.length → ¬ x ∈ t.f_Writes.xs)
def OpsTo (t : Txn) (i : Nat) : Prop := ∀ j o, j < i → t.f_Ops.xs[j]? = some o → OpOk t o
def RightOk (t : Txn) (r : Int) : Prop := 1 ≤ r ∧ r ≤ 3 ∧ Rises t.f_Reads.xs t.f_Reads.xs.length ∧ Rises t.f_Writes.xs t.f_Writes.xs.length ∧ t.f_Reads.xs.length ≤ 8 ∧ t.f_Writes.xs.length ≤ 8 ∧ t.f_Reads.xs.length + t.f_Writes.xs.length ≤ 8 ∧
  AllKeys t (t.f_Reads.xs.length + t.f_Writes.xs.length) ∧
  ((t.f_Kind = 2 ∧ t.f_Reads.xs.length = 0 ∧ t.f_Ops.xs.length = 0 ∧ t.f_Writes.xs.length = 1 ∧ 0 ≤ t.f_To ∧ t.f_To < r) ∨ (t.f_Kind = 1 ∧ t.f_To = 0 ∧ t.f_Ops.xs.length ≤ 16 ∧ OpsTo t t.f_Ops.xs.length))
theorem allKeys_on {t : Txn} {i : Nat} {x : ByteArray} (h : AllKeys t i) (hx : (t.f_Reads.xs ++ t.f_Writes.xs)[i]? = some x) (h1 : 1 ≤ x.size) (h2 : x.size ≤ 16) (h3 : i < t.f_Reads.xs.length → ¬ x ∈ t.f_Writes.xs) : AllKeys t (i + 1) := fun j y hj hy => by
  by_cases hji : j < i
  · exact h j y hji hy
  · obtain rfl : j = i := by omega
    rw [hx] at hy; cases hy; exact ⟨h1, h2, h3⟩
theorem opsTo_on {t : Txn} {i : Nat} {o : Op} (h : OpsTo t i) (hx : t.f_Ops.xs[i]? = some o) (h1 : OpOk t o) : OpsTo t (i + 1) := fun j y hj hy => by
  by_cases hji : j < i
  · exact h j y hji hy
  · obtain rfl : j = i := by omega
    rw [hx] at hy; cases hy; exact h1
theorem opOk_iff (t : Txn) (o : Op) : OpOk t o ↔ StepOk t o := by
  unfold OpOk StepOk
  by_cases h1 : o.f_Kind = 1 <;> by_cases h2 : o.f_Kind = 2 <;> by_cases h3 : o.f_Kind = 3 <;> by_cases h4 : o.f_Kind = 4 <;> by_cases h5 : o.f_Kind = 5 <;> by_cases h6 : o.f_Kind = 6 <;> by_cases h7 : o.f_Kind = 7 <;>
    first
    | (exfalso; omega)
    | (constructor
       · rintro ⟨a, b, c, d⟩; grind
       · rintro ⟨a, b, c⟩; grind)
theorem right_iff (t : Txn) (r : Int) : RightOk t r ↔ ChkOk t r := by
  constructor
  · rintro ⟨a, b, c, d, e, f, g, h, i⟩
    have hs : KeysOk t.f_Reads.xs ∧ KeysOk t.f_Writes.xs ∧ ¬ ∃ k ∈ t.f_Reads.xs, k ∈ t.f_Writes.xs := by
      refine ⟨⟨fun j x hj hx => ?_, c⟩, ⟨fun j x hj hx => ?_, d⟩, ?_⟩
      · have := h j x (by omega) (by rw [List.getElem?_append_left hj]; exact hx); exact ⟨this.1, this.2.1⟩
      · have := h (t.f_Reads.xs.length + j) x (by omega) (by rw [List.getElem?_append_right (by omega), Nat.add_sub_cancel_left]; exact hx); exact ⟨this.1, this.2.1⟩
      · rintro ⟨k, hk1, hk2⟩
        obtain ⟨j, hj, rfl⟩ := List.mem_iff_getElem.1 hk1
        exact (h j _ (by omega) (by rw [List.getElem?_append_left hj]; exact List.getElem?_eq_getElem hj)).2.2 hj hk2
    refine ⟨a, b, ⟨e, by omega, hs.1, hs.2.1, hs.2.2⟩, ?_⟩
    rcases i with i | ⟨i1, i2, i3, i4⟩
    · exact .inr i
    · refine .inl ⟨i1, i2, i3, ?_⟩
      rintro ⟨o, ho, hn⟩
      obtain ⟨j, hj, rfl⟩ := List.mem_iff_getElem.1 ho
      exact hn ((opOk_iff t _).1 (i4 j _ hj (List.getElem?_eq_getElem hj)))
  · rintro ⟨a, b, ⟨c1, c2, ⟨c3, c4⟩, ⟨c5, c6⟩, c7⟩, d⟩
    refine ⟨a, b, c4, c6, c1, by omega, by omega, fun j x hj hx => ?_, ?_⟩
    · by_cases hjr : j < t.f_Reads.xs.length
      · rw [List.getElem?_append_left hjr] at hx
        have := c3 j x hjr hx
        exact ⟨this.1, this.2, fun _ hm => c7 ⟨x, List.mem_of_getElem? hx, hm⟩⟩
      · rw [List.getElem?_append_right (by omega)] at hx
        have := c5 _ x (by omega) hx
        exact ⟨this.1, this.2, fun h9 => absurd h9 hjr⟩
    · rcases d with ⟨d1, d2, d3, d4⟩ | d
      · exact .inr ⟨d1, d2, d3, fun j o hj ho => (opOk_iff t o).2 (Classical.byContradiction fun hn => d4 ⟨o, List.mem_of_getElem? ho, hn⟩)⟩
      · exact .inl d
/-- one and the same -/
def SameOp (x y : Op) : Prop := x.f_Kind = y.f_Kind ∧ x.f_Key = y.f_Key ∧ x.f_N = y.f_N ∧ x.f_Value.xs = y.f_Value.xs
def SameOps (xs ys : List Op) (i : Nat) : Prop := ∀ j x y, j < i → xs[j]? = some x → ys[j]? = some y → SameOp x y
def SameT (a b : Txn) : Prop := a.f_Kind = b.f_Kind ∧ a.f_To = b.f_To ∧ a.f_Reads.xs = b.f_Reads.xs ∧ a.f_Writes.xs = b.f_Writes.xs ∧ a.f_Ops.xs.length = b.f_Ops.xs.length ∧ SameOps a.f_Ops.xs b.f_Ops.xs a.f_Ops.xs.length
theorem sameOps_0 {xs ys : List Op} : SameOps xs ys 0 := fun j x y h => absurd h (by omega)
theorem sameOps_on {xs ys : List Op} {i : Nat} {x y : Op} (h : SameOps xs ys i) (hx : xs[i]? = some x) (hy : ys[i]? = some y) (h1 : SameOp x y) : SameOps xs ys (i + 1) := fun j a b hj ha hb => by
  by_cases hji : j < i
  · exact h j a b hji ha hb
  · obtain rfl : j = i := by omega
    rw [hx] at ha; rw [hy] at hb; cases ha; cases hb; exact h1
theorem sameOps_not {xs ys : List Op} {i n : Nat} {x y : Op} (hi : i < n) (hx : xs[i]? = some x) (hy : ys[i]? = some y) (h1 : ¬ SameOp x y) : ¬ SameOps xs ys n := fun h => h1 (h i x y hi hx hy)
theorem chk_same {a b : Txn} (h : SameT a b) (r : Int) : ChkOk a r ↔ ChkOk b r := by
  obtain ⟨h1, h2, h3, h4, h5, h6⟩ := h
  have hd : Declared a ↔ Declared b := by unfold Declared; rw [h3, h4]
  have hst : ∀ x y, SameOp x y → (StepOk a x ↔ StepOk b y) := fun x y ⟨e1, e2, e3, e4⟩ => by unfold StepOk; rw [e1, e2, e3, e4, h3, h4]
  have ho : (∃ o ∈ a.f_Ops.xs, ¬ StepOk a o) ↔ ∃ o ∈ b.f_Ops.xs, ¬ StepOk b o := by
    constructor
    · rintro ⟨o, ho, hn⟩
      obtain ⟨j, hj, rfl⟩ := List.mem_iff_getElem.1 ho
      refine ⟨b.f_Ops.xs[j], List.getElem_mem _, fun h9 => hn ((hst _ _ (h6 j _ _ hj (List.getElem?_eq_getElem hj) (List.getElem?_eq_getElem (by omega)))).2 h9)⟩
    · rintro ⟨o, ho, hn⟩
      obtain ⟨j, hj, rfl⟩ := List.mem_iff_getElem.1 ho
      refine ⟨a.f_Ops.xs[j], List.getElem_mem _, fun h9 => hn ((hst _ _ (h6 j _ _ (by omega) (List.getElem?_eq_getElem (by omega)) (List.getElem?_eq_getElem hj))).1 h9)⟩
  unfold ChkOk
  rw [h1, h2, h3, h4, h5, hd, ho]
structure TxLen (t : Txn) : Prop where
  lr : t.f_Reads.xs.length ≤ 9223372036854775807
  lw : t.f_Writes.xs.length ≤ 9223372036854775807
  lo : t.f_Ops.xs.length ≤ 9223372036854775807
  lv : ∀ o ∈ t.f_Ops.xs, o.f_Value.xs.length ≤ 9223372036854775807
theorem TxLen.same {a b : Txn} (h : TxLen b) (hs : SameT a b) : TxLen a := by
  obtain ⟨h1, h2, h3, h4, h5, h6⟩ := hs
  refine ⟨by rw [h3]; exact h.lr, by rw [h4]; exact h.lw, by rw [h5]; exact h.lo, fun o ho => ?_⟩
  obtain ⟨j, hj, rfl⟩ := List.mem_iff_getElem.1 ho
  have h9 := h6 j _ _ hj (List.getElem?_eq_getElem hj) (List.getElem?_eq_getElem (show j < b.f_Ops.xs.length by omega))
  rw [h9.2.2.2]
  exact h.lv _ (List.getElem_mem _)
/-- What can be read of a transaction. -/
structure TxR (W : World) (L : List Res) (t : Txn) : Prop where
  rr : RdS W L e_S t.f_Reads.a t.f_Reads.xs
  rw : RdS W L e_S t.f_Writes.a t.f_Writes.xs
  ro : RdS W L e_Op t.f_Ops.a t.f_Ops.xs
  rv : ∀ o ∈ t.f_Ops.xs, RdS W L e8 o.f_Value.a o.f_Value.xs
  len : TxLen t
theorem TxR.c {W : World} {L : List Res} {t : Txn} {A : Res} (h : TxR W L t) : TxR W (A :: L) t := ⟨rds_c h.rr, rds_c h.rw, rds_c h.ro, fun o ho => rds_c (h.rv o ho), h.len⟩
/-- A transaction in memory of its own. -/
def txL (t : Txn) : List Res := [vrow e_S t.f_Reads, vrow e_S t.f_Writes, vrow e_Op t.f_Ops, stars ((t.f_Ops.xs.map Op.f_Value).map (vrow e8))]
def txM (t : Txn) : Res := stars (txL t)
theorem txM_R {W : World} {L : List Res} {t : Txn} (hl : TxLen t) (i : Nat) (h : L[i]? = some (txM t)) : TxR W L t where
  rr := rds_stars e_S_ok i h (List.mem_cons_self ..)
  rw := rds_stars e_S_ok i h (List.mem_cons_of_mem _ (List.mem_cons_self ..))
  ro := rds_stars e_Op_ok i h (List.mem_cons_of_mem _ (List.mem_cons_of_mem _ (List.mem_cons_self ..)))
  rv := fun o ho => fun w S hne => by
    obtain ⟨L1, S1⟩ := mem_front (List.mem_of_getElem? h) S
    obtain ⟨L2, S2⟩ := S1.stars_mem (show stars ((t.f_Ops.xs.map Op.f_Value).map (vrow e8)) ∈ txL t by simp [txL])
    exact rds_vrow e8_ok 0 rfl (List.mem_map.2 ⟨o, ho, rfl⟩) w S2 hne
  len := hl
/-- not more than is looked at -/
def Texts (xs : List ByteArray) (i : Nat) : Prop := ∀ j x, j < i → xs[j]? = some x → x.size ≤ 200
def OpsS (xs : List Op) (i : Nat) : Prop := ∀ j x, j < i → xs[j]? = some x → x.f_Key.size ≤ 200 ∧ x.f_Value.xs.length ≤ 200
structure Smalls (t : Txn) : Prop where
  r : t.f_Reads.xs.length ≤ 40
  w : t.f_Writes.xs.length ≤ 40
  o : t.f_Ops.xs.length ≤ 60
  tr : Texts t.f_Reads.xs t.f_Reads.xs.length
  tw : Texts t.f_Writes.xs t.f_Writes.xs.length
  os : OpsS t.f_Ops.xs t.f_Ops.xs.length
theorem texts_0 {xs : List ByteArray} : Texts xs 0 := fun j x h => absurd h (by omega)
theorem texts_on {xs : List ByteArray} {i : Nat} {x : ByteArray} (h : Texts xs i) (hx : xs[i]? = some x) (h1 : x.size ≤ 200) : Texts xs (i + 1) := fun j y hj hy => by
  by_cases hji : j < i
  · exact h j y hji hy
  · obtain rfl : j = i := by omega
    rw [hx] at hy; cases hy; exact h1
theorem opsS_0 {xs : List Op} : OpsS xs 0 := fun j x h => absurd h (by omega)
theorem opsS_on {xs : List Op} {i : Nat} {x : Op} (h : OpsS xs i) (hx : xs[i]? = some x) (h1 : x.f_Key.size ≤ 200) (h2 : x.f_Value.xs.length ≤ 200) : OpsS xs (i + 1) := fun j y hj hy => by
  by_cases hji : j < i
  · exact h j y hji hy
  · obtain rfl : j = i := by omega
    rw [hx] at hy; cases hy; exact ⟨h1, h2⟩
theorem Smalls.op {t : Txn} (h : Smalls t) {i : Nat} {x : Op} (hx : t.f_Ops.xs[i]? = some x) : x.f_Value.xs.length ≤ 200 := by
  obtain ⟨hj, _⟩ := List.getElem?_eq_some_iff.1 hx
  exact (h.os i x hj hx).2
theorem same_refl (t : Txn) : SameT t t := ⟨rfl, rfl, rfl, rfl, rfl, fun j x y _ hx hy => by rw [hx] at hy; cases hy; exact ⟨rfl, rfl, rfl, rfl⟩⟩
theorem chkN_same {a b : Txn} (h : SameT a b) (g : Int) : chkN a g = chkN b g := by
  unfold chkN
  by_cases hb : ChkOk b g
  · rw [if_pos hb, if_pos ((chk_same h g).2 hb)]
  · rw [if_neg hb, if_neg (fun h9 => hb ((chk_same h g).1 h9))]
theorem chkN_0 {a : Txn} {g : Int} : chkN a g = 0 ↔ ChkOk a g := by
  unfold chkN
  by_cases hb : ChkOk a g
  · rw [if_pos hb]; simp [hb]
  · rw [if_neg hb]; simp [hb]
theorem chkN_1 {a : Txn} {g : Int} (h : ¬ chkN a g = 0) : chkN a g = 1 := by
  unfold chkN at h ⊢
  by_cases hb : ChkOk a g
  · rw [if_pos hb] at h; exact absurd rfl h
  · rw [if_neg hb]
theorem vals_snoc {W w : World} {L : List Res} {os : List Op} {y : Op} (S : Sat W w (row e8.T e8.sz y.f_Value.a y.f_Value.xs.length y.f_Value.c (flat e8 y.f_Value.xs) :: stars ((os.map Op.f_Value).map (vrow e8)) :: L)) : Sat W w (stars (((os ++ [y]).map Op.f_Value).map (vrow e8)) :: L) := by
  rw [List.map_append, List.map_append]
  exact S.stars_snoc
theorem sameOp_refl (x : Op) : SameOp x x := ⟨rfl, rfl, rfl, rfl⟩
theorem sameOps_refl (xs : List Op) (n : Nat) : SameOps xs xs n := fun j x y _ hx hy => by rw [hx] at hy; cases hy; exact sameOp_refl _
theorem sameOps_set {os xs : List Op} {i n : Nat} {x y z : Op} (h : SameOps os xs n) (hx : os[i]? = some x) (hz : xs[i]? = some z) (h1 : SameOp y z) : SameOps (os.set i y) xs n := fun j a b hj ha hb => by
  by_cases hji : i = j
  · subst hji
    obtain ⟨hi, _⟩ := List.getElem?_eq_some_iff.1 hx
    rw [List.getElem?_set_self hi] at ha
    rw [hz] at hb; cases ha; cases hb; exact h1
  · rw [List.getElem?_set_ne hji] at ha
    exact h j a b hj ha hb
theorem take_set {α : Type} {os : List α} {i : Nat} {x y : α} (hx : os[i]? = some x) : (os.set i y).take (i + 1) = os.take i ++ [y] := by
  obtain ⟨hi, _⟩ := List.getElem?_eq_some_iff.1 hx
  rw [List.take_add_one, List.take_set_of_le (Nat.le_refl _), List.getElem?_set_self hi]; rfl
theorem vals_set {W w : World} {L : List Res} {os : List Op} {i : Nat} {x y : Op} (hx : os[i]? = some x) (S : Sat W w (row e8.T e8.sz y.f_Value.a y.f_Value.xs.length y.f_Value.c (flat e8 y.f_Value.xs) :: stars (((os.take i).map Op.f_Value).map (vrow e8)) :: L)) : Sat W w (stars ((((os.set i y).take (i + 1)).map Op.f_Value).map (vrow e8)) :: L) := by
  rw [take_set hx]
  exact vals_snoc S
theorem tail_set {α : Type} {os xs : List α} {i j : Nat} {x y : α} (h : ∀ j x, i ≤ j → os[j]? = some x → xs[j]? = some x) (hj : i + 1 ≤ j) (hx : (os.set ((i : Int)).toNat y)[j]? = some x) : xs[j]? = some x := by
  rw [Int.toNat_natCast, List.getElem?_set_ne (by omega)] at hx
  exact h j x (by omega) hx
theorem Smalls.same {a b : Txn} (h : Smalls b) (hs : SameT a b) : Smalls a := by
  obtain ⟨h1, h2, h3, h4, h5, h6⟩ := hs
  refine ⟨by rw [h3]; exact h.r, by rw [h4]; exact h.w, by rw [h5]; exact h.o, by rw [h3]; exact h.tr, by rw [h4]; exact h.tw, fun j x hj hx => ?_⟩
  have h9 := h6 j x _ hj hx (List.getElem?_eq_getElem (show j < b.f_Ops.xs.length by omega))
  have h10 := h.os j _ (by omega) (List.getElem?_eq_getElem (show j < b.f_Ops.xs.length by omega))
  rw [h9.2.1, h9.2.2.2]
  exact h10
theorem same_trans {a b c : Txn} (h : SameT a b) (k : SameT b c) : SameT a c := by
  obtain ⟨h1, h2, h3, h4, h5, h6⟩ := h
  obtain ⟨k1, k2, k3, k4, k5, k6⟩ := k
  refine ⟨h1.trans k1, h2.trans k2, h3.trans k3, h4.trans k4, h5.trans k5, fun j x z hj hx hz => ?_⟩
  have hy := List.getElem?_eq_getElem (show j < b.f_Ops.xs.length by omega)
  have e1 := h6 j x _ hj hx hy
  have e2 := k6 j _ z (by omega) hy hz
  exact ⟨e1.1.trans e2.1, e1.2.1.trans e2.2.1, e1.2.2.1.trans e2.2.2.1, e1.2.2.2.trans e2.2.2.2⟩
theorem vals_head {W w : World} {L : List Res} {os : List Op} {i : Nat} {x : Op} (hx : os[i]? = some x) (S : Sat W w (stars (((os.drop i).map Op.f_Value).map (vrow e8)) :: L)) : Sat W w (row e8.T e8.sz x.f_Value.a x.f_Value.xs.length x.f_Value.c (flat e8 x.f_Value.xs) :: stars (((os.drop (i + 1)).map Op.f_Value).map (vrow e8)) :: L) := by
  obtain ⟨hi, hg⟩ := List.getElem?_eq_some_iff.1 hx
  rw [List.drop_eq_getElem_cons hi, hg] at S
  exact S.stars_cons
end Go.Proofs.Ytlblipkcbmcfkaa
