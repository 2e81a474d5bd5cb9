/- Orders: what can be read of one, its homes, whether it is single. -/
import Derived.Test.YtlblipkcbmcfkaaTy
import Derived.Test.YtlblipkcbmcfkaaSort
set_option linter.unusedVariables false
set_option linter.unusedSimpArgs false
namespace Go.Proofs.Ytlblipkcbmcfkaa
open Go.RowKit Classical
/-- What can be read of an order. -/
structure OrdR (W : World) (L : List Res) (o : Order) : Prop where
  rm : RdS W L e_Mark o.f_Marks.a o.f_Marks.xs
  rr : RdS W L e_S o.f_Txn_Reads.a o.f_Txn_Reads.xs
  rw : RdS W L e_S o.f_Txn_Writes.a o.f_Txn_Writes.xs
  ro : RdS W L e_Op o.f_Txn_Ops.a o.f_Txn_Ops.xs
  rv : ∀ x ∈ o.f_Txn_Ops.xs, RdS W L e8 x.f_Value.a x.f_Value.xs
  lm : o.f_Marks.xs.length ≤ 9223372036854775807
  lr : o.f_Txn_Reads.xs.length ≤ 9223372036854775807
  lw : o.f_Txn_Writes.xs.length ≤ 9223372036854775807
  lo : o.f_Txn_Ops.xs.length ≤ 9223372036854775807
  lv : ∀ x ∈ o.f_Txn_Ops.xs, x.f_Value.xs.length ≤ 9223372036854775807
theorem OrdR.c {W : World} {L : List Res} {o : Order} {A : Res} (h : OrdR W L o) : OrdR W (A :: L) o := ⟨rds_c h.rm, rds_c h.rr, rds_c h.rw, rds_c h.ro, fun x hx => rds_c (h.rv x hx), h.lm, h.lr, h.lw, h.lo, h.lv⟩
noncomputable def homes (o : Order) : List Int := if o.f_Marks.xs = [] then [0] else setOf ilt (o.f_Marks.xs.map Mark.f_Home)
def single (o : Order) : Prop := o.f_Txn_Kind = 1 ∧ (homes o).length = 1
abbrev Order.tag (o : Order) : Tag := ⟨o.f_Tag_Id_Node, o.f_Tag_Id_Epoch, o.f_Tag_Id_Seq, o.f_Tag_Try⟩
theorem homes_nil {o : Order} (h : o.f_Marks.xs = []) : homes o = setOf ilt [0] := by unfold homes; rw [if_pos h]; rfl
theorem homes_ne {o : Order} (h : o.f_Marks.xs ≠ []) : homes o = setOf ilt (o.f_Marks.xs.map Mark.f_Home) := by unfold homes; rw [if_neg h]
theorem homes_len (o : Order) : (homes o).length ≤ o.f_Marks.xs.length + 1 := by
  unfold homes
  split
  · simp
  · have := setOf_le ilt_sto (o.f_Marks.xs.map Mark.f_Home)
    rw [List.length_map] at this; omega
theorem homes_srt (o : Order) : Srt id ilt (homes o) := by
  unfold homes
  split
  · exact List.pairwise_singleton _ _
  · exact setOf_srt ilt_sto _
theorem mem_homes {o : Order} {h : Int} : h ∈ homes o ↔ (o.f_Marks.xs = [] ∧ h = 0) ∨ ∃ m ∈ o.f_Marks.xs, m.f_Home = h := by
  unfold homes
  split
  · rename_i hn
    rw [hn]; simp
  · rename_i hn
    rw [setOf_mem ilt_sto, List.mem_map]
    constructor
    · exact .inr
    · rintro (⟨h1, _⟩ | h1)
      · exact absurd h1 hn
      · exact h1
theorem map_take_on {α β : Type} {f : α → β} {xs : List α} {ys : List β} {i : Nat} {x : α} (h : ys = (xs.take i).map f) (hx : xs[((i : Int)).toNat]? = some x) : ys ++ [f x] = (xs.take (i + 1)).map f := by
  have hx' : xs[i]? = some x := hx
  rw [h, List.take_add_one, hx']; simp
theorem known_on {α : Type} {xs : List α} {j : Nat} {x h : α} {kn : Bool} (hk : kn = true ↔ h ∈ xs.take j) (hx : xs[((j : Int)).toNat]? = some x) : (kn = true ∨ x = h) ↔ h ∈ xs.take (j + 1) := by
  have hx' : xs[j]? = some x := hx
  rw [List.take_add_one, hx', List.mem_append, ← hk]
  simp [eq_comm]
theorem homes_e {o : Order} (h : setOf ilt (o.f_Marks.xs.map Mark.f_Home) = []) : homes o = [0] := by
  unfold homes
  split
  · rfl
  · rename_i hn
    cases hm : o.f_Marks.xs with
    | nil => exact absurd hm hn
    | cons m ms =>
      have h6 : m.f_Home ∈ setOf ilt (o.f_Marks.xs.map Mark.f_Home) := (setOf_mem ilt_sto).2 (by rw [hm]; simp)
      rw [h] at h6; cases h6
theorem known_t {α : Type} {xs : List α} {j : Nat} {h : α} {kn : Bool} (hk : kn = true ↔ h ∈ xs.take j) (ht : kn = true) : true = true ↔ h ∈ xs.take (j + 1) := by
  have h1 := hk.1 ht
  refine ⟨fun _ => ?_, fun _ => rfl⟩
  rw [List.take_add_one]
  exact List.mem_append_left _ h1
theorem known_f {α : Type} {xs : List α} {j : Nat} {x h : α} {kn : Bool} {i : Decidable (x = h)} (hk : kn = true ↔ h ∈ xs.take j) (hf : kn = false) (hx : xs[((j : Int)).toNat]? = some x) : @decide (x = h) i = true ↔ h ∈ xs.take (j + 1) := by
  rw [decide_eq_true_eq, ← known_on hk hx, hf]; simp
theorem sTake_in {α β : Type} {lt : β → β → Prop} {f : α → β} (o : Sto lt) {xs : List α} {out : List β} {i : Nat} {x : α} (h : out = setOf lt ((xs.take i).map f)) (hx : xs[((i : Int)).toNat]? = some x) (hm : f x ∈ out) : out = setOf lt ((xs.take (i + 1)).map f) := by
  rw [← map_take_on rfl hx, setOf_snoc, ins_in o (setOf_srt o _) (by rw [← h]; exact hm)]; exact h
theorem sTake_on {α β : Type} {lt : β → β → Prop} {f : α → β} (o : Sto lt) {xs : List α} {out : List β} {i : Nat} {x : α} (h : out = setOf lt ((xs.take i).map f)) (hx : xs[((i : Int)).toNat]? = some x) : ins id lt (f x) out = setOf lt ((xs.take (i + 1)).map f) := by
  rw [← map_take_on rfl hx, setOf_snoc, ← h]
theorem ins_step' {α : Type} {lt : α → α → Prop} {out cur : List α} {x x1 y1 : α} {k : Nat} (h0 : 0 < k) (h : InsAt lt out x k cur) (hx : cur[((k : Int)).toNat]? = some x1) (hy : cur[((k : Int) - 1).toNat]? = some y1) (hl : lt x1 y1) : InsAt lt out x (k - 1) ((cur.set ((k : Int)).toNat y1).set ((k : Int) - 1).toNat x1) := by
  obtain ⟨j, rfl⟩ : ∃ j, k = j + 1 := ⟨k - 1, by omega⟩
  rw [show (((j + 1 : Nat) : Int) - 1).toNat = j by omega] at hy ⊢
  exact insAt_on h hx hy hl
theorem insAt_end' {α : Type} {lt : α → α → Prop} (o : Sto lt) {out cur : List α} {x x1 y1 : α} {k : Nat} (h : InsAt lt out x k cur) (hs : Srt id lt out) (hn : ¬ x ∈ out) (h0 : 0 < k) (hx : cur[((k : Int)).toNat]? = some x1) (hy : cur[((k : Int) - 1).toNat]? = some y1) (hl : ¬ lt x1 y1) : cur = ins id lt x out :=
  insAt_end o h hs hn (.inr ⟨x1, y1, hx, by rw [show ((k : Int) - 1).toNat = k - 1 by omega] at hy; exact hy, hl⟩)
theorem insAt_end0 {α : Type} {lt : α → α → Prop} (o : Sto lt) {out cur : List α} {x : α} {k : Nat} (h : InsAt lt out x k cur) (hs : Srt id lt out) (hn : ¬ x ∈ out) (h0 : k ≤ 0) : cur = ins id lt x out :=
  insAt_end o h hs hn (.inl (by omega))
/-- More than is looked at? -/
structure OSmall (o : Order) : Prop where
  r : o.f_Txn_Reads.xs.length ≤ 40
  w : o.f_Txn_Writes.xs.length ≤ 40
  ol : o.f_Txn_Ops.xs.length ≤ 60
  m : o.f_Marks.xs.length ≤ 60
  tr : ∀ x ∈ o.f_Txn_Reads.xs, x.size ≤ 200
  tw : ∀ x ∈ o.f_Txn_Writes.xs, x.size ≤ 200
  tm : ∀ x ∈ o.f_Marks.xs, x.f_Key.size ≤ 200
  os : ∀ x ∈ o.f_Txn_Ops.xs, x.f_Key.size ≤ 200 ∧ x.f_Value.xs.length ≤ 200
def UpTo {α : Type} (p : α → Prop) (xs : List α) (i : Nat) : Prop := ∀ j x, j < i → xs[j]? = some x → p x
theorem upTo_0 {α : Type} {p : α → Prop} {xs : List α} : UpTo p xs 0 := fun j x h => absurd h (by omega)
theorem upTo_on {α : Type} {p : α → Prop} {xs : List α} {i : Nat} {x : α} (h : UpTo p xs i) (hx : xs[((i : Int)).toNat]? = some x) (hp : p x) : UpTo p xs (i + 1) := fun j y hj hy => by
  have hx' : xs[i]? = some x := hx
  by_cases hji : j < i
  · exact h j y hji hy
  · obtain rfl : j = i := by omega
    rw [hx'] at hy; cases hy; exact hp
theorem upTo_all {α : Type} {p : α → Prop} {xs : List α} {i : Nat} (h : UpTo p xs i) (hi : xs.length ≤ i) : ∀ x ∈ xs, p x := fun x hx => by
  obtain ⟨j, hj, rfl⟩ := List.mem_iff_getElem.1 hx
  exact h j _ (by omega) (List.getElem?_eq_getElem hj)
end Go.Proofs.Ytlblipkcbmcfkaa
