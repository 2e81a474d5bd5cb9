/- Orders as transactions with marks: what is one with what, memory of one's own. -/
import Derived.Test.YtlblipkcbmcfkaaOrdp
import Derived.Test.YtlblipkcbmcfkaaMod
set_option linter.unusedVariables false
set_option linter.unusedSimpArgs false
namespace Go.Proofs.Ytlblipkcbmcfkaa
open Go.RowKit Classical
abbrev Order.txn (o : Order) : Txn := ⟨o.f_Txn_Kind, o.f_Txn_Reads, o.f_Txn_Writes, o.f_Txn_Ops, o.f_Txn_To⟩
def SameO (a b : Order) : Prop := a.tag = b.tag ∧ SameT a.txn b.txn ∧ a.f_Marks.xs = b.f_Marks.xs
theorem sameO_refl (a : Order) : SameO a a := ⟨rfl, same_refl _, rfl⟩
theorem sameT_symm {a b : Txn} (h : SameT a b) : SameT b a := by
  obtain ⟨h1, h2, h3, h4, h5, h6⟩ := h
  exact ⟨h1.symm, h2.symm, h3.symm, h4.symm, h5.symm, fun j x y hj hx hy => by
    obtain ⟨a1, a2, a3, a4⟩ := h6 j y x (by omega) hy hx
    exact ⟨a1.symm, a2.symm, a3.symm, a4.symm⟩⟩
theorem sameO_symm {a b : Order} (h : SameO a b) : SameO b a := ⟨h.1.symm, sameT_symm h.2.1, h.2.2.symm⟩
theorem sameO_trans {a b c : Order} (h : SameO a b) (k : SameO b c) : SameO a c := ⟨h.1.trans k.1, same_trans h.2.1 k.2.1, h.2.2.trans k.2.2⟩
theorem OrdR.txn {W : World} {L : List Res} {o : Order} (h : OrdR W L o) : TxR W L o.txn := ⟨h.rr, h.rw, h.ro, h.rv, ⟨h.lr, h.lw, h.lo, h.lv⟩⟩
structure OrdLen (o : Order) : Prop where
  m : o.f_Marks.xs.length ≤ 9223372036854775807
  t : TxLen o.txn
theorem OrdR.len {W : World} {L : List Res} {o : Order} (h : OrdR W L o) : OrdLen o := ⟨h.lm, ⟨h.lr, h.lw, h.lo, h.lv⟩⟩
theorem OrdLen.same {a b : Order} (h : OrdLen b) (hs : SameO a b) : OrdLen a := ⟨by rw [hs.2.2]; exact h.m, TxLen.same h.t hs.2.1⟩
theorem ordR_mk {W : World} {L : List Res} {o : Order} (h : TxR W L o.txn) (hm : RdS W L e_Mark o.f_Marks.a o.f_Marks.xs) (hl : o.f_Marks.xs.length ≤ 9223372036854775807) : OrdR W L o := ⟨hm, h.rr, h.rw, h.ro, h.rv, hl, h.len.lr, h.len.lw, h.len.lo, h.len.lv⟩
/-- An order in memory of its own. -/
def ordM (o : Order) : Res := stars [txM o.txn, vrow e_Mark o.f_Marks]
theorem TxR.in {W w : World} {L L' : List Res} {t : Txn} (h : TxR W L t) (hc : ∀ w, Sat W w L' → Sat W w L) : TxR W L' t := ⟨fun w S => h.rr w (hc w S), fun w S => h.rw w (hc w S), fun w S => h.ro w (hc w S), fun o ho w S => h.rv o ho w (hc w S), h.len⟩
theorem OrdR.in {W : World} {L L' : List Res} {o : Order} (h : OrdR W L o) (hc : ∀ w, Sat W w L' → Sat W w L) : OrdR W L' o := ⟨fun w S => h.rm w (hc w S), fun w S => h.rr w (hc w S), fun w S => h.rw w (hc w S), fun w S => h.ro w (hc w S), fun x hx w S => h.rv x hx w (hc w S), h.lm, h.lr, h.lw, h.lo, h.lv⟩
theorem ordM_0 {W : World} {L : List Res} {o : Order} (hl : OrdLen o) : OrdR W (ordM o :: L) o :=
  OrdR.in (ordR_mk (L := txM o.txn :: vrow e_Mark o.f_Marks :: L) (txM_R hl.t 0 rfl) (rds_own e_Mark_ok 1 rfl) hl.m) fun w S => Sat.flat (Ls := [txM o.txn, vrow e_Mark o.f_Marks]) S
theorem ordM_R {W : World} {L : List Res} {o : Order} (hl : OrdLen o) (i : Nat) (h : L[i]? = some (ordM o)) : OrdR W L o := by
  obtain ⟨s, t, e⟩ := List.append_of_mem (List.mem_of_getElem? h)
  exact OrdR.in (ordM_0 (L := s ++ t) hl) fun w S => S.perm (by rw [e]; exact List.perm_middle)
theorem OSmall.tx {o : Order} (h : OSmall o) : Smalls o.txn := ⟨h.r, h.w, h.ol, fun j x _ hx => h.tr x (List.mem_of_getElem? hx), fun j x _ hx => h.tw x (List.mem_of_getElem? hx), fun j x _ hx => h.os x (List.mem_of_getElem? hx)⟩
theorem OSmall.same {a b : Order} (h : OSmall b) (hs : SameO a b) : OSmall a := by
  have hx := Smalls.same h.tx hs.2.1
  refine ⟨hx.r, hx.w, hx.o, by rw [hs.2.2]; exact h.m, fun x hm => ?_, fun x hm => ?_, by rw [hs.2.2]; exact h.tm, fun x hm => ?_⟩
  · obtain ⟨j, hj, rfl⟩ := List.mem_iff_getElem.1 hm; exact hx.tr j _ hj (List.getElem?_eq_getElem hj)
  · obtain ⟨j, hj, rfl⟩ := List.mem_iff_getElem.1 hm; exact hx.tw j _ hj (List.getElem?_eq_getElem hj)
  · obtain ⟨j, hj, rfl⟩ := List.mem_iff_getElem.1 hm; exact hx.os j _ hj (List.getElem?_eq_getElem hj)
theorem homes_same {a b : Order} (h : SameO a b) : homes a = homes b := by unfold homes; rw [h.2.2]
theorem single_same {a b : Order} (h : SameO a b) : single a ↔ single b := by unfold single; rw [homes_same h, show a.f_Txn_Kind = b.f_Txn_Kind from h.2.1.1]
theorem eqAt_on {α : Type} {xs ys : List α} {i : Nat} {x y : α} (h : ∀ j, j < i → xs[j]? = ys[j]?) (hx : xs[((i : Int)).toNat]? = some x) (hy : ys[((i : Int)).toNat]? = some y) (e : x = y) : ∀ j, j < i + 1 → xs[j]? = ys[j]? := fun j hj => by
  have hx' : xs[i]? = some x := hx
  have hy' : ys[i]? = some y := hy
  by_cases hji : j < i
  · exact h j hji
  · obtain rfl : j = i := by omega
    rw [hx', hy', e]
theorem eqAt_all {α : Type} {xs ys : List α} {i : Nat} (h : ∀ j, j < i → xs[j]? = ys[j]?) (hl : xs.length = ys.length) (hi : xs.length ≤ i) : xs = ys := List.ext_getElem? fun j => by
  by_cases hj : j < i
  · exact h j hj
  · rw [List.getElem?_eq_none (by omega), List.getElem?_eq_none (by omega)]
theorem eqAt_not {α : Type} {xs ys : List α} {i : Nat} {x y : α} (hx : xs[((i : Int)).toNat]? = some x) (hy : ys[((i : Int)).toNat]? = some y) (e : ¬ x = y) : ¬ xs = ys := fun h => by
  rw [h, hy] at hx
  exact e (Option.some.inj hx).symm
end Go.Proofs.Ytlblipkcbmcfkaa
