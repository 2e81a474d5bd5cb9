/- Printed by 09a/spec.py (OWirep, OPen, OWr, OWrite). -/
import Derived.Test.YtlblipkcbmcfkaaOChkp
import Derived.Test.YtlblipkcbmcfkaaPlain
import Derived.Test.YtlblipkcbmcfkaaPen
import Derived.Test.YtlblipkcbmcfkaaOCheckP
set_option linter.unusedVariables false
set_option linter.unusedSimpArgs false
set_option maxRecDepth 10000
namespace Go.Proofs.Ytlblipkcbmcfkaa
section
open Go.RowKit Classical
def nB (x : Int) : List UInt8 := numB x.toNat
def numsB (ns : List Int) : List UInt8 := ns.flatMap nB
def strB (s : ByteArray) : List UInt8 := numB s.data.toList.length ++ s.data.toList
def textsB (ss : List ByteArray) : List UInt8 := ss.flatMap strB
def zig (n : Int) : Int := if 0 ≤ n then 2 * n else -2 * n - 1
def opB (x : Op) : List UInt8 := nB x.f_Kind ++ strB x.f_Key ++ (numB x.f_Value.xs.length ++ x.f_Value.xs) ++ nB (zig x.f_N)
def opsB (xs : List Op) : List UInt8 := xs.flatMap opB
def mkB (m : Mark) : List UInt8 := nB m.f_Home ++ nB m.f_Count
def mksB (ms : List Mark) : List UInt8 := ms.flatMap mkB
def headN (o : Order) : List Int := [o.f_Tag_Id_Node, o.f_Tag_Id_Epoch, o.f_Tag_Id_Seq, o.f_Tag_Try, o.f_Txn_Kind, o.f_Txn_To]
def ordB1 (o : Order) : List UInt8 := numsB (headN o) ++ (numB o.f_Txn_Reads.xs.length ++ textsB o.f_Txn_Reads.xs) ++ (numB o.f_Txn_Writes.xs.length ++ textsB o.f_Txn_Writes.xs) ++ numB o.f_Txn_Ops.xs.length
def ordB (o : Order) : List UInt8 := ordB1 o ++ opsB o.f_Txn_Ops.xs ++ mksB o.f_Marks.xs
structure OWf (o : Order) : Prop where
  ep : 0 ≤ o.f_Tag_Id_Epoch ∧ o.f_Tag_Id_Epoch < 18446744073709551616
  sq : 0 ≤ o.f_Tag_Id_Seq ∧ o.f_Tag_Id_Seq < 18446744073709551616
  mc : ∀ m ∈ o.f_Marks.xs, 0 ≤ m.f_Count ∧ m.f_Count < 18446744073709551616
  op : ∀ x ∈ o.f_Txn_Ops.xs, -9223372036854775808 ≤ x.f_N ∧ x.f_N ≤ 9223372036854775807
/-! ### The turned number -/
theorem zig_0 {n : Int} (h : -9223372036854775808 ≤ n ∧ n ≤ 9223372036854775807) : 0 ≤ zig n ∧ zig n < 18446744073709551616 := by unfold zig; split <;> omega
theorem zig_inj {m n : Int} (h : zig m = zig n) : m = n := by unfold zig at h; split at h <;> split at h <;> omega
theorem bv_nat (a : Int) (h0 : 0 ≤ a) (h1 : a < 18446744073709551616) : ((BitVec.ofInt 64 a).toNat : Int) = a := by
  rw [BitVec.toNat_ofInt]
  omega
theorem turn_zig {n : Int} (h : -9223372036854775808 ≤ n ∧ n ≤ 9223372036854775807) : ibits .xor .u64 (IntKind.u64.wrap (IntKind.u64.wrap n * 2 ^ (min (1 : Int).toNat IntKind.u64.bits))) (IntKind.u64.wrap (n.fdiv (2 ^ (min (63 : Int).toNat IntKind.i64.bits)))) = zig n := by
  have e1 : (2 : Int) ^ (min (1 : Int).toNat IntKind.u64.bits) = 2 := by decide
  have e2 : (2 : Int) ^ (min (63 : Int).toNat IntKind.i64.bits) = 9223372036854775808 := by decide
  rw [e1, e2]
  show IntKind.u64.wrap ((BitVec.ofInt 64 _ ^^^ BitVec.ofInt 64 _).toNat : Int) = _
  by_cases hn : 0 ≤ n
  · have e3 : n.fdiv 9223372036854775808 = 0 := by rw [Int.fdiv_eq_ediv_of_nonneg _ (by omega)]; omega
    rw [e3, wrap_u64 hn (by omega), wrap_u64 (x := n * 2) (by omega) (by omega), wrap_u64 (x := 0) (by omega) (by omega)]
    rw [show BitVec.ofInt 64 0 = 0#64 from rfl, BitVec.xor_zero, bv_nat _ (by omega) (by omega), wrap_u64 (by omega) (by omega)]
    unfold zig; rw [if_pos hn]; omega
  · have e3 : n.fdiv 9223372036854775808 = -1 := by rw [Int.fdiv_eq_ediv_of_nonneg _ (by omega)]; omega
    have e4 : IntKind.u64.wrap n = n + 18446744073709551616 := by simp [IntKind.wrap, IntKind.signed, IntKind.bits]; omega
    have e5 : IntKind.u64.wrap ((n + 18446744073709551616) * 2) = 2 * n + 18446744073709551616 := by simp [IntKind.wrap, IntKind.signed, IntKind.bits]; omega
    have e6 : IntKind.u64.wrap (-1) = 18446744073709551615 := by decide
    rw [e3, e4, e5, e6]
    rw [show BitVec.ofInt 64 18446744073709551615 = BitVec.allOnes 64 from by decide, BitVec.xor_allOnes, BitVec.toNat_not]
    have e7 := bv_nat (2 * n + 18446744073709551616) (by omega) (by omega)
    rw [wrap_u64 (by omega) (by omega)]
    unfold zig; rw [if_neg hn]; omega
/-! ### How many bytes -/
theorem fm_len {α : Type} {f : α → List UInt8} {k : Nat} : ∀ {xs : List α}, (∀ x ∈ xs, (f x).length ≤ k) → (xs.flatMap f).length ≤ k * xs.length
  | [], _ => by simp
  | x :: xs, h => by
    have h1 := h x (by simp)
    have h2 := fm_len (xs := xs) fun y hy => h y (by simp [hy])
    rw [List.flatMap_cons, List.length_append, List.length_cons, Nat.mul_succ]; omega
theorem fm_on {α : Type} {f : α → List UInt8} {xs : List α} {i : Nat} {x : α} (hx : xs[((i : Int)).toNat]? = some x) : (xs.take (i + 1)).flatMap f = (xs.take i).flatMap f ++ f x := by
  have hx' : xs[i]? = some x := hx
  rw [List.take_add_one, hx', List.flatMap_append]; simp
theorem nB_len {x : Int} (h : x < 18446744073709551616) : (nB x).length ≤ 10 := numB_len_le 10 _ (by omega) (by omega)
theorem nl_len {n : Nat} (h : n ≤ 1000000) : (numB n).length ≤ 10 := numB_len_le 10 _ (by omega) (by omega)
theorem strB_len {s : ByteArray} (h : s.size ≤ 200) : (strB s).length ≤ 210 := by
  have h9 : s.data.toList.length = s.size := by simp
  unfold strB
  have := nl_len (n := s.data.toList.length) (by omega)
  rw [List.length_append]; omega
theorem numsB_len {ns : List Int} (h : ∀ x ∈ ns, x < 18446744073709551616) : (numsB ns).length ≤ 10 * ns.length := fm_len fun x hx => nB_len (h x hx)
theorem textsB_len {ss : List ByteArray} (h : ∀ x ∈ ss, x.size ≤ 200) : (textsB ss).length ≤ 210 * ss.length := fm_len fun x hx => strB_len (h x hx)
theorem opB_len {x : Op} (h : x.f_Key.size ≤ 200 ∧ x.f_Value.xs.length ≤ 200) (k : x.f_Kind ≤ 7) (w : -9223372036854775808 ≤ x.f_N ∧ x.f_N ≤ 9223372036854775807) : (opB x).length ≤ 440 := by
  have h1 := nB_len (x := x.f_Kind) (by omega)
  have h2 := strB_len h.1
  have h3 := nl_len (n := x.f_Value.xs.length) (by omega)
  have h4 := nB_len (zig_0 w).2
  unfold opB
  simp only [List.length_append]; omega
theorem mkB_len {m : Mark} (h : m.f_Home < 3) (w : m.f_Count < 18446744073709551616) : (mkB m).length ≤ 20 := by
  have h1 := nB_len (x := m.f_Home) (by omega)
  have h2 := nB_len w
  unfold mkB
  rw [List.length_append]; omega
/-! ### An order that is right -/
section
variable {o : Order}
theorem ok_hd (h : OrdOk o 3) (w : OWf o) : ∀ x ∈ headN o, 0 ≤ x ∧ x < 18446744073709551616 := fun x hx => by
  obtain ⟨⟨_, _, _, h1⟩, ⟨i1, i2, i3, i4, i5, i6⟩, _, _⟩ := h
  have hk : 0 ≤ o.f_Txn_Kind ∧ o.f_Txn_Kind ≤ 2 ∧ 0 ≤ o.f_Txn_To ∧ o.f_Txn_To ≤ 3 := by
    rcases h1 with ⟨q1, q2, _⟩ | ⟨q1, _, _, _, q2, q3⟩
    · exact ⟨by show (0 : Int) ≤ o.txn.f_Kind; omega, by show o.txn.f_Kind ≤ 2; omega, by show (0 : Int) ≤ o.txn.f_To; omega, by show o.txn.f_To ≤ 3; omega⟩
    · exact ⟨by show (0 : Int) ≤ o.txn.f_Kind; omega, by show o.txn.f_Kind ≤ 2; omega, by show (0 : Int) ≤ o.txn.f_To; omega, by show o.txn.f_To ≤ 3; omega⟩
  have e := w.ep; have s := w.sq
  simp only [headN, List.mem_cons, List.not_mem_nil, or_false] at hx
  rcases hx with rfl | rfl | rfl | rfl | rfl | rfl <;> omega
theorem ok_op (h : OrdOk o 3) : ∀ x ∈ o.f_Txn_Ops.xs, 1 ≤ x.f_Kind ∧ x.f_Kind ≤ 7 := fun x hx => by
  obtain ⟨⟨_, _, _, h1⟩, _⟩ := h
  rcases h1 with ⟨_, _, _, h4⟩ | ⟨_, _, h4, _⟩
  · have h5 : StepOk o.txn x := Classical.byContradiction fun h9 => h4 ⟨x, hx, h9⟩
    obtain ⟨_, _, h6⟩ := h5
    rcases h6 with h6 | h6 | h6 | h6 | h6 <;> omega
  · have h5 : o.f_Txn_Ops.xs.length = 0 := h4
    rw [List.eq_nil_of_length_eq_zero h5] at hx; cases hx
theorem ok_mk (h : OrdOk o 3) {j : Nat} {m : Mark} (hm : o.f_Marks.xs[j]? = some m) : ∃ k, (keysT o.txn)[j]? = some k ∧ m.f_Key = k ∧ 0 ≤ m.f_Home ∧ m.f_Home < 3 := by
  have hj := (List.getElem?_eq_some_iff.1 hm).1
  have hk := List.getElem?_eq_getElem (show j < (keysT o.txn).length by have := h.2.2.1; omega)
  exact ⟨_, hk, h.2.2.2 j m _ hj hm hk⟩
theorem ok_mk' (h : OrdOk o 3) : ∀ m ∈ o.f_Marks.xs, 0 ≤ m.f_Home ∧ m.f_Home < 3 := fun m hm => by
  obtain ⟨j, hj, rfl⟩ := List.mem_iff_getElem.1 hm
  obtain ⟨k, _, _, h2⟩ := ok_mk h (List.getElem?_eq_getElem hj)
  exact h2
theorem opsB_len (h : OrdOk o 3) (w : OWf o) (sm : OSmall o) (i : Nat) : (opsB (o.f_Txn_Ops.xs.take i)).length ≤ 26400 := by
  have h1 := fm_len (f := opB) (k := 440) (xs := o.f_Txn_Ops.xs.take i) fun x hx => opB_len (sm.os x (List.mem_of_mem_take hx)) (ok_op h x (List.mem_of_mem_take hx)).2 (w.op x (List.mem_of_mem_take hx))
  have h2 := sm.ol
  rw [List.length_take] at h1
  unfold opsB
  omega
theorem mksB_len (h : OrdOk o 3) (w : OWf o) (sm : OSmall o) (i : Nat) : (mksB (o.f_Marks.xs.take i)).length ≤ 1200 := by
  have h1 := fm_len (f := mkB) (k := 20) (xs := o.f_Marks.xs.take i) fun x hx => mkB_len (ok_mk' h x (List.mem_of_mem_take hx)).2 (w.mc x (List.mem_of_mem_take hx)).2
  have h2 := sm.m
  rw [List.length_take] at h1
  unfold mksB
  omega
theorem ordB1_len (h : OrdOk o 3) (w : OWf o) (sm : OSmall o) : (ordB1 o).length ≤ 20000 := by
  have h1 := numsB_len (ns := headN o) fun x hx => (ok_hd h w x hx).2
  have h2 := textsB_len sm.tr
  have h3 := textsB_len sm.tw
  have r := sm.r; have ww := sm.w; have ol := sm.ol
  have n1 := nl_len (n := o.f_Txn_Reads.xs.length) (by omega)
  have n2 := nl_len (n := o.f_Txn_Writes.xs.length) (by omega)
  have n3 := nl_len (n := o.f_Txn_Ops.xs.length) (by omega)
  have l6 : (headN o).length = 6 := rfl
  unfold ordB1
  simp only [List.length_append]
  omega
theorem ordB_len (h : OrdOk o 3) (w : OWf o) (sm : OSmall o) : (ordB o).length ≤ 50000 := by
  have h1 := ordB1_len h w sm
  have h2 := opsB_len h w sm o.f_Txn_Ops.xs.length
  have h3 := mksB_len h w sm o.f_Marks.xs.length
  rw [List.take_length] at h2 h3
  unfold ordB
  simp only [List.length_append]
  omega
end
/-! ### Unlike orders have unlike bytes -/
theorem nB_app {x y : Int} {s t : List UInt8} (hx : 0 ≤ x) (hy : 0 ≤ y) (h : nB x ++ s = nB y ++ t) : x = y ∧ s = t := by
  obtain ⟨h1, h2⟩ := numB_app h
  exact ⟨by omega, h2⟩
theorem strB_app {x y : ByteArray} {s t : List UInt8} (h : strB x ++ s = strB y ++ t) : x = y ∧ s = t := by
  unfold strB at h
  rw [List.append_assoc, List.append_assoc] at h
  obtain ⟨h1, h2⟩ := numB_app h
  obtain ⟨h3, h4⟩ := List.append_inj h2 h1
  refine ⟨?_, h4⟩
  cases x; cases y
  simp at h3
  rw [h3]
theorem fm_app {α : Type} {f : α → List UInt8} {R : α → α → Prop} {p : α → Prop} (hf : ∀ {x y : α} {s t : List UInt8}, p x → p y → f x ++ s = f y ++ t → R x y ∧ s = t) : ∀ {xs ys : List α} {s t : List UInt8}, xs.length = ys.length → (∀ x ∈ xs, p x) → (∀ y ∈ ys, p y) → xs.flatMap f ++ s = ys.flatMap f ++ t → (∀ (i : Nat) x y, xs[i]? = some x → ys[i]? = some y → R x y) ∧ s = t
  | [], [], s, t, _, _, _, h => ⟨fun i x y hx => (by cases hx), by simpa using h⟩
  | x :: xs, y :: ys, s, t, hl, hx, hy, h => by
    simp only [List.flatMap_cons, List.append_assoc] at h
    obtain ⟨e1, h⟩ := hf (hx x (by simp)) (hy y (by simp)) h
    obtain ⟨e2, h⟩ := fm_app hf (by simpa using hl) (fun z hz => hx z (by simp [hz])) (fun z hz => hy z (by simp [hz])) h
    refine ⟨fun i a b ha hb => ?_, h⟩
    cases i with
    | zero => simp at ha hb; subst ha; subst hb; exact e1
    | succ i => exact e2 i a b (by simpa using ha) (by simpa using hb)
theorem list_eq {α : Type} {xs ys : List α} (hl : xs.length = ys.length) (h : ∀ (i : Nat) x y, xs[i]? = some x → ys[i]? = some y → x = y) : xs = ys :=
  List.ext_getElem hl fun i h1 h2 => h i _ _ (List.getElem?_eq_getElem h1) (List.getElem?_eq_getElem h2)
theorem texts_app {xs ys : List ByteArray} {s t : List UInt8} (h : numB xs.length ++ textsB xs ++ s = numB ys.length ++ textsB ys ++ t) : xs = ys ∧ s = t := by
  rw [List.append_assoc, List.append_assoc] at h
  obtain ⟨h1, h2⟩ := numB_app h
  obtain ⟨h3, h4⟩ := fm_app (f := strB) (R := fun x y => x = y) (p := fun _ => True) (fun _ _ h => strB_app h) h1 (fun _ _ => trivial) (fun _ _ => trivial) h2
  exact ⟨list_eq h1 h3, h4⟩
theorem opB_app {x y : Op} {s t : List UInt8} (hx : 1 ≤ x.f_Kind ∧ x.f_Kind ≤ 7 ∧ 0 ≤ zig x.f_N) (hy : 1 ≤ y.f_Kind ∧ y.f_Kind ≤ 7 ∧ 0 ≤ zig y.f_N) (h : opB x ++ s = opB y ++ t) : SameOp x y ∧ s = t := by
  unfold opB at h
  simp only [List.append_assoc] at h
  obtain ⟨e1, h⟩ := nB_app (by omega) (by omega) h
  obtain ⟨e2, h⟩ := strB_app h
  obtain ⟨e3, h⟩ := numB_app h
  obtain ⟨e4, h⟩ := List.append_inj h e3
  obtain ⟨e5, h⟩ := nB_app hx.2.2 hy.2.2 h
  exact ⟨⟨e1, e2, zig_inj e5, e4⟩, h⟩
theorem mkB_app {x y : Mark} {s t : List UInt8} (hx : 0 ≤ x.f_Home ∧ 0 ≤ x.f_Count) (hy : 0 ≤ y.f_Home ∧ 0 ≤ y.f_Count) (h : mkB x ++ s = mkB y ++ t) : (x.f_Home = y.f_Home ∧ x.f_Count = y.f_Count) ∧ s = t := by
  unfold mkB at h
  simp only [List.append_assoc] at h
  obtain ⟨e1, h⟩ := nB_app hx.1 hy.1 h
  obtain ⟨e2, h⟩ := nB_app hx.2 hy.2 h
  exact ⟨⟨e1, e2⟩, h⟩
theorem ordB_app {a b : Order} {s t : List UInt8} (ha : OrdOk a 3) (hb : OrdOk b 3) (wa : OWf a) (wb : OWf b) (h0 : ordB a ++ s = ordB b ++ t) : SameO a b ∧ s = t := by
  unfold ordB ordB1 at h0
  simp only [List.append_assoc] at h0
  obtain ⟨e1, h0⟩ := fm_app (f := nB) (R := fun x y => x = y) (p := fun x => 0 ≤ x) (fun hx hy h => nB_app hx hy h) (xs := headN a) (ys := headN b) rfl (fun x hx => (ok_hd ha wa x hx).1) (fun x hx => (ok_hd hb wb x hx).1) h0
  have e1' : headN a = headN b := list_eq rfl e1
  rw [← List.append_assoc, ← List.append_assoc (numB b.f_Txn_Reads.xs.length)] at h0
  obtain ⟨e2, h0⟩ := texts_app h0
  rw [← List.append_assoc, ← List.append_assoc (numB b.f_Txn_Writes.xs.length)] at h0
  obtain ⟨e3, h0⟩ := texts_app h0
  obtain ⟨e4, h0⟩ := numB_app h0
  have op0 : ∀ {o : Order}, OrdOk o 3 → OWf o → ∀ x ∈ o.f_Txn_Ops.xs, 1 ≤ x.f_Kind ∧ x.f_Kind ≤ 7 ∧ 0 ≤ zig x.f_N := fun h w x hx => ⟨(ok_op h x hx).1, (ok_op h x hx).2, (zig_0 (w.op x hx)).1⟩
  obtain ⟨e5, h0⟩ := fm_app (f := opB) (R := SameOp) (fun hx hy h => opB_app hx hy h) e4 (op0 ha wa) (op0 hb wb) h0
  simp only [headN, List.cons.injEq, and_true] at e1'
  obtain ⟨t1, t2, t3, t4, t5, t6⟩ := e1'
  have st : SameT a.txn b.txn := ⟨t5, t6, e2, e3, e4, fun j x y _ hx hy => e5 j x y hx hy⟩
  have kk := keysT_same st
  have ml : a.f_Marks.xs.length = b.f_Marks.xs.length := by rw [ha.2.2.1, hb.2.2.1, kk]
  have mk0 : ∀ {o : Order}, OrdOk o 3 → OWf o → ∀ x ∈ o.f_Marks.xs, 0 ≤ x.f_Home ∧ 0 ≤ x.f_Count := fun h w x hx => ⟨(ok_mk' h x hx).1, (w.mc x hx).1⟩
  obtain ⟨e6, hst⟩ := fm_app (f := mkB) (R := fun x y => x.f_Home = y.f_Home ∧ x.f_Count = y.f_Count) (fun hx hy h => mkB_app hx hy h) ml (mk0 ha wa) (mk0 hb wb) h0
  refine ⟨⟨?_, st, list_eq ml fun i x y hx hy => ?_⟩, hst⟩
  · show (⟨_, _, _, _⟩ : Tag) = ⟨_, _, _, _⟩
    rw [t1, t2, t3, t4]
  · obtain ⟨f1, f2⟩ := e6 i x y hx hy
    obtain ⟨k, k1, k2, _⟩ := ok_mk ha hx
    obtain ⟨k', k1', k2', _⟩ := ok_mk hb hy
    rw [kk, k1'] at k1; cases k1
    cases x; cases y
    simp only at f1 f2 k2 k2'
    subst f1 f2 k2 k2'
    rfl
theorem ordB_inj {a b : Order} (ha : OrdOk a 3) (hb : OrdOk b 3) (wa : OWf a) (wb : OWf b) (h : ordB a = ordB b) : SameO a b := (ordB_app (s := []) (t := []) ha hb wa wb (by rw [h])).1
theorem ordB_pos (o : Order) : 0 < (ordB o).length := by
  unfold ordB ordB1 numsB headN nB
  have := numB_pos o.f_Tag_Id_Node.toNat
  simp only [List.flatMap_cons, List.length_append]; omega
theorem opsB_same : ∀ {xs ys : List Op}, xs.length = ys.length → (∀ (i : Nat) x y, xs[i]? = some x → ys[i]? = some y → SameOp x y) → opsB xs = opsB ys
  | [], [], _, _ => rfl
  | x :: xs, y :: ys, hl, h => by
    have h1 := opsB_same (xs := xs) (ys := ys) (by simpa using hl) fun i a b ha hb => h (i + 1) a b (by simpa using ha) (by simpa using hb)
    obtain ⟨q1, q2, q3, q4⟩ := h 0 x y rfl rfl
    unfold opsB at h1 ⊢
    rw [List.flatMap_cons, List.flatMap_cons, h1]
    unfold opB
    rw [q1, q2, q3, q4]
theorem ordB_same {a b : Order} (h : SameO a b) : ordB a = ordB b := by
  obtain ⟨h1, ⟨t1, t2, t3, t4, t5, t6⟩, h3⟩ := h
  have e1 : headN a = headN b := by
    have g1 : a.f_Tag_Id_Node = b.f_Tag_Id_Node := congrArg Tag.f_Id_Node h1
    have g2 : a.f_Tag_Id_Epoch = b.f_Tag_Id_Epoch := congrArg Tag.f_Id_Epoch h1
    have g3 : a.f_Tag_Id_Seq = b.f_Tag_Id_Seq := congrArg Tag.f_Id_Seq h1
    have g4 : a.f_Tag_Try = b.f_Tag_Try := congrArg Tag.f_Try h1
    have g5 : a.f_Txn_Kind = b.f_Txn_Kind := t1
    have g6 : a.f_Txn_To = b.f_Txn_To := t2
    unfold headN
    rw [g1, g2, g3, g4, g5, g6]
  have e2 : a.f_Txn_Reads.xs = b.f_Txn_Reads.xs := t3
  have e3 : a.f_Txn_Writes.xs = b.f_Txn_Writes.xs := t4
  have e4 : a.f_Txn_Ops.xs.length = b.f_Txn_Ops.xs.length := t5
  have e5 : opsB a.f_Txn_Ops.xs = opsB b.f_Txn_Ops.xs := opsB_same e4 fun i x y hx hy => t6 i x y (List.getElem?_eq_some_iff.1 hx).1 hx hy
  unfold ordB ordB1
  rw [e1, e2, e3, e4, e5, h3]
theorem ordB_iff {a b : Order} (ha : OrdOk a 3) (hb : OrdOk b 3) (wa : OWf a) (wb : OWf b) : ordB a = ordB b ↔ SameO a b := ⟨ordB_inj ha hb wa wb, ordB_same⟩
end
section
open Go.RowKit Classical
theorem nums_ {W : World} {F : List Res} {k : Nat} {xs : List UInt8} {a : Option Addr} {c : Nat} {ns : List Int} {na : Option Addr} {nc : Nat} (hs : RdS W F e_U64 na ns) (h0 : ∀ x ∈ ns, 0 ≤ x ∧ x < 18446744073709551616) (hl : ns.length ≤ 100) (hn : xs.length ≤ 1000000000) : CS Try.prog 31 #[.pointer (some ⟨k, 0, none⟩), .slice na ns.length nc] W (blk k (.cells #[.slice a (xs).length c] 67 (0, 0)) :: row e8.T e8.sz a (xs).length c (flat e8 xs) :: F) (fun r L' => ∃ (a' : Option Addr) (c' : Nat), r = .tuple #[] ∧ L' = blk k (.cells #[.slice a' ((xs ++ numsB ns)).length c'] 67 (0, 0)) :: row e8.T e8.sz a' ((xs ++ numsB ns)).length c' (flat e8 (xs ++ numsB ns)) :: F) := by
 refine f_door (l0 := [(0, .pointer (some ⟨k, 0, none⟩)), (1, .slice na ns.length nc)]) Try.func31 Try.ntmps31 rfl rfl rfl ?_
 refine c_seq ?_
 refine c_conv (L' := blk k (.cells #[.slice a (xs ++ numsB (ns.take 0)).length c] 67 (0, 0)) :: row e8.T e8.sz a (xs ++ numsB (ns.take 0)).length c (flat e8 (xs ++ numsB (ns.take 0))) :: _) (fun w S => by rw [show xs = xs ++ numsB (ns.take 0) from by simp [numsB]] at S; exact S) ?_
 refine c_region ?_
 refine o_move rfl rfl ?_
 refine o_len rfl rfl Try.underlying90 ?_
 refine o_move rfl rfl ?_
 refine l_nil ?_
 refine q_then ?_
 refine c_block ?_
 refine c_loop (α := Nat × (Option Addr) × Nat) (fun z => [(0, .pointer (some ⟨k, 0, none⟩)), (6, .slice na (ns).length nc), (7, .int .i64 ((ns).length : Int)), (8, .int .i64 (z.1 : Int))]) (fun z => blk k (.cells #[.slice z.2.1 (xs ++ numsB (ns.take z.1)).length z.2.2] 67 (0, 0)) :: row e8.T e8.sz z.2.1 (xs ++ numsB (ns.take z.1)).length z.2.2 (flat e8 (xs ++ numsB (ns.take z.1))) :: F) (fun z => z.1 ≤ ns.length) (fun z => ns.length - z.1) (0, a, c) (by exact Nat.zero_le _) ⟨(by first | rfl | exact vint (by omega)), (by first | rfl | exact vint (by omega)), (by first | rfl | exact vint (by omega)), (by first | rfl | exact vint (by omega)), trivial⟩ (fun w S => S) ?_
 rintro ⟨i, a9, c9⟩ hi
 try dsimp only at *
 refine c_seq ?_
 refine c_region ?_
 refine o_bin rfl rfl rfl b_lss ?_
 refine l_nil ?_
 refine q_then ?_
 refine c_seq ?_
 refine c_cond rfl (fun h1 => ?_) (fun h1 => ?_)
 · -- h1T
  have h1b := h1
  try simp only [decide_eq_true_eq] at h1
  refine c_skip ?_
  refine q_then ?_
  refine c_seq ?_
  refine c_block ?_
  refine c_seq ?_
  refine c_region ?_
  refine o_index e_U64_ok rfl rfl rfl Try.underlying90 (by omega) (by omega) (rds_c (rds_c hs)) fun ad10 ead10 => ?_
  obtain ⟨x10, hx10⟩ : ∃ x, (ns)[((i : Int)).toNat]? = some x := ⟨_, List.getElem?_eq_getElem (by omega)⟩
  have hx10' := h0 x10 (List.mem_of_getElem? hx10)
  have hnl := numsB_len (ns := ns.take i) fun x hx => (h0 x (List.mem_of_mem_take hx)).2
  have htl : (ns.take i).length ≤ 100 := by rw [List.length_take]; omega
  refine o_load1 rfl rfl Try.underlying22 rfl (rd_sl0 e_U64_ok ead10 (rds_c (rds_c hs)) hx10 rfl) ?_
  refine o_assign rfl rfl ?_
  refine l_nil ?_
  refine q_then ?_
  refine c_region ?_
  refine o_move rfl rfl ?_
  refine o_move rfl rfl ?_
  refine l_eq (t := 13) (v' := .int .u64 (x10.toNat : Int)) rfl (by exact congrArg (Value.int .u64) (Int.toNat_of_nonneg hx10'.1).symm) ?_
  refine l_f1 ?_
  refine l_f1 ?_
  refine o_call rfl cal52 rfl (penNum (v := x10.toNat) (by omega) (by (try simp only [List.length_append, List.length_nil]); omega)) ?_
  rintro _ _ ⟨a14, c14, rfl, rfl⟩
  refine l_nil ?_
  refine q_block ?_
  refine q_then ?_
  refine c_region ?_
  refine o_bin rfl rfl rfl (b_add (wrap_i64 (by omega) (by omega))) ?_
  refine o_move rfl rfl ?_
  refine l_nil ?_
  refine q_conv (L' := blk k (.cells #[.slice a14 (xs ++ numsB (ns.take (i + 1))).length c14] 67 (0, 0)) :: row e8.T e8.sz a14 (xs ++ numsB (ns.take (i + 1))).length c14 (flat e8 (xs ++ numsB (ns.take (i + 1)))) :: _) (fun w S => by rw [show xs ++ numsB (ns.take i) ++ numB x10.toNat = xs ++ numsB (ns.take (i + 1)) from by unfold numsB; rw [fm_on hx10, List.append_assoc]; rfl] at S; exact S) ?_
  exact q_round (i + 1, a14, c14) (by (try dsimp only); omega) (by (try dsimp only); omega) ⟨(by first | rfl | exact vint (by omega)), (by first | rfl | exact vint (by omega)), (by first | rfl | exact vint (by omega)), (by first | rfl | exact vint (by omega)), trivial⟩ (fun w S => S)
 · -- h1F
  have h1b := h1
  try simp only [decide_eq_false_iff_not, Int.not_lt, Int.not_le] at h1
  obtain rfl : i = ns.length := by omega
  refine c_exit ?_
  refine q_pass_exit ?_
  refine q_pass_exit ?_
  refine q_hit ?_
  exact f_end (r_none rfl) (⟨_, _, rfl, rfl⟩) (fun w S => by rw [List.take_length] at S; exact S)

theorem texts_ {W : World} {F : List Res} {k : Nat} {xs : List UInt8} {a : Option Addr} {c : Nat} {ss : List ByteArray} {sa : Option Addr} {sc : Nat} (hs : RdS W F e_S sa ss) (hz : ∀ x ∈ ss, x.size ≤ 200) (hl : ss.length ≤ 100) (hn : xs.length ≤ 1000000000) : CS Try.prog 53 #[.pointer (some ⟨k, 0, none⟩), .slice sa ss.length sc] W (blk k (.cells #[.slice a (xs).length c] 67 (0, 0)) :: row e8.T e8.sz a (xs).length c (flat e8 xs) :: F) (fun r L' => ∃ (a' : Option Addr) (c' : Nat), r = .tuple #[] ∧ L' = blk k (.cells #[.slice a' ((xs ++ numB ss.length ++ textsB ss)).length c'] 67 (0, 0)) :: row e8.T e8.sz a' ((xs ++ numB ss.length ++ textsB ss)).length c' (flat e8 (xs ++ numB ss.length ++ textsB ss)) :: F) := by
 refine f_door (l0 := [(0, .pointer (some ⟨k, 0, none⟩)), (1, .slice sa ss.length sc)]) Try.func53 Try.ntmps53 rfl rfl rfl ?_
 refine c_seq ?_
 refine c_region ?_
 refine o_move rfl rfl ?_
 refine o_move rfl rfl ?_
 refine o_len rfl rfl Try.underlying27 ?_
 refine o_int rfl rfl Try.underlying3 Try.underlying22 (wrap_u64 (by omega) (by omega)) ?_
 refine l_f1 ?_
 refine l_f1 ?_
 refine o_call rfl cal52 rfl (penNum (v := ss.length) (by omega) (by (try simp only [List.length_append, List.length_nil]); omega)) ?_
 rintro _ _ ⟨a10, c10, rfl, rfl⟩
 refine l_nil ?_
 refine q_then ?_
 refine c_seq ?_
 refine c_conv (L' := blk k (.cells #[.slice a10 (xs ++ numB ss.length ++ textsB (ss.take 0)).length c10] 67 (0, 0)) :: row e8.T e8.sz a10 (xs ++ numB ss.length ++ textsB (ss.take 0)).length c10 (flat e8 (xs ++ numB ss.length ++ textsB (ss.take 0))) :: _) (fun w S => by rw [show xs ++ numB ss.length = xs ++ numB ss.length ++ textsB (ss.take 0) from by simp [textsB]] at S; exact S) ?_
 have hnl0 := nl_len (n := ss.length) (by omega)
 refine c_region ?_
 refine o_move rfl rfl ?_
 refine o_len rfl rfl Try.underlying27 ?_
 refine o_move rfl rfl ?_
 refine l_nil ?_
 refine q_then ?_
 refine c_block ?_
 refine c_loop (α := Nat × (Option Addr) × Nat) (fun z => [(0, .pointer (some ⟨k, 0, none⟩)), (11, .slice sa (ss).length sc), (12, .int .i64 ((ss).length : Int)), (13, .int .i64 (z.1 : Int))]) (fun z => blk k (.cells #[.slice z.2.1 (xs ++ numB ss.length ++ textsB (ss.take z.1)).length z.2.2] 67 (0, 0)) :: row e8.T e8.sz z.2.1 (xs ++ numB ss.length ++ textsB (ss.take z.1)).length z.2.2 (flat e8 (xs ++ numB ss.length ++ textsB (ss.take z.1))) :: F) (fun z => z.1 ≤ ss.length) (fun z => ss.length - z.1) (0, a10, c10) (by exact Nat.zero_le _) ⟨(by first | rfl | exact vint (by omega)), (by first | rfl | exact vint (by omega)), (by first | rfl | exact vint (by omega)), (by first | rfl | exact vint (by omega)), trivial⟩ (fun w S => S) ?_
 rintro ⟨i, a9, c9⟩ hi
 try dsimp only at *
 refine c_seq ?_
 refine c_region ?_
 refine o_bin rfl rfl rfl b_lss ?_
 refine l_nil ?_
 refine q_then ?_
 refine c_seq ?_
 refine c_cond rfl (fun h1 => ?_) (fun h1 => ?_)
 · -- h1T
  have h1b := h1
  try simp only [decide_eq_true_eq] at h1
  refine c_skip ?_
  refine q_then ?_
  refine c_seq ?_
  refine c_block ?_
  refine c_seq ?_
  refine c_region ?_
  refine o_index e_S_ok rfl rfl rfl Try.underlying27 (by omega) (by omega) (rds_c (rds_c hs)) fun ad15 ead15 => ?_
  obtain ⟨x15, hx15⟩ : ∃ x, (ss)[((i : Int)).toNat]? = some x := ⟨_, List.getElem?_eq_getElem (by omega)⟩
  have hx15' := hz x15 (List.mem_of_getElem? hx15)
  have hnl := textsB_len (ss := ss.take i) fun x hx => hz x (List.mem_of_mem_take hx)
  have htl : (ss.take i).length ≤ 100 := by rw [List.length_take]; omega
  have htd : x15.data.toList.length ≤ 200 := by simp; omega
  have hnd := nl_len (n := x15.data.toList.length) (by omega)
  refine o_load1 rfl rfl Try.underlying9 rfl (rd_sl0 e_S_ok ead15 (rds_c (rds_c hs)) hx15 rfl) ?_
  refine o_assign rfl rfl ?_
  refine l_nil ?_
  refine q_then ?_
  refine c_region ?_
  refine o_move rfl rfl ?_
  refine o_move rfl rfl ?_
  refine o_strBytes (e := e8) rfl rfl rfl rfl Try.underlying9 Try.underlying45 Try.underlying5 fun a19 c19 hc19 => ?_
  refine l_f2 ?_
  refine l_f2 ?_
  refine l_f1 ?_
  refine l_f1 ?_
  refine o_call rfl cal54 rfl (penText (rds_mrow e8_ok 0 rfl) (by (try simp only [List.length_append, List.length_nil]); omega) (by (try simp only [List.length_append, List.length_nil]); omega)) ?_
  rintro _ _ ⟨a20, c20, rfl, rfl⟩
  refine l_nil ?_
  refine q_block ?_
  refine q_then ?_
  refine c_region ?_
  refine o_bin rfl rfl rfl (b_add (wrap_i64 (by omega) (by omega))) ?_
  refine o_move rfl rfl ?_
  refine l_nil ?_
  refine q_conv (L' := blk k (.cells #[.slice a20 (xs ++ numB ss.length ++ textsB (ss.take (i + 1))).length c20] 67 (0, 0)) :: row e8.T e8.sz a20 (xs ++ numB ss.length ++ textsB (ss.take (i + 1))).length c20 (flat e8 (xs ++ numB ss.length ++ textsB (ss.take (i + 1)))) :: _) (fun w S => by rw [show xs ++ numB ss.length ++ textsB (ss.take i) ++ numB x15.data.toList.length ++ x15.data.toList = xs ++ numB ss.length ++ textsB (ss.take (i + 1)) from by unfold textsB; rw [fm_on hx15]; unfold strB; simp only [List.append_assoc]] at S; exact S) ?_
  refine q_conv (fun w S => (S.perm p2).tail) ?_
  exact q_round (i + 1, a20, c20) (by (try dsimp only); omega) (by (try dsimp only); omega) ⟨(by first | rfl | exact vint (by omega)), (by first | rfl | exact vint (by omega)), (by first | rfl | exact vint (by omega)), (by first | rfl | exact vint (by omega)), trivial⟩ (fun w S => S)
 · -- h1F
  have h1b := h1
  try simp only [decide_eq_false_iff_not, Int.not_lt, Int.not_le] at h1
  obtain rfl : i = ss.length := by omega
  refine c_exit ?_
  refine q_pass_exit ?_
  refine q_pass_exit ?_
  refine q_hit ?_
  exact f_end (r_none rfl) (⟨_, _, rfl, rfl⟩) (fun w S => by rw [List.take_length] at S; exact S)

theorem turned_ {W : World} {F : List Res} {n : Int} (hn : -9223372036854775808 ≤ n ∧ n ≤ 9223372036854775807) : CS Try.prog 55 #[.int .i64 n] W (F) (fun r L' => r = .int .u64 (zig n) ∧ F = L') := by
 refine f_door (l0 := [(0, .int .i64 n)]) Try.func55 Try.ntmps55 rfl rfl rfl ?_
 refine c_seq ?_
 refine c_region ?_
 refine o_assign rfl rfl ?_
 refine l_nil ?_
 refine q_then ?_
 refine c_seq ?_
 refine c_region ?_
 refine o_move rfl rfl ?_
 refine o_int rfl rfl Try.underlying2 Try.underlying22 rfl ?_
 refine o_bin rfl rfl rfl (b_shl (by omega) rfl) ?_
 refine o_move rfl rfl ?_
 refine o_bin rfl rfl rfl (b_shr (by omega) rfl) ?_
 refine o_int rfl rfl Try.underlying2 Try.underlying22 rfl ?_
 refine o_bin rfl rfl rfl (b_xor (turn_zig hn)) ?_
 refine o_assign rfl rfl ?_
 refine l_nil ?_
 refine q_then ?_
 refine c_ret ?_
 exact f_ret (r_one rfl rfl) (⟨rfl, rfl⟩) (fun w S => S)
end
section
open Go.RowKit Classical
theorem wu64 {x : Int} (h0 : 0 ≤ x) (h1 : x < 18446744073709551616) : IntKind.u64.wrap x = ((x.toNat : Nat) : Int) := by rw [wrap_u64 h0 (by omega)]; omega
set_option maxHeartbeats 2000000 in
theorem owrite_ {W : World} {F : List Res} {k : Nat} {xs : List UInt8} {a : Option Addr} {c : Nat} {o : Order} (T_o : OrdR W F o) (hok : OrdOk o 3) (wf : OWf o) (sm : OSmall o) (hn : xs.length ≤ 1000000) : CS Try.prog 32 #[.pointer (some ⟨k, 0, none⟩), .agg #[.int .i64 o.f_Tag_Id_Node, .int .u64 o.f_Tag_Id_Epoch, .int .u64 o.f_Tag_Id_Seq, .int .i64 o.f_Tag_Try, .int .i64 o.f_Txn_Kind, .slice o.f_Txn_Reads.a (o.f_Txn_Reads.xs).length o.f_Txn_Reads.c, .slice o.f_Txn_Writes.a (o.f_Txn_Writes.xs).length o.f_Txn_Writes.c, .slice o.f_Txn_Ops.a (o.f_Txn_Ops.xs).length o.f_Txn_Ops.c, .int .i64 o.f_Txn_To, .slice o.f_Marks.a (o.f_Marks.xs).length o.f_Marks.c]] W (blk k (.cells #[.slice a (xs).length c] 67 (0, 0)) :: row e8.T e8.sz a (xs).length c (flat e8 xs) :: F) (fun r L' => ∃ (a' : Option Addr) (c' : Nat), r = .tuple #[] ∧ L' = blk k (.cells #[.slice a' ((xs ++ ordB o)).length c'] 67 (0, 0)) :: row e8.T e8.sz a' ((xs ++ ordB o)).length c' (flat e8 (xs ++ ordB o)) :: F) := by
 have q1 := ok_hd hok wf o.f_Tag_Id_Node (by simp [headN])
 have q2 := ok_hd hok wf o.f_Tag_Try (by simp [headN])
 have q3 := ok_hd hok wf o.f_Txn_Kind (by simp [headN])
 have q4 := ok_hd hok wf o.f_Txn_To (by simp [headN])
 have hb1 := numsB_len (ns := headN o) fun x hx => (ok_hd hok wf x hx).2
 have l6 : (headN o).length = 6 := rfl
 have hr := sm.r
 have hw := sm.w
 have hol := sm.ol
 have hml := sm.m
 have hb2 := textsB_len sm.tr
 have hb3 := textsB_len sm.tw
 have n1 := nl_len (n := o.f_Txn_Reads.xs.length) (by omega)
 have n2 := nl_len (n := o.f_Txn_Writes.xs.length) (by omega)
 have n3 := nl_len (n := o.f_Txn_Ops.xs.length) (by omega)
 have hb4 := ordB1_len hok wf sm
 have hb5 := opsB_len hok wf sm o.f_Txn_Ops.xs.length
 rw [List.take_length] at hb5
 refine f_door (l0 := [(0, .pointer (some ⟨k, 0, none⟩)), (1, .agg #[.int .i64 o.f_Tag_Id_Node, .int .u64 o.f_Tag_Id_Epoch, .int .u64 o.f_Tag_Id_Seq, .int .i64 o.f_Tag_Try, .int .i64 o.f_Txn_Kind, .slice o.f_Txn_Reads.a (o.f_Txn_Reads.xs).length o.f_Txn_Reads.c, .slice o.f_Txn_Writes.a (o.f_Txn_Writes.xs).length o.f_Txn_Writes.c, .slice o.f_Txn_Ops.a (o.f_Txn_Ops.xs).length o.f_Txn_Ops.c, .int .i64 o.f_Txn_To, .slice o.f_Marks.a (o.f_Marks.xs).length o.f_Marks.c])]) Try.func32 Try.ntmps32 rfl rfl rfl ?_
 refine c_seq ?_
 refine c_region ?_
 refine o_box rfl rfl fun b3 => ?_
 refine l_nil ?_
 refine q_then ?_
 refine c_seq ?_
 refine c_region ?_
 refine o_move rfl rfl ?_
 refine o_fieldAddr (q := ⟨b3, 0, none⟩) rfl rfl Try.underlying33 rfl ti26 rfl ?_
 refine o_fieldAddr (q := ⟨b3, 0, none⟩) rfl rfl Try.underlying26 rfl ti24 rfl ?_
 refine o_fieldAddr (q := ⟨b3, 0, none⟩) rfl rfl Try.underlying24 rfl ti3 rfl ?_
 refine o_load1 rfl rfl Try.underlying3 rfl (rd_mem 0 rfl rfl) ?_
 refine o_int rfl rfl Try.underlying3 Try.underlying22 (wrap_u64 (by omega) (by omega)) ?_
 refine o_fieldAddr (q := ⟨b3, 0, none⟩) rfl rfl Try.underlying33 rfl ti26 rfl ?_
 refine o_fieldAddr (q := ⟨b3, 0, none⟩) rfl rfl Try.underlying26 rfl ti24 rfl ?_
 refine o_fieldAddr (q := ⟨b3, 1, none⟩) rfl rfl Try.underlying24 rfl ti22 rfl ?_
 refine o_load1 rfl rfl Try.underlying22 rfl (rd_mem 0 rfl rfl) ?_
 refine o_fieldAddr (q := ⟨b3, 0, none⟩) rfl rfl Try.underlying33 rfl ti26 rfl ?_
 refine o_fieldAddr (q := ⟨b3, 0, none⟩) rfl rfl Try.underlying26 rfl ti24 rfl ?_
 refine o_fieldAddr (q := ⟨b3, 2, none⟩) rfl rfl Try.underlying24 rfl ti22 rfl ?_
 refine o_load1 rfl rfl Try.underlying22 rfl (rd_mem 0 rfl rfl) ?_
 refine o_fieldAddr (q := ⟨b3, 0, none⟩) rfl rfl Try.underlying33 rfl ti26 rfl ?_
 refine o_fieldAddr (q := ⟨b3, 3, none⟩) rfl rfl Try.underlying26 rfl ti3 rfl ?_
 refine o_load1 rfl rfl Try.underlying3 rfl (rd_mem 0 rfl rfl) ?_
 refine o_int rfl rfl Try.underlying3 Try.underlying22 (wrap_u64 (by omega) (by omega)) ?_
 refine o_fieldAddr (q := ⟨b3, 4, none⟩) rfl rfl Try.underlying33 rfl ti30 rfl ?_
 refine o_fieldAddr (q := ⟨b3, 4, none⟩) rfl rfl Try.underlying30 rfl ti3 rfl ?_
 refine o_load1 rfl rfl Try.underlying3 rfl (rd_mem 0 rfl rfl) ?_
 refine o_int rfl rfl Try.underlying3 Try.underlying22 (wrap_u64 (by omega) (by omega)) ?_
 refine o_fieldAddr (q := ⟨b3, 4, none⟩) rfl rfl Try.underlying33 rfl ti30 rfl ?_
 refine o_fieldAddr (q := ⟨b3, 8, none⟩) rfl rfl Try.underlying30 rfl ti3 rfl ?_
 refine o_load1 rfl rfl Try.underlying3 rfl (rd_mem 0 rfl rfl) ?_
 refine o_int rfl rfl Try.underlying3 Try.underlying22 (wrap_u64 (by omega) (by omega)) ?_
 refine o_lit e_U64_ok rfl Try.underlying90 rfl rfl rfl (lit_ok rfl) (headN o) rfl rfl fun a34 => ?_
 refine l_f3 ?_
 refine l_f3 ?_
 refine o_call rfl cal31 rfl (nums_ (ns := (headN o)) (rds_own e_U64_ok 0 rfl) (ok_hd hok wf) (by show _ ≤ 100; exact Nat.le_of_ble_eq_true rfl) (by (try simp only [List.length_append, List.length_nil]); omega)) ?_
 rintro _ _ ⟨a35, c35, rfl, rfl⟩
 refine l_nil ?_
 refine q_then ?_
 refine c_seq ?_
 refine c_region ?_
 refine o_move rfl rfl ?_
 refine o_fieldAddr (q := ⟨b3, 4, none⟩) rfl rfl Try.underlying33 rfl ti30 rfl ?_
 refine o_fieldAddr (q := ⟨b3, 5, none⟩) rfl rfl Try.underlying30 rfl ti27 rfl ?_
 refine o_load1 rfl rfl Try.underlying27 rfl (rd_mem 3 rfl rfl) ?_
 refine l_f1 ?_
 refine l_f1 ?_
 refine o_call rfl cal53 rfl (texts_ (ss := o.f_Txn_Reads.xs) (OrdR.c (OrdR.c T_o)).rr sm.tr (by omega) (by (try simp only [List.length_append, List.length_nil]); omega)) ?_
 rintro _ _ ⟨a40, c40, rfl, rfl⟩
 refine l_nil ?_
 refine q_then ?_
 refine c_seq ?_
 refine c_region ?_
 refine o_move rfl rfl ?_
 refine o_fieldAddr (q := ⟨b3, 4, none⟩) rfl rfl Try.underlying33 rfl ti30 rfl ?_
 refine o_fieldAddr (q := ⟨b3, 6, none⟩) rfl rfl Try.underlying30 rfl ti27 rfl ?_
 refine o_load1 rfl rfl Try.underlying27 rfl (rd_mem 3 rfl rfl) ?_
 refine l_f1 ?_
 refine l_f1 ?_
 refine o_call rfl cal53 rfl (texts_ (ss := o.f_Txn_Writes.xs) (OrdR.c (OrdR.c T_o)).rw sm.tw (by omega) (by (try simp only [List.length_append, List.length_nil]); omega)) ?_
 rintro _ _ ⟨a45, c45, rfl, rfl⟩
 refine l_nil ?_
 refine q_then ?_
 refine c_seq ?_
 refine c_region ?_
 refine o_move rfl rfl ?_
 refine o_fieldAddr (q := ⟨b3, 4, none⟩) rfl rfl Try.underlying33 rfl ti30 rfl ?_
 refine o_fieldAddr (q := ⟨b3, 7, none⟩) rfl rfl Try.underlying30 rfl ti28 rfl ?_
 refine o_load1 rfl rfl Try.underlying28 rfl (rd_mem 3 rfl rfl) ?_
 refine o_len rfl rfl Try.underlying28 ?_
 refine o_int rfl rfl Try.underlying3 Try.underlying22 (wrap_u64 (by omega) (by omega)) ?_
 refine l_f1 ?_
 refine l_f1 ?_
 refine o_call rfl cal52 rfl (penNum (v := o.f_Txn_Ops.xs.length) (by omega) (by (try simp only [List.length_append, List.length_nil]); omega)) ?_
 rintro _ _ ⟨a52, c52, rfl, rfl⟩
 refine l_nil ?_
 refine q_then ?_
 refine c_seq ?_
 refine c_seq ?_
 refine c_conv (L' := blk k (.cells #[.slice a52 (xs ++ ordB1 o ++ opsB (o.f_Txn_Ops.xs.take 0)).length c52] 67 (0, 0)) :: row e8.T e8.sz a52 (xs ++ ordB1 o ++ opsB (o.f_Txn_Ops.xs.take 0)).length c52 (flat e8 (xs ++ ordB1 o ++ opsB (o.f_Txn_Ops.xs.take 0))) :: _) (fun w S => by rw [show xs ++ numsB (headN o) ++ numB o.f_Txn_Reads.xs.length ++ textsB o.f_Txn_Reads.xs ++ numB o.f_Txn_Writes.xs.length ++ textsB o.f_Txn_Writes.xs ++ numB o.f_Txn_Ops.xs.length = xs ++ ordB1 o ++ opsB (o.f_Txn_Ops.xs.take 0) from by simp [ordB1, opsB]] at S; exact S) ?_
 refine c_region ?_
 refine o_fieldAddr (q := ⟨b3, 4, none⟩) rfl rfl Try.underlying33 rfl ti30 rfl ?_
 refine o_fieldAddr (q := ⟨b3, 7, none⟩) rfl rfl Try.underlying30 rfl ti28 rfl ?_
 refine o_load1 rfl rfl Try.underlying28 rfl (rd_mem 3 rfl rfl) ?_
 refine o_len rfl rfl Try.underlying28 ?_
 refine o_move rfl rfl ?_
 refine l_nil ?_
 refine q_then ?_
 refine c_block ?_
 refine c_loop (α := Nat × (Option Addr) × Nat) (fun z => [(0, .pointer (some ⟨k, 0, none⟩)), (3, .pointer (some ⟨b3, 0, none⟩)), (55, .slice o.f_Txn_Ops.a (o.f_Txn_Ops.xs).length o.f_Txn_Ops.c), (56, .int .i64 ((o.f_Txn_Ops.xs).length : Int)), (57, .int .i64 (z.1 : Int))]) (fun z => blk k (.cells #[.slice z.2.1 (xs ++ ordB1 o ++ opsB (o.f_Txn_Ops.xs.take z.1)).length z.2.2] 67 (0, 0)) :: row e8.T e8.sz z.2.1 (xs ++ ordB1 o ++ opsB (o.f_Txn_Ops.xs.take z.1)).length z.2.2 (flat e8 (xs ++ ordB1 o ++ opsB (o.f_Txn_Ops.xs.take z.1))) :: row e_U64.T e_U64.sz a34 (headN o).length 6 (flat e_U64 (headN o)) :: blk b3 (.cells #[.int .i64 o.f_Tag_Id_Node, .int .u64 o.f_Tag_Id_Epoch, .int .u64 o.f_Tag_Id_Seq, .int .i64 o.f_Tag_Try, .int .i64 o.f_Txn_Kind, .slice o.f_Txn_Reads.a (o.f_Txn_Reads.xs).length o.f_Txn_Reads.c, .slice o.f_Txn_Writes.a (o.f_Txn_Writes.xs).length o.f_Txn_Writes.c, .slice o.f_Txn_Ops.a (o.f_Txn_Ops.xs).length o.f_Txn_Ops.c, .int .i64 o.f_Txn_To, .slice o.f_Marks.a (o.f_Marks.xs).length o.f_Marks.c] 33 (0, 0)) :: F) (fun z => z.1 ≤ o.f_Txn_Ops.xs.length) (fun z => o.f_Txn_Ops.xs.length - z.1) (0, a52, c52) (by exact Nat.zero_le _) ⟨(by first | rfl | exact vint (by omega)), (by first | rfl | exact vint (by omega)), (by first | rfl | exact vint (by omega)), (by first | rfl | exact vint (by omega)), (by first | rfl | exact vint (by omega)), trivial⟩ (fun w S => S) ?_
 rintro ⟨i, a9, c9⟩ hi
 try dsimp only at *
 refine c_seq ?_
 refine c_region ?_
 refine o_bin rfl rfl rfl b_lss ?_
 refine l_nil ?_
 refine q_then ?_
 refine c_seq ?_
 refine c_cond rfl (fun h1 => ?_) (fun h1 => ?_)
 · -- h1T
  have h1b := h1
  try simp only [decide_eq_true_eq] at h1
  refine c_skip ?_
  refine q_then ?_
  refine c_seq ?_
  refine c_block ?_
  refine c_seq ?_
  refine c_region ?_
  refine o_index e_Op_ok rfl rfl rfl Try.underlying28 (by omega) (by omega) (OrdR.c (OrdR.c (OrdR.c (OrdR.c T_o)))).ro fun ad59 ead59 => ?_
  obtain ⟨x59, hx59⟩ : ∃ x, (o.f_Txn_Ops.xs)[((i : Int)).toNat]? = some x := ⟨_, List.getElem?_eq_getElem (by omega)⟩
  have hk59 := ok_op hok x59 (List.mem_of_getElem? hx59)
  have hs59 := sm.os x59 (List.mem_of_getElem? hx59)
  have hw59 := wf.op x59 (List.mem_of_getElem? hx59)
  have hol9 := opsB_len hok wf sm i
  have htd : x59.f_Key.data.toList.length ≤ 200 := by simp; omega
  have hnd := nl_len (n := x59.f_Key.data.toList.length) (by omega)
  have hnv := nl_len (n := x59.f_Value.xs.length) (by omega)
  have hnk := nl_len (n := x59.f_Kind.toNat) (by omega)
  refine o_loadn (vs := e_Op.cells x59) rfl rfl Try.underlying53 rfl ti53 (rdn_sl e_Op_ok ead59 (OrdR.c (OrdR.c (OrdR.c (OrdR.c T_o)))).ro hx59) ?_
  refine o_alloc rfl ti53 fun b5 => ?_
  refine o_storen rfl rfl ti53 rfl rfl rfl rfl ?_
  refine l_nil ?_
  refine q_then ?_
  refine c_seq ?_
  refine c_region ?_
  refine o_move rfl rfl ?_
  refine o_fieldAddr (q := ⟨b5, 0, none⟩) rfl rfl Try.underlying53 rfl ti3 rfl ?_
  refine o_load1 rfl rfl Try.underlying3 rfl (rd_mem 0 rfl rfl) ?_
  refine o_int rfl rfl Try.underlying3 Try.underlying22 (wu64 (by omega) (by omega)) ?_
  refine l_f2 ?_
  refine l_f2 ?_
  refine o_call rfl cal52 rfl (penNum (v := x59.f_Kind.toNat) (by omega) (by (try simp only [List.length_append, List.length_nil]); omega)) ?_
  rintro _ _ ⟨a65, c65, rfl, rfl⟩
  refine l_nil ?_
  refine q_then ?_
  refine c_seq ?_
  refine c_region ?_
  refine o_move rfl rfl ?_
  refine o_fieldAddr (q := ⟨b5, 1, none⟩) rfl rfl Try.underlying53 rfl ti9 rfl ?_
  refine o_load1 rfl rfl Try.underlying9 rfl (rd_mem 2 rfl rfl) ?_
  refine o_strBytes (e := e8) rfl rfl rfl rfl Try.underlying9 Try.underlying45 Try.underlying5 fun a69 c69 hc69 => ?_
  refine l_f2 ?_
  refine l_f2 ?_
  refine l_f1 ?_
  refine l_f1 ?_
  refine o_call rfl cal54 rfl (penText (rds_mrow e8_ok 0 rfl) (by (try simp only [List.length_append, List.length_nil]); omega) (by (try simp only [List.length_append, List.length_nil]); omega)) ?_
  rintro _ _ ⟨a70, c70, rfl, rfl⟩
  refine l_nil ?_
  refine q_then ?_
  refine c_seq ?_
  refine c_region ?_
  refine o_move rfl rfl ?_
  refine o_fieldAddr (q := ⟨b5, 2, none⟩) rfl rfl Try.underlying53 rfl ti45 rfl ?_
  refine o_load1 rfl rfl Try.underlying45 rfl (rd_mem 3 rfl rfl) ?_
  refine l_f1 ?_
  refine l_f1 ?_
  refine l_f1 ?_
  refine l_f1 ?_
  refine o_call rfl cal54 rfl (penText ((OrdR.c (OrdR.c (OrdR.c (OrdR.c T_o)))).rv x59 (List.mem_of_getElem? hx59)) (by (try simp only [List.length_append, List.length_nil]); omega) (by (try simp only [List.length_append, List.length_nil]); omega)) ?_
  rintro _ _ ⟨a74, c74, rfl, rfl⟩
  refine l_nil ?_
  refine q_then ?_
  refine c_region ?_
  refine o_move rfl rfl ?_
  refine o_fieldAddr (q := ⟨b5, 3, none⟩) rfl rfl Try.underlying53 rfl ti2 rfl ?_
  refine o_load1 rfl rfl Try.underlying2 rfl (rd_mem 3 rfl rfl) ?_
  refine o_call rfl cal55 rfl (turned_ (n := x59.f_N) hw59) ?_
  rintro _ _ ⟨rfl, rfl⟩
  refine l_eq (t := 78) (v' := .int .u64 ((zig x59.f_N).toNat : Int)) rfl (by exact congrArg (Value.int .u64) (Int.toNat_of_nonneg (zig_0 hw59).1).symm) ?_
  refine l_f1 ?_
  refine l_f1 ?_
  refine o_call rfl cal52 rfl (penNum (v := (zig x59.f_N).toNat) (by have := (zig_0 hw59).2; omega) (by (try simp only [List.length_append, List.length_nil]); omega)) ?_
  rintro _ _ ⟨a79, c79, rfl, rfl⟩
  refine l_nil ?_
  refine q_block ?_
  refine q_then ?_
  refine c_region ?_
  refine o_bin rfl rfl rfl (b_add (wrap_i64 (by omega) (by omega))) ?_
  refine o_move rfl rfl ?_
  refine l_nil ?_
  refine q_conv (L' := blk k (.cells #[.slice a79 (xs ++ ordB1 o ++ opsB (o.f_Txn_Ops.xs.take (i + 1))).length c79] 67 (0, 0)) :: row e8.T e8.sz a79 (xs ++ ordB1 o ++ opsB (o.f_Txn_Ops.xs.take (i + 1))).length c79 (flat e8 (xs ++ ordB1 o ++ opsB (o.f_Txn_Ops.xs.take (i + 1)))) :: _) (fun w S => by rw [show xs ++ ordB1 o ++ opsB (o.f_Txn_Ops.xs.take i) ++ numB x59.f_Kind.toNat ++ numB x59.f_Key.data.toList.length ++ x59.f_Key.data.toList ++ numB x59.f_Value.xs.length ++ x59.f_Value.xs ++ numB (zig x59.f_N).toNat = xs ++ ordB1 o ++ opsB (o.f_Txn_Ops.xs.take (i + 1)) from by unfold opsB; rw [fm_on hx59]; unfold opB strB nB; simp only [List.append_assoc]] at S; exact S) ?_
  refine q_conv (fun w S => (S.perm p2).tail) ?_
  refine q_conv (fun w S => (S.perm p2).tail) ?_
  exact q_round (i + 1, a79, c79) (by (try dsimp only); omega) (by (try dsimp only); omega) ⟨(by first | rfl | exact vint (by omega)), (by first | rfl | exact vint (by omega)), (by first | rfl | exact vint (by omega)), (by first | rfl | exact vint (by omega)), (by first | rfl | exact vint (by omega)), trivial⟩ (fun w S => S)
 · -- h1F
  have h1b := h1
  try simp only [decide_eq_false_iff_not, Int.not_lt, Int.not_le] at h1
  obtain rfl : i = o.f_Txn_Ops.xs.length := by omega
  refine c_exit ?_
  refine q_pass_exit ?_
  refine q_pass_exit ?_
  refine q_hit ?_
  refine q_then ?_
  refine c_seq ?_
  refine c_conv (L' := blk k (.cells #[.slice a9 (xs ++ ordB1 o ++ opsB o.f_Txn_Ops.xs ++ mksB (o.f_Marks.xs.take 0)).length c9] 67 (0, 0)) :: row e8.T e8.sz a9 (xs ++ ordB1 o ++ opsB o.f_Txn_Ops.xs ++ mksB (o.f_Marks.xs.take 0)).length c9 (flat e8 (xs ++ ordB1 o ++ opsB o.f_Txn_Ops.xs ++ mksB (o.f_Marks.xs.take 0))) :: _) (fun w S => by rw [show xs ++ ordB1 o ++ opsB (o.f_Txn_Ops.xs.take o.f_Txn_Ops.xs.length) = xs ++ ordB1 o ++ opsB o.f_Txn_Ops.xs ++ mksB (o.f_Marks.xs.take 0) from by simp [mksB]] at S; exact S) ?_
  refine c_region ?_
  refine o_fieldAddr (q := ⟨b3, 9, none⟩) rfl rfl Try.underlying33 rfl ti31 rfl ?_
  refine o_load1 rfl rfl Try.underlying31 rfl (rd_mem 3 rfl rfl) ?_
  refine o_len rfl rfl Try.underlying31 ?_
  refine o_move rfl rfl ?_
  refine l_nil ?_
  refine q_then ?_
  refine c_block ?_
  refine c_loop (α := Nat × (Option Addr) × Nat) (fun z => [(0, .pointer (some ⟨k, 0, none⟩)), (82, .slice o.f_Marks.a (o.f_Marks.xs).length o.f_Marks.c), (83, .int .i64 ((o.f_Marks.xs).length : Int)), (84, .int .i64 (z.1 : Int))]) (fun z => blk k (.cells #[.slice z.2.1 (xs ++ ordB1 o ++ opsB o.f_Txn_Ops.xs ++ mksB (o.f_Marks.xs.take z.1)).length z.2.2] 67 (0, 0)) :: row e8.T e8.sz z.2.1 (xs ++ ordB1 o ++ opsB o.f_Txn_Ops.xs ++ mksB (o.f_Marks.xs.take z.1)).length z.2.2 (flat e8 (xs ++ ordB1 o ++ opsB o.f_Txn_Ops.xs ++ mksB (o.f_Marks.xs.take z.1))) :: row e_U64.T e_U64.sz a34 (headN o).length 6 (flat e_U64 (headN o)) :: blk b3 (.cells #[.int .i64 o.f_Tag_Id_Node, .int .u64 o.f_Tag_Id_Epoch, .int .u64 o.f_Tag_Id_Seq, .int .i64 o.f_Tag_Try, .int .i64 o.f_Txn_Kind, .slice o.f_Txn_Reads.a (o.f_Txn_Reads.xs).length o.f_Txn_Reads.c, .slice o.f_Txn_Writes.a (o.f_Txn_Writes.xs).length o.f_Txn_Writes.c, .slice o.f_Txn_Ops.a (o.f_Txn_Ops.xs).length o.f_Txn_Ops.c, .int .i64 o.f_Txn_To, .slice o.f_Marks.a (o.f_Marks.xs).length o.f_Marks.c] 33 (0, 0)) :: F) (fun z => z.1 ≤ o.f_Marks.xs.length) (fun z => o.f_Marks.xs.length - z.1) (0, a9, c9) (by exact Nat.zero_le _) ⟨(by first | rfl | exact vint (by omega)), (by first | rfl | exact vint (by omega)), (by first | rfl | exact vint (by omega)), (by first | rfl | exact vint (by omega)), trivial⟩ (fun w S => S) ?_
  rintro ⟨j, a8, c8⟩ hj
  try dsimp only at *
  refine c_seq ?_
  refine c_region ?_
  refine o_bin rfl rfl rfl b_lss ?_
  refine l_nil ?_
  refine q_then ?_
  refine c_seq ?_
  refine c_cond rfl (fun h2 => ?_) (fun h2 => ?_)
  · -- h2T
   have h2b := h2
   try simp only [decide_eq_true_eq] at h2
   refine c_skip ?_
   refine q_then ?_
   refine c_seq ?_
   refine c_block ?_
   refine c_seq ?_
   refine c_region ?_
   refine o_index e_Mark_ok rfl rfl rfl Try.underlying31 (by omega) (by omega) (OrdR.c (OrdR.c (OrdR.c (OrdR.c T_o)))).rm fun ad86 ead86 => ?_
   obtain ⟨x86, hx86⟩ : ∃ x, (o.f_Marks.xs)[((j : Int)).toNat]? = some x := ⟨_, List.getElem?_eq_getElem (by omega)⟩
   have hh86 := ok_mk' hok x86 (List.mem_of_getElem? hx86)
   have hc86 := wf.mc x86 (List.mem_of_getElem? hx86)
   have hml9 := mksB_len hok wf sm j
   have hnh := nl_len (n := x86.f_Home.toNat) (by omega)
   refine o_loadn (vs := e_Mark.cells x86) rfl rfl Try.underlying51 rfl ti51 (rdn_sl e_Mark_ok ead86 (OrdR.c (OrdR.c (OrdR.c (OrdR.c T_o)))).rm hx86) ?_
   refine o_alloc rfl ti51 fun b7 => ?_
   refine o_storen rfl rfl ti51 rfl rfl rfl rfl ?_
   refine l_nil ?_
   refine q_then ?_
   refine c_seq ?_
   refine c_region ?_
   refine o_move rfl rfl ?_
   refine o_fieldAddr (q := ⟨b7, 1, none⟩) rfl rfl Try.underlying51 rfl ti3 rfl ?_
   refine o_load1 rfl rfl Try.underlying3 rfl (rd_mem 0 rfl rfl) ?_
   refine o_int rfl rfl Try.underlying3 Try.underlying22 (wu64 (by omega) (by omega)) ?_
   refine l_f2 ?_
   refine l_f2 ?_
   refine o_call rfl cal52 rfl (penNum (v := x86.f_Home.toNat) (by omega) (by (try simp only [List.length_append, List.length_nil]); omega)) ?_
   rintro _ _ ⟨a92, c92, rfl, rfl⟩
   refine l_nil ?_
   refine q_then ?_
   refine c_region ?_
   refine o_move rfl rfl ?_
   refine o_fieldAddr (q := ⟨b7, 2, none⟩) rfl rfl Try.underlying51 rfl ti22 rfl ?_
   refine o_load1 rfl rfl Try.underlying22 rfl (rd_mem 2 rfl rfl) ?_
   refine l_eq (t := 95) (v' := .int .u64 (x86.f_Count.toNat : Int)) rfl (by exact congrArg (Value.int .u64) (Int.toNat_of_nonneg hc86.1).symm) ?_
   refine l_f1 ?_
   refine l_f1 ?_
   refine o_call rfl cal52 rfl (penNum (v := x86.f_Count.toNat) (by omega) (by (try simp only [List.length_append, List.length_nil]); omega)) ?_
   rintro _ _ ⟨a96, c96, rfl, rfl⟩
   refine l_nil ?_
   refine q_block ?_
   refine q_then ?_
   refine c_region ?_
   refine o_bin rfl rfl rfl (b_add (wrap_i64 (by omega) (by omega))) ?_
   refine o_move rfl rfl ?_
   refine l_nil ?_
   refine q_conv (L' := blk k (.cells #[.slice a96 (xs ++ ordB1 o ++ opsB o.f_Txn_Ops.xs ++ mksB (o.f_Marks.xs.take (j + 1))).length c96] 67 (0, 0)) :: row e8.T e8.sz a96 (xs ++ ordB1 o ++ opsB o.f_Txn_Ops.xs ++ mksB (o.f_Marks.xs.take (j + 1))).length c96 (flat e8 (xs ++ ordB1 o ++ opsB o.f_Txn_Ops.xs ++ mksB (o.f_Marks.xs.take (j + 1)))) :: _) (fun w S => by rw [show xs ++ ordB1 o ++ opsB o.f_Txn_Ops.xs ++ mksB (o.f_Marks.xs.take j) ++ numB x86.f_Home.toNat ++ numB x86.f_Count.toNat = xs ++ ordB1 o ++ opsB o.f_Txn_Ops.xs ++ mksB (o.f_Marks.xs.take (j + 1)) from by unfold mksB; rw [fm_on hx86]; unfold mkB nB; simp only [List.append_assoc]] at S; exact S) ?_
   refine q_conv (fun w S => (S.perm p2).tail) ?_
   exact q_round (j + 1, a96, c96) (by (try dsimp only); omega) (by (try dsimp only); omega) ⟨(by first | rfl | exact vint (by omega)), (by first | rfl | exact vint (by omega)), (by first | rfl | exact vint (by omega)), (by first | rfl | exact vint (by omega)), trivial⟩ (fun w S => S)
  · -- h2F
   have h2b := h2
   try simp only [decide_eq_false_iff_not, Int.not_lt, Int.not_le] at h2
   obtain rfl : j = o.f_Marks.xs.length := by omega
   refine c_exit ?_
   refine q_pass_exit ?_
   refine q_pass_exit ?_
   refine q_hit ?_
   refine q_conv (fun w S => (S.perm p2).tail) ?_
   refine q_conv (fun w S => (S.perm p2).tail) ?_
   exact f_end (r_none rfl) (⟨_, _, rfl, rfl⟩) (fun w S => by rw [show xs ++ ordB1 o ++ opsB o.f_Txn_Ops.xs ++ mksB (o.f_Marks.xs.take o.f_Marks.xs.length) = xs ++ ordB o from by rw [List.take_length]; simp [ordB]] at S; exact S)
end
section
open Go.RowKit Classical
noncomputable def wrO (o : Order) : List UInt8 := if OrdOk o 3 then ordB o else []
def ItOk (x : Item) : Prop := (x.f_Kind = 1 ∧ x.f_Index = 0) ∨ (x.f_Kind = 2 ∧ 0 ≤ x.f_Index ∧ x.f_Index < 64)
def itemB (x : Item) : List UInt8 := numsB [x.f_Kind, x.f_Index] ++ ordB x.ord
noncomputable def chkI (x : Item) : Int := if ItOk x ∧ OrdOk x.ord 3 then 0 else 1
noncomputable def wrI (x : Item) : List UInt8 := if ItOk x ∧ OrdOk x.ord 3 then itemB x else []
theorem chkO_ne {o : Order} {r : Int} (h : ¬ chkO o r = 0) : ¬ OrdOk o r := fun h9 => h (chkO_yes h9)
theorem chkI_0 {x : Item} : chkI x = 0 ↔ ItOk x ∧ OrdOk x.ord 3 := by unfold chkI; split <;> simp_all
theorem it_hd {x : Item} (h : ItOk x) : ∀ y ∈ [x.f_Kind, x.f_Index], 0 ≤ y ∧ y < 18446744073709551616 := fun y hy => by
  simp only [List.mem_cons, List.not_mem_nil, or_false] at hy
  unfold ItOk at h
  rcases hy with rfl | rfl <;> omega
theorem okb_of {o : Order} (sm : OSmall o) : o.f_Txn_Reads.xs.length + o.f_Txn_Writes.xs.length ≤ 1000000 := by have := sm.r; have := sm.w; omega
set_option maxHeartbeats 1000000 in
theorem oWrite_ {W : World} {F : List Res} {o : Order} (T_o : OrdR W F o) (sm : OSmall o) (wf : OWf o) : CS Try.prog 18 #[.agg #[.int .i64 o.f_Tag_Id_Node, .int .u64 o.f_Tag_Id_Epoch, .int .u64 o.f_Tag_Id_Seq, .int .i64 o.f_Tag_Try, .int .i64 o.f_Txn_Kind, .slice o.f_Txn_Reads.a (o.f_Txn_Reads.xs).length o.f_Txn_Reads.c, .slice o.f_Txn_Writes.a (o.f_Txn_Writes.xs).length o.f_Txn_Writes.c, .slice o.f_Txn_Ops.a (o.f_Txn_Ops.xs).length o.f_Txn_Ops.c, .int .i64 o.f_Txn_To, .slice o.f_Marks.a (o.f_Marks.xs).length o.f_Marks.c]] W (F) (fun r L' => ∃ (out : List UInt8) (a2 : Option Addr) (c2 : Nat), out = wrO o ∧ r = .tuple #[.slice a2 out.length c2, .int .i64 (chkO o 3)] ∧ L' = row e8.T e8.sz a2 (out).length c2 (flat e8 out) :: F) := by
 refine f_door (l0 := [(0, .agg #[.int .i64 o.f_Tag_Id_Node, .int .u64 o.f_Tag_Id_Epoch, .int .u64 o.f_Tag_Id_Seq, .int .i64 o.f_Tag_Try, .int .i64 o.f_Txn_Kind, .slice o.f_Txn_Reads.a (o.f_Txn_Reads.xs).length o.f_Txn_Reads.c, .slice o.f_Txn_Writes.a (o.f_Txn_Writes.xs).length o.f_Txn_Writes.c, .slice o.f_Txn_Ops.a (o.f_Txn_Ops.xs).length o.f_Txn_Ops.c, .int .i64 o.f_Txn_To, .slice o.f_Marks.a (o.f_Marks.xs).length o.f_Marks.c])]) Try.func18 Try.ntmps18 rfl rfl rfl ?_
 refine c_seq ?_
 refine c_region ?_
 refine o_box rfl rfl fun b1 => ?_
 refine o_assign rfl rfl ?_
 refine o_assign rfl rfl ?_
 refine l_nil ?_
 refine q_then ?_
 refine c_seq ?_
 refine c_seq ?_
 refine c_region ?_
 refine o_loadn (vs := [_, _, _, _, _, _, _, _, _, _]) rfl rfl Try.underlying33 rfl ti33 (rdn_lit 0 rfl rfl) ?_
 refine o_call rfl cal12 rfl (ocheck_ (o := o) (g := 3) (OrdR.c T_o) (okb_of sm) (by have := sm.m; omega)) ?_
 rintro _ _ ⟨rfl, rfl⟩
 refine o_assign rfl rfl ?_
 refine l_nil ?_
 refine q_then ?_
 refine c_seq ?_
 refine c_region ?_
 refine o_move rfl rfl ?_
 refine o_bin rfl rfl rfl b_neq ?_
 refine l_nil ?_
 refine q_then ?_
 refine c_cond rfl (fun h1 => ?_) (fun h1 => ?_)
 · -- h1T
  have h1b := h1
  try simp only [Bool.not_eq_true', decide_eq_false_iff_not, Int.not_lt, Int.not_le] at h1
  have hno : ¬ OrdOk o 3 := chkO_ne (by first | assumption | simpa using h1b)
  refine c_seq ?_
  refine c_nilrow e8 ?_
  refine c_region ?_
  refine o_move rfl rfl ?_
  refine o_assign rfl rfl ?_
  refine o_assign rfl rfl ?_
  refine l_nil ?_
  refine q_then ?_
  refine c_ret ?_
  refine q_pass_ret ?_
  refine q_conv (fun w S => (S.perm p1).tail) ?_
  exact f_ret (r_two rfl rfl rfl) (⟨[], none, 0, by rw [wrO, if_neg hno], rfl, rfl⟩) (fun w S => S)
 · -- h1F
  have h1b := h1
  try simp only [Bool.not_eq_false', decide_eq_true_eq] at h1
  have hok : OrdOk o 3 := chkO_0.1 (by first | assumption | simpa using h1b)
  have hbl := ordB_len hok wf sm
  refine c_skip ?_
  refine q_then ?_
  refine c_seq ?_
  refine c_region ?_
  refine o_build rfl sp67 ti67 rfl rfl ?_
  refine o_box rfl rfl fun b12 => ?_
  refine l_nilrow e8 ?_
  refine l_conv (L' := blk b12 (.cells #[.slice none (([] : List UInt8)).length 0] 67 (0, 0)) :: row e8.T e8.sz none (([] : List UInt8)).length 0 (flat e8 ([] : List UInt8)) :: _) (fun w S => S.perm p1) ?_
  refine o_assign rfl rfl ?_
  refine l_nil ?_
  refine q_then ?_
  refine c_seq ?_
  refine c_region ?_
  refine o_move rfl rfl ?_
  refine o_loadn (vs := [_, _, _, _, _, _, _, _, _, _]) rfl rfl Try.underlying33 rfl ti33 (rdn_lit 2 rfl rfl) ?_
  refine l_f1 ?_
  refine l_f1 ?_
  refine o_call rfl cal32 rfl (owrite_ (o := o) (OrdR.c T_o) hok wf sm (by (try simp only [List.length_append, List.length_nil]); omega)) ?_
  rintro _ _ ⟨a15, c15, rfl, rfl⟩
  refine l_nil ?_
  refine q_then ?_
  refine c_seq ?_
  refine c_region ?_
  refine o_move rfl rfl ?_
  refine l_f1 ?_
  refine l_f1 ?_
  refine o_call rfl cal33 rfl (penData (by (try simp only [List.length_append, List.length_nil]); omega)) ?_
  rintro _ _ ⟨a17, c17, rfl, rfl⟩
  refine o_assign rfl rfl ?_
  refine o_assign rfl rfl ?_
  refine l_nil ?_
  refine q_then ?_
  refine c_ret ?_
  refine q_conv (fun w S => (S.perm p1).tail) ?_
  refine q_conv (fun w S => (S.perm p1).tail) ?_
  refine q_conv (fun w S => (S.perm p1).tail) ?_
  exact f_ret (r_two rfl rfl rfl) (⟨ordB o, a17, c17, by rw [wrO, if_pos hok], by rw [show chkO o 3 = 0 from if_pos hok]; rfl, rfl⟩) (fun w S => S)

set_option maxHeartbeats 1000000 in
theorem iWrite_ {W : World} {F : List Res} {x : Item} (T_x : OrdR W F x.ord) (sm : OSmall x.ord) (wf : OWf x.ord) : CS Try.prog 17 #[.agg #[.int .i64 x.f_Kind, .int .i64 x.f_Index, .int .i64 x.ord.f_Tag_Id_Node, .int .u64 x.ord.f_Tag_Id_Epoch, .int .u64 x.ord.f_Tag_Id_Seq, .int .i64 x.ord.f_Tag_Try, .int .i64 x.ord.f_Txn_Kind, .slice x.ord.f_Txn_Reads.a (x.ord.f_Txn_Reads.xs).length x.ord.f_Txn_Reads.c, .slice x.ord.f_Txn_Writes.a (x.ord.f_Txn_Writes.xs).length x.ord.f_Txn_Writes.c, .slice x.ord.f_Txn_Ops.a (x.ord.f_Txn_Ops.xs).length x.ord.f_Txn_Ops.c, .int .i64 x.ord.f_Txn_To, .slice x.ord.f_Marks.a (x.ord.f_Marks.xs).length x.ord.f_Marks.c]] W (F) (fun r L' => ∃ (out : List UInt8) (a2 : Option Addr) (c2 : Nat), out = wrI x ∧ r = .tuple #[.slice a2 out.length c2, .int .i64 (chkI x)] ∧ L' = row e8.T e8.sz a2 (out).length c2 (flat e8 out) :: F) := by
 refine f_door (l0 := [(0, .agg #[.int .i64 x.f_Kind, .int .i64 x.f_Index, .int .i64 x.ord.f_Tag_Id_Node, .int .u64 x.ord.f_Tag_Id_Epoch, .int .u64 x.ord.f_Tag_Id_Seq, .int .i64 x.ord.f_Tag_Try, .int .i64 x.ord.f_Txn_Kind, .slice x.ord.f_Txn_Reads.a (x.ord.f_Txn_Reads.xs).length x.ord.f_Txn_Reads.c, .slice x.ord.f_Txn_Writes.a (x.ord.f_Txn_Writes.xs).length x.ord.f_Txn_Writes.c, .slice x.ord.f_Txn_Ops.a (x.ord.f_Txn_Ops.xs).length x.ord.f_Txn_Ops.c, .int .i64 x.ord.f_Txn_To, .slice x.ord.f_Marks.a (x.ord.f_Marks.xs).length x.ord.f_Marks.c])]) Try.func17 Try.ntmps17 rfl rfl rfl ?_
 refine c_seq ?_
 refine c_region ?_
 refine o_box rfl rfl fun b1 => ?_
 refine o_assign rfl rfl ?_
 refine o_assign rfl rfl ?_
 refine l_nil ?_
 refine q_then ?_
 refine c_seq ?_
 refine c_region ?_
 refine o_fieldAddr (q := ⟨b1, 0, none⟩) rfl rfl Try.underlying44 rfl ti3 rfl ?_
 refine o_load1 rfl rfl Try.underlying3 rfl (rd_mem 0 rfl rfl) ?_
 refine o_bin rfl rfl rfl b_eql ?_
 refine o_move rfl rfl ?_
 refine l_split (t := 9) rfl (fun h1 => ?_) (fun h1 => ?_)
 · -- h1T
  have h1b := h1
  try simp only [decide_eq_true_eq] at h1
  refine o_yes rfl rfl rfl ?_
  refine o_fieldAddr (q := ⟨b1, 1, none⟩) rfl rfl Try.underlying44 rfl ti3 rfl ?_
  refine o_yes rfl rfl rfl ?_
  refine o_load1 rfl rfl Try.underlying3 rfl (rd_mem 0 rfl rfl) ?_
  refine o_yes rfl rfl rfl ?_
  refine o_bin rfl rfl rfl b_eql ?_
  refine o_pick_true rfl rfl rfl ?_
  refine o_move rfl rfl ?_
  refine l_split (t := 14) rfl (fun h2 => ?_) (fun h2 => ?_)
  · -- h2T
   have h2b := h2
   try simp only [decide_eq_true_eq] at h2
   refine o_no rfl rfl rfl rfl ?_
   refine o_no rfl rfl rfl rfl ?_
   refine o_no rfl rfl rfl rfl ?_
   refine o_no rfl rfl rfl rfl ?_
   refine o_no rfl rfl rfl rfl ?_
   refine o_no rfl rfl rfl rfl ?_
   refine o_no rfl rfl rfl rfl ?_
   refine o_no rfl rfl rfl rfl ?_
   refine o_no rfl rfl rfl rfl ?_
   refine o_no rfl rfl rfl rfl ?_
   refine o_no rfl rfl rfl rfl ?_
   refine o_no rfl rfl rfl rfl ?_
   refine o_no rfl rfl rfl rfl ?_
   refine o_pick_true rfl rfl rfl ?_
   refine o_assign rfl rfl ?_
   refine l_nil ?_
   refine q_then ?_
   refine c_seq ?_
   refine c_seq ?_
   refine c_region ?_
   refine o_move rfl rfl ?_
   refine o_not rfl rfl ?_
   refine o_move rfl rfl ?_
   refine o_yes rfl rfl rfl ?_
   refine o_fieldAddr (q := ⟨b1, 2, none⟩) rfl rfl Try.underlying44 rfl ti33 rfl ?_
   refine o_yes rfl rfl rfl ?_
   refine o_loadn (vs := [_, _, _, _, _, _, _, _, _, _]) rfl rfl Try.underlying33 rfl ti33 (rdn_lit 0 rfl rfl) ?_
   refine o_yes rfl rfl rfl ?_
   refine o_call rfl cal12 rfl (ocheck_ (o := x.ord) (g := 3) (OrdR.c T_x) (okb_of sm) (by have := sm.m; omega)) ?_
   rintro _ _ ⟨rfl, rfl⟩
   refine o_yes rfl rfl rfl ?_
   refine o_bin rfl rfl rfl b_neq ?_
   refine o_pick_false rfl rfl rfl ?_
   refine l_nil ?_
   refine q_then ?_
   refine c_cond rfl (fun h3 => ?_) (fun h3 => ?_)
   · -- h3T
    have h3b := h3
    try simp only [Bool.not_eq_true', decide_eq_false_iff_not, Int.not_lt, Int.not_le] at h3
    refine c_seq ?_
    have hno : ¬ (ItOk x ∧ OrdOk x.ord 3) := by unfold ItOk; first | (intro h9; omega) | (rintro ⟨h8, h9⟩; first | omega | (exact absurd (chkO_yes h9) (by assumption)) | (rw [chkO_yes h9] at *; simp_all))
    refine c_nilrow e8 ?_
    refine c_region ?_
    refine o_assign rfl rfl ?_
    refine o_assign rfl rfl ?_
    refine l_nil ?_
    refine q_then ?_
    refine c_ret ?_
    refine q_pass_ret ?_
    refine q_conv (fun w S => (S.perm p1).tail) ?_
    exact f_ret (r_two rfl rfl rfl) (⟨[], none, 0, by rw [wrI, if_neg hno], by rw [show chkI x = 1 from if_neg hno]; rfl, rfl⟩) (fun w S => S)
   · -- h3F
    have h3b := h3
    try simp only [Bool.not_eq_false', decide_eq_true_eq] at h3
    refine c_skip ?_
    refine q_then ?_
    refine c_seq ?_
    have hok : ItOk x ∧ OrdOk x.ord 3 := ⟨by unfold ItOk; omega, chkO_0.1 (by first | assumption | simp_all)⟩
    have hh := it_hd hok.1
    have hbl := ordB_len hok.2 wf sm
    have g1 := hh x.f_Kind (by simp)
    have g2 := hh x.f_Index (by simp)
    have hnl := numsB_len (ns := [x.f_Kind, x.f_Index]) fun y hy => (hh y hy).2
    have l2 : [x.f_Kind, x.f_Index].length = 2 := rfl
    refine c_region ?_
    refine o_build rfl sp67 ti67 rfl rfl ?_
    refine o_box rfl rfl fun b38 => ?_
    refine l_nilrow e8 ?_
    refine l_conv (L' := blk b38 (.cells #[.slice none (([] : List UInt8)).length 0] 67 (0, 0)) :: row e8.T e8.sz none (([] : List UInt8)).length 0 (flat e8 ([] : List UInt8)) :: _) (fun w S => S.perm p1) ?_
    refine o_assign rfl rfl ?_
    refine l_nil ?_
    refine q_then ?_
    refine c_seq ?_
    refine c_region ?_
    refine o_move rfl rfl ?_
    refine o_fieldAddr (q := ⟨b1, 0, none⟩) rfl rfl Try.underlying44 rfl ti3 rfl ?_
    refine o_load1 rfl rfl Try.underlying3 rfl (rd_mem 2 rfl rfl) ?_
    refine o_int rfl rfl Try.underlying3 Try.underlying22 (wrap_u64 (by omega) (by omega)) ?_
    refine o_fieldAddr (q := ⟨b1, 1, none⟩) rfl rfl Try.underlying44 rfl ti3 rfl ?_
    refine o_load1 rfl rfl Try.underlying3 rfl (rd_mem 2 rfl rfl) ?_
    refine o_int rfl rfl Try.underlying3 Try.underlying22 (wrap_u64 (by omega) (by omega)) ?_
    refine o_lit e_U64_ok rfl Try.underlying90 rfl rfl rfl (lit_ok rfl) [x.f_Kind, x.f_Index] rfl rfl fun a46 => ?_
    refine l_f2 ?_
    refine l_f2 ?_
    refine o_call rfl cal31 rfl (nums_ (ns := [x.f_Kind, x.f_Index]) (rds_own e_U64_ok 0 rfl) (it_hd hok.1) (by show _ ≤ 100; exact Nat.le_of_ble_eq_true rfl) (by (try simp only [List.length_append, List.length_nil]); omega)) ?_
    rintro _ _ ⟨a47, c47, rfl, rfl⟩
    refine l_nil ?_
    refine q_then ?_
    refine c_seq ?_
    refine c_region ?_
    refine o_move rfl rfl ?_
    refine o_fieldAddr (q := ⟨b1, 2, none⟩) rfl rfl Try.underlying44 rfl ti33 rfl ?_
    refine o_loadn (vs := [_, _, _, _, _, _, _, _, _, _]) rfl rfl Try.underlying33 rfl ti33 (rdn_lit 3 rfl rfl) ?_
    refine l_f1 ?_
    refine l_f1 ?_
    refine o_call rfl cal32 rfl (owrite_ (o := x.ord) (OrdR.c (OrdR.c T_x)) hok.2 wf sm (by (try simp only [List.length_append, List.length_nil]); omega)) ?_
    rintro _ _ ⟨a51, c51, rfl, rfl⟩
    refine l_nil ?_
    refine q_then ?_
    refine c_seq ?_
    refine c_region ?_
    refine o_move rfl rfl ?_
    refine l_f1 ?_
    refine l_f1 ?_
    refine o_call rfl cal33 rfl (penData (by (try simp only [List.length_append, List.length_nil]); omega)) ?_
    rintro _ _ ⟨a53, c53, rfl, rfl⟩
    refine o_assign rfl rfl ?_
    refine o_assign rfl rfl ?_
    refine l_nil ?_
    refine q_then ?_
    refine c_ret ?_
    refine q_conv (fun w S => (S.perm p1).tail) ?_
    refine q_conv (fun w S => (S.perm p1).tail) ?_
    refine q_conv (fun w S => (S.perm p1).tail) ?_
    refine q_conv (fun w S => (S.perm p1).tail) ?_
    exact f_ret (r_two rfl rfl rfl) (⟨itemB x, a53, c53, by rw [wrI, if_pos hok], by rw [show chkI x = 0 from if_pos hok]; rfl, rfl⟩) (fun w S => S)
  · -- h2F
   have h2b := h2
   try simp only [decide_eq_false_iff_not, Int.not_lt, Int.not_le] at h2
   refine o_yes rfl rfl rfl ?_
   refine o_fieldAddr (q := ⟨b1, 0, none⟩) rfl rfl Try.underlying44 rfl ti3 rfl ?_
   refine o_yes rfl rfl rfl ?_
   refine o_load1 rfl rfl Try.underlying3 rfl (rd_mem 0 rfl rfl) ?_
   refine o_yes rfl rfl rfl ?_
   refine o_bin rfl rfl rfl b_eql ?_
   refine o_yes rfl rfl rfl ?_
   refine o_move rfl rfl ?_
   refine l_split (t := 18) rfl (fun h4 => ?_) (fun h4 => ?_)
   · -- h4T
    have h4b := h4
    try simp only [decide_eq_true_eq] at h4
    refine o_yes rfl rfl rfl ?_
    refine o_fieldAddr (q := ⟨b1, 1, none⟩) rfl rfl Try.underlying44 rfl ti3 rfl ?_
    refine o_yes rfl rfl rfl ?_
    refine o_load1 rfl rfl Try.underlying3 rfl (rd_mem 0 rfl rfl) ?_
    refine o_yes rfl rfl rfl ?_
    refine o_bin rfl rfl rfl b_geq ?_
    refine o_yes rfl rfl rfl ?_
    refine o_pick_true rfl rfl rfl ?_
    refine o_yes rfl rfl rfl ?_
    refine o_move rfl rfl ?_
    refine l_split (t := 23) rfl (fun h5 => ?_) (fun h5 => ?_)
    · -- h5T
     have h5b := h5
     try simp only [decide_eq_true_eq] at h5
     refine o_yes rfl rfl rfl ?_
     refine o_fieldAddr (q := ⟨b1, 1, none⟩) rfl rfl Try.underlying44 rfl ti3 rfl ?_
     refine o_yes rfl rfl rfl ?_
     refine o_load1 rfl rfl Try.underlying3 rfl (rd_mem 0 rfl rfl) ?_
     refine o_yes rfl rfl rfl ?_
     refine o_bin rfl rfl rfl b_lss ?_
     refine o_yes rfl rfl rfl ?_
     refine o_pick_true rfl rfl rfl ?_
     refine o_pick_false rfl rfl rfl ?_
     refine o_assign rfl rfl ?_
     refine l_nil ?_
     refine q_then ?_
     refine c_seq ?_
     refine c_seq ?_
     refine c_region ?_
     refine o_move rfl rfl ?_
     refine o_not rfl rfl ?_
     refine o_move rfl rfl ?_
     refine l_split (t := 31) rfl (fun h6 => ?_) (fun h6 => ?_)
     · -- h6T
      have h6b := h6
      try simp only [Bool.not_eq_true', decide_eq_false_iff_not, Int.not_lt, Int.not_le] at h6
      refine o_no rfl rfl rfl rfl ?_
      refine o_no rfl rfl rfl rfl ?_
      refine o_no rfl rfl rfl rfl ?_
      refine o_no rfl rfl rfl rfl ?_
      refine o_pick_true rfl rfl rfl ?_
      refine l_nil ?_
      refine q_then ?_
      refine c_true rfl ?_
      refine c_seq ?_
      have hno : ¬ (ItOk x ∧ OrdOk x.ord 3) := by unfold ItOk; first | (intro h9; omega) | (rintro ⟨h8, h9⟩; first | omega | (exact absurd (chkO_yes h9) (by assumption)) | (rw [chkO_yes h9] at *; simp_all))
      refine c_nilrow e8 ?_
      refine c_region ?_
      refine o_assign rfl rfl ?_
      refine o_assign rfl rfl ?_
      refine l_nil ?_
      refine q_then ?_
      refine c_ret ?_
      refine q_pass_ret ?_
      refine q_conv (fun w S => (S.perm p1).tail) ?_
      exact f_ret (r_two rfl rfl rfl) (⟨[], none, 0, by rw [wrI, if_neg hno], by rw [show chkI x = 1 from if_neg hno]; rfl, rfl⟩) (fun w S => S)
     · -- h6F
      have h6b := h6
      try simp only [Bool.not_eq_false', decide_eq_true_eq] at h6
      refine o_yes rfl rfl rfl ?_
      refine o_fieldAddr (q := ⟨b1, 2, none⟩) rfl rfl Try.underlying44 rfl ti33 rfl ?_
      refine o_yes rfl rfl rfl ?_
      refine o_loadn (vs := [_, _, _, _, _, _, _, _, _, _]) rfl rfl Try.underlying33 rfl ti33 (rdn_lit 0 rfl rfl) ?_
      refine o_yes rfl rfl rfl ?_
      refine o_call rfl cal12 rfl (ocheck_ (o := x.ord) (g := 3) (OrdR.c T_x) (okb_of sm) (by have := sm.m; omega)) ?_
      rintro _ _ ⟨rfl, rfl⟩
      refine o_yes rfl rfl rfl ?_
      refine o_bin rfl rfl rfl b_neq ?_
      refine o_pick_false rfl rfl rfl ?_
      refine l_nil ?_
      refine q_then ?_
      refine c_cond rfl (fun h7 => ?_) (fun h7 => ?_)
      · -- h7T
       have h7b := h7
       try simp only [Bool.not_eq_true', decide_eq_false_iff_not, Int.not_lt, Int.not_le] at h7
       refine c_seq ?_
       have hno : ¬ (ItOk x ∧ OrdOk x.ord 3) := by unfold ItOk; first | (intro h9; omega) | (rintro ⟨h8, h9⟩; first | omega | (exact absurd (chkO_yes h9) (by assumption)) | (rw [chkO_yes h9] at *; simp_all))
       refine c_nilrow e8 ?_
       refine c_region ?_
       refine o_assign rfl rfl ?_
       refine o_assign rfl rfl ?_
       refine l_nil ?_
       refine q_then ?_
       refine c_ret ?_
       refine q_pass_ret ?_
       refine q_conv (fun w S => (S.perm p1).tail) ?_
       exact f_ret (r_two rfl rfl rfl) (⟨[], none, 0, by rw [wrI, if_neg hno], by rw [show chkI x = 1 from if_neg hno]; rfl, rfl⟩) (fun w S => S)
      · -- h7F
       have h7b := h7
       try simp only [Bool.not_eq_false', decide_eq_true_eq] at h7
       refine c_skip ?_
       refine q_then ?_
       refine c_seq ?_
       have hok : ItOk x ∧ OrdOk x.ord 3 := ⟨by unfold ItOk; omega, chkO_0.1 (by first | assumption | simp_all)⟩
       have hh := it_hd hok.1
       have hbl := ordB_len hok.2 wf sm
       have g1 := hh x.f_Kind (by simp)
       have g2 := hh x.f_Index (by simp)
       have hnl := numsB_len (ns := [x.f_Kind, x.f_Index]) fun y hy => (hh y hy).2
       have l2 : [x.f_Kind, x.f_Index].length = 2 := rfl
       refine c_region ?_
       refine o_build rfl sp67 ti67 rfl rfl ?_
       refine o_box rfl rfl fun b38 => ?_
       refine l_nilrow e8 ?_
       refine l_conv (L' := blk b38 (.cells #[.slice none (([] : List UInt8)).length 0] 67 (0, 0)) :: row e8.T e8.sz none (([] : List UInt8)).length 0 (flat e8 ([] : List UInt8)) :: _) (fun w S => S.perm p1) ?_
       refine o_assign rfl rfl ?_
       refine l_nil ?_
       refine q_then ?_
       refine c_seq ?_
       refine c_region ?_
       refine o_move rfl rfl ?_
       refine o_fieldAddr (q := ⟨b1, 0, none⟩) rfl rfl Try.underlying44 rfl ti3 rfl ?_
       refine o_load1 rfl rfl Try.underlying3 rfl (rd_mem 2 rfl rfl) ?_
       refine o_int rfl rfl Try.underlying3 Try.underlying22 (wrap_u64 (by omega) (by omega)) ?_
       refine o_fieldAddr (q := ⟨b1, 1, none⟩) rfl rfl Try.underlying44 rfl ti3 rfl ?_
       refine o_load1 rfl rfl Try.underlying3 rfl (rd_mem 2 rfl rfl) ?_
       refine o_int rfl rfl Try.underlying3 Try.underlying22 (wrap_u64 (by omega) (by omega)) ?_
       refine o_lit e_U64_ok rfl Try.underlying90 rfl rfl rfl (lit_ok rfl) [x.f_Kind, x.f_Index] rfl rfl fun a46 => ?_
       refine l_f2 ?_
       refine l_f2 ?_
       refine o_call rfl cal31 rfl (nums_ (ns := [x.f_Kind, x.f_Index]) (rds_own e_U64_ok 0 rfl) (it_hd hok.1) (by show _ ≤ 100; exact Nat.le_of_ble_eq_true rfl) (by (try simp only [List.length_append, List.length_nil]); omega)) ?_
       rintro _ _ ⟨a47, c47, rfl, rfl⟩
       refine l_nil ?_
       refine q_then ?_
       refine c_seq ?_
       refine c_region ?_
       refine o_move rfl rfl ?_
       refine o_fieldAddr (q := ⟨b1, 2, none⟩) rfl rfl Try.underlying44 rfl ti33 rfl ?_
       refine o_loadn (vs := [_, _, _, _, _, _, _, _, _, _]) rfl rfl Try.underlying33 rfl ti33 (rdn_lit 3 rfl rfl) ?_
       refine l_f1 ?_
       refine l_f1 ?_
       refine o_call rfl cal32 rfl (owrite_ (o := x.ord) (OrdR.c (OrdR.c T_x)) hok.2 wf sm (by (try simp only [List.length_append, List.length_nil]); omega)) ?_
       rintro _ _ ⟨a51, c51, rfl, rfl⟩
       refine l_nil ?_
       refine q_then ?_
       refine c_seq ?_
       refine c_region ?_
       refine o_move rfl rfl ?_
       refine l_f1 ?_
       refine l_f1 ?_
       refine o_call rfl cal33 rfl (penData (by (try simp only [List.length_append, List.length_nil]); omega)) ?_
       rintro _ _ ⟨a53, c53, rfl, rfl⟩
       refine o_assign rfl rfl ?_
       refine o_assign rfl rfl ?_
       refine l_nil ?_
       refine q_then ?_
       refine c_ret ?_
       refine q_conv (fun w S => (S.perm p1).tail) ?_
       refine q_conv (fun w S => (S.perm p1).tail) ?_
       refine q_conv (fun w S => (S.perm p1).tail) ?_
       refine q_conv (fun w S => (S.perm p1).tail) ?_
       exact f_ret (r_two rfl rfl rfl) (⟨itemB x, a53, c53, by rw [wrI, if_pos hok], by rw [show chkI x = 0 from if_pos hok]; rfl, rfl⟩) (fun w S => S)
    · -- h5F
     have h5b := h5
     try simp only [decide_eq_false_iff_not, Int.not_lt, Int.not_le] at h5
     refine o_no rfl rfl rfl rfl ?_
     refine o_no rfl rfl rfl rfl ?_
     refine o_no rfl rfl rfl rfl ?_
     refine o_yes rfl rfl rfl ?_
     refine o_pick_false rfl rfl rfl ?_
     refine o_pick_false rfl rfl rfl ?_
     refine o_assign rfl rfl ?_
     refine l_nil ?_
     refine q_then ?_
     refine c_seq ?_
     refine c_seq ?_
     refine c_region ?_
     refine o_move rfl rfl ?_
     refine o_not rfl rfl ?_
     refine o_move rfl rfl ?_
     refine o_no rfl rfl rfl rfl ?_
     refine o_no rfl rfl rfl rfl ?_
     refine o_no rfl rfl rfl rfl ?_
     refine o_no rfl rfl rfl rfl ?_
     refine o_pick_true rfl rfl rfl ?_
     refine l_nil ?_
     refine q_then ?_
     refine c_true rfl ?_
     refine c_seq ?_
     have hno : ¬ (ItOk x ∧ OrdOk x.ord 3) := by unfold ItOk; first | (intro h9; omega) | (rintro ⟨h8, h9⟩; first | omega | (exact absurd (chkO_yes h9) (by assumption)) | (rw [chkO_yes h9] at *; simp_all))
     refine c_nilrow e8 ?_
     refine c_region ?_
     refine o_assign rfl rfl ?_
     refine o_assign rfl rfl ?_
     refine l_nil ?_
     refine q_then ?_
     refine c_ret ?_
     refine q_pass_ret ?_
     refine q_conv (fun w S => (S.perm p1).tail) ?_
     exact f_ret (r_two rfl rfl rfl) (⟨[], none, 0, by rw [wrI, if_neg hno], by rw [show chkI x = 1 from if_neg hno]; rfl, rfl⟩) (fun w S => S)
   · -- h4F
    have h4b := h4
    try simp only [decide_eq_false_iff_not, Int.not_lt, Int.not_le] at h4
    refine o_no rfl rfl rfl rfl ?_
    refine o_no rfl rfl rfl rfl ?_
    refine o_no rfl rfl rfl rfl ?_
    refine o_yes rfl rfl rfl ?_
    refine o_pick_false rfl rfl rfl ?_
    refine o_yes rfl rfl rfl ?_
    refine o_move rfl rfl ?_
    refine o_no rfl rfl rfl rfl ?_
    refine o_no rfl rfl rfl rfl ?_
    refine o_no rfl rfl rfl rfl ?_
    refine o_yes rfl rfl rfl ?_
    refine o_pick_false rfl rfl rfl ?_
    refine o_pick_false rfl rfl rfl ?_
    refine o_assign rfl rfl ?_
    refine l_nil ?_
    refine q_then ?_
    refine c_seq ?_
    refine c_seq ?_
    refine c_region ?_
    refine o_move rfl rfl ?_
    refine o_not rfl rfl ?_
    refine o_move rfl rfl ?_
    refine o_no rfl rfl rfl rfl ?_
    refine o_no rfl rfl rfl rfl ?_
    refine o_no rfl rfl rfl rfl ?_
    refine o_no rfl rfl rfl rfl ?_
    refine o_pick_true rfl rfl rfl ?_
    refine l_nil ?_
    refine q_then ?_
    refine c_true rfl ?_
    refine c_seq ?_
    have hno : ¬ (ItOk x ∧ OrdOk x.ord 3) := by unfold ItOk; first | (intro h9; omega) | (rintro ⟨h8, h9⟩; first | omega | (exact absurd (chkO_yes h9) (by assumption)) | (rw [chkO_yes h9] at *; simp_all))
    refine c_nilrow e8 ?_
    refine c_region ?_
    refine o_assign rfl rfl ?_
    refine o_assign rfl rfl ?_
    refine l_nil ?_
    refine q_then ?_
    refine c_ret ?_
    refine q_pass_ret ?_
    refine q_conv (fun w S => (S.perm p1).tail) ?_
    exact f_ret (r_two rfl rfl rfl) (⟨[], none, 0, by rw [wrI, if_neg hno], by rw [show chkI x = 1 from if_neg hno]; rfl, rfl⟩) (fun w S => S)
 · -- h1F
  have h1b := h1
  try simp only [decide_eq_false_iff_not, Int.not_lt, Int.not_le] at h1
  refine o_no rfl rfl rfl rfl ?_
  refine o_no rfl rfl rfl rfl ?_
  refine o_no rfl rfl rfl rfl ?_
  refine o_pick_false rfl rfl rfl ?_
  refine o_move rfl rfl ?_
  refine o_yes rfl rfl rfl ?_
  refine o_fieldAddr (q := ⟨b1, 0, none⟩) rfl rfl Try.underlying44 rfl ti3 rfl ?_
  refine o_yes rfl rfl rfl ?_
  refine o_load1 rfl rfl Try.underlying3 rfl (rd_mem 0 rfl rfl) ?_
  refine o_yes rfl rfl rfl ?_
  refine o_bin rfl rfl rfl b_eql ?_
  refine o_yes rfl rfl rfl ?_
  refine o_move rfl rfl ?_
  refine l_split (t := 18) rfl (fun h8 => ?_) (fun h8 => ?_)
  · -- h8T
   have h8b := h8
   try simp only [decide_eq_true_eq] at h8
   refine o_yes rfl rfl rfl ?_
   refine o_fieldAddr (q := ⟨b1, 1, none⟩) rfl rfl Try.underlying44 rfl ti3 rfl ?_
   refine o_yes rfl rfl rfl ?_
   refine o_load1 rfl rfl Try.underlying3 rfl (rd_mem 0 rfl rfl) ?_
   refine o_yes rfl rfl rfl ?_
   refine o_bin rfl rfl rfl b_geq ?_
   refine o_yes rfl rfl rfl ?_
   refine o_pick_true rfl rfl rfl ?_
   refine o_yes rfl rfl rfl ?_
   refine o_move rfl rfl ?_
   refine l_split (t := 23) rfl (fun h9 => ?_) (fun h9 => ?_)
   · -- h9T
    have h9b := h9
    try simp only [decide_eq_true_eq] at h9
    refine o_yes rfl rfl rfl ?_
    refine o_fieldAddr (q := ⟨b1, 1, none⟩) rfl rfl Try.underlying44 rfl ti3 rfl ?_
    refine o_yes rfl rfl rfl ?_
    refine o_load1 rfl rfl Try.underlying3 rfl (rd_mem 0 rfl rfl) ?_
    refine o_yes rfl rfl rfl ?_
    refine o_bin rfl rfl rfl b_lss ?_
    refine o_yes rfl rfl rfl ?_
    refine o_pick_true rfl rfl rfl ?_
    refine o_pick_false rfl rfl rfl ?_
    refine o_assign rfl rfl ?_
    refine l_nil ?_
    refine q_then ?_
    refine c_seq ?_
    refine c_seq ?_
    refine c_region ?_
    refine o_move rfl rfl ?_
    refine o_not rfl rfl ?_
    refine o_move rfl rfl ?_
    refine l_split (t := 31) rfl (fun h10 => ?_) (fun h10 => ?_)
    · -- h10T
     have h10b := h10
     try simp only [Bool.not_eq_true', decide_eq_false_iff_not, Int.not_lt, Int.not_le] at h10
     refine o_no rfl rfl rfl rfl ?_
     refine o_no rfl rfl rfl rfl ?_
     refine o_no rfl rfl rfl rfl ?_
     refine o_no rfl rfl rfl rfl ?_
     refine o_pick_true rfl rfl rfl ?_
     refine l_nil ?_
     refine q_then ?_
     refine c_true rfl ?_
     refine c_seq ?_
     have hno : ¬ (ItOk x ∧ OrdOk x.ord 3) := by unfold ItOk; first | (intro h9; omega) | (rintro ⟨h8, h9⟩; first | omega | (exact absurd (chkO_yes h9) (by assumption)) | (rw [chkO_yes h9] at *; simp_all))
     refine c_nilrow e8 ?_
     refine c_region ?_
     refine o_assign rfl rfl ?_
     refine o_assign rfl rfl ?_
     refine l_nil ?_
     refine q_then ?_
     refine c_ret ?_
     refine q_pass_ret ?_
     refine q_conv (fun w S => (S.perm p1).tail) ?_
     exact f_ret (r_two rfl rfl rfl) (⟨[], none, 0, by rw [wrI, if_neg hno], by rw [show chkI x = 1 from if_neg hno]; rfl, rfl⟩) (fun w S => S)
    · -- h10F
     have h10b := h10
     try simp only [Bool.not_eq_false', decide_eq_true_eq] at h10
     refine o_yes rfl rfl rfl ?_
     refine o_fieldAddr (q := ⟨b1, 2, none⟩) rfl rfl Try.underlying44 rfl ti33 rfl ?_
     refine o_yes rfl rfl rfl ?_
     refine o_loadn (vs := [_, _, _, _, _, _, _, _, _, _]) rfl rfl Try.underlying33 rfl ti33 (rdn_lit 0 rfl rfl) ?_
     refine o_yes rfl rfl rfl ?_
     refine o_call rfl cal12 rfl (ocheck_ (o := x.ord) (g := 3) (OrdR.c T_x) (okb_of sm) (by have := sm.m; omega)) ?_
     rintro _ _ ⟨rfl, rfl⟩
     refine o_yes rfl rfl rfl ?_
     refine o_bin rfl rfl rfl b_neq ?_
     refine o_pick_false rfl rfl rfl ?_
     refine l_nil ?_
     refine q_then ?_
     refine c_cond rfl (fun h11 => ?_) (fun h11 => ?_)
     · -- h11T
      have h11b := h11
      try simp only [Bool.not_eq_true', decide_eq_false_iff_not, Int.not_lt, Int.not_le] at h11
      refine c_seq ?_
      have hno : ¬ (ItOk x ∧ OrdOk x.ord 3) := by unfold ItOk; first | (intro h9; omega) | (rintro ⟨h8, h9⟩; first | omega | (exact absurd (chkO_yes h9) (by assumption)) | (rw [chkO_yes h9] at *; simp_all))
      refine c_nilrow e8 ?_
      refine c_region ?_
      refine o_assign rfl rfl ?_
      refine o_assign rfl rfl ?_
      refine l_nil ?_
      refine q_then ?_
      refine c_ret ?_
      refine q_pass_ret ?_
      refine q_conv (fun w S => (S.perm p1).tail) ?_
      exact f_ret (r_two rfl rfl rfl) (⟨[], none, 0, by rw [wrI, if_neg hno], by rw [show chkI x = 1 from if_neg hno]; rfl, rfl⟩) (fun w S => S)
     · -- h11F
      have h11b := h11
      try simp only [Bool.not_eq_false', decide_eq_true_eq] at h11
      refine c_skip ?_
      refine q_then ?_
      refine c_seq ?_
      have hok : ItOk x ∧ OrdOk x.ord 3 := ⟨by unfold ItOk; omega, chkO_0.1 (by first | assumption | simp_all)⟩
      have hh := it_hd hok.1
      have hbl := ordB_len hok.2 wf sm
      have g1 := hh x.f_Kind (by simp)
      have g2 := hh x.f_Index (by simp)
      have hnl := numsB_len (ns := [x.f_Kind, x.f_Index]) fun y hy => (hh y hy).2
      have l2 : [x.f_Kind, x.f_Index].length = 2 := rfl
      refine c_region ?_
      refine o_build rfl sp67 ti67 rfl rfl ?_
      refine o_box rfl rfl fun b38 => ?_
      refine l_nilrow e8 ?_
      refine l_conv (L' := blk b38 (.cells #[.slice none (([] : List UInt8)).length 0] 67 (0, 0)) :: row e8.T e8.sz none (([] : List UInt8)).length 0 (flat e8 ([] : List UInt8)) :: _) (fun w S => S.perm p1) ?_
      refine o_assign rfl rfl ?_
      refine l_nil ?_
      refine q_then ?_
      refine c_seq ?_
      refine c_region ?_
      refine o_move rfl rfl ?_
      refine o_fieldAddr (q := ⟨b1, 0, none⟩) rfl rfl Try.underlying44 rfl ti3 rfl ?_
      refine o_load1 rfl rfl Try.underlying3 rfl (rd_mem 2 rfl rfl) ?_
      refine o_int rfl rfl Try.underlying3 Try.underlying22 (wrap_u64 (by omega) (by omega)) ?_
      refine o_fieldAddr (q := ⟨b1, 1, none⟩) rfl rfl Try.underlying44 rfl ti3 rfl ?_
      refine o_load1 rfl rfl Try.underlying3 rfl (rd_mem 2 rfl rfl) ?_
      refine o_int rfl rfl Try.underlying3 Try.underlying22 (wrap_u64 (by omega) (by omega)) ?_
      refine o_lit e_U64_ok rfl Try.underlying90 rfl rfl rfl (lit_ok rfl) [x.f_Kind, x.f_Index] rfl rfl fun a46 => ?_
      refine l_f2 ?_
      refine l_f2 ?_
      refine o_call rfl cal31 rfl (nums_ (ns := [x.f_Kind, x.f_Index]) (rds_own e_U64_ok 0 rfl) (it_hd hok.1) (by show _ ≤ 100; exact Nat.le_of_ble_eq_true rfl) (by (try simp only [List.length_append, List.length_nil]); omega)) ?_
      rintro _ _ ⟨a47, c47, rfl, rfl⟩
      refine l_nil ?_
      refine q_then ?_
      refine c_seq ?_
      refine c_region ?_
      refine o_move rfl rfl ?_
      refine o_fieldAddr (q := ⟨b1, 2, none⟩) rfl rfl Try.underlying44 rfl ti33 rfl ?_
      refine o_loadn (vs := [_, _, _, _, _, _, _, _, _, _]) rfl rfl Try.underlying33 rfl ti33 (rdn_lit 3 rfl rfl) ?_
      refine l_f1 ?_
      refine l_f1 ?_
      refine o_call rfl cal32 rfl (owrite_ (o := x.ord) (OrdR.c (OrdR.c T_x)) hok.2 wf sm (by (try simp only [List.length_append, List.length_nil]); omega)) ?_
      rintro _ _ ⟨a51, c51, rfl, rfl⟩
      refine l_nil ?_
      refine q_then ?_
      refine c_seq ?_
      refine c_region ?_
      refine o_move rfl rfl ?_
      refine l_f1 ?_
      refine l_f1 ?_
      refine o_call rfl cal33 rfl (penData (by (try simp only [List.length_append, List.length_nil]); omega)) ?_
      rintro _ _ ⟨a53, c53, rfl, rfl⟩
      refine o_assign rfl rfl ?_
      refine o_assign rfl rfl ?_
      refine l_nil ?_
      refine q_then ?_
      refine c_ret ?_
      refine q_conv (fun w S => (S.perm p1).tail) ?_
      refine q_conv (fun w S => (S.perm p1).tail) ?_
      refine q_conv (fun w S => (S.perm p1).tail) ?_
      refine q_conv (fun w S => (S.perm p1).tail) ?_
      exact f_ret (r_two rfl rfl rfl) (⟨itemB x, a53, c53, by rw [wrI, if_pos hok], by rw [show chkI x = 0 from if_pos hok]; rfl, rfl⟩) (fun w S => S)
   · -- h9F
    have h9b := h9
    try simp only [decide_eq_false_iff_not, Int.not_lt, Int.not_le] at h9
    refine o_no rfl rfl rfl rfl ?_
    refine o_no rfl rfl rfl rfl ?_
    refine o_no rfl rfl rfl rfl ?_
    refine o_yes rfl rfl rfl ?_
    refine o_pick_false rfl rfl rfl ?_
    refine o_pick_false rfl rfl rfl ?_
    refine o_assign rfl rfl ?_
    refine l_nil ?_
    refine q_then ?_
    refine c_seq ?_
    refine c_seq ?_
    refine c_region ?_
    refine o_move rfl rfl ?_
    refine o_not rfl rfl ?_
    refine o_move rfl rfl ?_
    refine o_no rfl rfl rfl rfl ?_
    refine o_no rfl rfl rfl rfl ?_
    refine o_no rfl rfl rfl rfl ?_
    refine o_no rfl rfl rfl rfl ?_
    refine o_pick_true rfl rfl rfl ?_
    refine l_nil ?_
    refine q_then ?_
    refine c_true rfl ?_
    refine c_seq ?_
    have hno : ¬ (ItOk x ∧ OrdOk x.ord 3) := by unfold ItOk; first | (intro h9; omega) | (rintro ⟨h8, h9⟩; first | omega | (exact absurd (chkO_yes h9) (by assumption)) | (rw [chkO_yes h9] at *; simp_all))
    refine c_nilrow e8 ?_
    refine c_region ?_
    refine o_assign rfl rfl ?_
    refine o_assign rfl rfl ?_
    refine l_nil ?_
    refine q_then ?_
    refine c_ret ?_
    refine q_pass_ret ?_
    refine q_conv (fun w S => (S.perm p1).tail) ?_
    exact f_ret (r_two rfl rfl rfl) (⟨[], none, 0, by rw [wrI, if_neg hno], by rw [show chkI x = 1 from if_neg hno]; rfl, rfl⟩) (fun w S => S)
  · -- h8F
   have h8b := h8
   try simp only [decide_eq_false_iff_not, Int.not_lt, Int.not_le] at h8
   refine o_no rfl rfl rfl rfl ?_
   refine o_no rfl rfl rfl rfl ?_
   refine o_no rfl rfl rfl rfl ?_
   refine o_yes rfl rfl rfl ?_
   refine o_pick_false rfl rfl rfl ?_
   refine o_yes rfl rfl rfl ?_
   refine o_move rfl rfl ?_
   refine o_no rfl rfl rfl rfl ?_
   refine o_no rfl rfl rfl rfl ?_
   refine o_no rfl rfl rfl rfl ?_
   refine o_yes rfl rfl rfl ?_
   refine o_pick_false rfl rfl rfl ?_
   refine o_pick_false rfl rfl rfl ?_
   refine o_assign rfl rfl ?_
   refine l_nil ?_
   refine q_then ?_
   refine c_seq ?_
   refine c_seq ?_
   refine c_region ?_
   refine o_move rfl rfl ?_
   refine o_not rfl rfl ?_
   refine o_move rfl rfl ?_
   refine o_no rfl rfl rfl rfl ?_
   refine o_no rfl rfl rfl rfl ?_
   refine o_no rfl rfl rfl rfl ?_
   refine o_no rfl rfl rfl rfl ?_
   refine o_pick_true rfl rfl rfl ?_
   refine l_nil ?_
   refine q_then ?_
   refine c_true rfl ?_
   refine c_seq ?_
   have hno : ¬ (ItOk x ∧ OrdOk x.ord 3) := by unfold ItOk; first | (intro h9; omega) | (rintro ⟨h8, h9⟩; first | omega | (exact absurd (chkO_yes h9) (by assumption)) | (rw [chkO_yes h9] at *; simp_all))
   refine c_nilrow e8 ?_
   refine c_region ?_
   refine o_assign rfl rfl ?_
   refine o_assign rfl rfl ?_
   refine l_nil ?_
   refine q_then ?_
   refine c_ret ?_
   refine q_pass_ret ?_
   refine q_conv (fun w S => (S.perm p1).tail) ?_
   exact f_ret (r_two rfl rfl rfl) (⟨[], none, 0, by rw [wrI, if_neg hno], by rw [show chkI x = 1 from if_neg hno]; rfl, rfl⟩) (fun w S => S)
end
end Go.Proofs.Ytlblipkcbmcfkaa
