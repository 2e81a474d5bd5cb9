/- Orders that are read, all of one: the plain law. -/
import Derived.Test.YtlblipkcbmcfkaaORdp
set_option linter.unusedVariables false
set_option linter.unusedSimpArgs false
namespace Go.Proofs.Ytlblipkcbmcfkaa
open Go.RowKit Classical
def mkT (o : Order) (j : Nat) : List UInt8 := mksB (o.f_Marks.xs.drop j)
def opT (o : Order) (i : Nat) : List UInt8 := opsB (o.f_Txn_Ops.xs.drop i) ++ mkT o 0
def tC (o : Order) : List UInt8 := numB o.f_Txn_Ops.xs.length ++ opT o 0
def tB (o : Order) : List UInt8 := numB o.f_Txn_Writes.xs.length ++ textsB o.f_Txn_Writes.xs ++ tC o
def tA (o : Order) : List UInt8 := numB o.f_Txn_Reads.xs.length ++ textsB o.f_Txn_Reads.xs ++ tB o
def hdT (o : Order) (i : Nat) : List UInt8 := numsB ((headN o).drop i) ++ tA o
theorem ordB_hdT (o : Order) : ordB o = hdT o 0 := by
  unfold ordB ordB1 hdT tA tB tC opT mkT
  simp only [List.drop_zero, List.append_assoc]
/-- The bytes ys are those of the order o. -/
structure GoodO (o : Order) (ys : List UInt8) : Prop where
  ok : OrdOk o 3
  wf : OWf o
  eq : ys = ordB o
theorem keys_16 {xs : List ByteArray} (h : KeysOk xs) : ∀ x ∈ xs, x.size ≤ 16 := fun x hx => by
  obtain ⟨j, hj, rfl⟩ := List.mem_iff_getElem.1 hx
  exact (h.1 j _ hj (List.getElem?_eq_getElem hj)).2
section
variable {o : Order}
theorem ok_txt (h : OrdOk o 3) : (o.f_Txn_Reads.xs.length ≤ 8 ∧ ∀ x ∈ o.f_Txn_Reads.xs, x.size ≤ 16) ∧ o.f_Txn_Writes.xs.length ≤ 8 ∧ ∀ x ∈ o.f_Txn_Writes.xs, x.size ≤ 16 := by
  obtain ⟨⟨_, _, ⟨h1, h2, h3, h4, _⟩, _⟩, _⟩ := h
  have e1 : o.f_Txn_Reads.xs.length ≤ 8 := h1
  have e2 : o.f_Txn_Writes.xs.length + o.f_Txn_Reads.xs.length ≤ 8 := h2
  exact ⟨⟨e1, keys_16 h3⟩, by omega, keys_16 h4⟩
theorem ok_ops (h : OrdOk o 3) : o.f_Txn_Ops.xs.length ≤ 16 ∧ ∀ x ∈ o.f_Txn_Ops.xs, x.f_Key.size ≤ 16 ∧ x.f_Value.xs.length ≤ 32 := by
  have ht := ok_txt h
  obtain ⟨⟨_, _, _, h1⟩, _⟩ := h
  rcases h1 with ⟨_, _, h3, h4⟩ | ⟨_, _, h4, _⟩
  · refine ⟨h3, fun x hx => ?_⟩
    have h5 : StepOk o.txn x := Classical.byContradiction fun h9 => h4 ⟨x, hx, h9⟩
    obtain ⟨v, _, h6⟩ := h5
    refine ⟨?_, v⟩
    have hw : ∀ {k : ByteArray}, k ∈ o.txn.f_Writes.xs → k.size ≤ 16 := fun hk => ht.2.2 _ hk
    have hr : ∀ {k : ByteArray}, k ∈ o.txn.f_Reads.xs → k.size ≤ 16 := fun hk => ht.1.2 _ hk
    rcases h6 with ⟨_, k⟩ | ⟨_, k, _⟩ | ⟨_, k | k⟩ | ⟨_, k | k, _⟩ | ⟨_, k⟩
    · exact hw k
    · exact hw k
    · exact hw k
    · exact hr k
    · exact hw k
    · exact hr k
    · rw [k]; decide
  · have h5 : o.f_Txn_Ops.xs.length = 0 := h4
    refine ⟨by omega, fun x hx => ?_⟩
    rw [List.eq_nil_of_length_eq_zero h5] at hx; cases hx
theorem ok_small (h : OrdOk o 3) : OSmall o := by
  have ht := ok_txt h
  have hp := ok_ops h
  have hk := keysT_len o.txn
  have hm : o.f_Marks.xs.length ≤ 16 := by
    have h2 := h.2.2.1
    have e : (keysT o.txn).length ≤ o.f_Txn_Reads.xs.length + o.f_Txn_Writes.xs.length := hk
    omega
  refine ⟨by omega, by omega, by omega, by omega, fun x hx => by have := ht.1.2 x hx; omega, fun x hx => by have := ht.2.2 x hx; omega, fun m hx => ?_, fun x hx => by have := hp.2 x hx; omega⟩
  obtain ⟨j, hj, rfl⟩ := List.mem_iff_getElem.1 hx
  obtain ⟨k, h1, h2, _⟩ := ok_mk h (List.getElem?_eq_getElem hj)
  rw [h2]
  have h3 := (setOf_mem strlt_sto).1 (List.mem_of_getElem? h1)
  rcases List.mem_append.1 h3 with q | q
  · have := ht.1.2 k q; omega
  · have := ht.2.2 k q; omega
theorem hdT_on {i : Nat} {x : Int} (hx : (headN o)[i]? = some x) : hdT o i = nB x ++ hdT o (i + 1) := by
  obtain ⟨hi, e⟩ := List.getElem?_eq_some_iff.1 hx
  unfold hdT
  rw [List.drop_eq_getElem_cons hi, e]
  unfold numsB
  rw [List.flatMap_cons, List.append_assoc]
theorem rd_hd {i : Nat} {x : Int} {ys y' : List UInt8} (h : OrdOk o 3) (w : OWf o) (hx : (headN o)[i]? = some x) (hy : ys = hdT o i) (h' : y' = ys.drop (numR 0 0 ys).2.2) : ((numR 0 0 ys).1 : Int) = x ∧ y' = hdT o (i + 1) := by
  obtain ⟨h0, h1⟩ := ok_hd h w x (List.mem_of_getElem? hx)
  obtain ⟨e1, _, e2⟩ := nB_of h0 h1 (hy.trans (hdT_on hx))
  exact ⟨e1, by rw [h', e2]⟩
theorem rd_head {ys y8 y10 y12 y14 y27 y29 : List UInt8} (g : GoodO o ys) (d8 : y8 = ys.drop (numR 0 0 ys).2.2) (d10 : y10 = y8.drop (numR 0 0 y8).2.2) (d12 : y12 = y10.drop (numR 0 0 y10).2.2) (d14 : y14 = y12.drop (numR 0 0 y12).2.2) (d27 : y27 = y14.drop (numR 0 0 y14).2.2) (d29 : y29 = y27.drop (numR 0 0 y27).2.2) :
    (smR ys = o.f_Tag_Id_Node ∧ ((numR 0 0 y8).1 : Int) = o.f_Tag_Id_Epoch ∧ ((numR 0 0 y10).1 : Int) = o.f_Tag_Id_Seq ∧ smR y12 = o.f_Tag_Try ∧ smR y14 = o.f_Txn_Kind ∧ smR y27 = o.f_Txn_To) ∧ y29 = tA o := by
  obtain ⟨e0, f0⟩ := rd_hd (i := 0) g.ok g.wf rfl (g.eq.trans (ordB_hdT o)) d8
  obtain ⟨e1, f1⟩ := rd_hd (i := 1) g.ok g.wf rfl f0 d10
  obtain ⟨e2, f2⟩ := rd_hd (i := 2) g.ok g.wf rfl f1 d12
  obtain ⟨e3, f3⟩ := rd_hd (i := 3) g.ok g.wf rfl f2 d14
  obtain ⟨e4, f4⟩ := rd_hd (i := 4) g.ok g.wf rfl f3 d27
  obtain ⟨e5, f5⟩ := rd_hd (i := 5) g.ok g.wf rfl f4 d29
  have hI := g.ok.2.1
  unfold IdOk at hI
  have hK : 0 ≤ o.f_Txn_Kind ∧ o.f_Txn_Kind ≤ 2 ∧ 0 ≤ o.f_Txn_To ∧ o.f_Txn_To ≤ 3 := by
    obtain ⟨⟨_, _, _, h1⟩, _⟩ := g.ok
    rcases h1 with ⟨q1, q2, _⟩ | ⟨q1, _, _, _, q2, q3⟩
    · exact ⟨by show (0 : Int) ≤ o.txn.f_Kind; omega, by show o.txn.f_Kind ≤ 2; omega, by show (0 : Int) ≤ o.txn.f_To; omega, by show o.txn.f_To ≤ 3; omega⟩
    · exact ⟨by show (0 : Int) ≤ o.txn.f_Kind; omega, by show o.txn.f_Kind ≤ 2; omega, by show (0 : Int) ≤ o.txn.f_To; omega, by show o.txn.f_To ≤ 3; omega⟩
  refine ⟨⟨by unfold smR; omega, e1, e2, by unfold smR; omega, by unfold smR; omega, by unfold smR; omega⟩, f5.trans ?_⟩
  unfold hdT headN numsB
  rfl
theorem rd_reads {ys : List UInt8} (h : OrdOk o 3) (hy : ys = tA o) : TxGood o.f_Txn_Reads.xs (tB o) ys := ⟨hy, (ok_txt h).1.1, fun x hx => by have := (ok_txt h).1.2 x hx; omega⟩
theorem rd_writes {ys : List UInt8} (h : OrdOk o 3) (hy : ys = tB o) : TxGood o.f_Txn_Writes.xs (tC o) ys := ⟨hy, (ok_txt h).2.1, fun x hx => by have := (ok_txt h).2.2 x hx; omega⟩
theorem rd_nops {ys y' : List UInt8} {n : Nat} (h : OrdOk o 3) (hy : ys = tC o) (hn : (n : Int) = min (smR ys) 17) (h' : y' = ys.drop (numR 0 0 ys).2.2) : n = o.f_Txn_Ops.xs.length ∧ y' = opT o 0 := by
  have hl := (ok_ops h).1
  obtain ⟨e1, e2⟩ := smR_ofN (m := o.f_Txn_Ops.xs.length) (by omega) hy
  exact ⟨by omega, by rw [h', e2]⟩
/-! ### The operations -/
structure OpInv (y0 : List UInt8) (n i : Nat) (os : List Op) (ys : List UInt8) : Prop where
  len : os.length = i
  wf : ∀ x ∈ os, (-9223372036854775808 ≤ x.f_N ∧ x.f_N ≤ 9223372036854775807) ∧ x.f_Value.xs.length ≤ 70000000000000
  is : ∀ o, GoodO o y0 → n = o.f_Txn_Ops.xs.length ∧ (∀ (j : Nat) (x y : Op), os[j]? = some x → o.f_Txn_Ops.xs[j]? = some y → SameOp x y) ∧ ys = opT o i
theorem OpInv.on {y0 ys y1 y2 y3 y4 : List UInt8} {n i : Nat} {os : List Op} {a : Option Addr} {c : Nat} (h : OpInv y0 n i os ys) (hi : i < n) (d1 : y1 = ys.drop (numR 0 0 ys).2.2) (d2 : y2 = y1.drop (textR y1).2.2) (d3 : y3 = y2.drop (textR y2).2.2) (d4 : y4 = y3.drop (numR 0 0 y3).2.2) (hv : (textR y2).1.length ≤ 70000000000000) :
    OpInv y0 n (i + 1) (os ++ [⟨smR ys, bts (textR y1).1, ⟨a, (textR y2).1, c⟩, unzig ((numR 0 0 y3).1 : Int)⟩]) y4 := by
  have hz := num_0 y3
  refine ⟨by rw [List.length_append, h.len]; rfl, fun x hx => ?_, fun o g => ?_⟩
  · rcases List.mem_append.1 hx with q | q
    · exact h.wf x q
    · rw [List.mem_singleton.1 q]
      exact ⟨unzig_0 ⟨by omega, by omega⟩, hv⟩
  · obtain ⟨e1, e2, e3⟩ := h.is o g
    have hl : i < o.f_Txn_Ops.xs.length := by omega
    have hm := List.getElem_mem hl
    have hk := ok_op g.ok _ hm
    have hs := (ok_ops g.ok).2 _ hm
    have hw := zig_0 (g.wf.op _ hm)
    have e4 : ys = nB o.f_Txn_Ops.xs[i].f_Kind ++ (strB o.f_Txn_Ops.xs[i].f_Key ++ (numB o.f_Txn_Ops.xs[i].f_Value.xs.length ++ o.f_Txn_Ops.xs[i].f_Value.xs ++ (nB (zig o.f_Txn_Ops.xs[i].f_N) ++ opT o (i + 1)))) := by
      rw [e3]
      unfold opT
      rw [List.drop_eq_getElem_cons hl]
      unfold opsB opB
      simp only [List.flatMap_cons, List.append_assoc]
    obtain ⟨f1, g1⟩ := smR_of (by omega) (by omega) e4
    obtain ⟨f2, g2⟩ := strR_of (by omega) (d1.trans g1)
    obtain ⟨f3, g3⟩ := textR_ofL (by omega) (d2.trans g2)
    obtain ⟨f4, _, g4⟩ := nB_of hw.1 hw.2 (d3.trans g3)
    refine ⟨e1, fun j x y hx hy => ?_, d4.trans g4⟩
    by_cases hj : j < os.length
    · rw [List.getElem?_append_left hj] at hx
      exact e2 j x y hx hy
    · have hj2 := (List.getElem?_eq_some_iff.1 hx).1
      rw [List.length_append] at hj2
      simp only [List.length_cons, List.length_nil] at hj2
      obtain rfl : j = i := by have := h.len; omega
      rw [List.getElem?_append_right (by omega), h.len, Nat.sub_self] at hx
      simp only [List.getElem?_cons_zero, Option.some.injEq] at hx
      rw [List.getElem?_eq_getElem hl] at hy
      cases hy
      subst hx
      exact ⟨f1, f2, by show unzig _ = _; rw [f4, unzig_zig], f3⟩
theorem OpInv.start {y0 ys : List UInt8} {n : Nat} (h : ∀ o, GoodO o y0 → n = o.f_Txn_Ops.xs.length ∧ ys = opT o 0) : OpInv y0 n 0 [] ys := ⟨rfl, fun x hx => (by cases hx), fun o g => ⟨(h o g).1, fun j x y hx => (by cases hx), (h o g).2⟩⟩
/-! ### The marks -/
structure MkInv (y0 : List UInt8) (ks : List ByteArray) (j : Nat) (ms : List Mark) (ys : List UInt8) : Prop where
  len : ms.length = j
  wf : ∀ m ∈ ms, 0 ≤ m.f_Count ∧ m.f_Count < 18446744073709551616
  is : ∀ o, GoodO o y0 → ms = o.f_Marks.xs.take j ∧ ys = mkT o j
theorem MkInv.on {y0 ys y1 y2 : List UInt8} {ks : List ByteArray} {j : Nat} {ms : List Mark} {k : ByteArray} (h : MkInv y0 ks j ms ys) (hk : ks[((j : Int)).toNat]? = some k) (he : ∀ o, GoodO o y0 → ks = keysT o.txn) (d1 : y1 = ys.drop (numR 0 0 ys).2.2) (d2 : y2 = y1.drop (numR 0 0 y1).2.2) :
    MkInv y0 ks (j + 1) (ms ++ [⟨k, smR ys, ((numR 0 0 y1).1 : Int)⟩]) y2 := by
  have hk' : ks[j]? = some k := hk
  have hz := num_0 y1
  refine ⟨by rw [List.length_append, h.len]; rfl, fun x hx => ?_, fun o g => ?_⟩
  · rcases List.mem_append.1 hx with q | q
    · exact h.wf x q
    · rw [List.mem_singleton.1 q]
      exact ⟨by show (0 : Int) ≤ ((numR 0 0 y1).1 : Int); omega, by show ((numR 0 0 y1).1 : Int) < _; omega⟩
  · obtain ⟨e1, e2⟩ := h.is o g
    have hl : j < o.f_Marks.xs.length := by
      have h1 := g.ok.2.2.1
      rw [← he o g] at h1
      have := (List.getElem?_eq_some_iff.1 hk').1; omega
    obtain ⟨k', q1, q2, q3, q4⟩ := ok_mk g.ok (List.getElem?_eq_getElem hl)
    rw [← he o g, hk'] at q1; cases q1
    have hw := g.wf.mc _ (List.getElem_mem hl)
    have e3 : ys = nB o.f_Marks.xs[j].f_Home ++ (nB o.f_Marks.xs[j].f_Count ++ mkT o (j + 1)) := by
      rw [e2]
      unfold mkT
      rw [List.drop_eq_getElem_cons hl]
      unfold mksB mkB
      simp only [List.flatMap_cons, List.append_assoc]
    obtain ⟨f1, g1⟩ := smR_of q3 (by omega) e3
    obtain ⟨f2, _, g2⟩ := nB_of hw.1 hw.2 (d1.trans g1)
    refine ⟨?_, d2.trans g2⟩
    rw [take_snoc hl, e1, f1, f2, ← q2]
theorem MkInv.start {y0 ys : List UInt8} {ks : List ByteArray} (h : ∀ o, GoodO o y0 → ys = opT o o.f_Txn_Ops.xs.length) : MkInv y0 ks 0 [] ys := ⟨rfl, fun m hm => (by cases hm), fun o g => ⟨rfl, by rw [h o g]; unfold opT opsB; rw [List.drop_of_length_le (Nat.le_refl _)]; rfl⟩⟩
end
end Go.Proofs.Ytlblipkcbmcfkaa
