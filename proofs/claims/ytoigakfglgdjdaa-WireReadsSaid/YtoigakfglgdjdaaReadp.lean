/- Messages that are read: the plain law (hand-written). -/
import Derived.Test.YtoigakfglgdjdaaApartp
set_option linter.unusedVariables false
set_option linter.unusedSimpArgs false
namespace Go.Proofs.Ytoigakfglgdjdaa
open Go.RowKit Classical
theorem numR_lt : ∀ (t : List UInt8) (k n : Nat), k ≤ 9 → n < 128 ^ k → (numR k n t).1 < 18446744073709551616
  | [], k, n, _, _ => by simp [numR]
  | b :: t, k, n, hk, hn => by
    have h9 := numR_next (b := b) hn
    rw [numR]
    split
    · simp
    · rename_i h
      split
      · split
        · simp
        · show n + b.toNat % 128 * 128 ^ k < _
          by_cases hk9 : k = 9
          · subst hk9
            have : 128 ^ 9 = 9223372036854775808 := by decide
            rw [this] at hn ⊢; omega
          · have := pow_le9 (k := k + 1) (by omega); omega
      · exact numR_lt t (k + 1) _ (by omega) h9
theorem numR_conv : ∀ (t : List UInt8) (k n : Nat), (numR k n t).2.1 = 0 → ∃ m s, t = numB m ++ s ∧ (numR k n t).1 = n + m * 128 ^ k ∧ (numR k n t).2.2 = k + (numB m).length ∧ (0 < k → 0 < m)
  | [], k, n, h => by simp [numR] at h
  | b :: t, k, n, h => by
    have hb := b.toNat_lt
    rw [numR] at h ⊢
    split at h
    · simp at h
    · rename_i h1
      rw [if_neg h1]
      split at h
      · rename_i h2
        rw [if_pos h2]
        split at h
        · simp at h
        · rename_i h3
          rw [if_neg h3]
          refine ⟨b.toNat, t, ?_, ?_, ?_, by omega⟩
          · rw [numB_lt h2]; simp
          · show n + b.toNat % 128 * 128 ^ k = _; rw [Nat.mod_eq_of_lt h2]
          · rw [numB_lt h2]; rfl
      · rename_i h2
        rw [if_neg h2]
        obtain ⟨m, s, e1, e2, e3, e4⟩ := numR_conv t (k + 1) _ h
        have hm := e4 (by omega)
        have hd : (b.toNat % 128 + 128 * m) / 128 = m := by omega
        have hn : numB (b.toNat % 128 + 128 * m) = b :: numB m := by
          rw [numB_ge (by omega), hd]
          congr 1
          apply UInt8.toNat_inj.1
          rw [or_low]; omega
        refine ⟨b.toNat % 128 + 128 * m, s, ?_, ?_, ?_, fun _ => by omega⟩
        · rw [hn, e1]; rfl
        · rw [e2, pow_split, Nat.add_mul, Nat.add_assoc]
          congr 1
          rw [Nat.mul_comm 128 m, Nat.mul_assoc, Nat.mul_comm 128]
        · rw [e3, hn]; simp; omega
theorem numR_is {t : List UInt8} (h : (numR 0 0 t).2.1 = 0) : t = numB (numR 0 0 t).1 ++ t.drop (numR 0 0 t).2.2 := by
  obtain ⟨m, s, e1, e2, e3, _⟩ := numR_conv t 0 0 h
  have e4 : (numR 0 0 t).1 = m := by rw [e2]; simp
  rw [e4, e3, Nat.zero_add]
  rw [e1, List.drop_left]
theorem numR_of {m : Nat} {s t : List UInt8} (hm : m < 18446744073709551616) (h : t = numB m ++ s) : (numR 0 0 t).1 = m ∧ (numR 0 0 t).2.1 = 0 ∧ t.drop (numR 0 0 t).2.2 = s := by
  have h1 := numR_numB s m 0 0 (by omega) (by omega) (by omega)
  rw [h, h1]
  refine ⟨by simp, rfl, ?_⟩
  show List.drop (0 + (numB m).length) _ = _
  rw [Nat.zero_add, List.drop_left]
theorem nB_of {x : Int} {s t : List UInt8} (h0 : 0 ≤ x) (hx : x < 18446744073709551616) (h : t = nB x ++ s) : ((numR 0 0 t).1 : Int) = x ∧ (numR 0 0 t).2.1 = 0 ∧ t.drop (numR 0 0 t).2.2 = s := by
  obtain ⟨h1, h2, h3⟩ := numR_of (m := x.toNat) (by omega) h
  exact ⟨by omega, h2, h3⟩
theorem textR_is {t : List UInt8} (h : (textR t).2.1 = 0) : t = (numB (textR t).1.length ++ (textR t).1) ++ t.drop (textR t).2.2 := by
  by_cases h1 : (numR 0 0 t).2.1 = 0
  · by_cases h2 : t.length - (numR 0 0 t).2.2 < (numR 0 0 t).1
    · rw [textR_short h1 h2] at h; simp at h
    · rw [textR_ok h1 h2]
      show t = (numB (sub t _ _).length ++ sub t _ _) ++ t.drop _
      have h3 := numR_is h1
      have hu := numR_used t 0 0
      have hl : (sub t (numR 0 0 t).2.2 ((numR 0 0 t).2.2 + (numR 0 0 t).1)).length = (numR 0 0 t).1 := by rw [sub_len (by omega)]; omega
      rw [hl, List.append_assoc]
      have h4 : sub t (numR 0 0 t).2.2 ((numR 0 0 t).2.2 + (numR 0 0 t).1) ++ t.drop ((numR 0 0 t).2.2 + (numR 0 0 t).1) = t.drop (numR 0 0 t).2.2 := by
        rw [← sub_drop, sub_take, ← List.drop_drop]
        exact List.take_append_drop _ _
      rw [h4]
      exact h3
  · rw [textR_err h1] at h; exact absurd h h1
theorem bts_data (s : ByteArray) : bts s.data.toList = s := by cases s; simp [bts]
theorem textR_of {v : ByteArray} {s t : List UInt8} (hv : v.size < 18446744073709551616) (h : t = textB v ++ s) : bts (textR t).1 = v ∧ (textR t).2.1 = 0 ∧ t.drop (textR t).2.2 = s := by
  have hl : v.data.toList.length = v.size := by simp
  unfold textB at h
  rw [List.append_assoc] at h
  have h1 := numR_numB (v.data.toList ++ s) v.data.toList.length 0 0 (by omega) (by omega) (by omega)
  have h2 : numR 0 0 t = (v.data.toList.length, 0, (numB v.data.toList.length).length) := by rw [h, h1]; simp
  have h3 : ¬ t.length - (numR 0 0 t).2.2 < (numR 0 0 t).1 := by rw [h2, h]; simp
  rw [textR_ok (by rw [h2]) h3, h2]
  have h4 : t.drop (numB v.data.toList.length).length = v.data.toList ++ s := by rw [h, List.drop_left]
  refine ⟨?_, rfl, ?_⟩
  · show bts (sub t _ _) = v
    rw [← sub_drop, h4, sub_take, List.take_left, bts_data]
  · show t.drop (_ + _) = s
    rw [← List.drop_drop, h4, List.drop_left]
/-- The bytes of a message that is right. -/
structure Good (m : Msg) (bs : List UInt8) : Prop where
  ok : MsgOk m
  wf : Wf m
  eq : bs = wireB m
def hd6 (m : Msg) : List Int := [m.f_Kind, m.f_From, m.f_To, m.f_Group, m.f_Slot, m.f_Ballot]
def sumT (m : Msg) : List UInt8 := numB (sumB (bodyB m)).toNat
def voT (m : Msg) (i : Nat) : List UInt8 := votesB (m.f_Votes.xs.drop i) ++ sumT m
def hdT (m : Msg) (i : Nat) : List UInt8 := ((hd6 m).drop i).flatMap nB ++ (textB m.f_Value ++ (numB m.f_Votes.xs.length ++ voT m 0))
theorem drop_get' {α : Type} {xs : List α} {i : Nat} {x : α} (h : xs[i]? = some x) : xs.drop i = x :: xs.drop (i + 1) := by
  obtain ⟨hi, hx⟩ := List.getElem?_eq_some_iff.1 h
  rw [← hx]; exact List.drop_eq_getElem_cons hi
theorem wireB_hdT (m : Msg) : wireB m = hdT m 0 := by
  unfold wireB hdT voT
  rw [show numB (sumB (bodyB m)).toNat = sumT m from rfl]
  unfold bodyB headB18
  rw [hdB_5]
  simp [hd6]
theorem hdT_on {m : Msg} {i : Nat} {x : Int} (h : (hd6 m)[i]? = some x) : hdT m i = nB x ++ hdT m (i + 1) := by
  unfold hdT
  rw [drop_get' h, List.flatMap_cons, List.append_assoc]
theorem hdT_6 (m : Msg) : hdT m 6 = textB m.f_Value ++ (numB m.f_Votes.xs.length ++ voT m 0) := by simp [hdT, hd6]
theorem voT_on {m : Msg} {i : Nat} {v : Vote} (h : m.f_Votes.xs[i]? = some v) : voT m i = nB v.f_Slot ++ (nB v.f_Ballot ++ (textB v.f_Value ++ voT m (i + 1))) := by
  unfold voT votesB
  rw [drop_get' h, List.flatMap_cons]
  simp [voteB]
theorem hd6_ok {m : Msg} (h : MsgOk m) (w : Wf m) {i : Nat} {x : Int} (hx : (hd6 m)[i]? = some x) : 0 ≤ x ∧ x < 18446744073709551616 := by
  have hm := List.mem_of_getElem? hx
  have h' := h
  unfold MsgOk at h'
  have hb := w.b
  simp only [hd6, List.mem_cons, List.not_mem_nil, or_false] at hm
  rcases hm with rfl | rfl | rfl | rfl | rfl | rfl <;> omega
theorem Good.len {m : Msg} {bs : List UInt8} (g : Good m bs) : m.f_Votes.xs.length ≤ 64 := by
  have h' := g.ok
  unfold MsgOk at h'
  exact votes_len h'.2.2.2.2.2.2.2.2.2
theorem Good.vote {m : Msg} {bs : List UInt8} (g : Good m bs) {i : Nat} {v : Vote} (h : m.f_Votes.xs[i]? = some v) : (0 ≤ v.f_Slot ∧ v.f_Slot < 64 ∧ v.f_Value.size ≤ 4096) ∧ 0 ≤ v.f_Ballot ∧ v.f_Ballot < 18446744073709551616 := by
  have h' := g.ok
  unfold MsgOk at h'
  exact ⟨h'.2.2.2.2.2.2.2.2.2.1 i v (List.getElem?_eq_some_iff.1 h).1 h, g.wf.v v (List.mem_of_getElem? h)⟩
theorem Good.val {m : Msg} {bs : List UInt8} (g : Good m bs) : m.f_Value.size < 18446744073709551616 := by
  have h' := g.ok
  unfold MsgOk at h'
  omega
/-- A number of the head is read. -/
theorem Good.num {m : Msg} {bs ys : List UInt8} {i : Nat} {x : Int} (g : Good m bs) (hx : (hd6 m)[i]? = some x) (h : ys = hdT m i) : ((numR 0 0 ys).1 : Int) = x ∧ (numR 0 0 ys).2.1 = 0 ∧ ys.drop (numR 0 0 ys).2.2 = hdT m (i + 1) := by
  obtain ⟨h0, h1⟩ := hd6_ok g.ok g.wf hx
  exact nB_of h0 h1 (h.trans (hdT_on hx))
theorem Good.text {m : Msg} {bs ys : List UInt8} (g : Good m bs) (h : ys = hdT m 6) : bts (textR ys).1 = m.f_Value ∧ (textR ys).2.1 = 0 ∧ ys.drop (textR ys).2.2 = numB m.f_Votes.xs.length ++ voT m 0 := textR_of g.val (h.trans (hdT_6 m))
theorem Good.nv {m : Msg} {bs ys : List UInt8} (g : Good m bs) (h : ys = numB m.f_Votes.xs.length ++ voT m 0) : (numR 0 0 ys).1 = m.f_Votes.xs.length ∧ (numR 0 0 ys).2.1 = 0 ∧ ys.drop (numR 0 0 ys).2.2 = voT m 0 := numR_of (by have := g.len; omega) h
/-- What reading answers. -/
def RdRes (bs : List UInt8) (q : Msg) (n : Int) : Prop := (n = 0 ∧ Good q bs) ∨ (n = 31 ∧ SameG q ⟨0, 0, 0, 0, 0, 0, ByteArray.empty, ⟨none, [], 0⟩⟩ ∧ ∀ m, ¬ Good m bs)
theorem MsgOk.same {a b : Msg} (h : SameG a b) (ha : MsgOk a) : MsgOk b := by
  unfold MsgOk at *
  rw [← h.1, ← h.2, ← h.3, ← h.4, ← h.5, ← h.7, ← h.8]; exact ha
theorem Wf.same {a b : Msg} (h : SameG a b) (ha : Wf a) : Wf b := ⟨by rw [← h.6]; exact ha.b, by rw [← h.8]; exact ha.v⟩
theorem Good.same {a b : Msg} {bs : List UInt8} (h : SameG a b) (g : Good a bs) : Good b bs := ⟨g.ok.same h, g.wf.same h, g.eq.trans (wireB_same h)⟩
theorem Good.uniq {a b : Msg} {bs : List UInt8} (g : Good a bs) (k : Good b bs) : SameG a b := wireB_inj g.ok k.ok g.wf k.wf (g.eq.symm.trans k.eq)
end Go.Proofs.Ytoigakfglgdjdaa
