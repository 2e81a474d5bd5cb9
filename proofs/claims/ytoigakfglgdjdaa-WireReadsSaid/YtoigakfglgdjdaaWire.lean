/- A message's bytes: the plain law (hand-written). -/
import Derived.Test.YtoigakfglgdjdaaMCheck
import Derived.Test.YtoigakfglgdjdaaEyep
set_option linter.unusedVariables false
set_option linter.unusedSimpArgs false
namespace Go.Proofs.Ytoigakfglgdjdaa
open Go.RowKit Classical
def hd5 (m : Msg) : List Int := [m.f_Kind, m.f_From, m.f_To, m.f_Group, m.f_Slot]
def nB (x : Int) : List UInt8 := numB x.toNat
def hdB (m : Msg) (i : Nat) : List UInt8 := ((hd5 m).take i).flatMap nB
def textB (s : ByteArray) : List UInt8 := numB s.data.toList.length ++ s.data.toList
def voteB (v : Vote) : List UInt8 := nB v.f_Slot ++ nB v.f_Ballot ++ textB v.f_Value
def votesB (vs : List Vote) : List UInt8 := vs.flatMap voteB
def headB18 (m : Msg) : List UInt8 := hdB m 5 ++ nB m.f_Ballot ++ textB m.f_Value ++ numB m.f_Votes.xs.length
def bodyB (m : Msg) : List UInt8 := headB18 m ++ votesB m.f_Votes.xs
def wireB (m : Msg) : List UInt8 := bodyB m ++ numB (sumB (bodyB m)).toNat
structure Wf (m : Msg) : Prop where
  b : 0 ≤ m.f_Ballot ∧ m.f_Ballot < 18446744073709551616
  v : ∀ v ∈ m.f_Votes.xs, 0 ≤ v.f_Ballot ∧ v.f_Ballot < 18446744073709551616
noncomputable def wrB (m : Msg) : List UInt8 := if MsgOk m then wireB m else []
theorem wu64 {x : Int} (h0 : 0 ≤ x) (h1 : x < 18446744073709551616) : IntKind.u64.wrap x = ((x.toNat : Nat) : Int) := by rw [wrap_u64 h0 (by omega)]; omega
theorem v32_u64 (s : BitVec 32) : IntKind.u64.wrap (v32 s) = ((s.toNat : Nat) : Int) := by
  have := v32_lt s
  rw [wrap_u64 (by omega) (by omega)]; rfl
theorem hdB_on {m : Msg} {i : Nat} {x : Int} (h : (hd5 m)[i]? = some x) : hdB m (i + 1) = hdB m i ++ nB x := by
  obtain ⟨hi, hx⟩ := List.getElem?_eq_some_iff.1 h
  unfold hdB
  rw [List.take_succ_eq_append_getElem hi, List.flatMap_append, hx]
  simp
theorem hd5_ok {m : Msg} (h : MsgOk m) {i : Nat} {x : Int} (hx : (hd5 m)[i]? = some x) : 0 ≤ x ∧ x ≤ 64 := by
  have hm := List.mem_of_getElem? hx
  have h' := h
  unfold MsgOk at h'
  simp only [hd5, List.mem_cons, List.not_mem_nil, or_false] at hm
  rcases hm with rfl | rfl | rfl | rfl | rfl <;> omega
theorem nB_len {x : Int} (h1 : x < 18446744073709551616) : (nB x).length ≤ 10 := numB_len_le 10 _ (by omega) (by omega)
theorem hdB_len {m : Msg} (h : MsgOk m) : ∀ i, i ≤ 5 → (hdB m i).length ≤ 10 * i
  | 0, _ => by simp [hdB]
  | i + 1, hi => by
    obtain ⟨x, hx⟩ : ∃ x, (hd5 m)[i]? = some x := ⟨_, List.getElem?_eq_getElem (show i < 5 by omega)⟩
    have := hdB_len h i (by omega)
    have h2 := nB_len (x := x) (by have := (hd5_ok h hx).2; omega)
    rw [hdB_on hx, List.length_append]; omega
theorem votes_slot {vs : List Vote} {n : Nat} (h : VotesTo vs n) : ∀ i v, i < n → vs[i]? = some v → (i : Int) ≤ v.f_Slot
  | 0, v, hi, hv => by have := (h.1 0 v hi hv).1; omega
  | i + 1, v, hi, hv => by
    obtain ⟨hl, _⟩ := List.getElem?_eq_some_iff.1 hv
    obtain ⟨u, hu⟩ : ∃ u, vs[i]? = some u := ⟨_, List.getElem?_eq_getElem (by omega)⟩
    have h1 := votes_slot h i u (by omega) hu
    have h2 := h.2 i u v hi hu hv
    omega
theorem votes_len {vs : List Vote} (h : VotesTo vs vs.length) : vs.length ≤ 64 := by
  rcases Nat.eq_zero_or_pos vs.length with h0 | h0
  · omega
  · obtain ⟨v, hv⟩ : ∃ v, vs[vs.length - 1]? = some v := ⟨_, List.getElem?_eq_getElem (by omega)⟩
    have h1 := votes_slot h _ v (by omega) hv
    have h2 := (h.1 _ v (by omega) hv).2.1
    omega
theorem textB_len {s : ByteArray} (h : s.size ≤ 4096) : (textB s).length ≤ 4106 := by
  have h9 : s.data.toList.length = s.size := by simp
  have := numB_len_le 10 s.data.toList.length (by omega) (by omega)
  unfold textB; rw [List.length_append]; omega
theorem votesB_on {vs : List Vote} {i : Nat} {v : Vote} (h : vs[i]? = some v) : votesB (vs.take (i + 1)) = votesB (vs.take i) ++ voteB v := by
  obtain ⟨hi, hx⟩ := List.getElem?_eq_some_iff.1 h
  unfold votesB
  rw [List.take_succ_eq_append_getElem hi, List.flatMap_append, hx]
  simp
theorem votesB_len {m : Msg} (h : MsgOk m) (hw : Wf m) : ∀ i, i ≤ m.f_Votes.xs.length → (votesB (m.f_Votes.xs.take i)).length ≤ 5000 * i
  | 0, _ => by simp [votesB]
  | i + 1, hi => by
    obtain ⟨v, hv⟩ : ∃ v, m.f_Votes.xs[i]? = some v := ⟨_, List.getElem?_eq_getElem (by omega)⟩
    have h1 := votesB_len h hw i (by omega)
    have h' := h
    unfold MsgOk at h'
    have h2 := h'.2.2.2.2.2.2.2.2.2.1 i v (by omega) hv
    have h3 := nB_len (x := v.f_Slot) (by omega)
    have h4 := nB_len (x := v.f_Ballot) (hw.v v (List.mem_of_getElem? hv)).2
    have h5 := textB_len h2.2.2
    rw [votesB_on hv, List.length_append]
    unfold voteB; simp only [List.length_append]; omega
theorem headB18_len {m : Msg} (h : MsgOk m) (hw : Wf m) : (headB18 m).length ≤ 5000 := by
  have h' := h
  unfold MsgOk at h'
  have h1 := hdB_len h 5 (by omega)
  have h2 := nB_len hw.b.2
  have h3 := textB_len (s := m.f_Value) (by omega)
  have h4 := votes_len h'.2.2.2.2.2.2.2.2.2
  have h5 := numB_len_le 10 m.f_Votes.xs.length (by omega) (by omega)
  unfold headB18; simp only [List.length_append]; omega
theorem bodyB_len {m : Msg} (h : MsgOk m) (hw : Wf m) : (bodyB m).length ≤ 400000 := by
  have h1 := headB18_len h hw
  have h' := h
  unfold MsgOk at h'
  have h4 := votes_len h'.2.2.2.2.2.2.2.2.2
  have h5 := votesB_len h hw m.f_Votes.xs.length (Nat.le_refl _)
  rw [List.take_length] at h5
  unfold bodyB; rw [List.length_append]; omega
end Go.Proofs.Ytoigakfglgdjdaa
