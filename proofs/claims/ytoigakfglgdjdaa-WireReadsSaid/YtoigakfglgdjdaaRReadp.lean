/- The document's reading: the plain law (hand-written). -/
import Derived.Test.YtoigakfglgdjdaaRRight
import Derived.Test.YtoigakfglgdjdaaReadp
set_option linter.unusedVariables false
set_option linter.unusedSimpArgs false
namespace Go.Proofs.Ytoigakfglgdjdaa
open Go.RowKit Classical
/-- The eye stands at number i: ys are to come. -/
structure At (bs : List UInt8) (i : Nat) (ys : List UInt8) : Prop where
  is : ys = bs.drop i
  le : i ≤ bs.length
theorem textR_used (t : List UInt8) : (textR t).2.2 ≤ t.length := by
  have hu := numR_used t 0 0
  by_cases h1 : (numR 0 0 t).2.1 = 0
  · by_cases h2 : t.length - (numR 0 0 t).2.2 < (numR 0 0 t).1
    · rw [textR_short h1 h2]; exact Nat.zero_le _
    · rw [textR_ok h1 h2]; show _ + _ ≤ _; omega
  · rw [textR_err h1]; exact Nat.zero_le _
theorem At.len {bs ys : List UInt8} {i : Nat} (h : At bs i ys) : ys.length = bs.length - i := by rw [h.is, List.length_drop]
theorem At.on {bs ys : List UInt8} {i u : Nat} (h : At bs i ys) (hu : u ≤ ys.length) : At bs (i + u) (ys.drop u) := ⟨by rw [h.is, List.drop_drop], by have := h.len; have := h.le; omega⟩
theorem At.num {bs ys : List UInt8} {i : Nat} (h : At bs i ys) : At bs (i + (numR 0 0 ys).2.2) (ys.drop (numR 0 0 ys).2.2) := h.on (by have := (numR_used ys 0 0).1; omega)
theorem At.text {bs ys : List UInt8} {i : Nat} (h : At bs i ys) : At bs (i + (textR ys).2.2) (ys.drop (textR ys).2.2) := h.on (textR_used ys)
theorem take_add {bs ys : List UInt8} {i u : Nat} (h : At bs i ys) : bs.take (i + u) = bs.take i ++ ys.take u := by rw [h.is, List.take_add]
theorem At.numB {bs ys : List UInt8} {i : Nat} (h : At bs i ys) (h0 : (numR 0 0 ys).2.1 = 0) : bs.take (i + (numR 0 0 ys).2.2) = bs.take i ++ numB (numR 0 0 ys).1 := by
  rw [take_add h]
  congr 1
  obtain ⟨m, s, e1, e2, e3, _⟩ := numR_conv ys 0 0 h0
  rw [show (numR 0 0 ys).1 = m by rw [e2]; simp, e3, Nat.zero_add]
  conv => lhs; rw [e1]
  rw [List.take_left]
theorem At.textB {bs ys : List UInt8} {i : Nat} (h : At bs i ys) (h0 : (textR ys).2.1 = 0) : bs.take (i + (textR ys).2.2) = bs.take i ++ textB (bts (textR ys).1) := by
  rw [take_add h]
  congr 1
  have h1 := textR_is h0
  have h2 : (bts (textR ys).1).data.toList = (textR ys).1 := by simp [bts]
  unfold Go.Proofs.Ytoigakfglgdjdaa.textB
  rw [h2]
  have h3 := textR_used ys
  have h4 : (ys.take (textR ys).2.2) ++ ys.drop (textR ys).2.2 = (Go.Proofs.Ytoigakfglgdjdaa.numB (textR ys).1.length ++ (textR ys).1) ++ ys.drop (textR ys).2.2 := by rw [List.take_append_drop]; exact h1
  exact List.append_cancel_right h4
/-- What the head's loop has. -/
structure HInv (bs : List UInt8) (i bad e : Nat) (ls : List Int) (ys : List UInt8) : Prop where
  at_ : At bs e ys
  len : ls.length = 6
  rng : ∀ x ∈ ls, 0 ≤ x ∧ x < 18446744073709551616
  bnd : bad ≤ 31 * i
  fwd : bad = 0 → bs.take e = (ls.take i).flatMap nB
  hyp : ∀ m, Good m bs → bad = 0 ∧ ls.take i = (hd6 m).take i ∧ ys = hdT m i
theorem HInv.start {bs : List UInt8} : HInv bs 0 0 0 (List.replicate 6 0) bs := ⟨⟨rfl, Nat.zero_le _⟩, rfl, fun x hx => by simp at hx; subst hx; decide, Nat.le_refl _, fun _ => rfl, fun m g => ⟨rfl, rfl, g.eq.trans (wireB_hdT m)⟩⟩
theorem take_set {ls : List Int} {i : Nat} {x : Int} (h : i < ls.length) : (ls.set i x).take (i + 1) = ls.take i ++ [x] := by
  rw [List.take_succ_eq_append_getElem (by rw [List.length_set]; exact h), List.getElem_set_self, List.take_set_of_le (Nat.le_refl _)]
theorem HInv.on {bs ys : List UInt8} {i bad e : Nat} {ls : List Int} (h : HInv bs i bad e ls ys) (hi : i < 6) :
    HInv bs (i + 1) (bad + (numR 0 0 ys).2.1) (e + (numR 0 0 ys).2.2) (ls.set i ((numR 0 0 ys).1 : Int)) (ys.drop (numR 0 0 ys).2.2) := by
  have hl := h.len
  have hlt := numR_lt ys 0 0 (by omega) (by omega)
  have hu := numR_used ys 0 0
  refine ⟨h.at_.num, by rw [List.length_set, hl], fun x hx => ?_, by have := h.bnd; omega, fun hb => ?_, fun m g => ?_⟩
  · rcases List.mem_or_eq_of_mem_set hx with h9 | h9
    · exact h.rng x h9
    · subst h9; omega
  · rw [h.at_.numB (by omega), h.fwd (by omega), take_set (by omega), List.flatMap_append]
    simp [nB]
  · obtain ⟨e1, e2, e3⟩ := h.hyp m g
    obtain ⟨x, hx⟩ : ∃ x, (hd6 m)[i]? = some x := ⟨_, List.getElem?_eq_getElem (show i < 6 by omega)⟩
    obtain ⟨a1, a2, a3⟩ := g.num hx e3
    refine ⟨by omega, ?_, a3⟩
    obtain ⟨hj, hx'⟩ := List.getElem?_eq_some_iff.1 hx
    rw [take_set (by omega), e2, List.take_succ_eq_append_getElem hj, hx', a1]
theorem six {ls : List Int} {a b c d e f : Int} (hl : ls.length = 6) (h0 : ls[(0 : Int).toNat]? = some a) (h1 : ls[(1 : Int).toNat]? = some b) (h2 : ls[(2 : Int).toNat]? = some c) (h3 : ls[(3 : Int).toNat]? = some d) (h4 : ls[(4 : Int).toNat]? = some e) (h5 : ls[(5 : Int).toNat]? = some f) : ls = [a, b, c, d, e, f] := by
  match ls, hl with
  | [_, _, _, _, _, _], _ =>
    simp at h0 h1 h2 h3 h4 h5
    simp [h0, h1, h2, h3, h4, h5]
/-- What the votes' loop has; H: the bytes ahead of the votes. -/
structure RInv (bs H : List UInt8) (n0 n bad e : Nat) (vs : List RVote) (ys : List UInt8) : Prop where
  at_ : At bs e ys
  cnt : n + vs.length = n0
  n64 : n0 < 18446744073709551616
  bnd : bad ≤ 400
  len : vs.length ≤ bs.length + 1 ∧ (bad = 0 → vs.length ≤ e)
  wf : ∀ v ∈ vs, 0 ≤ v.f_Ballot ∧ v.f_Ballot < 18446744073709551616
  fwd : bad = 0 → (∀ v ∈ vs, v.f_Slot ≤ 63) → bs.take e = H ++ votesB (vs.map ofR)
  hyp : ∀ m, Good m bs → bad = 0 ∧ n0 = m.f_Votes.xs.length ∧ vs.map ofR = m.f_Votes.xs.take vs.length ∧ ys = voT m vs.length
theorem RInv.start {bs H ys : List UInt8} {n0 bad e : Nat} (ha : At bs e ys) (hn : n0 < 18446744073709551616) (hb : bad ≤ 400) (hf : bad = 0 → bs.take e = H) (hh : ∀ m, Good m bs → bad = 0 ∧ n0 = m.f_Votes.xs.length ∧ ys = voT m 0) : RInv bs H n0 n0 bad e [] ys :=
  ⟨ha, rfl, hn, hb, ⟨Nat.zero_le _, fun _ => Nat.zero_le _⟩, fun v hv => (by cases hv), fun h _ => by rw [hf h]; simp [votesB], fun m g => ⟨(hh m g).1, (hh m g).2.1, rfl, (hh m g).2.2⟩⟩
theorem votesB_snoc (vs : List Vote) (v : Vote) : votesB (vs ++ [v]) = votesB vs ++ voteB v := by simp [votesB]
theorem RInv.on {bs H ys y1 y2 : List UInt8} {n0 n e : Nat} {vs : List RVote} (h : RInv bs H n0 n 0 e vs ys) (hn : 0 < n) (h1 : y1 = ys.drop (numR 0 0 ys).2.2) (h2 : y2 = y1.drop (numR 0 0 y1).2.2) :
    RInv bs H n0 (n - 1) ((numR 0 0 ys).2.1 + (numR 0 0 y1).2.1 + (textR y2).2.1) (e + (numR 0 0 ys).2.2 + (numR 0 0 y1).2.2 + (textR y2).2.2) (vs ++ [⟨(fewN (numR 0 0 ys).1 63 : Nat), ((numR 0 0 y1).1 : Int), bts (textR y2).1⟩]) (y2.drop (textR y2).2.2) := by
  have a1 := h.at_.num
  rw [← h1] at a1
  have a2 := a1.num
  rw [← h2] at a2
  have a3 := a2.text
  have hu0 := numR_used ys 0 0
  have hu1 := numR_used y1 0 0
  have hl0 := numR_lt ys 0 0 (by omega) (by omega)
  have hl1 := numR_lt y1 0 0 (by omega) (by omega)
  have htx : (textR y2).2.1 ≤ 31 := by
    have hu2 := numR_used y2 0 0
    by_cases c1 : (numR 0 0 y2).2.1 = 0
    · by_cases c2 : y2.length - (numR 0 0 y2).2.2 < (numR 0 0 y2).1
      · rw [textR_short c1 c2]; decide
      · rw [textR_ok c1 c2]; exact Nat.zero_le 31
    · rw [textR_err c1]; exact hu2.2.2.2
  have hc := h.cnt
  have hlen := h.len
  have hle := a3.le
  have hle0 := h.at_.le
  refine ⟨a3, by rw [List.length_append]; show n - 1 + (vs.length + 1) = _; omega, h.n64, by omega, ⟨by rw [List.length_append]; show vs.length + 1 ≤ _; have := hlen.2 rfl; omega, fun hb => by rw [List.length_append]; show vs.length + 1 ≤ _; have := hlen.2 rfl; have := hu0.2.2.1 (by omega); omega⟩, fun v hv => ?_, fun hb hs => ?_, fun m g => ?_⟩
  · rcases List.mem_append.1 hv with h9 | h9
    · exact h.wf v h9
    · simp only [List.mem_cons, List.not_mem_nil, or_false] at h9
      subst h9; exact ⟨by dsimp only; omega, by dsimp only; omega⟩
  · have hs1 := hs _ (List.mem_append_right vs (List.mem_singleton.2 rfl))
    have hfw : fewN (numR 0 0 ys).1 63 = (numR 0 0 ys).1 := by
      have hs2 : ((fewN (numR 0 0 ys).1 63 : Nat) : Int) ≤ 63 := hs1
      unfold fewN at hs2 ⊢
      split
      · rename_i h9; rw [if_pos h9] at hs2; omega
      · rfl
    rw [a2.textB (by omega), a1.numB (by omega), h.at_.numB (by omega), h.fwd rfl (fun v hv => hs v (List.mem_append_left _ hv)), List.map_append, List.map_cons, List.map_nil, votesB_snoc, hfw]
    simp [voteB, ofR, nB]
  · obtain ⟨e1, e2, e3, e4⟩ := h.hyp m g
    have hi : vs.length < m.f_Votes.xs.length := by omega
    have hx := List.getElem?_eq_getElem hi
    obtain ⟨⟨v1, v2, v3⟩, v4, v5⟩ := g.vote hx
    obtain ⟨b1, b2, b3⟩ := nB_of v1 (by omega) (e4.trans (voT_on hx))
    obtain ⟨c1, c2, c3⟩ := nB_of v4 v5 (h1.trans b3)
    obtain ⟨d1, d2, d3⟩ := textR_of (by omega) (h2.trans c3)
    refine ⟨by omega, e2, ?_, by rw [List.length_append]; exact d3⟩
    rw [List.map_append, e3, List.length_append]
    show _ = List.take (vs.length + 1) _
    rw [List.take_succ_eq_append_getElem hi]
    congr 1
    have hf : fewN (numR 0 0 ys).1 63 = (numR 0 0 ys).1 := by rw [fewN, if_neg (by omega)]
    simp only [List.map_cons, List.map_nil, ofR, hf, b1, c1, d1]
end Go.Proofs.Ytoigakfglgdjdaa
