/- Printed by eng2.py out of 18/spec.py. -/
import Derived.Test.YtoigakfglgdjdaaWrites
import Derived.Test.YtoigakfglgdjdaaREye
set_option linter.unusedVariables false
set_option linter.unusedSimpArgs false
set_option maxRecDepth 10000
namespace Go.Proofs.Ytoigakfglgdjdaa
open Go.RowKit Classical
theorem rnum_ {W : World} {F : List Res} {k i : Nat} {bs ys : List UInt8} {a : Option Addr} {c : Nat} (hs : SlR W e8 a bs) (h : At bs i ys) (hsm : bs.length ≤ 1000000) (hcc : bs.length ≤ c) : CS Try.prog 33 #[.pointer (some ⟨k, 0, none⟩)] W (blk k (.cells #[.slice a bs.length c, .int .i64 (i : Int)] 76 (0, 0)) :: F) (fun r L' => ∃ (j : Nat) (y : List UInt8), (j = i + (numR 0 0 ys).2.2 ∧ y = ys.drop (numR 0 0 ys).2.2) ∧ r = .tuple #[.int .u64 ((numR 0 0 ys).1 : Int), .int .i64 ((numR 0 0 ys).2.1 : Int)] ∧ L' = blk k (.cells #[.slice a bs.length c, .int .i64 (j : Int)] 76 (0, 0)) :: F) :=
  (rEyeNum hs h.is h.le (by omega) hcc).mono fun _ _ h => ⟨_, _, ⟨rfl, rfl⟩, h.1, h.2⟩
theorem rtext_ {W : World} {F : List Res} {k i : Nat} {bs ys : List UInt8} {a : Option Addr} {c : Nat} (hs : SlR W e8 a bs) (h : At bs i ys) (hsm : bs.length ≤ 1000000) (hcc : bs.length ≤ c) : CS Try.prog 35 #[.pointer (some ⟨k, 0, none⟩)] W (blk k (.cells #[.slice a bs.length c, .int .i64 (i : Int)] 76 (0, 0)) :: F) (fun r L' => ∃ (out : List UInt8) (a2 : Option Addr) (c2 : Nat) (j : Nat) (y : List UInt8), out = (textR ys).1 ∧ (j = i + (textR ys).2.2 ∧ y = ys.drop (textR ys).2.2) ∧ r = .tuple #[.slice a2 out.length c2, .int .i64 ((textR ys).2.1 : Int)] ∧ L' = row e8.T e8.sz a2 (out).length c2 (flat e8 out) :: blk k (.cells #[.slice a bs.length c, .int .i64 (j : Int)] 76 (0, 0)) :: F) :=
  (rEyeText hs h.is h.le (by omega) hcc).mono fun _ _ ⟨out, a2, c2, h0, h1, h2⟩ => ⟨out, a2, c2, _, _, h0, ⟨rfl, rfl⟩, h1, h2⟩
theorem textR_err31 (t : List UInt8) : (textR t).2.1 ≤ 31 := by
  have hu := numR_used t 0 0
  by_cases h1 : (numR 0 0 t).2.1 = 0
  · by_cases h2 : t.length - (numR 0 0 t).2.2 < (numR 0 0 t).1
    · rw [textR_short h1 h2]; decide
    · rw [textR_ok h1 h2]; exact Nat.zero_le 31
  · rw [textR_err h1]; exact hu.2.2.2
/-- Behind the head's numbers: the text, the number of votes. -/
theorem head_start {bs ys y1 y2 : List UInt8} {bad e : Nat} {ls : List Int} {k0 k1 k2 k3 k4 k5 : Int} (h : HInv bs 6 bad e ls ys) (hls : ls = [k0, k1, k2, k3, k4, k5]) (h1 : y1 = ys.drop (textR ys).2.2) (h2 : y2 = y1.drop (numR 0 0 y1).2.2) :
    RInv bs ([k0, k1, k2, k3, k4, k5].flatMap nB ++ textB (bts (textR ys).1) ++ numB (numR 0 0 y1).1) (numR 0 0 y1).1 (numR 0 0 y1).1 (bad + ((textR ys).2.1 + (numR 0 0 y1).2.1)) (e + (textR ys).2.2 + (numR 0 0 y1).2.2) [] y2 := by
  have a1 := h.at_.text
  rw [← h1] at a1
  have a2 := a1.num
  rw [← h2] at a2
  have hu := numR_used y1 0 0
  have ht := textR_err31 ys
  have hb := h.bnd
  refine RInv.start a2 (numR_lt y1 0 0 (by omega) (by omega)) (by omega) (fun hz => ?_) (fun m g => ?_)
  · rw [a1.numB (by omega), h.at_.textB (by omega), h.fwd (by omega), hls]; rfl
  · obtain ⟨e1, e2, e3⟩ := h.hyp m g
    obtain ⟨b1, b2, b3⟩ := g.text e3
    obtain ⟨c1, c2, c3⟩ := g.nv (h1.trans b3)
    exact ⟨by omega, c1, h2.trans c3⟩
theorem hyp6 {bs ys : List UInt8} {bad e : Nat} {ls : List Int} {k0 k1 k2 k3 k4 k5 : Int} (h : HInv bs 6 bad e ls ys) (hls : ls = [k0, k1, k2, k3, k4, k5]) : (∀ x ∈ [k0, k1, k2, k3, k4, k5], 0 ≤ x ∧ x < 18446744073709551616) ∧ ∀ m, Good m bs → (k0 = m.f_Kind ∧ k1 = m.f_From ∧ k2 = m.f_To ∧ k3 = m.f_Group ∧ k4 = m.f_Slot ∧ k5 = m.f_Ballot ∧ bts (textR ys).1 = m.f_Value) := by
  refine ⟨fun x hx => h.rng x (by rw [hls]; exact hx), fun m g => ?_⟩
  obtain ⟨e1, e2, e3⟩ := h.hyp m g
  rw [hls] at e2
  simp [hd6] at e2
  exact ⟨e2.1, e2.2.1, e2.2.2.1, e2.2.2.2.1, e2.2.2.2.2.1, e2.2.2.2.2.2, (g.text e3).1⟩
def fewI (x : Int) (k : Nat) : Int := (fewN x.toNat k : Nat)
theorem fewI_eq {x : Int} {k : Nat} (h0 : 0 ≤ x) (h : x ≤ k) : fewI x k = x := by unfold fewI fewN; rw [if_neg (by omega)]; omega
theorem fewI_le {x : Int} {k : Nat} (h0 : 0 ≤ x) (h : fewI x k ≤ k) : fewI x k = x := by
  unfold fewI fewN at *
  split at h <;> rename_i h9
  · omega
  · rw [if_neg h9]; omega
/-- The message that was read. -/
abbrev pq (k0 k1 k2 k3 k4 k5 : Int) (v : ByteArray) (a : Option Addr) (vs : List RVote) (c : Nat) : RMsg := ⟨fewI k0 9, fewI k1 8, fewI k2 8, fewI k3 3, fewI k4 64, k5, v, ⟨a, vs, c⟩⟩
theorem final_hyp {bs ys : List UInt8} {bad e n n0 : Nat} {vs : List RVote} {k0 k1 k2 k3 k4 k5 : Int} {v : ByteArray} {H : List UInt8} (hk : ∀ m, Good m bs → (k0 = m.f_Kind ∧ k1 = m.f_From ∧ k2 = m.f_To ∧ k3 = m.f_Group ∧ k4 = m.f_Slot ∧ k5 = m.f_Ballot ∧ v = m.f_Value)) (h : RInv bs H n0 n bad e vs ys) (hn : n = 0 ∨ bad ≠ 0) {a : Option Addr} {c : Nat} :
    ∀ m, Good m bs → bad = 0 ∧ (numR 0 0 ys).2.1 = 0 ∧ ys.drop (numR 0 0 ys).2.2 = [] ∧ (numR 0 0 ys).1 = (sumB (bs.take e)).toNat ∧ RightM (pq k0 k1 k2 k3 k4 k5 v a vs c) ∧ SameG (toM (pq k0 k1 k2 k3 k4 k5 v a vs c)) m := fun m g => by
  obtain ⟨r1, r2, r3, r4⟩ := h.hyp m g
  obtain ⟨e0, e1, e2, e3, e4, e5, e6⟩ := hk m g
  have hk' := g.ok
  unfold MsgOk at hk'
  have hc := h.cnt
  have hl : vs.length = m.f_Votes.xs.length := by omega
  rw [hl, List.take_length] at r3
  have hy : ys = numB (sumB (bodyB m)).toNat ++ [] := by
    rw [r4, hl]; simp [voT, votesB, sumT]
  obtain ⟨a1, a2, a3⟩ := numR_of (by have := (sumB (bodyB m)).isLt; omega) hy
  have hb : bs.take e = bodyB m := by
    have h1 : bs = bodyB m ++ ys := by rw [g.eq, wireB, hy, List.append_nil]
    have h2 : bs = bs.take e ++ ys := by rw [h.at_.is, List.take_append_drop]
    exact (List.append_cancel_right (h2.symm.trans h1))
  have hsm : SameG (toM (pq k0 k1 k2 k3 k4 k5 v a vs c)) m := by
    refine ⟨?_, ?_, ?_, ?_, ?_, e5, e6, r3⟩
    · show fewI k0 9 = _; rw [fewI_eq (by omega) (by omega), e0]
    · show fewI k1 8 = _; rw [fewI_eq (by omega) (by omega), e1]
    · show fewI k2 8 = _; rw [fewI_eq (by omega) (by omega), e2]
    · show fewI k3 3 = _; rw [fewI_eq (by omega) (by omega), e3]
    · show fewI k4 64 = _; rw [fewI_eq (by omega) (by omega), e4]
  exact ⟨r1, a2, a3, by rw [a1, hb], right_iff.2 (g.ok.same hsm.symm), hsm⟩
theorem votes63 {vs : List RVote} (h : RVotesTo vs vs.length) : ∀ v ∈ vs, v.f_Slot ≤ 63 := fun v hv => by
  obtain ⟨i, hi, rfl⟩ := List.mem_iff_getElem.1 hv
  have h1 := (h.1 i (ofR vs[i]) hi (get_ofR (List.getElem?_eq_getElem hi))).2.1
  simp only [ofR] at h1; omega
theorem final_ok {bs ys : List UInt8} {bad e n n0 : Nat} {vs : List RVote} {k0 k1 k2 k3 k4 k5 : Int} {v : ByteArray} (hr : ∀ x ∈ [k0, k1, k2, k3, k4, k5], 0 ≤ x ∧ x < 18446744073709551616) (h : RInv bs ([k0, k1, k2, k3, k4, k5].flatMap nB ++ textB v ++ numB n0) n0 n bad e vs ys) (hn : n = 0 ∨ bad ≠ 0) {a : Option Addr} {c : Nat}
    (hb : bad = 0) (hc : (numR 0 0 ys).2.1 = 0) (he : (ys.drop (numR 0 0 ys).2.2).length = 0) (hs : (numR 0 0 ys).1 = (sumB (bs.take e)).toNat) (hR : RightM (pq k0 k1 k2 k3 k4 k5 v a vs c)) : Good (toM (pq k0 k1 k2 k3 k4 k5 v a vs c)) bs := by
  have hok := right_iff.1 hR
  have hR' := hR
  unfold RightM at hR'
  have hcn := h.cnt
  have hf := h.fwd hb (votes63 hR'.2.2.2.2.2.2.2.2.2)
  have q0 := (hr k0 (by simp)).1; have q1 := (hr k1 (by simp)).1; have q2 := (hr k2 (by simp)).1; have q3 := (hr k3 (by simp)).1; have q4 := (hr k4 (by simp)).1
  have f0 : fewI k0 9 = k0 := fewI_le q0 (by have := hR'.2.1; simpa using this)
  have f1 : fewI k1 8 = k1 := fewI_le q1 (by have := hR'.2.2.1.2; simpa using this)
  have f2 : fewI k2 8 = k2 := fewI_le q2 (by have := hR'.2.2.2.1.2; simpa using this)
  have f3 : fewI k3 3 = k3 := fewI_le q3 (by have := hR'.2.2.2.2.1.2; simpa using this)
  have f4 : fewI k4 64 = k4 := fewI_le q4 (by have := hR'.2.2.2.2.2.1.2; simpa using this)
  have hbody : bs.take e = bodyB (toM (pq k0 k1 k2 k3 k4 k5 v a vs c)) := by
    rw [hf]
    unfold bodyB headB18
    rw [hdB_5]
    simp only [toM, pq, f0, f1, f2, f3, f4, List.length_map, List.flatMap_cons, List.flatMap_nil, List.append_nil, List.append_assoc]
    rw [show n0 = vs.length by omega]
  refine ⟨hok, ⟨hr k5 (by simp), fun w hw => ?_⟩, ?_⟩
  · obtain ⟨x, hx, rfl⟩ := List.mem_map.1 hw
    exact h.wf x hx
  · have h1 := numR_is hc
    rw [List.eq_nil_of_length_eq_zero he, List.append_nil, hs, hbody] at h1
    have h2 : bs = bs.take e ++ ys := by rw [h.at_.is, List.take_append_drop]
    rw [wireB, ← h1, ← hbody]
    exact h2
end Go.Proofs.Ytoigakfglgdjdaa
