/- Unlike messages have unlike bytes: the plain law (hand-written). -/
import Derived.Test.YtoigakfglgdjdaaSame
set_option linter.unusedVariables false
set_option linter.unusedSimpArgs false
namespace Go.Proofs.Ytoigakfglgdjdaa
open Go.RowKit Classical
abbrev ofM (m : Msg) (a : Option Addr) (c : Nat) : RMsg := ⟨m.f_Kind, m.f_From, m.f_To, m.f_Group, m.f_Slot, m.f_Ballot, m.f_Value, ⟨a, m.f_Votes.xs.map toR, c⟩⟩
structure SameG (a b : Msg) : Prop where
  kind : a.f_Kind = b.f_Kind
  frm : a.f_From = b.f_From
  too : a.f_To = b.f_To
  group : a.f_Group = b.f_Group
  slot : a.f_Slot = b.f_Slot
  ballot : a.f_Ballot = b.f_Ballot
  value : a.f_Value = b.f_Value
  votes : a.f_Votes.xs = b.f_Votes.xs
theorem SameG.symm {a b : Msg} (h : SameG a b) : SameG b a := ⟨h.1.symm, h.2.symm, h.3.symm, h.4.symm, h.5.symm, h.6.symm, h.7.symm, h.8.symm⟩
theorem SameG.trans {a b c : Msg} (h : SameG a b) (g : SameG b c) : SameG a c := ⟨h.1.trans g.1, h.2.trans g.2, h.3.trans g.3, h.4.trans g.4, h.5.trans g.5, h.6.trans g.6, h.7.trans g.7, h.8.trans g.8⟩
theorem toR_inj {v u : Vote} (h : toR v = toR u) : v = u := by
  obtain ⟨a, b, c⟩ := v; obtain ⟨d, e, f⟩ := u; simpa [toR] using h
theorem map_toR {vs us : List Vote} : vs.map toR = us.map toR ↔ vs = us := ⟨fun h => (List.map_inj_right (fun _ _ => toR_inj)).1 h, fun h => by rw [h]⟩
theorem sameM_iff {a b : Msg} {x y : Option Addr} {c d : Nat} : SameM (ofM a x c) (ofM b y d) ↔ SameG a b := by
  unfold SameM
  simp only [map_toR]
  exact ⟨fun ⟨h1, h2, h3, h4, h5, h6, h7, h8⟩ => ⟨h1, h2, h3, h4, h5, h6, h7, h8⟩, fun h => ⟨h.1, h.2, h.3, h.4, h.5, h.6, h.7, h.8⟩⟩
theorem nB_app {x y : Int} {s t : List UInt8} (hx : 0 ≤ x) (hy : 0 ≤ y) (h : nB x ++ s = nB y ++ t) : x = y ∧ s = t := by
  obtain ⟨h1, h2⟩ := numB_app h
  exact ⟨by omega, h2⟩
theorem textB_app {x y : ByteArray} {s t : List UInt8} (h : textB x ++ s = textB y ++ t) : x = y ∧ s = t := by
  unfold textB at h
  rw [List.append_assoc, List.append_assoc] at h
  obtain ⟨h1, h2⟩ := numB_app h
  obtain ⟨h3, h4⟩ := List.append_inj h2 h1
  refine ⟨?_, h4⟩
  cases x; cases y
  simp at h3
  rw [h3]
theorem voteB_app {v u : Vote} {s t : List UInt8} (h1 : 0 ≤ v.f_Slot) (h2 : 0 ≤ u.f_Slot) (h3 : 0 ≤ v.f_Ballot) (h4 : 0 ≤ u.f_Ballot) (h : voteB v ++ s = voteB u ++ t) : v = u ∧ s = t := by
  unfold voteB at h
  simp only [List.append_assoc] at h
  obtain ⟨e1, h⟩ := nB_app h1 h2 h
  obtain ⟨e2, h⟩ := nB_app h3 h4 h
  obtain ⟨e3, hst⟩ := textB_app h
  obtain ⟨a, b, c⟩ := v; obtain ⟨d, e, f⟩ := u
  simp only at e1 e2 e3
  subst e1 e2 e3
  exact ⟨rfl, hst⟩
theorem votesB_app {s t : List UInt8} : ∀ {vs us : List Vote}, vs.length = us.length → (∀ v ∈ vs, 0 ≤ v.f_Slot ∧ 0 ≤ v.f_Ballot) → (∀ v ∈ us, 0 ≤ v.f_Slot ∧ 0 ≤ v.f_Ballot) → votesB vs ++ s = votesB us ++ t → vs = us ∧ s = t
  | [], [], _, _, _, h => ⟨rfl, by simpa [votesB] using h⟩
  | v :: vs, u :: us, hl, hv, hu, h => by
    simp only [votesB, List.flatMap_cons, List.append_assoc] at h
    obtain ⟨e1, h⟩ := voteB_app (hv v (by simp)).1 (hu u (by simp)).1 (hv v (by simp)).2 (hu u (by simp)).2 h
    obtain ⟨e2, h⟩ := votesB_app (by simpa using hl) (fun x hx => hv x (by simp [hx])) (fun x hx => hu x (by simp [hx])) h
    exact ⟨by rw [e1, e2], h⟩
theorem hdB_5 (m : Msg) : hdB m 5 = nB m.f_Kind ++ (nB m.f_From ++ (nB m.f_To ++ (nB m.f_Group ++ nB m.f_Slot))) := by simp [hdB, hd5]
theorem votes_nonneg {m : Msg} (h : MsgOk m) (w : Wf m) : ∀ v ∈ m.f_Votes.xs, 0 ≤ v.f_Slot ∧ 0 ≤ v.f_Ballot := fun v hv => by
  obtain ⟨i, hi, rfl⟩ := List.mem_iff_getElem.1 hv
  unfold MsgOk at h
  exact ⟨(h.2.2.2.2.2.2.2.2.2.1 i _ hi (List.getElem?_eq_getElem hi)).1, (w.v _ (List.getElem_mem hi)).1⟩
theorem bodyB_app {a b : Msg} (ha : MsgOk a) (hb : MsgOk b) (wa : Wf a) (wb : Wf b) {s t : List UInt8} (h : bodyB a ++ s = bodyB b ++ t) : SameG a b ∧ s = t := by
  have ha' := ha; have hb' := hb
  unfold MsgOk at ha' hb'
  unfold bodyB headB18 at h
  rw [hdB_5, hdB_5] at h
  simp only [List.append_assoc] at h
  obtain ⟨e1, h⟩ := nB_app (by omega) (by omega) h
  obtain ⟨e2, h⟩ := nB_app (by omega) (by omega) h
  obtain ⟨e3, h⟩ := nB_app (by omega) (by omega) h
  obtain ⟨e4, h⟩ := nB_app (by omega) (by omega) h
  obtain ⟨e5, h⟩ := nB_app (by omega) (by omega) h
  obtain ⟨e6, h⟩ := nB_app wa.b.1 wb.b.1 h
  obtain ⟨e7, h⟩ := textB_app h
  obtain ⟨e8, h⟩ := numB_app h
  obtain ⟨e9, h⟩ := votesB_app e8 (votes_nonneg ha wa) (votes_nonneg hb wb) h
  exact ⟨⟨e1, e2, e3, e4, e5, e6, e7, e9⟩, h⟩
theorem bodyB_same {a b : Msg} (h : SameG a b) : bodyB a = bodyB b := by
  unfold bodyB headB18
  rw [hdB_5, hdB_5, h.1, h.2, h.3, h.4, h.5, h.6, h.7, h.8]
theorem wireB_same {a b : Msg} (h : SameG a b) : wireB a = wireB b := by unfold wireB; rw [bodyB_same h]
theorem wireB_inj {a b : Msg} (ha : MsgOk a) (hb : MsgOk b) (wa : Wf a) (wb : Wf b) (h : wireB a = wireB b) : SameG a b := (bodyB_app ha hb wa wb h).1
theorem msgN_0 {m : Msg} (h : msgN m = 0) : MsgOk m := Classical.byContradiction fun h9 => by rw [msgN, if_neg h9] at h; simp at h
theorem apart {a b : Msg} (ha : msgN a = 0) (hb : msgN b = 0) (wa : Wf a) (wb : Wf b) {x y : Option Addr} {c d : Nat} : bts (wrB a) = bts (wrB b) ↔ SameM (ofM a x c) (ofM b y d) := by
  rw [sameM_iff, bts_eq, wrB, wrB, if_pos (msgN_0 ha), if_pos (msgN_0 hb)]
  exact ⟨wireB_inj (msgN_0 ha) (msgN_0 hb) wa wb, wireB_same⟩
theorem bbeq {p q : Prop} {i : Decidable p} {j : Decidable q} (h : p ↔ q) : (@decide p i == @decide q j) = true := by
  by_cases hp : p
  · rw [decide_eq_true hp, decide_eq_true (h.1 hp)]; rfl
  · rw [decide_eq_false hp, decide_eq_false (fun hq => hp (h.2 hq))]; rfl
end Go.Proofs.Ytoigakfglgdjdaa
