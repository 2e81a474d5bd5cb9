/- Printed by eng2.py out of 18/spec.py. -/
import Derived.Test.YtoigakfglgdjdaaWire
import Derived.Test.YtoigakfglgdjdaaOpen
set_option linter.unusedVariables false
set_option linter.unusedSimpArgs false
set_option maxRecDepth 10000
namespace Go.Proofs.Ytoigakfglgdjdaa
open Go.RowKit
theorem list3 (cs : List Value) (h : cs.length = 3) : ∃ c0 c1 c2, cs = [c0, c1, c2] := by
  match cs, h with
  | [c0, c1, c2], _ => exact ⟨c0, c1, c2, rfl⟩
theorem list8 (cs : List Value) (h : cs.length = 8) : ∃ c0 c1 c2 c3 c4 c5 c6 c7, cs = [c0, c1, c2, c3, c4, c5, c6, c7] := by
  match cs, h with
  | [c0, c1, c2, c3, c4, c5, c6, c7], _ => exact ⟨c0, c1, c2, c3, c4, c5, c6, c7, rfl⟩
def G_Vote (W : World) (x : Vote) : Prop := (Lit.int .i64 x.f_Slot).wf = true ∧ (Lit.int .u64 x.f_Ballot).wf = true ∧ x.f_Value.size ≤ maxLen
theorem opens_Vote (W : World) : Opens Try.prog W 48 e_Vote.cells (G_Vote W) where
  op := fun enc fuel cs y h => by
    obtain ⟨ys0, n0, _, _, hl0, hlen0, hf0⟩ := DataW.trod_struct Try.underlying48 h
    rw [cellsOf_ti ti48] at hl0
    obtain ⟨c0, c1, c2, rfl⟩ := list3 cs hl0
    obtain ⟨z1, hz1⟩ : ∃ z, DataW.trod enc Try.prog W 0 (fun _ => true) true n0 3 [c0] = some z := by
      have hq : DataW.trod enc Try.prog W 0 (fun _ => true) true n0 3 (List.take (Try.prog.cellsOf 3) (List.drop 0 [c0, c1, c2])) = ys0[0]? := hf0 0 _ rfl
      rw [cellsOf_ti ti3] at hq
      obtain ⟨z, hz⟩ : ∃ z, ys0[0]? = some z := ⟨_, List.getElem?_eq_getElem (by rw [hlen0]; decide)⟩
      exact ⟨z, by simpa [hz] using hq⟩
    obtain ⟨x2, e2, g2⟩ := (opens_int (W := W) Try.underlying3).op enc _ _ _ hz1
    simp only [List.cons.injEq, and_true] at e2
    obtain ⟨z3, hz3⟩ : ∃ z, DataW.trod enc Try.prog W 0 (fun _ => true) true n0 23 [c1] = some z := by
      have hq : DataW.trod enc Try.prog W 0 (fun _ => true) true n0 23 (List.take (Try.prog.cellsOf 23) (List.drop 1 [c0, c1, c2])) = ys0[1]? := hf0 1 _ rfl
      rw [cellsOf_ti ti23] at hq
      obtain ⟨z, hz⟩ : ∃ z, ys0[1]? = some z := ⟨_, List.getElem?_eq_getElem (by rw [hlen0]; decide)⟩
      exact ⟨z, by simpa [hz] using hq⟩
    obtain ⟨x4, e4, g4⟩ := (opens_int (W := W) Try.underlying23).op enc _ _ _ hz3
    simp only [List.cons.injEq, and_true] at e4
    obtain ⟨z5, hz5⟩ : ∃ z, DataW.trod enc Try.prog W 0 (fun _ => true) true n0 9 [c2] = some z := by
      have hq : DataW.trod enc Try.prog W 0 (fun _ => true) true n0 9 (List.take (Try.prog.cellsOf 9) (List.drop 2 [c0, c1, c2])) = ys0[2]? := hf0 2 _ rfl
      rw [cellsOf_ti ti9] at hq
      obtain ⟨z, hz⟩ : ∃ z, ys0[2]? = some z := ⟨_, List.getElem?_eq_getElem (by rw [hlen0]; decide)⟩
      exact ⟨z, by simpa [hz] using hq⟩
    obtain ⟨x6, e6, g6⟩ := (opens_str (W := W) Try.underlying9).op enc _ _ _ hz5
    simp only [List.cons.injEq, and_true] at e6
    subst e2
    subst e4
    subst e6
    exact ⟨⟨x2, x4, x6⟩, rfl, ⟨g2, g4, g6⟩⟩
def G_Msg (W : World) (x : Msg) : Prop := (Lit.int .i64 x.f_Kind).wf = true ∧ (Lit.int .i64 x.f_From).wf = true ∧ (Lit.int .i64 x.f_To).wf = true ∧ (Lit.int .i64 x.f_Group).wf = true ∧ (Lit.int .i64 x.f_Slot).wf = true ∧ (Lit.int .u64 x.f_Ballot).wf = true ∧ x.f_Value.size ≤ maxLen ∧ SlGood W e_Vote (G_Vote W) x.f_Votes
theorem opens_Msg (W : World) : Opens Try.prog W 26 e_Msg.cells (G_Msg W) where
  op := fun enc fuel cs y h => by
    obtain ⟨ys0, n0, _, _, hl0, hlen0, hf0⟩ := DataW.trod_struct Try.underlying26 h
    rw [cellsOf_ti ti26] at hl0
    obtain ⟨c0, c1, c2, c3, c4, c5, c6, c7, rfl⟩ := list8 cs hl0
    obtain ⟨z1, hz1⟩ : ∃ z, DataW.trod enc Try.prog W 0 (fun _ => true) true n0 3 [c0] = some z := by
      have hq : DataW.trod enc Try.prog W 0 (fun _ => true) true n0 3 (List.take (Try.prog.cellsOf 3) (List.drop 0 [c0, c1, c2, c3, c4, c5, c6, c7])) = ys0[0]? := hf0 0 _ rfl
      rw [cellsOf_ti ti3] at hq
      obtain ⟨z, hz⟩ : ∃ z, ys0[0]? = some z := ⟨_, List.getElem?_eq_getElem (by rw [hlen0]; decide)⟩
      exact ⟨z, by simpa [hz] using hq⟩
    obtain ⟨x2, e2, g2⟩ := (opens_int (W := W) Try.underlying3).op enc _ _ _ hz1
    simp only [List.cons.injEq, and_true] at e2
    obtain ⟨z3, hz3⟩ : ∃ z, DataW.trod enc Try.prog W 0 (fun _ => true) true n0 3 [c1] = some z := by
      have hq : DataW.trod enc Try.prog W 0 (fun _ => true) true n0 3 (List.take (Try.prog.cellsOf 3) (List.drop 1 [c0, c1, c2, c3, c4, c5, c6, c7])) = ys0[1]? := hf0 1 _ rfl
      rw [cellsOf_ti ti3] at hq
      obtain ⟨z, hz⟩ : ∃ z, ys0[1]? = some z := ⟨_, List.getElem?_eq_getElem (by rw [hlen0]; decide)⟩
      exact ⟨z, by simpa [hz] using hq⟩
    obtain ⟨x4, e4, g4⟩ := (opens_int (W := W) Try.underlying3).op enc _ _ _ hz3
    simp only [List.cons.injEq, and_true] at e4
    obtain ⟨z5, hz5⟩ : ∃ z, DataW.trod enc Try.prog W 0 (fun _ => true) true n0 3 [c2] = some z := by
      have hq : DataW.trod enc Try.prog W 0 (fun _ => true) true n0 3 (List.take (Try.prog.cellsOf 3) (List.drop 2 [c0, c1, c2, c3, c4, c5, c6, c7])) = ys0[2]? := hf0 2 _ rfl
      rw [cellsOf_ti ti3] at hq
      obtain ⟨z, hz⟩ : ∃ z, ys0[2]? = some z := ⟨_, List.getElem?_eq_getElem (by rw [hlen0]; decide)⟩
      exact ⟨z, by simpa [hz] using hq⟩
    obtain ⟨x6, e6, g6⟩ := (opens_int (W := W) Try.underlying3).op enc _ _ _ hz5
    simp only [List.cons.injEq, and_true] at e6
    obtain ⟨z7, hz7⟩ : ∃ z, DataW.trod enc Try.prog W 0 (fun _ => true) true n0 3 [c3] = some z := by
      have hq : DataW.trod enc Try.prog W 0 (fun _ => true) true n0 3 (List.take (Try.prog.cellsOf 3) (List.drop 3 [c0, c1, c2, c3, c4, c5, c6, c7])) = ys0[3]? := hf0 3 _ rfl
      rw [cellsOf_ti ti3] at hq
      obtain ⟨z, hz⟩ : ∃ z, ys0[3]? = some z := ⟨_, List.getElem?_eq_getElem (by rw [hlen0]; decide)⟩
      exact ⟨z, by simpa [hz] using hq⟩
    obtain ⟨x8, e8, g8⟩ := (opens_int (W := W) Try.underlying3).op enc _ _ _ hz7
    simp only [List.cons.injEq, and_true] at e8
    obtain ⟨z9, hz9⟩ : ∃ z, DataW.trod enc Try.prog W 0 (fun _ => true) true n0 3 [c4] = some z := by
      have hq : DataW.trod enc Try.prog W 0 (fun _ => true) true n0 3 (List.take (Try.prog.cellsOf 3) (List.drop 4 [c0, c1, c2, c3, c4, c5, c6, c7])) = ys0[4]? := hf0 4 _ rfl
      rw [cellsOf_ti ti3] at hq
      obtain ⟨z, hz⟩ : ∃ z, ys0[4]? = some z := ⟨_, List.getElem?_eq_getElem (by rw [hlen0]; decide)⟩
      exact ⟨z, by simpa [hz] using hq⟩
    obtain ⟨x10, e10, g10⟩ := (opens_int (W := W) Try.underlying3).op enc _ _ _ hz9
    simp only [List.cons.injEq, and_true] at e10
    obtain ⟨z11, hz11⟩ : ∃ z, DataW.trod enc Try.prog W 0 (fun _ => true) true n0 23 [c5] = some z := by
      have hq : DataW.trod enc Try.prog W 0 (fun _ => true) true n0 23 (List.take (Try.prog.cellsOf 23) (List.drop 5 [c0, c1, c2, c3, c4, c5, c6, c7])) = ys0[5]? := hf0 5 _ rfl
      rw [cellsOf_ti ti23] at hq
      obtain ⟨z, hz⟩ : ∃ z, ys0[5]? = some z := ⟨_, List.getElem?_eq_getElem (by rw [hlen0]; decide)⟩
      exact ⟨z, by simpa [hz] using hq⟩
    obtain ⟨x12, e12, g12⟩ := (opens_int (W := W) Try.underlying23).op enc _ _ _ hz11
    simp only [List.cons.injEq, and_true] at e12
    obtain ⟨z13, hz13⟩ : ∃ z, DataW.trod enc Try.prog W 0 (fun _ => true) true n0 9 [c6] = some z := by
      have hq : DataW.trod enc Try.prog W 0 (fun _ => true) true n0 9 (List.take (Try.prog.cellsOf 9) (List.drop 6 [c0, c1, c2, c3, c4, c5, c6, c7])) = ys0[6]? := hf0 6 _ rfl
      rw [cellsOf_ti ti9] at hq
      obtain ⟨z, hz⟩ : ∃ z, ys0[6]? = some z := ⟨_, List.getElem?_eq_getElem (by rw [hlen0]; decide)⟩
      exact ⟨z, by simpa [hz] using hq⟩
    obtain ⟨x14, e14, g14⟩ := (opens_str (W := W) Try.underlying9).op enc _ _ _ hz13
    simp only [List.cons.injEq, and_true] at e14
    obtain ⟨z15, hz15⟩ : ∃ z, DataW.trod enc Try.prog W 0 (fun _ => true) true n0 24 [c7] = some z := by
      have hq : DataW.trod enc Try.prog W 0 (fun _ => true) true n0 24 (List.take (Try.prog.cellsOf 24) (List.drop 7 [c0, c1, c2, c3, c4, c5, c6, c7])) = ys0[7]? := hf0 7 _ rfl
      rw [cellsOf_ti ti24] at hq
      obtain ⟨z, hz⟩ : ∃ z, ys0[7]? = some z := ⟨_, List.getElem?_eq_getElem (by rw [hlen0]; decide)⟩
      exact ⟨z, by simpa [hz] using hq⟩
    obtain ⟨x16, e16, g16⟩ := (opens_slice (W := W) e_Vote_ok Try.underlying24 (opens_Vote W)).op enc _ _ _ hz15
    simp only [List.cons.injEq, and_true] at e16
    subst e2
    subst e4
    subst e6
    subst e8
    subst e10
    subst e12
    subst e14
    subst e16
    exact ⟨⟨x2, x4, x6, x8, x10, x12, x14, x16⟩, rfl, ⟨g2, g4, g6, g8, g10, g12, g14, g16⟩⟩
theorem u64_wf {x : Int} (h : (Lit.int .u64 x).wf = true) : 0 ≤ x ∧ x < 18446744073709551616 := by
  obtain ⟨m, rfl, hm⟩ := wf_u64 h; omega
theorem wf_old {W : World} {m : Msg} (g : G_Msg W m) : Wf m := ⟨u64_wf g.2.2.2.2.2.1, fun v hv => u64_wf (g.2.2.2.2.2.2.2.all v hv).2.1⟩
theorem rd_old {W : World} {L : List Res} {m : Msg} (g : G_Msg W m) : RdS W L e_Vote m.f_Votes.a m.f_Votes.xs := rds_old g.2.2.2.2.2.2.2.rd
theorem ln_old {W : World} {m : Msg} (g : G_Msg W m) : m.f_Votes.xs.length ≤ 9223372036854775807 := (by have h8 := g.2.2.2.2.2.2.2.le; have h9 := g.2.2.2.2.2.2.2.max; simp only [maxLen] at h9; omega)
end Go.Proofs.Ytoigakfglgdjdaa
