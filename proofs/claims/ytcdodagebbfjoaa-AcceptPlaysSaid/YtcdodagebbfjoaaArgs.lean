/- Printed by eng2.py out of 11/spec.py. -/
import Derived.Test.YtcdodagebbfjoaaTy
import Derived.Test.YtcdodagebbfjoaaOpen
set_option linter.unusedVariables false
set_option linter.unusedSimpArgs false
set_option maxRecDepth 10000
namespace Go.Proofs.Ytcdodagebbfjoaa
open Go.RowKit
theorem list4 (cs : List Value) (h : cs.length = 4) : ∃ c0 c1 c2 c3, cs = [c0, c1, c2, c3] := by
  match cs, h with
  | [c0, c1, c2, c3], _ => exact ⟨c0, c1, c2, c3, rfl⟩
def G_Op (W : World) (x : Op) : Prop := True ∧ (Lit.int .u64 x.f_Ballot).wf = true ∧ (Lit.int .i64 x.f_Slot).wf = true ∧ x.f_Value.size ≤ maxLen
theorem opens_Op (W : World) : Opens Try.prog W 25 e_Op.cells (G_Op W) where
  op := fun enc fuel cs y h => by
    obtain ⟨ys0, n0, _, _, hl0, hlen0, hf0⟩ := DataW.trod_struct Try.underlying25 h
    rw [cellsOf_ti ti25] at hl0
    obtain ⟨c0, c1, c2, c3, rfl⟩ := list4 cs hl0
    obtain ⟨z1, hz1⟩ : ∃ z, DataW.trod enc Try.prog W 0 (fun _ => true) true n0 4 [c0] = some z := by
      have hq : DataW.trod enc Try.prog W 0 (fun _ => true) true n0 4 (List.take (Try.prog.cellsOf 4) (List.drop 0 [c0, c1, c2, c3])) = ys0[0]? := hf0 0 _ rfl
      rw [cellsOf_ti ti4] at hq
      obtain ⟨z, hz⟩ : ∃ z, ys0[0]? = some z := ⟨_, List.getElem?_eq_getElem (by rw [hlen0]; decide)⟩
      exact ⟨z, by simpa [hz] using hq⟩
    obtain ⟨x2, e2, g2⟩ := (opens_bool (W := W) Try.underlying4).op enc _ _ _ hz1
    simp only [List.cons.injEq, and_true] at e2
    obtain ⟨z3, hz3⟩ : ∃ z, DataW.trod enc Try.prog W 0 (fun _ => true) true n0 23 [c1] = some z := by
      have hq : DataW.trod enc Try.prog W 0 (fun _ => true) true n0 23 (List.take (Try.prog.cellsOf 23) (List.drop 1 [c0, c1, c2, c3])) = ys0[1]? := hf0 1 _ rfl
      rw [cellsOf_ti ti23] at hq
      obtain ⟨z, hz⟩ : ∃ z, ys0[1]? = some z := ⟨_, List.getElem?_eq_getElem (by rw [hlen0]; decide)⟩
      exact ⟨z, by simpa [hz] using hq⟩
    obtain ⟨x4, e4, g4⟩ := (opens_int (W := W) Try.underlying23).op enc _ _ _ hz3
    simp only [List.cons.injEq, and_true] at e4
    obtain ⟨z5, hz5⟩ : ∃ z, DataW.trod enc Try.prog W 0 (fun _ => true) true n0 3 [c2] = some z := by
      have hq : DataW.trod enc Try.prog W 0 (fun _ => true) true n0 3 (List.take (Try.prog.cellsOf 3) (List.drop 2 [c0, c1, c2, c3])) = ys0[2]? := hf0 2 _ rfl
      rw [cellsOf_ti ti3] at hq
      obtain ⟨z, hz⟩ : ∃ z, ys0[2]? = some z := ⟨_, List.getElem?_eq_getElem (by rw [hlen0]; decide)⟩
      exact ⟨z, by simpa [hz] using hq⟩
    obtain ⟨x6, e6, g6⟩ := (opens_int (W := W) Try.underlying3).op enc _ _ _ hz5
    simp only [List.cons.injEq, and_true] at e6
    obtain ⟨z7, hz7⟩ : ∃ z, DataW.trod enc Try.prog W 0 (fun _ => true) true n0 9 [c3] = some z := by
      have hq : DataW.trod enc Try.prog W 0 (fun _ => true) true n0 9 (List.take (Try.prog.cellsOf 9) (List.drop 3 [c0, c1, c2, c3])) = ys0[3]? := hf0 3 _ rfl
      rw [cellsOf_ti ti9] at hq
      obtain ⟨z, hz⟩ : ∃ z, ys0[3]? = some z := ⟨_, List.getElem?_eq_getElem (by rw [hlen0]; decide)⟩
      exact ⟨z, by simpa [hz] using hq⟩
    obtain ⟨x8, e8, g8⟩ := (opens_str (W := W) Try.underlying9).op enc _ _ _ hz7
    simp only [List.cons.injEq, and_true] at e8
    subst e2
    subst e4
    subst e6
    subst e8
    exact ⟨⟨x2, x4, x6, x8⟩, rfl, ⟨g2, g4, g6, g8⟩⟩
theorem wf_u64n {x : Int} (h : (Lit.int .u64 x).wf = true) : 0 ≤ x := by obtain ⟨m, rfl, _⟩ := wf_u64 h; omega
end Go.Proofs.Ytcdodagebbfjoaa
