/- Printed by eng2.py out of 12/spec2.py. -/
import Derived.Test.YtakjmdeckngnlaaTy
import Derived.Test.YtakjmdeckngnlaaOpen
set_option linter.unusedVariables false
set_option linter.unusedSimpArgs false
set_option maxRecDepth 10000
namespace Go.Proofs.Ytakjmdeckngnlaa
open Go.RowKit
theorem list3 (cs : List Value) (h : cs.length = 3) : ∃ c0 c1 c2, cs = [c0, c1, c2] := by
  match cs, h with
  | [c0, c1, c2], _ => exact ⟨c0, c1, c2, rfl⟩
def G_Step (W : World) (x : Step) : Prop := (Lit.int .i64 x.f_Kind).wf = true ∧ (Lit.int .i64 x.f_Leader).wf = true ∧ (Lit.int .i64 x.f_Voter).wf = true
theorem opens_Step (W : World) : Opens Try.prog W 66 e_Step.cells (G_Step W) where
  op := fun enc fuel cs y h => by
    obtain ⟨ys0, n0, _, _, hl0, hlen0, hf0⟩ := DataW.trod_struct Try.underlying66 h
    rw [cellsOf_ti ti66] at hl0
    obtain ⟨c0, c1, c2, rfl⟩ := list3 cs hl0
    obtain ⟨z1, hz1⟩ : ∃ z, DataW.trod enc Try.prog W 0 (fun _ => true) true n0 3 [c0] = some z := by
      have hq : DataW.trod enc Try.prog W 0 (fun _ => true) true n0 3 (List.take (Try.prog.cellsOf 3) (List.drop 0 [c0, c1, c2])) = ys0[0]? := hf0 0 _ rfl
      rw [cellsOf_ti ti3] at hq
      obtain ⟨z, hz⟩ : ∃ z, ys0[0]? = some z := ⟨_, List.getElem?_eq_getElem (by rw [hlen0]; decide)⟩
      exact ⟨z, by simpa [hz] using hq⟩
    obtain ⟨x2, e2, g2⟩ := (opens_int (W := W) Try.underlying3).op enc _ _ _ hz1
    simp only [List.cons.injEq, and_true] at e2
    obtain ⟨z3, hz3⟩ : ∃ z, DataW.trod enc Try.prog W 0 (fun _ => true) true n0 3 [c1] = some z := by
      have hq : DataW.trod enc Try.prog W 0 (fun _ => true) true n0 3 (List.take (Try.prog.cellsOf 3) (List.drop 1 [c0, c1, c2])) = ys0[1]? := hf0 1 _ rfl
      rw [cellsOf_ti ti3] at hq
      obtain ⟨z, hz⟩ : ∃ z, ys0[1]? = some z := ⟨_, List.getElem?_eq_getElem (by rw [hlen0]; decide)⟩
      exact ⟨z, by simpa [hz] using hq⟩
    obtain ⟨x4, e4, g4⟩ := (opens_int (W := W) Try.underlying3).op enc _ _ _ hz3
    simp only [List.cons.injEq, and_true] at e4
    obtain ⟨z5, hz5⟩ : ∃ z, DataW.trod enc Try.prog W 0 (fun _ => true) true n0 3 [c2] = some z := by
      have hq : DataW.trod enc Try.prog W 0 (fun _ => true) true n0 3 (List.take (Try.prog.cellsOf 3) (List.drop 2 [c0, c1, c2])) = ys0[2]? := hf0 2 _ rfl
      rw [cellsOf_ti ti3] at hq
      obtain ⟨z, hz⟩ : ∃ z, ys0[2]? = some z := ⟨_, List.getElem?_eq_getElem (by rw [hlen0]; decide)⟩
      exact ⟨z, by simpa [hz] using hq⟩
    obtain ⟨x6, e6, g6⟩ := (opens_int (W := W) Try.underlying3).op enc _ _ _ hz5
    simp only [List.cons.injEq, and_true] at e6
    subst e2
    subst e4
    subst e6
    exact ⟨⟨x2, x4, x6⟩, rfl, ⟨g2, g4, g6⟩⟩
end Go.Proofs.Ytakjmdeckngnlaa
