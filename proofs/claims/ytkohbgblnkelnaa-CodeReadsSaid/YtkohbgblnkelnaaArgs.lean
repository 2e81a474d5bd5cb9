/- Printed by eng.py out of 01/spec.py. -/
import Derived.Test.YtkohbgblnkelnaaPlain
import Derived.Test.YtkohbgblnkelnaaTy
import Derived.Test.YtkohbgblnkelnaaOpen
set_option linter.unusedVariables false
set_option linter.unusedSimpArgs false
set_option maxRecDepth 10000
namespace Go.Proofs.Ytkohbgblnkelnaa
open Go.RowKit
theorem list3 (cs : List Value) (h : cs.length = 3) : ∃ c0 c1 c2, cs = [c0, c1, c2] := by
  match cs, h with
  | [c0, c1, c2], _ => exact ⟨c0, c1, c2, rfl⟩
def GOp (W : World) (x : Op) : Prop := (Lit.int .i64 x.f_Kind).wf = true ∧ (Lit.int .u64 x.f_N).wf = true ∧ SlGood W e8 (fun _ => True) x.f_B
theorem opens_Op (W : World) : Opens Try.prog W 34 eOp.cells (GOp W) where
  op := fun enc fuel cs y h => by
    obtain ⟨ys0, n0, _, _, hl0, hlen0, hf0⟩ := DataW.trod_struct Try.underlying34 h
    rw [cellsOf_ti ti34] at hl0
    obtain ⟨c0, c1, c2, rfl⟩ := list3 cs hl0
    obtain ⟨z1, hz1⟩ : ∃ z, DataW.trod enc Try.prog W 0 (fun _ => true) true n0 3 [c0] = some z := by
      have hq : DataW.trod enc Try.prog W 0 (fun _ => true) true n0 3 (List.take (Try.prog.cellsOf 3) (List.drop 0 [c0, c1, c2])) = ys0[0]? := hf0 0 _ rfl
      rw [cellsOf_ti ti3] at hq
      obtain ⟨z, hz⟩ : ∃ z, ys0[0]? = some z := ⟨_, List.getElem?_eq_getElem (by rw [hlen0]; decide)⟩
      exact ⟨z, by simpa [hz] using hq⟩
    obtain ⟨x2, e2, g2⟩ := (opens_int (W := W) Try.underlying3).op enc _ _ _ hz1
    simp only [List.cons.injEq, and_true] at e2
    obtain ⟨z3, hz3⟩ : ∃ z, DataW.trod enc Try.prog W 0 (fun _ => true) true n0 23 [c1] = some z := by
      have hq : DataW.trod enc Try.prog W 0 (fun _ => true) true n0 23 (List.take (Try.prog.cellsOf 23) (List.drop 1 [c0, c1, c2])) = ys0[1]? := hf0 1 _ rfl
      rw [cellsOf_ti ti23] at hq
      obtain ⟨z, hz⟩ : ∃ z, ys0[1]? = some z := ⟨_, List.getElem?_eq_getElem (by rw [hlen0]; decide)⟩
      exact ⟨z, by simpa [hz] using hq⟩
    obtain ⟨x4, e4, g4⟩ := (opens_int (W := W) Try.underlying23).op enc _ _ _ hz3
    simp only [List.cons.injEq, and_true] at e4
    obtain ⟨z5, hz5⟩ : ∃ z, DataW.trod enc Try.prog W 0 (fun _ => true) true n0 25 [c2] = some z := by
      have hq : DataW.trod enc Try.prog W 0 (fun _ => true) true n0 25 (List.take (Try.prog.cellsOf 25) (List.drop 2 [c0, c1, c2])) = ys0[2]? := hf0 2 _ rfl
      rw [cellsOf_ti ti25] at hq
      obtain ⟨z, hz⟩ : ∃ z, ys0[2]? = some z := ⟨_, List.getElem?_eq_getElem (by rw [hlen0]; decide)⟩
      exact ⟨z, by simpa [hz] using hq⟩
    obtain ⟨x6, e6, g6⟩ := (opens_bs W).op enc _ _ _ hz5
    simp only [List.cons.injEq, and_true] at e6
    subst e2
    subst e4
    subst e6
    exact ⟨⟨x2, x4, x6⟩, rfl, ⟨g2, g4, g6⟩⟩
def psum (xs : List Op) (i : Nat) : Nat := ((xs.take i).map fun o => o.f_B.xs.length + 10).sum
theorem psum_succ {xs : List Op} {i : Nat} {x : Op} (h : xs[i]? = some x) : psum xs (i + 1) = psum xs i + (x.f_B.xs.length + 10) := by
  unfold psum
  rw [List.take_add_one, h]
  simp
theorem psum_le (xs : List Op) {i j : Nat} (h : i ≤ j) : psum xs i ≤ psum xs j := by
  induction j with
  | zero => obtain rfl : i = 0 := by omega
            exact Nat.le_refl _
  | succ j ih =>
    rcases Nat.lt_or_ge i (j + 1) with h1 | h1
    · refine Nat.le_trans (ih (by omega)) ?_
      by_cases hj : j < xs.length
      · rw [psum_succ (List.getElem?_eq_getElem hj)]; omega
      · unfold psum; rw [List.take_of_length_le (by omega), List.take_of_length_le (by omega)]; exact Nat.le_refl _
    · obtain rfl : i = j + 1 := by omega
      exact Nat.le_refl _
end Go.Proofs.Ytkohbgblnkelnaa
