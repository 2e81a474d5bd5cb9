/- Printed by eng2.py out of 05/spec.py. -/
import Derived.Test.YtllclglbfdncnaaMod
import Derived.Test.YtllclglbfdncnaaOpen
set_option linter.unusedVariables false
set_option linter.unusedSimpArgs false
set_option maxRecDepth 10000
namespace Go.Proofs.Ytllclglbfdncnaa
open Go.RowKit Classical
theorem list4 (cs : List Value) (h : cs.length = 4) : ∃ c0 c1 c2 c3, cs = [c0, c1, c2, c3] := by
  match cs, h with
  | [c0, c1, c2, c3], _ => exact ⟨c0, c1, c2, c3, rfl⟩
theorem list5 (cs : List Value) (h : cs.length = 5) : ∃ c0 c1 c2 c3 c4, cs = [c0, c1, c2, c3, c4] := by
  match cs, h with
  | [c0, c1, c2, c3, c4], _ => exact ⟨c0, c1, c2, c3, c4, rfl⟩
def G_Op (W : World) (x : Op) : Prop := (Lit.int .i64 x.f_Kind).wf = true ∧ x.f_Key.size ≤ maxLen ∧ SlGood W e8 (fun _ : UInt8 => True) x.f_Value ∧ (Lit.int .i64 x.f_N).wf = true
theorem opens_Op (W : World) : Opens Try.prog W 35 e_Op.cells (G_Op W) where
  op := fun enc fuel cs y h => by
    obtain ⟨ys0, n0, _, _, hl0, hlen0, hf0⟩ := DataW.trod_struct Try.underlying35 h
    rw [cellsOf_ti ti35] at hl0
    obtain ⟨c0, c1, c2, c3, rfl⟩ := list4 cs hl0
    obtain ⟨z1, hz1⟩ : ∃ z, DataW.trod enc Try.prog W 0 (fun _ => true) true n0 3 [c0] = some z := by
      have hq : DataW.trod enc Try.prog W 0 (fun _ => true) true n0 3 (List.take (Try.prog.cellsOf 3) (List.drop 0 [c0, c1, c2, c3])) = ys0[0]? := hf0 0 _ rfl
      rw [cellsOf_ti ti3] at hq
      obtain ⟨z, hz⟩ : ∃ z, ys0[0]? = some z := ⟨_, List.getElem?_eq_getElem (by rw [hlen0]; decide)⟩
      exact ⟨z, by simpa [hz] using hq⟩
    obtain ⟨x2, e2, g2⟩ := (opens_int (W := W) Try.underlying3).op enc _ _ _ hz1
    simp only [List.cons.injEq, and_true] at e2
    obtain ⟨z3, hz3⟩ : ∃ z, DataW.trod enc Try.prog W 0 (fun _ => true) true n0 9 [c1] = some z := by
      have hq : DataW.trod enc Try.prog W 0 (fun _ => true) true n0 9 (List.take (Try.prog.cellsOf 9) (List.drop 1 [c0, c1, c2, c3])) = ys0[1]? := hf0 1 _ rfl
      rw [cellsOf_ti ti9] at hq
      obtain ⟨z, hz⟩ : ∃ z, ys0[1]? = some z := ⟨_, List.getElem?_eq_getElem (by rw [hlen0]; decide)⟩
      exact ⟨z, by simpa [hz] using hq⟩
    obtain ⟨x4, e4, g4⟩ := (opens_str (W := W) Try.underlying9).op enc _ _ _ hz3
    simp only [List.cons.injEq, and_true] at e4
    obtain ⟨z5, hz5⟩ : ∃ z, DataW.trod enc Try.prog W 0 (fun _ => true) true n0 33 [c2] = some z := by
      have hq : DataW.trod enc Try.prog W 0 (fun _ => true) true n0 33 (List.take (Try.prog.cellsOf 33) (List.drop 2 [c0, c1, c2, c3])) = ys0[2]? := hf0 2 _ rfl
      rw [cellsOf_ti ti33] at hq
      obtain ⟨z, hz⟩ : ∃ z, ys0[2]? = some z := ⟨_, List.getElem?_eq_getElem (by rw [hlen0]; decide)⟩
      exact ⟨z, by simpa [hz] using hq⟩
    obtain ⟨x6, e6, g6⟩ := (opens_slice (W := W) e8_ok Try.underlying33 (opens_u8 (W := W) Try.underlying5)).op enc _ _ _ hz5
    simp only [List.cons.injEq, and_true] at e6
    obtain ⟨z7, hz7⟩ : ∃ z, DataW.trod enc Try.prog W 0 (fun _ => true) true n0 2 [c3] = some z := by
      have hq : DataW.trod enc Try.prog W 0 (fun _ => true) true n0 2 (List.take (Try.prog.cellsOf 2) (List.drop 3 [c0, c1, c2, c3])) = ys0[3]? := hf0 3 _ rfl
      rw [cellsOf_ti ti2] at hq
      obtain ⟨z, hz⟩ : ∃ z, ys0[3]? = some z := ⟨_, List.getElem?_eq_getElem (by rw [hlen0]; decide)⟩
      exact ⟨z, by simpa [hz] using hq⟩
    obtain ⟨x8, e8, g8⟩ := (opens_int (W := W) Try.underlying2).op enc _ _ _ hz7
    simp only [List.cons.injEq, and_true] at e8
    subst e2
    subst e4
    subst e6
    subst e8
    exact ⟨⟨x2, x4, x6, x8⟩, rfl, ⟨g2, g4, g6, g8⟩⟩
def G_Txn (W : World) (x : Txn) : Prop := (Lit.int .i64 x.f_Kind).wf = true ∧ SlGood W e_S (fun x : ByteArray => x.size ≤ maxLen) x.f_Reads ∧ SlGood W e_S (fun x : ByteArray => x.size ≤ maxLen) x.f_Writes ∧ SlGood W e_Op (G_Op W) x.f_Ops ∧ (Lit.int .i64 x.f_To).wf = true
theorem opens_Txn (W : World) : Opens Try.prog W 26 e_Txn.cells (G_Txn W) where
  op := fun enc fuel cs y h => by
    obtain ⟨ys0, n0, _, _, hl0, hlen0, hf0⟩ := DataW.trod_struct Try.underlying26 h
    rw [cellsOf_ti ti26] at hl0
    obtain ⟨c0, c1, c2, c3, c4, rfl⟩ := list5 cs hl0
    obtain ⟨z1, hz1⟩ : ∃ z, DataW.trod enc Try.prog W 0 (fun _ => true) true n0 3 [c0] = some z := by
      have hq : DataW.trod enc Try.prog W 0 (fun _ => true) true n0 3 (List.take (Try.prog.cellsOf 3) (List.drop 0 [c0, c1, c2, c3, c4])) = ys0[0]? := hf0 0 _ rfl
      rw [cellsOf_ti ti3] at hq
      obtain ⟨z, hz⟩ : ∃ z, ys0[0]? = some z := ⟨_, List.getElem?_eq_getElem (by rw [hlen0]; decide)⟩
      exact ⟨z, by simpa [hz] using hq⟩
    obtain ⟨x2, e2, g2⟩ := (opens_int (W := W) Try.underlying3).op enc _ _ _ hz1
    simp only [List.cons.injEq, and_true] at e2
    obtain ⟨z3, hz3⟩ : ∃ z, DataW.trod enc Try.prog W 0 (fun _ => true) true n0 23 [c1] = some z := by
      have hq : DataW.trod enc Try.prog W 0 (fun _ => true) true n0 23 (List.take (Try.prog.cellsOf 23) (List.drop 1 [c0, c1, c2, c3, c4])) = ys0[1]? := hf0 1 _ rfl
      rw [cellsOf_ti ti23] at hq
      obtain ⟨z, hz⟩ : ∃ z, ys0[1]? = some z := ⟨_, List.getElem?_eq_getElem (by rw [hlen0]; decide)⟩
      exact ⟨z, by simpa [hz] using hq⟩
    obtain ⟨x4, e4, g4⟩ := (opens_slice (W := W) e_S_ok Try.underlying23 (opens_str (W := W) Try.underlying9)).op enc _ _ _ hz3
    simp only [List.cons.injEq, and_true] at e4
    obtain ⟨z5, hz5⟩ : ∃ z, DataW.trod enc Try.prog W 0 (fun _ => true) true n0 23 [c2] = some z := by
      have hq : DataW.trod enc Try.prog W 0 (fun _ => true) true n0 23 (List.take (Try.prog.cellsOf 23) (List.drop 2 [c0, c1, c2, c3, c4])) = ys0[2]? := hf0 2 _ rfl
      rw [cellsOf_ti ti23] at hq
      obtain ⟨z, hz⟩ : ∃ z, ys0[2]? = some z := ⟨_, List.getElem?_eq_getElem (by rw [hlen0]; decide)⟩
      exact ⟨z, by simpa [hz] using hq⟩
    obtain ⟨x6, e6, g6⟩ := (opens_slice (W := W) e_S_ok Try.underlying23 (opens_str (W := W) Try.underlying9)).op enc _ _ _ hz5
    simp only [List.cons.injEq, and_true] at e6
    obtain ⟨z7, hz7⟩ : ∃ z, DataW.trod enc Try.prog W 0 (fun _ => true) true n0 24 [c3] = some z := by
      have hq : DataW.trod enc Try.prog W 0 (fun _ => true) true n0 24 (List.take (Try.prog.cellsOf 24) (List.drop 3 [c0, c1, c2, c3, c4])) = ys0[3]? := hf0 3 _ rfl
      rw [cellsOf_ti ti24] at hq
      obtain ⟨z, hz⟩ : ∃ z, ys0[3]? = some z := ⟨_, List.getElem?_eq_getElem (by rw [hlen0]; decide)⟩
      exact ⟨z, by simpa [hz] using hq⟩
    obtain ⟨x8, e8, g8⟩ := (opens_slice (W := W) e_Op_ok Try.underlying24 (opens_Op W)).op enc _ _ _ hz7
    simp only [List.cons.injEq, and_true] at e8
    obtain ⟨z9, hz9⟩ : ∃ z, DataW.trod enc Try.prog W 0 (fun _ => true) true n0 3 [c4] = some z := by
      have hq : DataW.trod enc Try.prog W 0 (fun _ => true) true n0 3 (List.take (Try.prog.cellsOf 3) (List.drop 4 [c0, c1, c2, c3, c4])) = ys0[4]? := hf0 4 _ rfl
      rw [cellsOf_ti ti3] at hq
      obtain ⟨z, hz⟩ : ∃ z, ys0[4]? = some z := ⟨_, List.getElem?_eq_getElem (by rw [hlen0]; decide)⟩
      exact ⟨z, by simpa [hz] using hq⟩
    obtain ⟨x10, e10, g10⟩ := (opens_int (W := W) Try.underlying3).op enc _ _ _ hz9
    simp only [List.cons.injEq, and_true] at e10
    subst e2
    subst e4
    subst e6
    subst e8
    subst e10
    exact ⟨⟨x2, x4, x6, x8, x10⟩, rfl, ⟨g2, g4, g6, g8, g10⟩⟩
theorem txR_old {W : World} {L : List Res} {t : Txn} (g : G_Txn W t) : TxR W L t where
  rr := rds_old g.2.1.rd
  rw := rds_old g.2.2.1.rd
  ro := rds_old g.2.2.2.1.rd
  rv := fun o ho => rds_old (g.2.2.2.1.all o ho).2.2.1.rd
  len := ⟨(by have h8 := g.2.1.le; have h9 := g.2.1.max; simp only [maxLen] at h9; omega), (by have h8 := g.2.2.1.le; have h9 := g.2.2.1.max; simp only [maxLen] at h9; omega), (by have h8 := g.2.2.2.1.le; have h9 := g.2.2.2.1.max; simp only [maxLen] at h9; omega), fun o ho => (by have h8 := (g.2.2.2.1.all o ho).2.2.1.le; have h9 := (g.2.2.2.1.all o ho).2.2.1.max; simp only [maxLen] at h9; omega)⟩
end Go.Proofs.Ytllclglbfdncnaa
