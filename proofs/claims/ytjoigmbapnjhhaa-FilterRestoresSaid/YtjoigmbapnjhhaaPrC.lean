/- Texts of the proof: Args. -/
import Derived.Lib.AppendZerosOnto
import Derived.Lib.Overlaps
import Derived.Laws.CopyRow
import Derived.Laws.Externs
import Derived.Test.YtjoigmbapnjhhaaPrB
namespace Go.Proofs.Ytjoigmbapnjhhaa
section
set_option linter.unusedVariables false
set_option linter.unusedSimpArgs false
set_option maxRecDepth 10000
open Go.RowKit Classical
theorem list3 (cs : List Value) (h : cs.length = 3) : ∃ c0 c1 c2, cs = [c0, c1, c2] := by
  match cs, h with
  | [c0, c1, c2], _ => exact ⟨c0, c1, c2, rfl⟩
theorem list4 (cs : List Value) (h : cs.length = 4) : ∃ c0 c1 c2 c3, cs = [c0, c1, c2, c3] := by
  match cs, h with
  | [c0, c1, c2, c3], _ => exact ⟨c0, c1, c2, c3, rfl⟩
def G_Op (W : World) (x : Op) : Prop := (Lit.int .i64 x.f_Kind).wf = true ∧ x.f_Key.size ≤ maxLen ∧ SlGood W e8 (fun _ : UInt8 => True) x.f_Value ∧ (Lit.int .i64 x.f_N).wf = true
theorem opens_Op (W : World) : Opens Try.prog W 79 e_Op.cells (G_Op W) where
  op := fun enc fuel cs y h => by
    obtain ⟨ys0, n0, _, _, hl0, hlen0, hf0⟩ := DataW.trod_struct Try.underlying79 h
    rw [cellsOf_ti ti79] at hl0
    obtain ⟨c0, c1, c2, c3, rfl⟩ := list4 cs hl0
    obtain ⟨z1, hz1⟩ : ∃ z, DataW.trod enc Try.prog W 0 (fun _ => true) true n0 3 [c0] = some z := by
      have hq : DataW.trod enc Try.prog W 0 (fun _ => true) true n0 3 (List.take (Try.prog.cellsOf 3) (List.drop 0 [c0, c1, c2, c3])) = ys0[0]? := hf0 0 _ rfl
      rw [cellsOf_ti ti3] at hq
      obtain ⟨z, hz⟩ : ∃ z, ys0[0]? = some z := ⟨_, List.getElem?_eq_getElem (by rw [hlen0]; decide)⟩
      exact ⟨z, by simpa [hz] using hq⟩
    obtain ⟨x2, e2, g2⟩ := (opens_int (W := W) Try.underlying3).op enc _ _ _ hz1
    simp only [List.cons.injEq, and_true] at e2
    obtain ⟨z3, hz3⟩ : ∃ z, DataW.trod enc Try.prog W 0 (fun _ => true) true n0 9 [c1] = some z := by
      have hq : DataW.trod enc Try.prog W 0 (fun _ => true) true n0 9 (List.take (Try.prog.cellsOf 9) (List.drop 1 [c0, c1, c2, c3])) = ys0[1]? := hf0 1 _ rfl
      rw [cellsOf_ti ti9] at hq
      obtain ⟨z, hz⟩ : ∃ z, ys0[1]? = some z := ⟨_, List.getElem?_eq_getElem (by rw [hlen0]; decide)⟩
      exact ⟨z, by simpa [hz] using hq⟩
    obtain ⟨x4, e4, g4⟩ := (opens_str (W := W) Try.underlying9).op enc _ _ _ hz3
    simp only [List.cons.injEq, and_true] at e4
    obtain ⟨z5, hz5⟩ : ∃ z, DataW.trod enc Try.prog W 0 (fun _ => true) true n0 77 [c2] = some z := by
      have hq : DataW.trod enc Try.prog W 0 (fun _ => true) true n0 77 (List.take (Try.prog.cellsOf 77) (List.drop 2 [c0, c1, c2, c3])) = ys0[2]? := hf0 2 _ rfl
      rw [cellsOf_ti ti77] at hq
      obtain ⟨z, hz⟩ : ∃ z, ys0[2]? = some z := ⟨_, List.getElem?_eq_getElem (by rw [hlen0]; decide)⟩
      exact ⟨z, by simpa [hz] using hq⟩
    obtain ⟨x6, e6, g6⟩ := (opens_slice (W := W) e8_ok Try.underlying77 (opens_u8 (W := W) Try.underlying5)).op enc _ _ _ hz5
    simp only [List.cons.injEq, and_true] at e6
    obtain ⟨z7, hz7⟩ : ∃ z, DataW.trod enc Try.prog W 0 (fun _ => true) true n0 2 [c3] = some z := by
      have hq : DataW.trod enc Try.prog W 0 (fun _ => true) true n0 2 (List.take (Try.prog.cellsOf 2) (List.drop 3 [c0, c1, c2, c3])) = ys0[3]? := hf0 3 _ rfl
      rw [cellsOf_ti ti2] at hq
      obtain ⟨z, hz⟩ : ∃ z, ys0[3]? = some z := ⟨_, List.getElem?_eq_getElem (by rw [hlen0]; decide)⟩
      exact ⟨z, by simpa [hz] using hq⟩
    obtain ⟨x8, e8, g8⟩ := (opens_int (W := W) Try.underlying2).op enc _ _ _ hz7
    simp only [List.cons.injEq, and_true] at e8
    subst e2
    subst e4
    subst e6
    subst e8
    exact ⟨⟨x2, x4, x6, x8⟩, rfl, ⟨g2, g4, g6, g8⟩⟩
def G_Mark (W : World) (x : Mark) : Prop := x.f_Key.size ≤ maxLen ∧ (Lit.int .i64 x.f_Home).wf = true ∧ (Lit.int .u64 x.f_Count).wf = true
theorem opens_Mark (W : World) : Opens Try.prog W 61 e_Mark.cells (G_Mark W) where
  op := fun enc fuel cs y h => by
    obtain ⟨ys0, n0, _, _, hl0, hlen0, hf0⟩ := DataW.trod_struct Try.underlying61 h
    rw [cellsOf_ti ti61] at hl0
    obtain ⟨c0, c1, c2, rfl⟩ := list3 cs hl0
    obtain ⟨z1, hz1⟩ : ∃ z, DataW.trod enc Try.prog W 0 (fun _ => true) true n0 9 [c0] = some z := by
      have hq : DataW.trod enc Try.prog W 0 (fun _ => true) true n0 9 (List.take (Try.prog.cellsOf 9) (List.drop 0 [c0, c1, c2])) = ys0[0]? := hf0 0 _ rfl
      rw [cellsOf_ti ti9] at hq
      obtain ⟨z, hz⟩ : ∃ z, ys0[0]? = some z := ⟨_, List.getElem?_eq_getElem (by rw [hlen0]; decide)⟩
      exact ⟨z, by simpa [hz] using hq⟩
    obtain ⟨x2, e2, g2⟩ := (opens_str (W := W) Try.underlying9).op enc _ _ _ hz1
    simp only [List.cons.injEq, and_true] at e2
    obtain ⟨z3, hz3⟩ : ∃ z, DataW.trod enc Try.prog W 0 (fun _ => true) true n0 3 [c1] = some z := by
      have hq : DataW.trod enc Try.prog W 0 (fun _ => true) true n0 3 (List.take (Try.prog.cellsOf 3) (List.drop 1 [c0, c1, c2])) = ys0[1]? := hf0 1 _ rfl
      rw [cellsOf_ti ti3] at hq
      obtain ⟨z, hz⟩ : ∃ z, ys0[1]? = some z := ⟨_, List.getElem?_eq_getElem (by rw [hlen0]; decide)⟩
      exact ⟨z, by simpa [hz] using hq⟩
    obtain ⟨x4, e4, g4⟩ := (opens_int (W := W) Try.underlying3).op enc _ _ _ hz3
    simp only [List.cons.injEq, and_true] at e4
    obtain ⟨z5, hz5⟩ : ∃ z, DataW.trod enc Try.prog W 0 (fun _ => true) true n0 28 [c2] = some z := by
      have hq : DataW.trod enc Try.prog W 0 (fun _ => true) true n0 28 (List.take (Try.prog.cellsOf 28) (List.drop 2 [c0, c1, c2])) = ys0[2]? := hf0 2 _ rfl
      rw [cellsOf_ti ti28] at hq
      obtain ⟨z, hz⟩ : ∃ z, ys0[2]? = some z := ⟨_, List.getElem?_eq_getElem (by rw [hlen0]; decide)⟩
      exact ⟨z, by simpa [hz] using hq⟩
    obtain ⟨x6, e6, g6⟩ := (opens_int (W := W) Try.underlying28).op enc _ _ _ hz5
    simp only [List.cons.injEq, and_true] at e6
    subst e2
    subst e4
    subst e6
    exact ⟨⟨x2, x4, x6⟩, rfl, ⟨g2, g4, g6⟩⟩
theorem list12 (cs : List Value) (h : cs.length = 12) : ∃ c0 c1 c2 c3 c4 c5 c6 c7 c8 c9 c10 c11, cs = [c0, c1, c2, c3, c4, c5, c6, c7, c8, c9, c10, c11] := by
  match cs, h with
  | [c0, c1, c2, c3, c4, c5, c6, c7, c8, c9, c10, c11], _ => exact ⟨c0, c1, c2, c3, c4, c5, c6, c7, c8, c9, c10, c11, rfl⟩
def G_Item (W : World) (x : Item) : Prop := (Lit.int .i64 x.f_Kind).wf = true ∧ (Lit.int .i64 x.f_Index).wf = true ∧ (Lit.int .i64 x.f_Order_Tag_Id_Node).wf = true ∧ (Lit.int .u64 x.f_Order_Tag_Id_Epoch).wf = true ∧ (Lit.int .u64 x.f_Order_Tag_Id_Seq).wf = true ∧ (Lit.int .i64 x.f_Order_Tag_Try).wf = true ∧ (Lit.int .i64 x.f_Order_Txn_Kind).wf = true ∧ SlGood W e_S (fun x : ByteArray => x.size ≤ maxLen) x.f_Order_Txn_Reads ∧ SlGood W e_S (fun x : ByteArray => x.size ≤ maxLen) x.f_Order_Txn_Writes ∧ SlGood W e_Op (G_Op W) x.f_Order_Txn_Ops ∧ (Lit.int .i64 x.f_Order_Txn_To).wf = true ∧ SlGood W e_Mark (G_Mark W) x.f_Order_Marks
theorem opens_Item (W : World) : Opens Try.prog W 41 e_Item.cells (G_Item W) where
  op := fun enc fuel cs y h => by
    obtain ⟨ys0, n0, _, _, hl0, hlen0, hf0⟩ := DataW.trod_struct Try.underlying41 h
    rw [cellsOf_ti ti41] at hl0
    obtain ⟨c0, c1, c2, c3, c4, c5, c6, c7, c8, c9, c10, c11, rfl⟩ := list12 cs hl0
    obtain ⟨z1, hz1⟩ : ∃ z, DataW.trod enc Try.prog W 0 (fun _ => true) true n0 3 [c0] = some z := by
      have hq : DataW.trod enc Try.prog W 0 (fun _ => true) true n0 3 (List.take (Try.prog.cellsOf 3) (List.drop 0 [c0, c1, c2, c3, c4, c5, c6, c7, c8, c9, c10, c11])) = ys0[0]? := hf0 0 _ rfl
      rw [cellsOf_ti ti3] at hq
      obtain ⟨z, hz⟩ : ∃ z, ys0[0]? = some z := ⟨_, List.getElem?_eq_getElem (by rw [hlen0]; decide)⟩
      exact ⟨z, by simpa [hz] using hq⟩
    obtain ⟨x2, e2, g2⟩ := (opens_int (W := W) Try.underlying3).op enc _ _ _ hz1
    simp only [List.cons.injEq, and_true] at e2
    obtain ⟨z3, hz3⟩ : ∃ z, DataW.trod enc Try.prog W 0 (fun _ => true) true n0 3 [c1] = some z := by
      have hq : DataW.trod enc Try.prog W 0 (fun _ => true) true n0 3 (List.take (Try.prog.cellsOf 3) (List.drop 1 [c0, c1, c2, c3, c4, c5, c6, c7, c8, c9, c10, c11])) = ys0[1]? := hf0 1 _ rfl
      rw [cellsOf_ti ti3] at hq
      obtain ⟨z, hz⟩ : ∃ z, ys0[1]? = some z := ⟨_, List.getElem?_eq_getElem (by rw [hlen0]; decide)⟩
      exact ⟨z, by simpa [hz] using hq⟩
    obtain ⟨x4, e4, g4⟩ := (opens_int (W := W) Try.underlying3).op enc _ _ _ hz3
    simp only [List.cons.injEq, and_true] at e4
    obtain ⟨z5, hz5⟩ : ∃ z, DataW.trod enc Try.prog W 0 (fun _ => true) true n0 39 [c2, c3, c4, c5, c6, c7, c8, c9, c10, c11] = some z := by
      have hq : DataW.trod enc Try.prog W 0 (fun _ => true) true n0 39 (List.take (Try.prog.cellsOf 39) (List.drop 2 [c0, c1, c2, c3, c4, c5, c6, c7, c8, c9, c10, c11])) = ys0[2]? := hf0 2 _ rfl
      rw [cellsOf_ti ti39] at hq
      obtain ⟨z, hz⟩ : ∃ z, ys0[2]? = some z := ⟨_, List.getElem?_eq_getElem (by rw [hlen0]; decide)⟩
      exact ⟨z, by simpa [hz] using hq⟩
    obtain ⟨ys6, n6, _, _, hl6, hlen6, hf6⟩ := DataW.trod_struct Try.underlying39 hz5
    obtain ⟨z7, hz7⟩ : ∃ z, DataW.trod enc Try.prog W 0 (fun _ => true) true n6 32 [c2, c3, c4, c5] = some z := by
      have hq : DataW.trod enc Try.prog W 0 (fun _ => true) true n6 32 (List.take (Try.prog.cellsOf 32) (List.drop 0 [c2, c3, c4, c5, c6, c7, c8, c9, c10, c11])) = ys6[0]? := hf6 0 _ rfl
      rw [cellsOf_ti ti32] at hq
      obtain ⟨z, hz⟩ : ∃ z, ys6[0]? = some z := ⟨_, List.getElem?_eq_getElem (by rw [hlen6]; decide)⟩
      exact ⟨z, by simpa [hz] using hq⟩
    obtain ⟨ys8, n8, _, _, hl8, hlen8, hf8⟩ := DataW.trod_struct Try.underlying32 hz7
    obtain ⟨z9, hz9⟩ : ∃ z, DataW.trod enc Try.prog W 0 (fun _ => true) true n8 30 [c2, c3, c4] = some z := by
      have hq : DataW.trod enc Try.prog W 0 (fun _ => true) true n8 30 (List.take (Try.prog.cellsOf 30) (List.drop 0 [c2, c3, c4, c5])) = ys8[0]? := hf8 0 _ rfl
      rw [cellsOf_ti ti30] at hq
      obtain ⟨z, hz⟩ : ∃ z, ys8[0]? = some z := ⟨_, List.getElem?_eq_getElem (by rw [hlen8]; decide)⟩
      exact ⟨z, by simpa [hz] using hq⟩
    obtain ⟨ys10, n10, _, _, hl10, hlen10, hf10⟩ := DataW.trod_struct Try.underlying30 hz9
    obtain ⟨z11, hz11⟩ : ∃ z, DataW.trod enc Try.prog W 0 (fun _ => true) true n10 3 [c2] = some z := by
      have hq : DataW.trod enc Try.prog W 0 (fun _ => true) true n10 3 (List.take (Try.prog.cellsOf 3) (List.drop 0 [c2, c3, c4])) = ys10[0]? := hf10 0 _ rfl
      rw [cellsOf_ti ti3] at hq
      obtain ⟨z, hz⟩ : ∃ z, ys10[0]? = some z := ⟨_, List.getElem?_eq_getElem (by rw [hlen10]; decide)⟩
      exact ⟨z, by simpa [hz] using hq⟩
    obtain ⟨x12, e12, g12⟩ := (opens_int (W := W) Try.underlying3).op enc _ _ _ hz11
    simp only [List.cons.injEq, and_true] at e12
    obtain ⟨z13, hz13⟩ : ∃ z, DataW.trod enc Try.prog W 0 (fun _ => true) true n10 28 [c3] = some z := by
      have hq : DataW.trod enc Try.prog W 0 (fun _ => true) true n10 28 (List.take (Try.prog.cellsOf 28) (List.drop 1 [c2, c3, c4])) = ys10[1]? := hf10 1 _ rfl
      rw [cellsOf_ti ti28] at hq
      obtain ⟨z, hz⟩ : ∃ z, ys10[1]? = some z := ⟨_, List.getElem?_eq_getElem (by rw [hlen10]; decide)⟩
      exact ⟨z, by simpa [hz] using hq⟩
    obtain ⟨x14, e14, g14⟩ := (opens_int (W := W) Try.underlying28).op enc _ _ _ hz13
    simp only [List.cons.injEq, and_true] at e14
    obtain ⟨z15, hz15⟩ : ∃ z, DataW.trod enc Try.prog W 0 (fun _ => true) true n10 28 [c4] = some z := by
      have hq : DataW.trod enc Try.prog W 0 (fun _ => true) true n10 28 (List.take (Try.prog.cellsOf 28) (List.drop 2 [c2, c3, c4])) = ys10[2]? := hf10 2 _ rfl
      rw [cellsOf_ti ti28] at hq
      obtain ⟨z, hz⟩ : ∃ z, ys10[2]? = some z := ⟨_, List.getElem?_eq_getElem (by rw [hlen10]; decide)⟩
      exact ⟨z, by simpa [hz] using hq⟩
    obtain ⟨x16, e16, g16⟩ := (opens_int (W := W) Try.underlying28).op enc _ _ _ hz15
    simp only [List.cons.injEq, and_true] at e16
    obtain ⟨z17, hz17⟩ : ∃ z, DataW.trod enc Try.prog W 0 (fun _ => true) true n8 3 [c5] = some z := by
      have hq : DataW.trod enc Try.prog W 0 (fun _ => true) true n8 3 (List.take (Try.prog.cellsOf 3) (List.drop 3 [c2, c3, c4, c5])) = ys8[1]? := hf8 1 _ rfl
      rw [cellsOf_ti ti3] at hq
      obtain ⟨z, hz⟩ : ∃ z, ys8[1]? = some z := ⟨_, List.getElem?_eq_getElem (by rw [hlen8]; decide)⟩
      exact ⟨z, by simpa [hz] using hq⟩
    obtain ⟨x18, e18, g18⟩ := (opens_int (W := W) Try.underlying3).op enc _ _ _ hz17
    simp only [List.cons.injEq, and_true] at e18
    obtain ⟨z19, hz19⟩ : ∃ z, DataW.trod enc Try.prog W 0 (fun _ => true) true n6 36 [c6, c7, c8, c9, c10] = some z := by
      have hq : DataW.trod enc Try.prog W 0 (fun _ => true) true n6 36 (List.take (Try.prog.cellsOf 36) (List.drop 4 [c2, c3, c4, c5, c6, c7, c8, c9, c10, c11])) = ys6[1]? := hf6 1 _ rfl
      rw [cellsOf_ti ti36] at hq
      obtain ⟨z, hz⟩ : ∃ z, ys6[1]? = some z := ⟨_, List.getElem?_eq_getElem (by rw [hlen6]; decide)⟩
      exact ⟨z, by simpa [hz] using hq⟩
    obtain ⟨ys20, n20, _, _, hl20, hlen20, hf20⟩ := DataW.trod_struct Try.underlying36 hz19
    obtain ⟨z21, hz21⟩ : ∃ z, DataW.trod enc Try.prog W 0 (fun _ => true) true n20 3 [c6] = some z := by
      have hq : DataW.trod enc Try.prog W 0 (fun _ => true) true n20 3 (List.take (Try.prog.cellsOf 3) (List.drop 0 [c6, c7, c8, c9, c10])) = ys20[0]? := hf20 0 _ rfl
      rw [cellsOf_ti ti3] at hq
      obtain ⟨z, hz⟩ : ∃ z, ys20[0]? = some z := ⟨_, List.getElem?_eq_getElem (by rw [hlen20]; decide)⟩
      exact ⟨z, by simpa [hz] using hq⟩
    obtain ⟨x22, e22, g22⟩ := (opens_int (W := W) Try.underlying3).op enc _ _ _ hz21
    simp only [List.cons.injEq, and_true] at e22
    obtain ⟨z23, hz23⟩ : ∃ z, DataW.trod enc Try.prog W 0 (fun _ => true) true n20 33 [c7] = some z := by
      have hq : DataW.trod enc Try.prog W 0 (fun _ => true) true n20 33 (List.take (Try.prog.cellsOf 33) (List.drop 1 [c6, c7, c8, c9, c10])) = ys20[1]? := hf20 1 _ rfl
      rw [cellsOf_ti ti33] at hq
      obtain ⟨z, hz⟩ : ∃ z, ys20[1]? = some z := ⟨_, List.getElem?_eq_getElem (by rw [hlen20]; decide)⟩
      exact ⟨z, by simpa [hz] using hq⟩
    obtain ⟨x24, e24, g24⟩ := (opens_slice (W := W) e_S_ok Try.underlying33 (opens_str (W := W) Try.underlying9)).op enc _ _ _ hz23
    simp only [List.cons.injEq, and_true] at e24
    obtain ⟨z25, hz25⟩ : ∃ z, DataW.trod enc Try.prog W 0 (fun _ => true) true n20 33 [c8] = some z := by
      have hq : DataW.trod enc Try.prog W 0 (fun _ => true) true n20 33 (List.take (Try.prog.cellsOf 33) (List.drop 2 [c6, c7, c8, c9, c10])) = ys20[2]? := hf20 2 _ rfl
      rw [cellsOf_ti ti33] at hq
      obtain ⟨z, hz⟩ : ∃ z, ys20[2]? = some z := ⟨_, List.getElem?_eq_getElem (by rw [hlen20]; decide)⟩
      exact ⟨z, by simpa [hz] using hq⟩
    obtain ⟨x26, e26, g26⟩ := (opens_slice (W := W) e_S_ok Try.underlying33 (opens_str (W := W) Try.underlying9)).op enc _ _ _ hz25
    simp only [List.cons.injEq, and_true] at e26
    obtain ⟨z27, hz27⟩ : ∃ z, DataW.trod enc Try.prog W 0 (fun _ => true) true n20 34 [c9] = some z := by
      have hq : DataW.trod enc Try.prog W 0 (fun _ => true) true n20 34 (List.take (Try.prog.cellsOf 34) (List.drop 3 [c6, c7, c8, c9, c10])) = ys20[3]? := hf20 3 _ rfl
      rw [cellsOf_ti ti34] at hq
      obtain ⟨z, hz⟩ : ∃ z, ys20[3]? = some z := ⟨_, List.getElem?_eq_getElem (by rw [hlen20]; decide)⟩
      exact ⟨z, by simpa [hz] using hq⟩
    obtain ⟨x28, e28, g28⟩ := (opens_slice (W := W) e_Op_ok Try.underlying34 (opens_Op W)).op enc _ _ _ hz27
    simp only [List.cons.injEq, and_true] at e28
    obtain ⟨z29, hz29⟩ : ∃ z, DataW.trod enc Try.prog W 0 (fun _ => true) true n20 3 [c10] = some z := by
      have hq : DataW.trod enc Try.prog W 0 (fun _ => true) true n20 3 (List.take (Try.prog.cellsOf 3) (List.drop 4 [c6, c7, c8, c9, c10])) = ys20[4]? := hf20 4 _ rfl
      rw [cellsOf_ti ti3] at hq
      obtain ⟨z, hz⟩ : ∃ z, ys20[4]? = some z := ⟨_, List.getElem?_eq_getElem (by rw [hlen20]; decide)⟩
      exact ⟨z, by simpa [hz] using hq⟩
    obtain ⟨x30, e30, g30⟩ := (opens_int (W := W) Try.underlying3).op enc _ _ _ hz29
    simp only [List.cons.injEq, and_true] at e30
    obtain ⟨z31, hz31⟩ : ∃ z, DataW.trod enc Try.prog W 0 (fun _ => true) true n6 37 [c11] = some z := by
      have hq : DataW.trod enc Try.prog W 0 (fun _ => true) true n6 37 (List.take (Try.prog.cellsOf 37) (List.drop 9 [c2, c3, c4, c5, c6, c7, c8, c9, c10, c11])) = ys6[2]? := hf6 2 _ rfl
      rw [cellsOf_ti ti37] at hq
      obtain ⟨z, hz⟩ : ∃ z, ys6[2]? = some z := ⟨_, List.getElem?_eq_getElem (by rw [hlen6]; decide)⟩
      exact ⟨z, by simpa [hz] using hq⟩
    obtain ⟨x32, e32, g32⟩ := (opens_slice (W := W) e_Mark_ok Try.underlying37 (opens_Mark W)).op enc _ _ _ hz31
    simp only [List.cons.injEq, and_true] at e32
    subst e2
    subst e4
    subst e12
    subst e14
    subst e16
    subst e18
    subst e22
    subst e24
    subst e26
    subst e28
    subst e30
    subst e32
    exact ⟨⟨x2, x4, x12, x14, x16, x18, x22, x24, x26, x28, x30, x32⟩, rfl, ⟨g2, g4, g12, g14, g16, g18, g22, g24, g26, g28, g30, g32⟩⟩
theorem itR_old {W : World} {L : List Res} {x : Item} (g : G_Item W x) : OrdR W L x.ord where
  rm := rds_old g.2.2.2.2.2.2.2.2.2.2.2.rd
  rr := rds_old g.2.2.2.2.2.2.2.1.rd
  rw := rds_old g.2.2.2.2.2.2.2.2.1.rd
  ro := rds_old g.2.2.2.2.2.2.2.2.2.1.rd
  rv := fun o ho => rds_old (g.2.2.2.2.2.2.2.2.2.1.all o ho).2.2.1.rd
  lm := Nat.le_trans g.2.2.2.2.2.2.2.2.2.2.2.le g.2.2.2.2.2.2.2.2.2.2.2.max
  lr := Nat.le_trans g.2.2.2.2.2.2.2.1.le g.2.2.2.2.2.2.2.1.max
  lw := Nat.le_trans g.2.2.2.2.2.2.2.2.1.le g.2.2.2.2.2.2.2.2.1.max
  lo := Nat.le_trans g.2.2.2.2.2.2.2.2.2.1.le g.2.2.2.2.2.2.2.2.2.1.max
  lv := fun o ho => Nat.le_trans (g.2.2.2.2.2.2.2.2.2.1.all o ho).2.2.1.le (g.2.2.2.2.2.2.2.2.2.1.all o ho).2.2.1.max
end
end Go.Proofs.Ytjoigmbapnjhhaa
