/- Texts of the proof: Args, Plain, Pen, TyR, Eyep, REye, Mod, Copyp, Strs, Concat, Funs, Keys, OChkp. -/
import Derived.Test.YtlblipkcbmcfkaaGreatPiA
namespace Go.Proofs.YtlblipkcbmcfkaaGreat
section
set_option linter.unusedVariables false
set_option linter.unusedSimpArgs false
set_option maxRecDepth 10000
open Go.RowKit Classical
theorem list3 (cs : List Value) (h : cs.length = 3) : ∃ c0 c1 c2, cs = [c0, c1, c2] := by
  match cs, h with
  | [c0, c1, c2], _ => exact ⟨c0, c1, c2, rfl⟩
theorem list4 (cs : List Value) (h : cs.length = 4) : ∃ c0 c1 c2 c3, cs = [c0, c1, c2, c3] := by
  match cs, h with
  | [c0, c1, c2, c3], _ => exact ⟨c0, c1, c2, c3, rfl⟩
def G_Op (W : World) (x : Op) : Prop := (Lit.int .i64 x.f_Kind).wf = true ∧ x.f_Key.size ≤ maxLen ∧ SlGood W e8 (fun _ : UInt8 => True) x.f_Value ∧ (Lit.int .i64 x.f_N).wf = true
theorem opens_Op (W : World) : Opens Tryz.prog W 92 e_Op.cells (G_Op W) where
  op := fun enc fuel cs y h => by
    obtain ⟨ys0, n0, _, _, hl0, hlen0, hf0⟩ := DataW.trod_struct Tryz.underlying92 h
    rw [cellsOf_ti ti92] at hl0
    obtain ⟨c0, c1, c2, c3, rfl⟩ := list4 cs hl0
    obtain ⟨z1, hz1⟩ : ∃ z, DataW.trod enc Tryz.prog W 0 (fun _ => true) true n0 3 [c0] = some z := by
      have hq : DataW.trod enc Tryz.prog W 0 (fun _ => true) true n0 3 (List.take (Tryz.prog.cellsOf 3) (List.drop 0 [c0, c1, c2, c3])) = ys0[0]? := hf0 0 _ rfl
      rw [cellsOf_ti ti3] at hq
      obtain ⟨z, hz⟩ : ∃ z, ys0[0]? = some z := ⟨_, List.getElem?_eq_getElem (by rw [hlen0]; decide)⟩
      exact ⟨z, by simpa [hz] using hq⟩
    obtain ⟨x2, e2, g2⟩ := (opens_int (W := W) Tryz.underlying3).op enc _ _ _ hz1
    simp only [List.cons.injEq, and_true] at e2
    obtain ⟨z3, hz3⟩ : ∃ z, DataW.trod enc Tryz.prog W 0 (fun _ => true) true n0 9 [c1] = some z := by
      have hq : DataW.trod enc Tryz.prog W 0 (fun _ => true) true n0 9 (List.take (Tryz.prog.cellsOf 9) (List.drop 1 [c0, c1, c2, c3])) = ys0[1]? := hf0 1 _ rfl
      rw [cellsOf_ti ti9] at hq
      obtain ⟨z, hz⟩ : ∃ z, ys0[1]? = some z := ⟨_, List.getElem?_eq_getElem (by rw [hlen0]; decide)⟩
      exact ⟨z, by simpa [hz] using hq⟩
    obtain ⟨x4, e4, g4⟩ := (opens_str (W := W) Tryz.underlying9).op enc _ _ _ hz3
    simp only [List.cons.injEq, and_true] at e4
    obtain ⟨z5, hz5⟩ : ∃ z, DataW.trod enc Tryz.prog W 0 (fun _ => true) true n0 34 [c2] = some z := by
      have hq : DataW.trod enc Tryz.prog W 0 (fun _ => true) true n0 34 (List.take (Tryz.prog.cellsOf 34) (List.drop 2 [c0, c1, c2, c3])) = ys0[2]? := hf0 2 _ rfl
      rw [cellsOf_ti ti34] at hq
      obtain ⟨z, hz⟩ : ∃ z, ys0[2]? = some z := ⟨_, List.getElem?_eq_getElem (by rw [hlen0]; decide)⟩
      exact ⟨z, by simpa [hz] using hq⟩
    obtain ⟨x6, e6, g6⟩ := (opens_slice (W := W) e8_ok Tryz.underlying34 (opens_u8 (W := W) Tryz.underlying5)).op enc _ _ _ hz5
    simp only [List.cons.injEq, and_true] at e6
    obtain ⟨z7, hz7⟩ : ∃ z, DataW.trod enc Tryz.prog W 0 (fun _ => true) true n0 2 [c3] = some z := by
      have hq : DataW.trod enc Tryz.prog W 0 (fun _ => true) true n0 2 (List.take (Tryz.prog.cellsOf 2) (List.drop 3 [c0, c1, c2, c3])) = ys0[3]? := hf0 3 _ rfl
      rw [cellsOf_ti ti2] at hq
      obtain ⟨z, hz⟩ : ∃ z, ys0[3]? = some z := ⟨_, List.getElem?_eq_getElem (by rw [hlen0]; decide)⟩
      exact ⟨z, by simpa [hz] using hq⟩
    obtain ⟨x8, e8, g8⟩ := (opens_int (W := W) Tryz.underlying2).op enc _ _ _ hz7
    simp only [List.cons.injEq, and_true] at e8
    subst e2
    subst e4
    subst e6
    subst e8
    exact ⟨⟨x2, x4, x6, x8⟩, rfl, ⟨g2, g4, g6, g8⟩⟩
def G_Mark (W : World) (x : Mark) : Prop := x.f_Key.size ≤ maxLen ∧ (Lit.int .i64 x.f_Home).wf = true ∧ (Lit.int .u64 x.f_Count).wf = true
theorem opens_Mark (W : World) : Opens Tryz.prog W 60 e_Mark.cells (G_Mark W) where
  op := fun enc fuel cs y h => by
    obtain ⟨ys0, n0, _, _, hl0, hlen0, hf0⟩ := DataW.trod_struct Tryz.underlying60 h
    rw [cellsOf_ti ti60] at hl0
    obtain ⟨c0, c1, c2, rfl⟩ := list3 cs hl0
    obtain ⟨z1, hz1⟩ : ∃ z, DataW.trod enc Tryz.prog W 0 (fun _ => true) true n0 9 [c0] = some z := by
      have hq : DataW.trod enc Tryz.prog W 0 (fun _ => true) true n0 9 (List.take (Tryz.prog.cellsOf 9) (List.drop 0 [c0, c1, c2])) = ys0[0]? := hf0 0 _ rfl
      rw [cellsOf_ti ti9] at hq
      obtain ⟨z, hz⟩ : ∃ z, ys0[0]? = some z := ⟨_, List.getElem?_eq_getElem (by rw [hlen0]; decide)⟩
      exact ⟨z, by simpa [hz] using hq⟩
    obtain ⟨x2, e2, g2⟩ := (opens_str (W := W) Tryz.underlying9).op enc _ _ _ hz1
    simp only [List.cons.injEq, and_true] at e2
    obtain ⟨z3, hz3⟩ : ∃ z, DataW.trod enc Tryz.prog W 0 (fun _ => true) true n0 3 [c1] = some z := by
      have hq : DataW.trod enc Tryz.prog W 0 (fun _ => true) true n0 3 (List.take (Tryz.prog.cellsOf 3) (List.drop 1 [c0, c1, c2])) = ys0[1]? := hf0 1 _ rfl
      rw [cellsOf_ti ti3] at hq
      obtain ⟨z, hz⟩ : ∃ z, ys0[1]? = some z := ⟨_, List.getElem?_eq_getElem (by rw [hlen0]; decide)⟩
      exact ⟨z, by simpa [hz] using hq⟩
    obtain ⟨x4, e4, g4⟩ := (opens_int (W := W) Tryz.underlying3).op enc _ _ _ hz3
    simp only [List.cons.injEq, and_true] at e4
    obtain ⟨z5, hz5⟩ : ∃ z, DataW.trod enc Tryz.prog W 0 (fun _ => true) true n0 22 [c2] = some z := by
      have hq : DataW.trod enc Tryz.prog W 0 (fun _ => true) true n0 22 (List.take (Tryz.prog.cellsOf 22) (List.drop 2 [c0, c1, c2])) = ys0[2]? := hf0 2 _ rfl
      rw [cellsOf_ti ti22] at hq
      obtain ⟨z, hz⟩ : ∃ z, ys0[2]? = some z := ⟨_, List.getElem?_eq_getElem (by rw [hlen0]; decide)⟩
      exact ⟨z, by simpa [hz] using hq⟩
    obtain ⟨x6, e6, g6⟩ := (opens_int (W := W) Tryz.underlying22).op enc _ _ _ hz5
    simp only [List.cons.injEq, and_true] at e6
    subst e2
    subst e4
    subst e6
    exact ⟨⟨x2, x4, x6⟩, rfl, ⟨g2, g4, g6⟩⟩
theorem list12 (cs : List Value) (h : cs.length = 12) : ∃ c0 c1 c2 c3 c4 c5 c6 c7 c8 c9 c10 c11, cs = [c0, c1, c2, c3, c4, c5, c6, c7, c8, c9, c10, c11] := by
  match cs, h with
  | [c0, c1, c2, c3, c4, c5, c6, c7, c8, c9, c10, c11], _ => exact ⟨c0, c1, c2, c3, c4, c5, c6, c7, c8, c9, c10, c11, rfl⟩
def G_Item (W : World) (x : Item) : Prop := (Lit.int .i64 x.f_Kind).wf = true ∧ (Lit.int .i64 x.f_Index).wf = true ∧ (Lit.int .i64 x.f_Order_Tag_Id_Node).wf = true ∧ (Lit.int .u64 x.f_Order_Tag_Id_Epoch).wf = true ∧ (Lit.int .u64 x.f_Order_Tag_Id_Seq).wf = true ∧ (Lit.int .i64 x.f_Order_Tag_Try).wf = true ∧ (Lit.int .i64 x.f_Order_Txn_Kind).wf = true ∧ SlGood W e_S (fun x : ByteArray => x.size ≤ maxLen) x.f_Order_Txn_Reads ∧ SlGood W e_S (fun x : ByteArray => x.size ≤ maxLen) x.f_Order_Txn_Writes ∧ SlGood W e_Op (G_Op W) x.f_Order_Txn_Ops ∧ (Lit.int .i64 x.f_Order_Txn_To).wf = true ∧ SlGood W e_Mark (G_Mark W) x.f_Order_Marks
theorem opens_Item (W : World) : Opens Tryz.prog W 50 e_Item.cells (G_Item W) where
  op := fun enc fuel cs y h => by
    obtain ⟨ys0, n0, _, _, hl0, hlen0, hf0⟩ := DataW.trod_struct Tryz.underlying50 h
    rw [cellsOf_ti ti50] at hl0
    obtain ⟨c0, c1, c2, c3, c4, c5, c6, c7, c8, c9, c10, c11, rfl⟩ := list12 cs hl0
    obtain ⟨z1, hz1⟩ : ∃ z, DataW.trod enc Tryz.prog W 0 (fun _ => true) true n0 3 [c0] = some z := by
      have hq : DataW.trod enc Tryz.prog W 0 (fun _ => true) true n0 3 (List.take (Tryz.prog.cellsOf 3) (List.drop 0 [c0, c1, c2, c3, c4, c5, c6, c7, c8, c9, c10, c11])) = ys0[0]? := hf0 0 _ rfl
      rw [cellsOf_ti ti3] at hq
      obtain ⟨z, hz⟩ : ∃ z, ys0[0]? = some z := ⟨_, List.getElem?_eq_getElem (by rw [hlen0]; decide)⟩
      exact ⟨z, by simpa [hz] using hq⟩
    obtain ⟨x2, e2, g2⟩ := (opens_int (W := W) Tryz.underlying3).op enc _ _ _ hz1
    simp only [List.cons.injEq, and_true] at e2
    obtain ⟨z3, hz3⟩ : ∃ z, DataW.trod enc Tryz.prog W 0 (fun _ => true) true n0 3 [c1] = some z := by
      have hq : DataW.trod enc Tryz.prog W 0 (fun _ => true) true n0 3 (List.take (Tryz.prog.cellsOf 3) (List.drop 1 [c0, c1, c2, c3, c4, c5, c6, c7, c8, c9, c10, c11])) = ys0[1]? := hf0 1 _ rfl
      rw [cellsOf_ti ti3] at hq
      obtain ⟨z, hz⟩ : ∃ z, ys0[1]? = some z := ⟨_, List.getElem?_eq_getElem (by rw [hlen0]; decide)⟩
      exact ⟨z, by simpa [hz] using hq⟩
    obtain ⟨x4, e4, g4⟩ := (opens_int (W := W) Tryz.underlying3).op enc _ _ _ hz3
    simp only [List.cons.injEq, and_true] at e4
    obtain ⟨z5, hz5⟩ : ∃ z, DataW.trod enc Tryz.prog W 0 (fun _ => true) true n0 33 [c2, c3, c4, c5, c6, c7, c8, c9, c10, c11] = some z := by
      have hq : DataW.trod enc Tryz.prog W 0 (fun _ => true) true n0 33 (List.take (Tryz.prog.cellsOf 33) (List.drop 2 [c0, c1, c2, c3, c4, c5, c6, c7, c8, c9, c10, c11])) = ys0[2]? := hf0 2 _ rfl
      rw [cellsOf_ti ti33] at hq
      obtain ⟨z, hz⟩ : ∃ z, ys0[2]? = some z := ⟨_, List.getElem?_eq_getElem (by rw [hlen0]; decide)⟩
      exact ⟨z, by simpa [hz] using hq⟩
    obtain ⟨ys6, n6, _, _, hl6, hlen6, hf6⟩ := DataW.trod_struct Tryz.underlying33 hz5
    obtain ⟨z7, hz7⟩ : ∃ z, DataW.trod enc Tryz.prog W 0 (fun _ => true) true n6 26 [c2, c3, c4, c5] = some z := by
      have hq : DataW.trod enc Tryz.prog W 0 (fun _ => true) true n6 26 (List.take (Tryz.prog.cellsOf 26) (List.drop 0 [c2, c3, c4, c5, c6, c7, c8, c9, c10, c11])) = ys6[0]? := hf6 0 _ rfl
      rw [cellsOf_ti ti26] at hq
      obtain ⟨z, hz⟩ : ∃ z, ys6[0]? = some z := ⟨_, List.getElem?_eq_getElem (by rw [hlen6]; decide)⟩
      exact ⟨z, by simpa [hz] using hq⟩
    obtain ⟨ys8, n8, _, _, hl8, hlen8, hf8⟩ := DataW.trod_struct Tryz.underlying26 hz7
    obtain ⟨z9, hz9⟩ : ∃ z, DataW.trod enc Tryz.prog W 0 (fun _ => true) true n8 24 [c2, c3, c4] = some z := by
      have hq : DataW.trod enc Tryz.prog W 0 (fun _ => true) true n8 24 (List.take (Tryz.prog.cellsOf 24) (List.drop 0 [c2, c3, c4, c5])) = ys8[0]? := hf8 0 _ rfl
      rw [cellsOf_ti ti24] at hq
      obtain ⟨z, hz⟩ : ∃ z, ys8[0]? = some z := ⟨_, List.getElem?_eq_getElem (by rw [hlen8]; decide)⟩
      exact ⟨z, by simpa [hz] using hq⟩
    obtain ⟨ys10, n10, _, _, hl10, hlen10, hf10⟩ := DataW.trod_struct Tryz.underlying24 hz9
    obtain ⟨z11, hz11⟩ : ∃ z, DataW.trod enc Tryz.prog W 0 (fun _ => true) true n10 3 [c2] = some z := by
      have hq : DataW.trod enc Tryz.prog W 0 (fun _ => true) true n10 3 (List.take (Tryz.prog.cellsOf 3) (List.drop 0 [c2, c3, c4])) = ys10[0]? := hf10 0 _ rfl
      rw [cellsOf_ti ti3] at hq
      obtain ⟨z, hz⟩ : ∃ z, ys10[0]? = some z := ⟨_, List.getElem?_eq_getElem (by rw [hlen10]; decide)⟩
      exact ⟨z, by simpa [hz] using hq⟩
    obtain ⟨x12, e12, g12⟩ := (opens_int (W := W) Tryz.underlying3).op enc _ _ _ hz11
    simp only [List.cons.injEq, and_true] at e12
    obtain ⟨z13, hz13⟩ : ∃ z, DataW.trod enc Tryz.prog W 0 (fun _ => true) true n10 22 [c3] = some z := by
      have hq : DataW.trod enc Tryz.prog W 0 (fun _ => true) true n10 22 (List.take (Tryz.prog.cellsOf 22) (List.drop 1 [c2, c3, c4])) = ys10[1]? := hf10 1 _ rfl
      rw [cellsOf_ti ti22] at hq
      obtain ⟨z, hz⟩ : ∃ z, ys10[1]? = some z := ⟨_, List.getElem?_eq_getElem (by rw [hlen10]; decide)⟩
      exact ⟨z, by simpa [hz] using hq⟩
    obtain ⟨x14, e14, g14⟩ := (opens_int (W := W) Tryz.underlying22).op enc _ _ _ hz13
    simp only [List.cons.injEq, and_true] at e14
    obtain ⟨z15, hz15⟩ : ∃ z, DataW.trod enc Tryz.prog W 0 (fun _ => true) true n10 22 [c4] = some z := by
      have hq : DataW.trod enc Tryz.prog W 0 (fun _ => true) true n10 22 (List.take (Tryz.prog.cellsOf 22) (List.drop 2 [c2, c3, c4])) = ys10[2]? := hf10 2 _ rfl
      rw [cellsOf_ti ti22] at hq
      obtain ⟨z, hz⟩ : ∃ z, ys10[2]? = some z := ⟨_, List.getElem?_eq_getElem (by rw [hlen10]; decide)⟩
      exact ⟨z, by simpa [hz] using hq⟩
    obtain ⟨x16, e16, g16⟩ := (opens_int (W := W) Tryz.underlying22).op enc _ _ _ hz15
    simp only [List.cons.injEq, and_true] at e16
    obtain ⟨z17, hz17⟩ : ∃ z, DataW.trod enc Tryz.prog W 0 (fun _ => true) true n8 3 [c5] = some z := by
      have hq : DataW.trod enc Tryz.prog W 0 (fun _ => true) true n8 3 (List.take (Tryz.prog.cellsOf 3) (List.drop 3 [c2, c3, c4, c5])) = ys8[1]? := hf8 1 _ rfl
      rw [cellsOf_ti ti3] at hq
      obtain ⟨z, hz⟩ : ∃ z, ys8[1]? = some z := ⟨_, List.getElem?_eq_getElem (by rw [hlen8]; decide)⟩
      exact ⟨z, by simpa [hz] using hq⟩
    obtain ⟨x18, e18, g18⟩ := (opens_int (W := W) Tryz.underlying3).op enc _ _ _ hz17
    simp only [List.cons.injEq, and_true] at e18
    obtain ⟨z19, hz19⟩ : ∃ z, DataW.trod enc Tryz.prog W 0 (fun _ => true) true n6 30 [c6, c7, c8, c9, c10] = some z := by
      have hq : DataW.trod enc Tryz.prog W 0 (fun _ => true) true n6 30 (List.take (Tryz.prog.cellsOf 30) (List.drop 4 [c2, c3, c4, c5, c6, c7, c8, c9, c10, c11])) = ys6[1]? := hf6 1 _ rfl
      rw [cellsOf_ti ti30] at hq
      obtain ⟨z, hz⟩ : ∃ z, ys6[1]? = some z := ⟨_, List.getElem?_eq_getElem (by rw [hlen6]; decide)⟩
      exact ⟨z, by simpa [hz] using hq⟩
    obtain ⟨ys20, n20, _, _, hl20, hlen20, hf20⟩ := DataW.trod_struct Tryz.underlying30 hz19
    obtain ⟨z21, hz21⟩ : ∃ z, DataW.trod enc Tryz.prog W 0 (fun _ => true) true n20 3 [c6] = some z := by
      have hq : DataW.trod enc Tryz.prog W 0 (fun _ => true) true n20 3 (List.take (Tryz.prog.cellsOf 3) (List.drop 0 [c6, c7, c8, c9, c10])) = ys20[0]? := hf20 0 _ rfl
      rw [cellsOf_ti ti3] at hq
      obtain ⟨z, hz⟩ : ∃ z, ys20[0]? = some z := ⟨_, List.getElem?_eq_getElem (by rw [hlen20]; decide)⟩
      exact ⟨z, by simpa [hz] using hq⟩
    obtain ⟨x22, e22, g22⟩ := (opens_int (W := W) Tryz.underlying3).op enc _ _ _ hz21
    simp only [List.cons.injEq, and_true] at e22
    obtain ⟨z23, hz23⟩ : ∃ z, DataW.trod enc Tryz.prog W 0 (fun _ => true) true n20 27 [c7] = some z := by
      have hq : DataW.trod enc Tryz.prog W 0 (fun _ => true) true n20 27 (List.take (Tryz.prog.cellsOf 27) (List.drop 1 [c6, c7, c8, c9, c10])) = ys20[1]? := hf20 1 _ rfl
      rw [cellsOf_ti ti27] at hq
      obtain ⟨z, hz⟩ : ∃ z, ys20[1]? = some z := ⟨_, List.getElem?_eq_getElem (by rw [hlen20]; decide)⟩
      exact ⟨z, by simpa [hz] using hq⟩
    obtain ⟨x24, e24, g24⟩ := (opens_slice (W := W) e_S_ok Tryz.underlying27 (opens_str (W := W) Tryz.underlying9)).op enc _ _ _ hz23
    simp only [List.cons.injEq, and_true] at e24
    obtain ⟨z25, hz25⟩ : ∃ z, DataW.trod enc Tryz.prog W 0 (fun _ => true) true n20 27 [c8] = some z := by
      have hq : DataW.trod enc Tryz.prog W 0 (fun _ => true) true n20 27 (List.take (Tryz.prog.cellsOf 27) (List.drop 2 [c6, c7, c8, c9, c10])) = ys20[2]? := hf20 2 _ rfl
      rw [cellsOf_ti ti27] at hq
      obtain ⟨z, hz⟩ : ∃ z, ys20[2]? = some z := ⟨_, List.getElem?_eq_getElem (by rw [hlen20]; decide)⟩
      exact ⟨z, by simpa [hz] using hq⟩
    obtain ⟨x26, e26, g26⟩ := (opens_slice (W := W) e_S_ok Tryz.underlying27 (opens_str (W := W) Tryz.underlying9)).op enc _ _ _ hz25
    simp only [List.cons.injEq, and_true] at e26
    obtain ⟨z27, hz27⟩ : ∃ z, DataW.trod enc Tryz.prog W 0 (fun _ => true) true n20 28 [c9] = some z := by
      have hq : DataW.trod enc Tryz.prog W 0 (fun _ => true) true n20 28 (List.take (Tryz.prog.cellsOf 28) (List.drop 3 [c6, c7, c8, c9, c10])) = ys20[3]? := hf20 3 _ rfl
      rw [cellsOf_ti ti28] at hq
      obtain ⟨z, hz⟩ : ∃ z, ys20[3]? = some z := ⟨_, List.getElem?_eq_getElem (by rw [hlen20]; decide)⟩
      exact ⟨z, by simpa [hz] using hq⟩
    obtain ⟨x28, e28, g28⟩ := (opens_slice (W := W) e_Op_ok Tryz.underlying28 (opens_Op W)).op enc _ _ _ hz27
    simp only [List.cons.injEq, and_true] at e28
    obtain ⟨z29, hz29⟩ : ∃ z, DataW.trod enc Tryz.prog W 0 (fun _ => true) true n20 3 [c10] = some z := by
      have hq : DataW.trod enc Tryz.prog W 0 (fun _ => true) true n20 3 (List.take (Tryz.prog.cellsOf 3) (List.drop 4 [c6, c7, c8, c9, c10])) = ys20[4]? := hf20 4 _ rfl
      rw [cellsOf_ti ti3] at hq
      obtain ⟨z, hz⟩ : ∃ z, ys20[4]? = some z := ⟨_, List.getElem?_eq_getElem (by rw [hlen20]; decide)⟩
      exact ⟨z, by simpa [hz] using hq⟩
    obtain ⟨x30, e30, g30⟩ := (opens_int (W := W) Tryz.underlying3).op enc _ _ _ hz29
    simp only [List.cons.injEq, and_true] at e30
    obtain ⟨z31, hz31⟩ : ∃ z, DataW.trod enc Tryz.prog W 0 (fun _ => true) true n6 31 [c11] = some z := by
      have hq : DataW.trod enc Tryz.prog W 0 (fun _ => true) true n6 31 (List.take (Tryz.prog.cellsOf 31) (List.drop 9 [c2, c3, c4, c5, c6, c7, c8, c9, c10, c11])) = ys6[2]? := hf6 2 _ rfl
      rw [cellsOf_ti ti31] at hq
      obtain ⟨z, hz⟩ : ∃ z, ys6[2]? = some z := ⟨_, List.getElem?_eq_getElem (by rw [hlen6]; decide)⟩
      exact ⟨z, by simpa [hz] using hq⟩
    obtain ⟨x32, e32, g32⟩ := (opens_slice (W := W) e_Mark_ok Tryz.underlying31 (opens_Mark W)).op enc _ _ _ hz31
    simp only [List.cons.injEq, and_true] at e32
    subst e2
    subst e4
    subst e12
    subst e14
    subst e16
    subst e18
    subst e22
    subst e24
    subst e26
    subst e28
    subst e30
    subst e32
    exact ⟨⟨x2, x4, x12, x14, x16, x18, x22, x24, x26, x28, x30, x32⟩, rfl, ⟨g2, g4, g12, g14, g16, g18, g22, g24, g26, g28, g30, g32⟩⟩
theorem itR_old {W : World} {L : List Res} {x : Item} (g : G_Item W x) : OrdR W L x.ord where
  rm := rds_old g.2.2.2.2.2.2.2.2.2.2.2.rd
  rr := rds_old g.2.2.2.2.2.2.2.1.rd
  rw := rds_old g.2.2.2.2.2.2.2.2.1.rd
  ro := rds_old g.2.2.2.2.2.2.2.2.2.1.rd
  rv := fun o ho => rds_old (g.2.2.2.2.2.2.2.2.2.1.all o ho).2.2.1.rd
  lm := Nat.le_trans g.2.2.2.2.2.2.2.2.2.2.2.le g.2.2.2.2.2.2.2.2.2.2.2.max
  lr := Nat.le_trans g.2.2.2.2.2.2.2.1.le g.2.2.2.2.2.2.2.1.max
  lw := Nat.le_trans g.2.2.2.2.2.2.2.2.1.le g.2.2.2.2.2.2.2.2.1.max
  lo := Nat.le_trans g.2.2.2.2.2.2.2.2.2.1.le g.2.2.2.2.2.2.2.2.2.1.max
  lv := fun o ho => Nat.le_trans (g.2.2.2.2.2.2.2.2.2.1.all o ho).2.2.1.le (g.2.2.2.2.2.2.2.2.2.1.all o ho).2.2.1.max
end
section
set_option linter.unusedVariables false
set_option linter.unusedSimpArgs false
open Go.RowKit
theorem cv8 (n : Nat) : IntKind.u8.wrap (n : Int) = ((UInt8.ofNat n).toNat : Int) := by
  simp [IntKind.wrap, IntKind.signed, IntKind.bits]
theorem or128 (a : UInt8) : ibits .or .u8 (a.toNat : Int) 128 = ((a ||| 128).toNat : Int) := by
  have : ∀ b : BitVec 8, ibits .or .u8 ((UInt8.ofBitVec b).toNat : Int) 128 = ((UInt8.ofBitVec b ||| 128).toNat : Int) := by decide
  exact this a.toBitVec
theorem fdiv128 (n : Nat) : (n : Int).fdiv 128 = ((n / 128 : Nat) : Int) := by rw [Int.fdiv_eq_ediv_of_nonneg _ (by omega)]; omega
/-- A number's bytes. -/
def numB (n : Nat) : List UInt8 := if h : n < 128 then [UInt8.ofNat n] else (UInt8.ofNat n ||| 128) :: numB (n / 128)
theorem numB_lt {n : Nat} (h : n < 128) : numB n = [UInt8.ofNat n] := by rw [numB]; simp [h]
theorem numB_ge {n : Nat} (h : 128 ≤ n) : numB n = (UInt8.ofNat n ||| 128) :: numB (n / 128) := by rw [numB]; simp [show ¬ n < 128 by omega]
theorem numB_len_le : ∀ (k n : Nat), n < 128 ^ k → 0 < k → (numB n).length ≤ k
  | 0, n, h, hk => absurd hk (by omega)
  | k + 1, n, h, _ => by
    by_cases hn : n < 128
    · rw [numB_lt hn]; simp
    · rw [numB_ge (by omega)]
      have hk : 0 < k := by
        rcases Nat.eq_zero_or_pos k with h0 | h0
        · subst h0; simp at h; omega
        · exact h0
      have := numB_len_le k (n / 128) (by rw [Nat.pow_succ] at h; exact Nat.div_lt_of_lt_mul (by rw [Nat.mul_comm]; exact h)) hk
      simp; omega
theorem numB_pos (n : Nat) : 0 < (numB n).length := by
  by_cases hn : n < 128
  · rw [numB_lt hn]; simp
  · rw [numB_ge (by omega)]; simp
theorem or_low (n : Nat) : (UInt8.ofNat n ||| 128).toNat = n % 128 + 128 := by
  have h : ∀ k : Fin 256, (UInt8.ofNat k.val ||| 128).toNat = k.val % 128 + 128 := by decide +kernel
  have h2 : UInt8.ofNat n = UInt8.ofNat (n % 256) := by apply UInt8.toNat_inj.1; simp
  rw [h2, h ⟨n % 256, Nat.mod_lt _ (by omega)⟩]
  show n % 256 % 128 + 128 = _
  omega
theorem of_low {n : Nat} (h : n < 128) : (UInt8.ofNat n).toNat = n := by simp; omega
theorem add_low (n : Nat) : UInt8.ofNat (n % 128 + 128) = UInt8.ofNat n ||| 128 := by
  apply UInt8.toNat_inj.1
  rw [or_low]
  simp
  omega
theorem tmod128 (n : Nat) : (n : Int).tmod 128 = ((n % 128 : Nat) : Int) := by rw [Int.tmod_eq_emod_of_nonneg (by omega)]; omega
theorem tdiv128 {n : Nat} (h : n < 18446744073709551616) : IntKind.u64.wrap ((n : Int).tdiv 128) = ((n / 128 : Nat) : Int) := by
  rw [Int.tdiv_eq_ediv_of_nonneg (by omega)]
  rw [wrap_u64 (by omega) (by omega)]
  omega
theorem addlow (n : Nat) : IntKind.u64.wrap (((n % 128 : Nat) : Int) + 128) = ((n % 128 + 128 : Nat) : Int) := by
  rw [wrap_u64 (by omega) (by omega)]
  omega
/-- A number ahead of other bytes is read back. -/
theorem numB_app : ∀ {m n : Nat} {s t : List UInt8}, numB m ++ s = numB n ++ t → m = n ∧ s = t := by
  intro m
  induction m using Nat.strongRecOn with
  | _ m ih =>
    intro n s t h
    by_cases hm : m < 128 <;> by_cases hn : n < 128
    · rw [numB_lt hm, numB_lt hn] at h
      simp only [List.cons_append, List.nil_append, List.cons.injEq] at h
      have := congrArg UInt8.toNat h.1
      rw [of_low hm, of_low hn] at this
      exact ⟨this, h.2⟩
    · rw [numB_lt hm, numB_ge (n := n) (by omega)] at h
      simp only [List.cons_append, List.nil_append, List.cons.injEq] at h
      have := congrArg UInt8.toNat h.1
      rw [of_low hm, or_low] at this
      omega
    · rw [numB_ge (n := m) (by omega), numB_lt hn] at h
      simp only [List.cons_append, List.nil_append, List.cons.injEq] at h
      have := congrArg UInt8.toNat h.1
      rw [of_low hn, or_low] at this
      omega
    · rw [numB_ge (n := m) (by omega), numB_ge (n := n) (by omega)] at h
      simp only [List.cons_append, List.cons.injEq] at h
      have h1 := congrArg UInt8.toNat h.1
      rw [or_low, or_low] at h1
      obtain ⟨h2, h3⟩ := ih (m / 128) (by omega) h.2
      exact ⟨by omega, h3⟩
end
section
set_option linter.unusedVariables false
set_option linter.unusedSimpArgs false
set_option maxRecDepth 10000
section
open Go.RowKit Classical
theorem ti68 : TI Tryz.prog 68 (.agg #[.slice none 0 0]) 1 24 := by unfold TI; kernel_rfl
theorem sp68 : StructP Tryz.prog 68 #[(0, 1)] := ⟨_, Tryz.underlying68, fun w => by kernel_rfl⟩
end
section
open Go.RowKit
theorem clone8p {W : World} {F : List Res} {xs : List UInt8} {a : Option Addr} {c : Nat} (hs : RdS W F e8 a xs) (hn : xs.length ≤ 70000000000000) : CS Tryz.prog 46 #[.slice a xs.length c] W (F) (fun r L' => ∃ (a' : Option Addr) (c' : Nat), r = .slice a' xs.length c' ∧ L' = row e8.T e8.sz a' (xs).length c' (flat e8 xs) :: F) := by
 refine f_door (l0 := [(0, .slice a xs.length c)]) Tryz.func46 Tryz.ntmps46 rfl rfl rfl ?_
 refine c_seq ?_
 refine c_fact (rds_nilq hs) ?_
 intro hz
 refine c_region ?_
 refine o_assign rfl rfl ?_
 refine l_nil ?_
 refine q_then ?_
 refine c_seq ?_
 refine c_seq ?_
 refine c_region ?_
 refine o_move rfl rfl ?_
 refine o_bin rfl rfl rfl (b_sleq Tryz.underlying34 _ _ _) ?_
 refine l_nil ?_
 refine q_then ?_
 refine c_cond rfl (fun h1 => ?_) (fun h1 => ?_)
 · -- h1T
  try simp only [decide_eq_true_eq, decide_eq_false_iff_not, Bool.not_eq_eq_eq_not, Bool.not_true, Bool.not_false, Bool.not_eq_true', Bool.not_eq_false', Int.not_lt, Int.not_le, Bool.or_eq_true, Bool.and_eq_true] at h1
  have hnil : xs = [] := hz (by simpa using h1)
  refine c_seq ?_
  refine c_region ?_
  refine o_assign rfl rfl ?_
  refine l_nil ?_
  refine q_then ?_
  refine c_ret ?_
  refine q_pass_ret ?_
  exact f_ret (r_one rfl rfl) (⟨none, 0, by rw [hnil]; rfl, rfl⟩) (by rw [hnil]; exact fun w S => S.own_nil)
 · -- h1F
  try simp only [decide_eq_true_eq, decide_eq_false_iff_not, Bool.not_eq_eq_eq_not, Bool.not_true, Bool.not_false, Bool.not_eq_true', Bool.not_eq_false', Int.not_lt, Int.not_le, Bool.or_eq_true, Bool.and_eq_true] at h1
  refine c_skip ?_
  refine q_then ?_
  refine c_seq ?_
  refine c_region ?_
  refine o_lit e8_ok rfl Tryz.underlying34 rfl rfl rfl (lit_ok rfl) ([] : List UInt8) rfl rfl fun a5 => ?_
  refine o_move rfl rfl ?_
  refine o_append e8_ok rfl rfl rfl Tryz.underlying34 (rds_c hs) (by show (_ + _) * 1 ≤ _; (try simp only [List.length_append, List.length_cons, List.length_nil]); omega) (by (try simp only [List.length_append, List.length_cons, List.length_nil]); omega) fun a7 c7 => ?_
  refine o_assign rfl rfl ?_
  refine l_nil ?_
  refine q_then ?_
  refine c_ret ?_
  exact f_ret (r_one rfl rfl) (⟨_, _, rfl, rfl⟩) (fun w S => by simpa using S)
end
section
open Go.RowKit
theorem penNum {W : World} {F : List Res} {k : Nat} {xs : List UInt8} {a : Option Addr} {c : Nat} {v : Nat} (hv : v < 18446744073709551616) (hn : xs.length ≤ 70000000000000) : CS Tryz.prog 43 #[.pointer (some ⟨k, 0, none⟩), .int .u64 (v : Int)] W (blk k (.cells #[.slice a (xs).length c] 68 (0, 0)) :: row e8.T e8.sz a (xs).length c (flat e8 xs) :: F) (fun r L' => ∃ (a' : Option Addr) (c' : Nat), r = .tuple #[] ∧ L' = blk k (.cells #[.slice a' ((xs ++ numB v)).length c'] 68 (0, 0)) :: row e8.T e8.sz a' ((xs ++ numB v)).length c' (flat e8 (xs ++ numB v)) :: F) := by
 refine f_door (l0 := [(0, .pointer (some ⟨k, 0, none⟩)), (1, .int .u64 (v : Int))]) Tryz.func43 Tryz.ntmps43 rfl rfl rfl ?_
 refine c_seq ?_
 refine c_block ?_
 refine c_loop (α := Nat × (List UInt8) × (Option Addr) × Nat) (fun z => [(0, .pointer (some ⟨k, 0, none⟩)), (1, .int .u64 (z.1 : Int))]) (fun z => blk k (.cells #[.slice z.2.2.1 (z.2.1).length z.2.2.2] 68 (0, 0)) :: row e8.T e8.sz z.2.2.1 (z.2.1).length z.2.2.2 (flat e8 z.2.1) :: F) (fun z => z.2.1 ++ numB z.1 = xs ++ numB v ∧ z.1 < 18446744073709551616 ∧ z.2.1.length + (numB z.1).length ≤ 70000000000010) (fun z => z.1) (v, xs, a, c) (by exact ⟨rfl, hv, by dsimp only; have := numB_len_le 10 v (by omega) (by omega); omega⟩) ⟨(by first | rfl | exact vint (by omega)), (by first | rfl | exact vint (by omega)), trivial⟩ (fun w S => S) ?_
 rintro ⟨u, ys, a, c⟩ ⟨hq, hu, hl⟩
 try dsimp only at *
 have hnp := numB_pos u
 refine c_seq ?_
 refine c_seq ?_
 refine c_region ?_
 refine o_move rfl rfl ?_
 refine o_bin rfl rfl rfl b_geq ?_
 refine l_nil ?_
 refine q_then ?_
 refine c_cond rfl (fun h1 => ?_) (fun h1 => ?_)
 · -- h1T
  try simp only [decide_eq_true_eq, decide_eq_false_iff_not, Bool.not_eq_eq_eq_not, Bool.not_true, Bool.not_false, Bool.not_eq_true', Bool.not_eq_false', Int.not_lt, Int.not_le, Bool.or_eq_true, Bool.and_eq_true] at h1
  refine c_skip ?_
  refine q_then ?_
  refine c_seq ?_
  refine c_block ?_
  refine c_region ?_
  refine o_move rfl rfl ?_
  refine o_move rfl rfl ?_
  refine o_nil rfl rfl ?_
  refine o_fieldAddr (q := ⟨k, 0, none⟩) rfl rfl Tryz.underlying68 rfl ti34 rfl ?_
  refine o_load1 rfl rfl Tryz.underlying34 rfl (rd_mem 0 rfl rfl) ?_
  refine o_move rfl rfl ?_
  refine o_int rfl rfl Tryz.underlying22 Tryz.underlying5 (cv8 u) ?_
  refine o_bin rfl rfl rfl (b_or (or128 _)) ?_
  refine o_lit e8_ok rfl Tryz.underlying34 rfl rfl rfl (lit_ok rfl) [UInt8.ofNat u ||| 128] rfl rfl fun a16 => ?_
  refine l_f2 ?_
  refine o_append e8_ok rfl rfl rfl Tryz.underlying34 (rds_own e8_ok 1 rfl) (by show (_ + _) * 1 ≤ _; (try simp only [List.length_append, List.length_cons, List.length_nil]); omega) (by (try simp only [List.length_append, List.length_cons, List.length_nil]); omega) fun a17 c17 => ?_
  refine l_f1 ?_
  refine l_drop ?_
  refine o_nil rfl rfl ?_
  refine o_fieldAddr (q := ⟨k, 0, none⟩) rfl rfl Tryz.underlying68 rfl ti34 rfl ?_
  refine l_f1 ?_
  refine o_store1 rfl rfl rfl ti34 rfl rfl ?_
  refine l_nil ?_
  refine q_block ?_
  refine q_then ?_
  refine c_region ?_
  refine o_move rfl rfl ?_
  refine o_bin rfl rfl rfl (b_shr (by omega) (fdiv128 u)) ?_
  refine o_assign rfl rfl ?_
  refine l_nil ?_
  exact q_round (u / 128, ys ++ [UInt8.ofNat u ||| 128], a17, c17) (by have h9 := numB_ge (n := u) (by omega); exact ⟨by rw [← hq, h9]; simp, by omega, by rw [h9] at hl; simp only [List.length_append, List.length_cons, List.length_nil] at hl ⊢; omega⟩) (by (try dsimp only); omega) ⟨(by first | rfl | exact vint (by omega)), (by first | rfl | exact vint (by omega)), trivial⟩ (fun w S => S)
 · -- h1F
  try simp only [decide_eq_true_eq, decide_eq_false_iff_not, Bool.not_eq_eq_eq_not, Bool.not_true, Bool.not_false, Bool.not_eq_true', Bool.not_eq_false', Int.not_lt, Int.not_le, Bool.or_eq_true, Bool.and_eq_true] at h1
  have hq' : ys ++ [UInt8.ofNat u] = xs ++ numB v := by rw [← hq, numB_lt (by omega)]
  refine c_exit ?_
  refine q_pass_exit ?_
  refine q_pass_exit ?_
  refine q_hit ?_
  refine q_then ?_
  refine c_region ?_
  refine o_move rfl rfl ?_
  refine o_move rfl rfl ?_
  refine o_nil rfl rfl ?_
  refine o_fieldAddr (q := ⟨k, 0, none⟩) rfl rfl Tryz.underlying68 rfl ti34 rfl ?_
  refine o_load1 rfl rfl Tryz.underlying34 rfl (rd_mem 0 rfl rfl) ?_
  refine o_move rfl rfl ?_
  refine o_int rfl rfl Tryz.underlying22 Tryz.underlying5 (cv8 u) ?_
  refine o_lit e8_ok rfl Tryz.underlying34 rfl rfl rfl (lit_ok rfl) [UInt8.ofNat u] rfl rfl fun a27 => ?_
  refine l_f2 ?_
  refine o_append e8_ok rfl rfl rfl Tryz.underlying34 (rds_own e8_ok 1 rfl) (by show (_ + _) * 1 ≤ _; (try simp only [List.length_append, List.length_cons, List.length_nil]); omega) (by (try simp only [List.length_append, List.length_cons, List.length_nil]); omega) fun a28 c28 => ?_
  refine l_f1 ?_
  refine l_drop ?_
  refine o_nil rfl rfl ?_
  refine o_fieldAddr (q := ⟨k, 0, none⟩) rfl rfl Tryz.underlying68 rfl ti34 rfl ?_
  refine l_f1 ?_
  refine o_store1 rfl rfl rfl ti34 rfl rfl ?_
  refine l_nil ?_
  exact f_end (r_none rfl) (⟨a28, c28, rfl, by rw [← hq']; rfl⟩) (fun w S => S)
theorem penData {W : World} {F : List Res} {k : Nat} {xs : List UInt8} {a : Option Addr} {c : Nat} (hn : xs.length ≤ 70000000000000) : CS Tryz.prog 24 #[.pointer (some ⟨k, 0, none⟩)] W (blk k (.cells #[.slice a (xs).length c] 68 (0, 0)) :: row e8.T e8.sz a (xs).length c (flat e8 xs) :: F) (fun r L' => ∃ (a' : Option Addr) (c' : Nat), r = .slice a' xs.length c' ∧ L' = row e8.T e8.sz a' (xs).length c' (flat e8 xs) :: blk k (.cells #[.slice a (xs).length c] 68 (0, 0)) :: row e8.T e8.sz a (xs).length c (flat e8 xs) :: F) := by
 refine f_door (l0 := [(0, .pointer (some ⟨k, 0, none⟩))]) Tryz.func24 Tryz.ntmps24 rfl rfl rfl ?_
 refine c_seq ?_
 refine c_region ?_
 refine o_assign rfl rfl ?_
 refine l_nil ?_
 refine q_then ?_
 refine c_seq ?_
 refine c_region ?_
 refine o_move rfl rfl ?_
 refine o_nil rfl rfl ?_
 refine o_fieldAddr (q := ⟨k, 0, none⟩) rfl rfl Tryz.underlying68 rfl ti34 rfl ?_
 refine o_load1 rfl rfl Tryz.underlying34 rfl (rd_mem 0 rfl rfl) ?_
 refine o_call rfl cal46 rfl (clone8p (rds_own e8_ok 1 rfl) hn) ?_
 rintro _ _ ⟨a7, c7, rfl, rfl⟩
 refine o_assign rfl rfl ?_
 refine l_nil ?_
 refine q_then ?_
 refine c_ret ?_
 exact f_ret (r_one rfl rfl) (⟨a7, c7, rfl, rfl⟩) (fun w S => S)
theorem penText {W : World} {F : List Res} {k : Nat} {xs : List UInt8} {a : Option Addr} {c : Nat} {ts : List UInt8} {ta : Option Addr} {tc : Nat} (hs : RdS W F e8 ta ts) (ht : ts.length ≤ 70000000000000) (hn : xs.length ≤ 70000000000000) : CS Tryz.prog 44 #[.pointer (some ⟨k, 0, none⟩), .slice ta ts.length tc] W (blk k (.cells #[.slice a (xs).length c] 68 (0, 0)) :: row e8.T e8.sz a (xs).length c (flat e8 xs) :: F) (fun r L' => ∃ (a' : Option Addr) (c' : Nat), r = .tuple #[] ∧ L' = blk k (.cells #[.slice a' ((xs ++ numB ts.length ++ ts)).length c'] 68 (0, 0)) :: row e8.T e8.sz a' ((xs ++ numB ts.length ++ ts)).length c' (flat e8 (xs ++ numB ts.length ++ ts)) :: F) := by
 refine f_door (l0 := [(0, .pointer (some ⟨k, 0, none⟩)), (1, .slice ta ts.length tc)]) Tryz.func44 Tryz.ntmps44 rfl rfl rfl ?_
 refine c_seq ?_
 refine c_region ?_
 refine o_move rfl rfl ?_
 refine o_move rfl rfl ?_
 refine o_len rfl rfl Tryz.underlying34 ?_
 refine o_int rfl rfl Tryz.underlying3 Tryz.underlying22 (wrap_u64 (by omega) (by omega)) ?_
 refine l_f1 ?_
 refine l_f1 ?_
 refine o_call rfl cal43 rfl (penNum (v := ts.length) (by omega) (by omega)) ?_
 rintro _ _ ⟨a8, c8, rfl, rfl⟩
 have hnb := numB_len_le 10 ts.length (by omega) (by omega)
 refine l_nil ?_
 refine q_then ?_
 refine c_region ?_
 refine o_move rfl rfl ?_
 refine o_move rfl rfl ?_
 refine o_nil rfl rfl ?_
 refine o_fieldAddr (q := ⟨k, 0, none⟩) rfl rfl Tryz.underlying68 rfl ti34 rfl ?_
 refine o_load1 rfl rfl Tryz.underlying34 rfl (rd_mem 0 rfl rfl) ?_
 refine o_move rfl rfl ?_
 refine l_f1 ?_
 refine o_append e8_ok rfl rfl rfl Tryz.underlying34 (rds_c (rds_c hs)) (by show (_ + _) * 1 ≤ _; (try simp only [List.length_append, List.length_cons, List.length_nil]); omega) (by (try simp only [List.length_append, List.length_cons, List.length_nil]); omega) fun a15 c15 => ?_
 refine o_nil rfl rfl ?_
 refine o_fieldAddr (q := ⟨k, 0, none⟩) rfl rfl Tryz.underlying68 rfl ti34 rfl ?_
 refine l_f1 ?_
 refine o_store1 rfl rfl rfl ti34 rfl rfl ?_
 refine l_nil ?_
 exact f_end (r_none rfl) (⟨a15, c15, rfl, rfl⟩) (fun w S => S)
end
end
section
set_option linter.unusedVariables false
set_option linter.unusedSimpArgs false
set_option maxRecDepth 10000
open Go.RowKit Classical
theorem ti83 : TI Tryz.prog 83 (.agg #[.slice none 0 0, .int .i64 0, .bool false]) 3 40 := by unfold TI; kernel_rfl
theorem ti81 : TI Tryz.prog 81 (.agg #[.slice none 0 0, .int .i64 0]) 2 32 := by unfold TI; kernel_rfl
theorem sp83 : StructP Tryz.prog 83 #[(0, 2), (2, 1)] := ⟨_, Tryz.underlying83, fun w => by kernel_rfl⟩
theorem sp81 : StructP Tryz.prog 81 #[(0, 1), (1, 1)] := ⟨_, Tryz.underlying81, fun w => by kernel_rfl⟩
end
section
set_option linter.unusedVariables false
set_option linter.unusedSimpArgs false
open Go.RowKit
/-- A number is read: its value, the error's number, how many bytes it took; k: how many were read ahead of these. -/
def numR : Nat → Nat → List UInt8 → Nat × Nat × Nat
  | _, _, [] => (0, 30, 0)
  | k, n, b :: t =>
    if k = 9 ∧ 1 < b.toNat then (0, 31, 0)
    else if b.toNat < 128 then (if b.toNat = 0 ∧ 0 < k then (0, 31, 0) else (n + b.toNat % 128 * 128 ^ k, 0, k + 1))
    else numR (k + 1) (n + b.toNat % 128 * 128 ^ k) t
theorem numR_bad {k n : Nat} {b : UInt8} {t : List UInt8} (h : k = 9) (h2 : 1 < b.toNat) : numR k n (b :: t) = (0, 31, 0) := by rw [numR, if_pos ⟨h, h2⟩]
theorem numR_zero {k n : Nat} {b : UInt8} {t : List UInt8} (h1 : b.toNat < 128) (h : b.toNat = 0) (h2 : 0 < k) : numR k n (b :: t) = (0, 31, 0) := by
  rw [numR, if_neg (by omega), if_pos h1, if_pos ⟨h, h2⟩]
theorem numR_end {k n : Nat} {b : UInt8} {t : List UInt8} (h0 : ¬ (k = 9 ∧ 1 < b.toNat)) (h1 : b.toNat < 128) (h : ¬ (b.toNat = 0 ∧ 0 < k)) : numR k n (b :: t) = (n + b.toNat % 128 * 128 ^ k, 0, k + 1) := by
  rw [numR, if_neg h0, if_pos h1, if_neg h]
theorem numR_on {k n : Nat} {b : UInt8} {t : List UInt8} (h0 : ¬ (k = 9 ∧ 1 < b.toNat)) (h1 : ¬ b.toNat < 128) : numR k n (b :: t) = numR (k + 1) (n + b.toNat % 128 * 128 ^ k) t := by
  rw [numR, if_neg h0, if_neg h1]
theorem pow_split (k : Nat) : 128 ^ (k + 1) = 128 ^ k * 128 := Nat.pow_succ ..
theorem numR_next {k n : Nat} {b : UInt8} (hn : n < 128 ^ k) : n + b.toNat % 128 * 128 ^ k < 128 ^ (k + 1) := by
  have h1 : b.toNat % 128 ≤ 127 := by omega
  have h2 := Nat.mul_le_mul_right (128 ^ k) h1
  rw [pow_split]
  omega
/-- What is read took no more than there is. -/
theorem numR_used : ∀ (t : List UInt8) (k n : Nat), (numR k n t).2.2 ≤ k + t.length ∧ ((numR k n t).2.1 ≠ 0 → (numR k n t).2.2 = 0 ∧ (numR k n t).1 = 0) ∧ ((numR k n t).2.1 = 0 → 0 < (numR k n t).2.2) ∧ (numR k n t).2.1 ≤ 31
  | [], k, n => by simp [numR]
  | b :: t, k, n => by
    have ih := numR_used t (k + 1) (n + b.toNat % 128 * 128 ^ k)
    rw [numR]
    split
    · simp
    · split
      · split
        · simp
        · simp
      · simp only [List.length_cons]
        exact ⟨by omega, ih.2⟩
theorem pow_le9 {k : Nat} (h : k ≤ 9) : 128 ^ k ≤ 9223372036854775808 := by
  have := Nat.pow_le_pow_right (n := 128) (by omega) h
  exact Nat.le_trans this (by decide)
/-- What was written is read. -/
theorem numR_numB (s : List UInt8) : ∀ (m k n : Nat), k ≤ 9 → m * 128 ^ k < 18446744073709551616 → (0 < k → 0 < m) → numR k n (numB m ++ s) = (n + m * 128 ^ k, 0, k + (numB m).length) := by
  intro m
  induction m using Nat.strongRecOn with
  | _ m ih =>
    intro k n hk hm h0
    by_cases h : m < 128
    · rw [numB_lt h]
      show numR k n (UInt8.ofNat m :: s) = _
      have h1 := of_low h
      rw [numR_end]
      · rw [h1]; simp [Nat.mod_eq_of_lt h]
      · rw [h1]; rintro ⟨rfl, h2⟩
        have : 128 ^ 9 = 9223372036854775808 := by decide
        rw [this] at hm; omega
      · rw [h1]; exact h
      · rw [h1]; rintro ⟨h2, h3⟩; have := h0 h3; omega
    · rw [numB_ge (by omega)]
      show numR k n ((UInt8.ofNat m ||| 128) :: (numB (m / 128) ++ s)) = _
      have h1 := or_low m
      have hk9 : k < 9 := by
        rcases Nat.lt_or_ge k 9 with h9 | h9
        · exact h9
        · exfalso
          obtain rfl : k = 9 := by omega
          have : 128 ^ 9 = 9223372036854775808 := by decide
          rw [this] at hm; omega
      rw [numR_on (by rw [h1]; omega) (by rw [h1]; omega)]
      have hd : m / 128 * 128 ^ (k + 1) ≤ m * 128 ^ k := by
        rw [pow_split, ← Nat.mul_assoc, Nat.mul_right_comm]
        exact Nat.mul_le_mul_right _ (Nat.div_mul_le_self m 128)
      rw [ih (m / 128) (by omega) (k + 1) _ (by omega) (by omega) (by omega)]
      rw [h1]
      have e1 : (m % 128 + 128) % 128 = m % 128 := by omega
      have e2 : n + m % 128 * 128 ^ k + m / 128 * 128 ^ (k + 1) = n + m * 128 ^ k := by
        rw [pow_split, ← Nat.mul_assoc, Nat.mul_right_comm, Nat.add_assoc, ← Nat.add_mul, Nat.add_comm (m % 128), Nat.mul_comm (m / 128), Nat.div_add_mod]
      rw [e1, e2]
      simp
      omega
/-- A text is read: its bytes, the error's number, how many bytes it took. -/
def textR (t : List UInt8) : List UInt8 × Nat × Nat :=
  let r := numR 0 0 t
  if r.2.1 ≠ 0 then ([], r.2.1, 0) else if t.length - r.2.2 < r.1 then ([], 30, 0) else (sub t r.2.2 (r.2.2 + r.1), 0, r.2.2 + r.1)
theorem sub_drop {α : Type} (ys : List α) (u v : Nat) : sub (ys.drop u) 0 v = sub ys u (u + v) := by
  simp only [sub, List.drop_zero]
  rw [List.take_drop]
theorem textR_err {t : List UInt8} (h : (numR 0 0 t).2.1 ≠ 0) : textR t = ([], (numR 0 0 t).2.1, 0) := by simp [textR, h]
theorem textR_short {t : List UInt8} (h : (numR 0 0 t).2.1 = 0) (h2 : t.length - (numR 0 0 t).2.2 < (numR 0 0 t).1) : textR t = ([], 30, 0) := by simp [textR, h, h2]
theorem textR_ok {t : List UInt8} (h : (numR 0 0 t).2.1 = 0) (h2 : ¬ t.length - (numR 0 0 t).2.2 < (numR 0 0 t).1) : textR t = (sub t (numR 0 0 t).2.2 ((numR 0 0 t).2.2 + (numR 0 0 t).1), 0, (numR 0 0 t).2.2 + (numR 0 0 t).1) := by simp [textR, h, h2]
theorem textR_len (t : List UInt8) : (textR t).1.length ≤ t.length := by
  unfold textR
  dsimp only
  split
  · simp
  · split
    · simp
    · simp [sub]; omega
def endR (t : List UInt8) : Nat := if 0 < t.length then 32 else 0
theorem sub_take {α : Type} (xs : List α) (j : Nat) : sub xs 0 j = xs.take j := by simp [sub]
theorem bvnat (n : Nat) : BitVec.ofInt 64 (n : Int) = BitVec.ofNat 64 n := by
  apply BitVec.eq_of_toNat_eq
  simp
theorem or64 {n x p : Nat} (hn : n < 2 ^ p) (hx : x * 2 ^ p < 18446744073709551616) (hn2 : n < 18446744073709551616) : ibits .or .u64 (n : Int) ((x * 2 ^ p : Nat) : Int) = ((n + x * 2 ^ p : Nat) : Int) := by
  show IntKind.u64.wrap ((BitVec.ofInt 64 (n : Int) ||| BitVec.ofInt 64 ((x * 2 ^ p : Nat) : Int)).toNat : Int) = _
  rw [bvnat, bvnat, BitVec.toNat_or, BitVec.toNat_ofNat, BitVec.toNat_ofNat, Nat.mod_eq_of_lt (by omega), Nat.mod_eq_of_lt (by omega)]
  have h := Nat.two_pow_add_eq_or_of_lt hn x
  have e : n ||| x * 2 ^ p = n + x * 2 ^ p := by
    rw [Nat.or_comm, Nat.mul_comm x, ← h]; omega
  have h64 : n + x * 2 ^ p < 2 ^ 64 := by
    rw [← e]; exact Nat.or_lt_two_pow (by omega) (by omega)
  rw [e, wrap_u64 (by omega) (by omega)]
theorem pow7 (k : Nat) : 128 ^ k = 2 ^ (7 * k) := by rw [show (128 : Nat) = 2 ^ 7 by rfl, ← Nat.pow_mul]
theorem shl7 {k x : Nat} (hk : k ≤ 9) (hx : x * 128 ^ k < 18446744073709551616) : IntKind.u64.wrap ((x : Int) * 2 ^ (min ((7 * (k : Int)).toNat) IntKind.u64.bits)) = ((x * 2 ^ (7 * k) : Nat) : Int) := by
  have h1 : min ((7 * (k : Int)).toNat) IntKind.u64.bits = 7 * k := by simp [IntKind.bits]; omega
  rw [h1]
  have h2 : (x : Int) * 2 ^ (7 * k) = ((x * 2 ^ (7 * k) : Nat) : Int) := by simp
  rw [h2, wrap_u64 (by omega) (by rw [← pow7]; omega)]
theorem x_bound {k : Nat} {b : UInt8} (hk : k ≤ 9) (h : ¬ (k = 9 ∧ 1 < b.toNat)) : b.toNat % 128 * 128 ^ k < 18446744073709551616 := by
  by_cases h9 : k = 9
  · subst h9
    have : 128 ^ 9 = 9223372036854775808 := by decide
    rw [this]; omega
  · have h1 : b.toNat % 128 ≤ 127 := by omega
    have h2 := Nat.mul_le_mul_right (128 ^ k) h1
    have h3 := Nat.pow_le_pow_right (n := 128) (by omega) (show k ≤ 8 by omega)
    have : 128 ^ 8 = 72057594037927936 := by decide
    omega
theorem tmod128b (b : UInt8) : ((b.toNat : Nat) : Int).tmod 128 = ((b.toNat % 128 : Nat) : Int) := tmod128 b.toNat
theorem or7 {k n : Nat} {b : UInt8} (hk : k ≤ 9) (hn : n < 128 ^ k) (h : ¬ (k = 9 ∧ 1 < b.toNat)) : ibits .or .u64 (n : Int) ((b.toNat % 128 * 2 ^ (7 * k) : Nat) : Int) = ((n + b.toNat % 128 * 128 ^ k : Nat) : Int) := by
  have hx := x_bound hk h
  have := pow_le9 hk
  rw [pow7] at hn hx ⊢
  rw [or64 hn hx (by rw [pow7] at this; omega)]
theorem mul7 {k : Nat} {b : UInt8} (hk : k ≤ 9) (h : ¬ (k = 9 ∧ 1 < b.toNat)) : IntKind.u64.wrap (((b.toNat % 128 : Nat) : Int) * ((128 ^ k : Nat) : Int)) = ((b.toNat % 128 * 128 ^ k : Nat) : Int) := by
  have := x_bound hk h
  rw [← Int.natCast_mul]
  exact wrap_u64 (by omega) (by omega)
theorem add7 {k n : Nat} {b : UInt8} (hk : k ≤ 9) (hn : n < 128 ^ k) (h : ¬ (k = 9 ∧ 1 < b.toNat)) : IntKind.u64.wrap ((n : Int) + ((b.toNat % 128 * 128 ^ k : Nat) : Int)) = ((n + b.toNat % 128 * 128 ^ k : Nat) : Int) := by
  have h1 := x_bound hk h
  have h2 := numR_next (b := b) hn
  have h3 : n + b.toNat % 128 * 128 ^ k < 18446744073709551616 := by
    by_cases h9 : k = 9
    · subst h9
      have : 128 ^ 9 = 9223372036854775808 := by decide
      rw [this] at hn ⊢
      have : b.toNat % 128 ≤ 1 := by omega
      omega
    · have := pow_le9 (show k + 1 ≤ 9 by omega); omega
  rw [wrap_u64 (by omega) (by omega)]
  omega
theorem weight7 {k : Nat} (hk : k < 9) : IntKind.u64.wrap (((128 ^ k : Nat) : Int) * 128) = ((128 ^ (k + 1) : Nat) : Int) := by
  have := pow_le9 (show k + 1 ≤ 9 by omega)
  have e : ((128 ^ k : Nat) : Int) * 128 = ((128 ^ (k + 1) : Nat) : Int) := by rw [pow_split, Int.natCast_mul]; rfl
  rw [e]
  generalize 128 ^ (k + 1) = p at this
  exact wrap_u64 (by omega) (by omega)
theorem cu64 (b : UInt8) : IntKind.u64.wrap (b.toNat : Int) = (b.toNat : Int) := by have := b.toNat_lt; exact wrap_u64 (by omega) (by omega)
theorem drop_get {α : Type} {xs : List α} {j : Nat} {x : α} (h : xs[j]? = some x) : xs.drop j = x :: xs.drop (j + 1) := by
  obtain ⟨hl, rfl⟩ := List.getElem?_eq_some_iff.1 h
  exact List.drop_eq_getElem_cons hl
end
section
set_option linter.unusedVariables false
set_option linter.unusedSimpArgs false
set_option maxRecDepth 10000
open Go.RowKit
theorem rEyeNum {W : World} {F : List Res} {k i : Nat} {xs ys : List UInt8} {a : Option Addr} {c : Nat} {bd : Bool} (hs : SlR W e8 a xs) (hy : ys = xs.drop i) (hil : i ≤ xs.length) (hsm : xs.length ≤ 70000000000000) (hcc : xs.length ≤ c) : CS Tryz.prog 73 #[.pointer (some ⟨k, 0, none⟩)] W (blk k (.cells #[.slice a (xs).length c, .int .i64 (i : Int), .bool bd] 83 (0, 0)) :: F) (fun r L' => r = .tuple #[.int .u64 ((numR 0 0 ys).1 : Int), .int .i64 ((numR 0 0 ys).2.1 : Int)] ∧ L' = blk k (.cells #[.slice a (xs).length c, .int .i64 ((i + (numR 0 0 ys).2.2 : Nat) : Int), .bool bd] 83 (0, 0)) :: F) := by
 have hyl : ys.length = xs.length - i := by rw [hy, List.length_drop]
 refine f_door (l0 := [(0, .pointer (some ⟨k, 0, none⟩))]) Tryz.func73 Tryz.ntmps73 rfl rfl rfl ?_
 refine c_seq ?_
 refine c_region ?_
 refine o_assign rfl rfl ?_
 refine o_assign rfl rfl ?_
 refine l_nil ?_
 refine q_then ?_
 refine c_seq ?_
 refine c_region ?_
 refine o_assign rfl rfl ?_
 refine o_assign rfl rfl ?_
 refine l_nil ?_
 refine q_then ?_
 refine c_seq ?_
 refine c_seq ?_
 refine c_region ?_
 refine o_assign rfl rfl ?_
 refine l_nil ?_
 refine q_then ?_
 refine c_block ?_
 refine c_loop (α := Nat × Nat) (fun z => [(0, .pointer (some ⟨k, 0, none⟩)), (4, .int .u64 (z.2 : Int)), (5, .int .u64 ((128 ^ z.1 : Nat) : Int)), (6, .int .i64 (z.1 : Int))]) (fun z => blk k (.cells #[.slice a (xs).length c, .int .i64 (i : Int), .bool bd] 83 (0, 0)) :: F) (fun z => numR 0 0 ys = numR z.1 z.2 (xs.drop (i + z.1)) ∧ z.1 ≤ 9 ∧ z.2 < 128 ^ z.1 ∧ i + z.1 ≤ xs.length) (fun z => xs.length - (i + z.1)) (0, 0) (by exact ⟨by rw [hy]; rfl, by omega, by decide, by omega⟩) ⟨(by first | rfl | exact vint (by omega)), (by first | rfl | exact vint (by omega)), (by rfl), (by first | rfl | exact vint (by omega)), trivial⟩ (fun w S => S) ?_
 rintro ⟨j, n⟩ ⟨hq, hj9, hn, hjl⟩
 try dsimp only at *
 refine c_seq ?_
 refine c_seq ?_
 refine c_quiet (by kernel_rfl) (by kernel_rfl) ?_
 refine Qt.o_val rfl (v_move rfl rfl) ?_
 refine Qt.o_val rfl (v_nil rfl rfl) ?_
 refine Qt.o_val rfl (v_fieldAddr (q := ⟨k, 1, none⟩) rfl rfl Tryz.underlying81 rfl ti3 rfl) ?_
 refine Qt.o_val rfl (v_load1 rfl rfl Tryz.underlying3 rfl (rd_mem 0 rfl rfl)) ?_
 refine Qt.o_val rfl (v_move rfl rfl) ?_
 refine Qt.o_val rfl (v_bin rfl rfl rfl (b_add (wrap_i64 (by omega) (by omega)))) ?_
 refine Qt.o_val rfl (v_move rfl rfl) ?_
 refine Qt.o_val rfl (v_nil rfl rfl) ?_
 refine Qt.o_val rfl (v_fieldAddr (q := ⟨k, 0, none⟩) rfl rfl Tryz.underlying81 rfl ti34 rfl) ?_
 refine Qt.o_val rfl (v_load1 rfl rfl Tryz.underlying34 rfl (rd_mem 0 rfl rfl)) ?_
 refine Qt.o_val rfl (v_len rfl rfl Tryz.underlying34) ?_
 refine Qt.o_val rfl (v_bin rfl rfl rfl b_lss) ?_
 refine Qt.l_nil ?_
 refine q_then ?_
 refine c_cond rfl (fun h1 => ?_) (fun h1 => ?_)
 · -- h1T
  try simp only [decide_eq_true_eq, decide_eq_false_iff_not, Bool.not_eq_eq_eq_not, Bool.not_true, Bool.not_false, Bool.not_eq_true', Bool.not_eq_false', Int.not_lt, Int.not_le, Bool.or_eq_true, Bool.and_eq_true] at h1
  refine c_skip ?_
  refine q_then ?_
  refine c_seq ?_
  refine c_block ?_
  refine c_seq ?_
  refine c_fact (p := ∃ ad, a = some ad) (rds_some (e := e8) (xs := xs) (rds_old hs) (by intro h0; rw [h0] at h1; simp at h1; omega)) ?_
  rintro ⟨adB, eadB⟩
  refine c_quiet (by kernel_rfl) (by kernel_rfl) ?_
  refine Qt.o_val rfl (v_move rfl rfl) ?_
  refine Qt.o_val rfl (v_nil rfl rfl) ?_
  refine Qt.o_val rfl (v_fieldAddr (q := ⟨k, 0, none⟩) rfl rfl Tryz.underlying81 rfl ti34 rfl) ?_
  refine Qt.o_val rfl (v_load1 rfl rfl Tryz.underlying34 rfl (rd_mem 0 rfl rfl)) ?_
  refine Qt.o_val rfl (v_move rfl rfl) ?_
  refine Qt.o_val rfl (v_nil rfl rfl) ?_
  refine Qt.o_val rfl (v_fieldAddr (q := ⟨k, 1, none⟩) rfl rfl Tryz.underlying81 rfl ti3 rfl) ?_
  refine Qt.o_val rfl (v_load1 rfl rfl Tryz.underlying3 rfl (rd_mem 0 rfl rfl)) ?_
  refine Qt.o_val rfl (v_move rfl rfl) ?_
  refine Qt.o_val rfl (v_bin rfl rfl rfl (b_add (wrap_i64 (by omega) (by omega)))) ?_
  refine Qt.o_val rfl (v_indexK e8_ok eadB rfl rfl rfl Tryz.underlying34 (by omega) (by omega)) ?_
  obtain ⟨x32, hx32⟩ : ∃ x, (xs)[(((i : Int) + (j : Int))).toNat]? = some x := ⟨_, List.getElem?_eq_getElem (by omega)⟩
  have hx32' : xs[i + j]? = some x32 := by rw [← hx32]; congr 1
  rw [drop_get hx32'] at hq
  have hxl := x32.toNat_lt
  refine Qt.o_val rfl (v_load1 rfl rfl Tryz.underlying5 rfl (rd_sl0 e8_ok eadB (rds_old hs) hx32 rfl)) ?_
  refine Qt.o_val rfl (v_int rfl rfl Tryz.underlying5 Tryz.underlying22 (cu64 _)) ?_
  refine Qt.o_val rfl (v_assign rfl rfl) ?_
  refine Qt.l_nil ?_
  refine q_then ?_
  refine c_seq ?_
  refine c_seq ?_
  refine c_region ?_
  refine o_move rfl rfl ?_
  refine o_bin rfl rfl rfl b_eql ?_
  refine o_move rfl rfl ?_
  refine l_split (t := 37) rfl (fun h2 => ?_) (fun h2 => ?_)
  · -- h2T
   try simp only [decide_eq_true_eq, decide_eq_false_iff_not, Bool.not_eq_eq_eq_not, Bool.not_true, Bool.not_false, Bool.not_eq_true', Bool.not_eq_false', Int.not_lt, Int.not_le, Bool.or_eq_true, Bool.and_eq_true] at h2
   refine o_yes rfl rfl rfl ?_
   refine o_move rfl rfl ?_
   refine o_yes rfl rfl rfl ?_
   refine o_bin rfl rfl rfl b_gtr ?_
   refine o_pick_true rfl rfl rfl ?_
   refine l_nil ?_
   refine q_then ?_
   refine c_cond rfl (fun h3 => ?_) (fun h3 => ?_)
   · -- h3T
    try simp only [decide_eq_true_eq, decide_eq_false_iff_not, Bool.not_eq_eq_eq_not, Bool.not_true, Bool.not_false, Bool.not_eq_true', Bool.not_eq_false', Int.not_lt, Int.not_le, Bool.or_eq_true, Bool.and_eq_true] at h3
    refine c_seq ?_
    have hres : numR 0 0 ys = (0, 31, 0) := by rw [hq]; exact numR_bad (by omega) (by omega)
    refine c_region ?_
    refine o_assign rfl rfl ?_
    refine o_assign rfl rfl ?_
    refine l_nil ?_
    refine q_then ?_
    refine c_ret ?_
    refine q_pass_ret ?_
    refine q_block_ret ?_
    refine q_pass_ret ?_
    refine q_pass_ret ?_
    refine q_block_ret ?_
    refine q_pass_ret ?_
    exact f_ret (r_two rfl rfl rfl) (⟨by rw [hres]; rfl, by (rw [hres]; first | done | rfl)⟩) (fun w S => S)
   · -- h3F
    try simp only [decide_eq_true_eq, decide_eq_false_iff_not, Bool.not_eq_eq_eq_not, Bool.not_true, Bool.not_false, Bool.not_eq_true', Bool.not_eq_false', Int.not_lt, Int.not_le, Bool.or_eq_true, Bool.and_eq_true] at h3
    refine c_skip ?_
    refine q_then ?_
    refine c_seq ?_
    refine c_region ?_
    have hnb : ¬ (j = 9 ∧ 1 < x32.toNat) := by omega
    refine o_move rfl rfl ?_
    refine o_move rfl rfl ?_
    refine o_bin rfl rfl rfl (b_rem (by omega) (tmod128b x32)) ?_
    refine o_move rfl rfl ?_
    refine o_bin rfl rfl rfl (b_mul (mul7 hj9 hnb)) ?_
    refine o_bin rfl rfl rfl (b_add (add7 hj9 hn hnb)) ?_
    refine o_assign rfl rfl ?_
    refine l_nil ?_
    refine q_then ?_
    refine c_seq ?_
    refine c_region ?_
    refine o_move rfl rfl ?_
    refine o_bin rfl rfl rfl (b_mul rfl) ?_
    refine o_assign rfl rfl ?_
    refine l_nil ?_
    refine q_then ?_
    refine c_seq ?_
    refine c_region ?_
    refine o_move rfl rfl ?_
    refine o_bin rfl rfl rfl b_lss ?_
    refine l_nil ?_
    refine q_then ?_
    refine c_cond rfl (fun h4 => ?_) (fun h4 => ?_)
    · -- h4T
     try simp only [decide_eq_true_eq, decide_eq_false_iff_not, Bool.not_eq_eq_eq_not, Bool.not_true, Bool.not_false, Bool.not_eq_true', Bool.not_eq_false', Int.not_lt, Int.not_le, Bool.or_eq_true, Bool.and_eq_true] at h4
     refine c_seq ?_
     refine c_seq ?_
     refine c_region ?_
     refine o_move rfl rfl ?_
     refine o_bin rfl rfl rfl b_eql ?_
     refine o_move rfl rfl ?_
     refine l_split (t := 53) rfl (fun h5 => ?_) (fun h5 => ?_)
     · -- h5T
      try simp only [decide_eq_true_eq, decide_eq_false_iff_not, Bool.not_eq_eq_eq_not, Bool.not_true, Bool.not_false, Bool.not_eq_true', Bool.not_eq_false', Int.not_lt, Int.not_le, Bool.or_eq_true, Bool.and_eq_true] at h5
      refine o_yes rfl rfl rfl ?_
      refine o_move rfl rfl ?_
      refine o_yes rfl rfl rfl ?_
      refine o_bin rfl rfl rfl b_gtr ?_
      refine o_pick_true rfl rfl rfl ?_
      refine l_nil ?_
      refine q_then ?_
      refine c_cond rfl (fun h6 => ?_) (fun h6 => ?_)
      · -- h6T
       try simp only [decide_eq_true_eq, decide_eq_false_iff_not, Bool.not_eq_eq_eq_not, Bool.not_true, Bool.not_false, Bool.not_eq_true', Bool.not_eq_false', Int.not_lt, Int.not_le, Bool.or_eq_true, Bool.and_eq_true] at h6
       refine c_seq ?_
       have hres : numR 0 0 ys = (0, 31, 0) := by rw [hq]; exact numR_zero (by omega) (by omega) (by omega)
       refine c_region ?_
       refine o_assign rfl rfl ?_
       refine o_assign rfl rfl ?_
       refine l_nil ?_
       refine q_then ?_
       refine c_ret ?_
       refine q_pass_ret ?_
       refine q_block_ret ?_
       refine q_pass_ret ?_
       refine q_pass_ret ?_
       refine q_block_ret ?_
       refine q_pass_ret ?_
       exact f_ret (r_two rfl rfl rfl) (⟨by rw [hres]; rfl, by (rw [hres]; first | done | rfl)⟩) (fun w S => S)
      · -- h6F
       try simp only [decide_eq_true_eq, decide_eq_false_iff_not, Bool.not_eq_eq_eq_not, Bool.not_true, Bool.not_false, Bool.not_eq_true', Bool.not_eq_false', Int.not_lt, Int.not_le, Bool.or_eq_true, Bool.and_eq_true] at h6
       refine c_skip ?_
       refine q_then ?_
       refine c_seq ?_
       have hres : numR 0 0 ys = (n + x32.toNat % 128 * 128 ^ j, 0, j + 1) := by rw [hq]; exact numR_end hnb (by omega) (by omega)
       have hadd : ((i : Int) + ((j : Int) + 1)) = ((i + (j + 1) : Nat) : Int) := by omega
       refine c_region ?_
       refine o_move rfl rfl ?_
       refine o_nil rfl rfl ?_
       refine o_fieldAddr (q := ⟨k, 1, none⟩) rfl rfl Tryz.underlying81 rfl ti3 rfl ?_
       refine o_load1 rfl rfl Tryz.underlying3 rfl (rd_mem 0 rfl rfl) ?_
       refine o_move rfl rfl ?_
       refine o_bin rfl rfl rfl (b_add (wrap_i64 (by omega) (by omega))) ?_
       refine o_bin rfl rfl rfl (b_add (wrap_i64 (by omega) (by omega))) ?_
       refine o_nil rfl rfl ?_
       refine o_fieldAddr (q := ⟨k, 1, none⟩) rfl rfl Tryz.underlying81 rfl ti3 rfl ?_
       refine o_store1 rfl rfl rfl ti3 rfl rfl ?_
       refine l_nil ?_
       refine q_then ?_
       refine c_seq ?_
       refine c_region ?_
       refine o_move rfl rfl ?_
       refine o_assign rfl rfl ?_
       refine o_assign rfl rfl ?_
       refine l_nil ?_
       refine q_then ?_
       refine c_ret ?_
       refine q_block_ret ?_
       refine q_pass_ret ?_
       refine q_pass_ret ?_
       refine q_block_ret ?_
       refine q_pass_ret ?_
       exact f_ret (r_two rfl rfl rfl) (⟨by rw [hres]; rfl, by (rw [hres]; first | done | rfl)⟩) (fun w S => by rw [hadd] at S; exact S)
     · -- h5F
      try simp only [decide_eq_true_eq, decide_eq_false_iff_not, Bool.not_eq_eq_eq_not, Bool.not_true, Bool.not_false, Bool.not_eq_true', Bool.not_eq_false', Int.not_lt, Int.not_le, Bool.or_eq_true, Bool.and_eq_true] at h5
      refine o_no rfl rfl rfl rfl ?_
      refine o_no rfl rfl rfl rfl ?_
      refine o_pick_false rfl rfl rfl ?_
      refine l_nil ?_
      refine q_then ?_
      refine c_false rfl ?_
      refine c_skip ?_
      refine q_then ?_
      refine c_seq ?_
      have hres : numR 0 0 ys = (n + x32.toNat % 128 * 128 ^ j, 0, j + 1) := by rw [hq]; exact numR_end hnb (by omega) (by omega)
      have hadd : ((i : Int) + ((j : Int) + 1)) = ((i + (j + 1) : Nat) : Int) := by omega
      refine c_region ?_
      refine o_move rfl rfl ?_
      refine o_nil rfl rfl ?_
      refine o_fieldAddr (q := ⟨k, 1, none⟩) rfl rfl Tryz.underlying81 rfl ti3 rfl ?_
      refine o_load1 rfl rfl Tryz.underlying3 rfl (rd_mem 0 rfl rfl) ?_
      refine o_move rfl rfl ?_
      refine o_bin rfl rfl rfl (b_add (wrap_i64 (by omega) (by omega))) ?_
      refine o_bin rfl rfl rfl (b_add (wrap_i64 (by omega) (by omega))) ?_
      refine o_nil rfl rfl ?_
      refine o_fieldAddr (q := ⟨k, 1, none⟩) rfl rfl Tryz.underlying81 rfl ti3 rfl ?_
      refine o_store1 rfl rfl rfl ti3 rfl rfl ?_
      refine l_nil ?_
      refine q_then ?_
      refine c_seq ?_
      refine c_region ?_
      refine o_move rfl rfl ?_
      refine o_assign rfl rfl ?_
      refine o_assign rfl rfl ?_
      refine l_nil ?_
      refine q_then ?_
      refine c_ret ?_
      refine q_block_ret ?_
      refine q_pass_ret ?_
      refine q_pass_ret ?_
      refine q_block_ret ?_
      refine q_pass_ret ?_
      exact f_ret (r_two rfl rfl rfl) (⟨by rw [hres]; rfl, by (rw [hres]; first | done | rfl)⟩) (fun w S => by rw [hadd] at S; exact S)
    · -- h4F
     try simp only [decide_eq_true_eq, decide_eq_false_iff_not, Bool.not_eq_eq_eq_not, Bool.not_true, Bool.not_false, Bool.not_eq_true', Bool.not_eq_false', Int.not_lt, Int.not_le, Bool.or_eq_true, Bool.and_eq_true] at h4
     refine c_skip ?_
     refine q_block ?_
     refine q_then ?_
     refine c_region ?_
     refine o_move rfl rfl ?_
     refine o_bin rfl rfl rfl (b_add (wrap_i64 (by omega) (by omega))) ?_
     refine o_assign rfl rfl ?_
     refine l_nil ?_
     exact q_round (j + 1, n + x32.toNat % 128 * 128 ^ j) (by exact ⟨by rw [hq, numR_on hnb (by omega)]; rfl, by omega, numR_next hn, by omega⟩) (by (try dsimp only); omega) ⟨(by first | rfl | exact vint (by omega)), (by first | rfl | exact vint (by omega)), (vint (weight7 (by omega))), (by first | rfl | exact vint (by omega)), trivial⟩ (fun w S => S)
  · -- h2F
   try simp only [decide_eq_true_eq, decide_eq_false_iff_not, Bool.not_eq_eq_eq_not, Bool.not_true, Bool.not_false, Bool.not_eq_true', Bool.not_eq_false', Int.not_lt, Int.not_le, Bool.or_eq_true, Bool.and_eq_true] at h2
   refine o_no rfl rfl rfl rfl ?_
   refine o_no rfl rfl rfl rfl ?_
   refine o_pick_false rfl rfl rfl ?_
   refine l_nil ?_
   refine q_then ?_
   refine c_false rfl ?_
   refine c_skip ?_
   refine q_then ?_
   refine c_seq ?_
   refine c_region ?_
   have hnb : ¬ (j = 9 ∧ 1 < x32.toNat) := by omega
   refine o_move rfl rfl ?_
   refine o_move rfl rfl ?_
   refine o_bin rfl rfl rfl (b_rem (by omega) (tmod128b x32)) ?_
   refine o_move rfl rfl ?_
   refine o_bin rfl rfl rfl (b_mul (mul7 hj9 hnb)) ?_
   refine o_bin rfl rfl rfl (b_add (add7 hj9 hn hnb)) ?_
   refine o_assign rfl rfl ?_
   refine l_nil ?_
   refine q_then ?_
   refine c_seq ?_
   refine c_region ?_
   refine o_move rfl rfl ?_
   refine o_bin rfl rfl rfl (b_mul rfl) ?_
   refine o_assign rfl rfl ?_
   refine l_nil ?_
   refine q_then ?_
   refine c_seq ?_
   refine c_region ?_
   refine o_move rfl rfl ?_
   refine o_bin rfl rfl rfl b_lss ?_
   refine l_nil ?_
   refine q_then ?_
   refine c_cond rfl (fun h7 => ?_) (fun h7 => ?_)
   · -- h7T
    try simp only [decide_eq_true_eq, decide_eq_false_iff_not, Bool.not_eq_eq_eq_not, Bool.not_true, Bool.not_false, Bool.not_eq_true', Bool.not_eq_false', Int.not_lt, Int.not_le, Bool.or_eq_true, Bool.and_eq_true] at h7
    refine c_seq ?_
    refine c_seq ?_
    refine c_region ?_
    refine o_move rfl rfl ?_
    refine o_bin rfl rfl rfl b_eql ?_
    refine o_move rfl rfl ?_
    refine l_split (t := 53) rfl (fun h8 => ?_) (fun h8 => ?_)
    · -- h8T
     try simp only [decide_eq_true_eq, decide_eq_false_iff_not, Bool.not_eq_eq_eq_not, Bool.not_true, Bool.not_false, Bool.not_eq_true', Bool.not_eq_false', Int.not_lt, Int.not_le, Bool.or_eq_true, Bool.and_eq_true] at h8
     refine o_yes rfl rfl rfl ?_
     refine o_move rfl rfl ?_
     refine o_yes rfl rfl rfl ?_
     refine o_bin rfl rfl rfl b_gtr ?_
     refine o_pick_true rfl rfl rfl ?_
     refine l_nil ?_
     refine q_then ?_
     refine c_cond rfl (fun h9 => ?_) (fun h9 => ?_)
     · -- h9T
      try simp only [decide_eq_true_eq, decide_eq_false_iff_not, Bool.not_eq_eq_eq_not, Bool.not_true, Bool.not_false, Bool.not_eq_true', Bool.not_eq_false', Int.not_lt, Int.not_le, Bool.or_eq_true, Bool.and_eq_true] at h9
      refine c_seq ?_
      have hres : numR 0 0 ys = (0, 31, 0) := by rw [hq]; exact numR_zero (by omega) (by omega) (by omega)
      refine c_region ?_
      refine o_assign rfl rfl ?_
      refine o_assign rfl rfl ?_
      refine l_nil ?_
      refine q_then ?_
      refine c_ret ?_
      refine q_pass_ret ?_
      refine q_block_ret ?_
      refine q_pass_ret ?_
      refine q_pass_ret ?_
      refine q_block_ret ?_
      refine q_pass_ret ?_
      exact f_ret (r_two rfl rfl rfl) (⟨by rw [hres]; rfl, by (rw [hres]; first | done | rfl)⟩) (fun w S => S)
     · -- h9F
      try simp only [decide_eq_true_eq, decide_eq_false_iff_not, Bool.not_eq_eq_eq_not, Bool.not_true, Bool.not_false, Bool.not_eq_true', Bool.not_eq_false', Int.not_lt, Int.not_le, Bool.or_eq_true, Bool.and_eq_true] at h9
      refine c_skip ?_
      refine q_then ?_
      refine c_seq ?_
      have hres : numR 0 0 ys = (n + x32.toNat % 128 * 128 ^ j, 0, j + 1) := by rw [hq]; exact numR_end hnb (by omega) (by omega)
      have hadd : ((i : Int) + ((j : Int) + 1)) = ((i + (j + 1) : Nat) : Int) := by omega
      refine c_region ?_
      refine o_move rfl rfl ?_
      refine o_nil rfl rfl ?_
      refine o_fieldAddr (q := ⟨k, 1, none⟩) rfl rfl Tryz.underlying81 rfl ti3 rfl ?_
      refine o_load1 rfl rfl Tryz.underlying3 rfl (rd_mem 0 rfl rfl) ?_
      refine o_move rfl rfl ?_
      refine o_bin rfl rfl rfl (b_add (wrap_i64 (by omega) (by omega))) ?_
      refine o_bin rfl rfl rfl (b_add (wrap_i64 (by omega) (by omega))) ?_
      refine o_nil rfl rfl ?_
      refine o_fieldAddr (q := ⟨k, 1, none⟩) rfl rfl Tryz.underlying81 rfl ti3 rfl ?_
      refine o_store1 rfl rfl rfl ti3 rfl rfl ?_
      refine l_nil ?_
      refine q_then ?_
      refine c_seq ?_
      refine c_region ?_
      refine o_move rfl rfl ?_
      refine o_assign rfl rfl ?_
      refine o_assign rfl rfl ?_
      refine l_nil ?_
      refine q_then ?_
      refine c_ret ?_
      refine q_block_ret ?_
      refine q_pass_ret ?_
      refine q_pass_ret ?_
      refine q_block_ret ?_
      refine q_pass_ret ?_
      exact f_ret (r_two rfl rfl rfl) (⟨by rw [hres]; rfl, by (rw [hres]; first | done | rfl)⟩) (fun w S => by rw [hadd] at S; exact S)
    · -- h8F
     try simp only [decide_eq_true_eq, decide_eq_false_iff_not, Bool.not_eq_eq_eq_not, Bool.not_true, Bool.not_false, Bool.not_eq_true', Bool.not_eq_false', Int.not_lt, Int.not_le, Bool.or_eq_true, Bool.and_eq_true] at h8
     refine o_no rfl rfl rfl rfl ?_
     refine o_no rfl rfl rfl rfl ?_
     refine o_pick_false rfl rfl rfl ?_
     refine l_nil ?_
     refine q_then ?_
     refine c_false rfl ?_
     refine c_skip ?_
     refine q_then ?_
     refine c_seq ?_
     have hres : numR 0 0 ys = (n + x32.toNat % 128 * 128 ^ j, 0, j + 1) := by rw [hq]; exact numR_end hnb (by omega) (by omega)
     have hadd : ((i : Int) + ((j : Int) + 1)) = ((i + (j + 1) : Nat) : Int) := by omega
     refine c_region ?_
     refine o_move rfl rfl ?_
     refine o_nil rfl rfl ?_
     refine o_fieldAddr (q := ⟨k, 1, none⟩) rfl rfl Tryz.underlying81 rfl ti3 rfl ?_
     refine o_load1 rfl rfl Tryz.underlying3 rfl (rd_mem 0 rfl rfl) ?_
     refine o_move rfl rfl ?_
     refine o_bin rfl rfl rfl (b_add (wrap_i64 (by omega) (by omega))) ?_
     refine o_bin rfl rfl rfl (b_add (wrap_i64 (by omega) (by omega))) ?_
     refine o_nil rfl rfl ?_
     refine o_fieldAddr (q := ⟨k, 1, none⟩) rfl rfl Tryz.underlying81 rfl ti3 rfl ?_
     refine o_store1 rfl rfl rfl ti3 rfl rfl ?_
     refine l_nil ?_
     refine q_then ?_
     refine c_seq ?_
     refine c_region ?_
     refine o_move rfl rfl ?_
     refine o_assign rfl rfl ?_
     refine o_assign rfl rfl ?_
     refine l_nil ?_
     refine q_then ?_
     refine c_ret ?_
     refine q_block_ret ?_
     refine q_pass_ret ?_
     refine q_pass_ret ?_
     refine q_block_ret ?_
     refine q_pass_ret ?_
     exact f_ret (r_two rfl rfl rfl) (⟨by rw [hres]; rfl, by (rw [hres]; first | done | rfl)⟩) (fun w S => by rw [hadd] at S; exact S)
   · -- h7F
    try simp only [decide_eq_true_eq, decide_eq_false_iff_not, Bool.not_eq_eq_eq_not, Bool.not_true, Bool.not_false, Bool.not_eq_true', Bool.not_eq_false', Int.not_lt, Int.not_le, Bool.or_eq_true, Bool.and_eq_true] at h7
    refine c_skip ?_
    refine q_block ?_
    refine q_then ?_
    refine c_region ?_
    refine o_move rfl rfl ?_
    refine o_bin rfl rfl rfl (b_add (wrap_i64 (by omega) (by omega))) ?_
    refine o_assign rfl rfl ?_
    refine l_nil ?_
    exact q_round (j + 1, n + x32.toNat % 128 * 128 ^ j) (by exact ⟨by rw [hq, numR_on hnb (by omega)]; rfl, by omega, numR_next hn, by omega⟩) (by (try dsimp only); omega) ⟨(by first | rfl | exact vint (by omega)), (by first | rfl | exact vint (by omega)), (vint (weight7 (by omega))), (by first | rfl | exact vint (by omega)), trivial⟩ (fun w S => S)
 · -- h1F
  try simp only [decide_eq_true_eq, decide_eq_false_iff_not, Bool.not_eq_eq_eq_not, Bool.not_true, Bool.not_false, Bool.not_eq_true', Bool.not_eq_false', Int.not_lt, Int.not_le, Bool.or_eq_true, Bool.and_eq_true] at h1
  refine c_exit ?_
  refine q_pass_exit ?_
  refine q_pass_exit ?_
  refine q_hit ?_
  refine q_then ?_
  refine c_seq ?_
  refine c_region ?_
  refine o_assign rfl rfl ?_
  refine o_assign rfl rfl ?_
  refine l_nil ?_
  refine q_then ?_
  refine c_ret ?_
  exact f_ret (r_two rfl rfl rfl) (⟨by rw [hq, List.drop_of_length_le (by omega), numR]; rfl, by rw [hq, List.drop_of_length_le (by omega), numR]; rfl⟩) (fun w S => S)
theorem rEyeEnd {W : World} {F : List Res} {k i : Nat} {xs ys : List UInt8} {a : Option Addr} {c : Nat} {bd : Bool} (hs : SlR W e8 a xs) (hy : ys = xs.drop i) (hil : i ≤ xs.length) (hsm : xs.length ≤ 70000000000000) (hcc : xs.length ≤ c) : CS Tryz.prog 31 #[.pointer (some ⟨k, 0, none⟩)] W (blk k (.cells #[.slice a (xs).length c, .int .i64 (i : Int), .bool bd] 83 (0, 0)) :: F) (fun r L' => r = .int .i64 (endR ys : Int) ∧ L' = blk k (.cells #[.slice a (xs).length c, .int .i64 (i : Int), .bool bd] 83 (0, 0)) :: F) := by
 have hyl : ys.length = xs.length - i := by rw [hy, List.length_drop]
 refine f_door (l0 := [(0, .pointer (some ⟨k, 0, none⟩))]) Tryz.func31 Tryz.ntmps31 rfl rfl rfl ?_
 refine c_seq ?_
 refine c_region ?_
 refine o_assign rfl rfl ?_
 refine l_nil ?_
 refine q_then ?_
 refine c_seq ?_
 refine c_seq ?_
 refine c_quiet (by kernel_rfl) (by kernel_rfl) ?_
 refine Qt.o_val rfl (v_move rfl rfl) ?_
 refine Qt.o_val rfl (v_nil rfl rfl) ?_
 refine Qt.o_val rfl (v_fieldAddr (q := ⟨k, 1, none⟩) rfl rfl Tryz.underlying81 rfl ti3 rfl) ?_
 refine Qt.o_val rfl (v_load1 rfl rfl Tryz.underlying3 rfl (rd_mem 0 rfl rfl)) ?_
 refine Qt.o_val rfl (v_move rfl rfl) ?_
 refine Qt.o_val rfl (v_nil rfl rfl) ?_
 refine Qt.o_val rfl (v_fieldAddr (q := ⟨k, 0, none⟩) rfl rfl Tryz.underlying81 rfl ti34 rfl) ?_
 refine Qt.o_val rfl (v_load1 rfl rfl Tryz.underlying34 rfl (rd_mem 0 rfl rfl)) ?_
 refine Qt.o_val rfl (v_len rfl rfl Tryz.underlying34) ?_
 refine Qt.o_val rfl (v_bin rfl rfl rfl b_lss) ?_
 refine Qt.l_nil ?_
 refine q_then ?_
 refine c_cond rfl (fun h1 => ?_) (fun h1 => ?_)
 · -- h1T
  try simp only [decide_eq_true_eq, decide_eq_false_iff_not, Bool.not_eq_eq_eq_not, Bool.not_true, Bool.not_false, Bool.not_eq_true', Bool.not_eq_false', Int.not_lt, Int.not_le, Bool.or_eq_true, Bool.and_eq_true] at h1
  refine c_seq ?_
  refine c_region ?_
  refine o_assign rfl rfl ?_
  refine l_nil ?_
  refine q_then ?_
  refine c_ret ?_
  refine q_pass_ret ?_
  exact f_ret (r_one rfl rfl) (⟨by rw [endR, if_pos (by omega)]; rfl, rfl⟩) (fun w S => S)
 · -- h1F
  try simp only [decide_eq_true_eq, decide_eq_false_iff_not, Bool.not_eq_eq_eq_not, Bool.not_true, Bool.not_false, Bool.not_eq_true', Bool.not_eq_false', Int.not_lt, Int.not_le, Bool.or_eq_true, Bool.and_eq_true] at h1
  refine c_skip ?_
  refine q_then ?_
  refine c_seq ?_
  refine c_region ?_
  refine o_assign rfl rfl ?_
  refine l_nil ?_
  refine q_then ?_
  refine c_ret ?_
  exact f_ret (r_one rfl rfl) (⟨by rw [endR, if_neg (by omega)]; rfl, rfl⟩) (fun w S => S)
theorem rEyeText {W : World} {F : List Res} {k i : Nat} {xs ys : List UInt8} {a : Option Addr} {c : Nat} {bd : Bool} (hs : SlR W e8 a xs) (hy : ys = xs.drop i) (hil : i ≤ xs.length) (hsm : xs.length ≤ 70000000000000) (hcc : xs.length ≤ c) : CS Tryz.prog 74 #[.pointer (some ⟨k, 0, none⟩)] W (blk k (.cells #[.slice a (xs).length c, .int .i64 (i : Int), .bool bd] 83 (0, 0)) :: F) (fun r L' => ∃ (out : List UInt8) (a2 : Option Addr) (c2 : Nat), out = (textR ys).1 ∧ r = .tuple #[.slice a2 out.length c2, .int .i64 ((textR ys).2.1 : Int)] ∧ L' = row e8.T e8.sz a2 (out).length c2 (flat e8 out) :: blk k (.cells #[.slice a (xs).length c, .int .i64 ((i + (textR ys).2.2 : Nat) : Int), .bool bd] 83 (0, 0)) :: F) := by
 have hyl : ys.length = xs.length - i := by rw [hy, List.length_drop]
 have hu := numR_used ys 0 0
 refine f_door (l0 := [(0, .pointer (some ⟨k, 0, none⟩))]) Tryz.func74 Tryz.ntmps74 rfl rfl rfl ?_
 refine c_seq ?_
 refine c_region ?_
 refine o_assign rfl rfl ?_
 refine o_assign rfl rfl ?_
 refine l_nil ?_
 refine q_then ?_
 refine c_seq ?_
 refine c_region ?_
 refine o_move rfl rfl ?_
 refine o_nil rfl rfl ?_
 refine o_fieldAddr (q := ⟨k, 1, none⟩) rfl rfl Tryz.underlying81 rfl ti3 rfl ?_
 refine o_load1 rfl rfl Tryz.underlying3 rfl (rd_mem 0 rfl rfl) ?_
 refine o_assign rfl rfl ?_
 refine l_nil ?_
 refine q_then ?_
 refine c_seq ?_
 refine c_region ?_
 refine o_move rfl rfl ?_
 refine o_call rfl cal73 rfl (rEyeNum hs hy hil hsm hcc) ?_
 rintro _ _ ⟨rfl, rfl⟩
 refine o_move rfl rfl ?_
 refine o_extract rfl rfl rfl ?_
 refine o_extract rfl rfl rfl ?_
 refine o_assign rfl rfl ?_
 refine o_assign rfl rfl ?_
 refine l_nil ?_
 refine q_then ?_
 refine c_seq ?_
 refine c_seq ?_
 refine c_region ?_
 refine o_move rfl rfl ?_
 refine o_bin rfl rfl rfl b_neq ?_
 refine l_nil ?_
 refine q_then ?_
 refine c_cond rfl (fun h1 => ?_) (fun h1 => ?_)
 · -- h1T
  try simp only [decide_eq_true_eq, decide_eq_false_iff_not, Bool.not_eq_eq_eq_not, Bool.not_true, Bool.not_false, Bool.not_eq_true', Bool.not_eq_false', Int.not_lt, Int.not_le, Bool.or_eq_true, Bool.and_eq_true] at h1
  refine c_seq ?_
  have htr := textR_err (t := ys) (by omega)
  have hu0 : i + (numR 0 0 ys).2.2 = i + 0 := by omega
  refine c_region ?_
  refine o_lit e8_ok rfl Tryz.underlying34 rfl rfl rfl (lit_ok rfl) ([] : List UInt8) rfl rfl fun a18 => ?_
  refine o_move rfl rfl ?_
  refine o_assign rfl rfl ?_
  refine o_assign rfl rfl ?_
  refine l_nil ?_
  refine q_then ?_
  refine c_ret ?_
  refine q_pass_ret ?_
  exact f_ret (r_two rfl rfl rfl) (⟨[], _, _, by rw [htr], by rw [htr]; rfl, by (rw [htr]; first | done | rfl)⟩) (fun w S => by rw [hu0] at S; exact S)
 · -- h1F
  try simp only [decide_eq_true_eq, decide_eq_false_iff_not, Bool.not_eq_eq_eq_not, Bool.not_true, Bool.not_false, Bool.not_eq_true', Bool.not_eq_false', Int.not_lt, Int.not_le, Bool.or_eq_true, Bool.and_eq_true] at h1
  refine c_skip ?_
  refine q_then ?_
  refine c_seq ?_
  refine c_seq ?_
  refine c_quiet (by kernel_rfl) (by kernel_rfl) ?_
  refine Qt.o_val rfl (v_move rfl rfl) ?_
  refine Qt.o_val rfl (v_move rfl rfl) ?_
  refine Qt.o_val rfl (v_nil rfl rfl) ?_
  refine Qt.o_val rfl (v_fieldAddr (q := ⟨k, 0, none⟩) rfl rfl Tryz.underlying81 rfl ti34 rfl) ?_
  refine Qt.o_val rfl (v_load1 rfl rfl Tryz.underlying34 rfl (rd_mem 0 rfl rfl)) ?_
  refine Qt.o_val rfl (v_len rfl rfl Tryz.underlying34) ?_
  refine Qt.o_val rfl (v_move rfl rfl) ?_
  refine Qt.o_val rfl (v_nil rfl rfl) ?_
  refine Qt.o_val rfl (v_fieldAddr (q := ⟨k, 1, none⟩) rfl rfl Tryz.underlying81 rfl ti3 rfl) ?_
  refine Qt.o_val rfl (v_load1 rfl rfl Tryz.underlying3 rfl (rd_mem 0 rfl rfl)) ?_
  refine Qt.o_val rfl (v_bin rfl rfl rfl (b_sub (wrap_i64 (by omega) (by omega)))) ?_
  refine Qt.o_val rfl (v_int rfl rfl Tryz.underlying3 Tryz.underlying22 (wrap_u64 (by omega) (by omega))) ?_
  refine Qt.o_val rfl (v_bin rfl rfl rfl b_gtr) ?_
  refine Qt.l_nil ?_
  refine q_then ?_
  refine c_cond rfl (fun h2 => ?_) (fun h2 => ?_)
  · -- h2T
   try simp only [decide_eq_true_eq, decide_eq_false_iff_not, Bool.not_eq_eq_eq_not, Bool.not_true, Bool.not_false, Bool.not_eq_true', Bool.not_eq_false', Int.not_lt, Int.not_le, Bool.or_eq_true, Bool.and_eq_true] at h2
   refine c_seq ?_
   have htr := textR_short (t := ys) (by omega) (by omega)
   refine c_region ?_
   refine o_move rfl rfl ?_
   refine o_move rfl rfl ?_
   refine o_nil rfl rfl ?_
   refine o_fieldAddr (q := ⟨k, 1, none⟩) rfl rfl Tryz.underlying81 rfl ti3 rfl ?_
   refine o_store1 rfl rfl rfl ti3 rfl rfl ?_
   refine l_nil ?_
   refine q_then ?_
   refine c_seq ?_
   refine c_region ?_
   refine o_lit e8_ok rfl Tryz.underlying34 rfl rfl rfl (lit_ok rfl) ([] : List UInt8) rfl rfl fun a37 => ?_
   refine o_assign rfl rfl ?_
   refine o_assign rfl rfl ?_
   refine l_nil ?_
   refine q_then ?_
   refine c_ret ?_
   refine q_pass_ret ?_
   exact f_ret (r_two rfl rfl rfl) (⟨[], _, _, by rw [htr], by rw [htr]; rfl, by (rw [htr]; first | done | rfl)⟩) (fun w S => S)
  · -- h2F
   try simp only [decide_eq_true_eq, decide_eq_false_iff_not, Bool.not_eq_eq_eq_not, Bool.not_true, Bool.not_false, Bool.not_eq_true', Bool.not_eq_false', Int.not_lt, Int.not_le, Bool.or_eq_true, Bool.and_eq_true] at h2
   refine c_skip ?_
   refine q_then ?_
   refine c_seq ?_
   have htr := textR_ok (t := ys) (by omega) (by omega)
   have hadd : ((i + (numR 0 0 ys).2.2 : Nat) : Int) + ((numR 0 0 ys).1 : Int) = ((i + ((numR 0 0 ys).2.2 + (numR 0 0 ys).1) : Nat) : Int) := by omega
   refine c_region ?_
   refine o_move rfl rfl ?_
   refine o_nil rfl rfl ?_
   refine o_fieldAddr (q := ⟨k, 1, none⟩) rfl rfl Tryz.underlying81 rfl ti3 rfl ?_
   refine o_load1 rfl rfl Tryz.underlying3 rfl (rd_mem 0 rfl rfl) ?_
   refine o_move rfl rfl ?_
   refine o_int rfl rfl Tryz.underlying22 Tryz.underlying3 (wrap_i64 (by omega) (by omega)) ?_
   refine o_bin rfl rfl rfl (b_add (wrap_i64 (by omega) (by omega))) ?_
   refine o_nil rfl rfl ?_
   refine o_fieldAddr (q := ⟨k, 1, none⟩) rfl rfl Tryz.underlying81 rfl ti3 rfl ?_
   refine o_store1 rfl rfl rfl ti3 rfl rfl ?_
   refine l_nil ?_
   refine q_then ?_
   refine c_seq ?_
   refine c_held [blk k (.cells #[.slice a (xs).length c, _, .bool bd] 83 (0, 0))] (by kernel_rfl) rfl ?_
   refine h_take 1 rfl rfl (by kernel_rfl) (by kernel_rfl) (by kernel_rfl) (fun L0 => v_move rfl rfl) ?_
   refine h_take 2 rfl rfl (by kernel_rfl) (by kernel_rfl) (by kernel_rfl) (fun L0 => v_nil rfl rfl) ?_
   refine h_take 3 rfl rfl (by kernel_rfl) (by kernel_rfl) (by kernel_rfl) (fun L0 => v_fieldAddr (q := ⟨k, 0, none⟩) rfl rfl Tryz.underlying81 rfl ti34 rfl) ?_
   refine h_take 4 rfl rfl (by kernel_rfl) (by kernel_rfl) (by kernel_rfl) (fun L0 => v_load1 rfl rfl Tryz.underlying34 rfl (rd_mem 0 rfl rfl)) ?_
   refine h_take 5 rfl rfl (by kernel_rfl) (by kernel_rfl) (by kernel_rfl) (fun L0 => v_move rfl rfl) ?_
   refine h_take 6 rfl rfl (by kernel_rfl) (by kernel_rfl) (by kernel_rfl) (fun L0 => v_nil rfl rfl) ?_
   refine h_take 7 rfl rfl (by kernel_rfl) (by kernel_rfl) (by kernel_rfl) (fun L0 => v_fieldAddr (q := ⟨k, 1, none⟩) rfl rfl Tryz.underlying81 rfl ti3 rfl) ?_
   refine h_take 8 rfl rfl (by kernel_rfl) (by kernel_rfl) (by kernel_rfl) (fun L0 => v_load1 rfl rfl Tryz.underlying3 rfl (rd_mem 0 rfl rfl)) ?_
   refine h_take 9 rfl rfl (by kernel_rfl) (by kernel_rfl) (by kernel_rfl) (fun L0 => v_move rfl rfl) ?_
   refine h_take 10 rfl rfl (by kernel_rfl) (by kernel_rfl) (by kernel_rfl) (fun L0 => v_int rfl rfl Tryz.underlying22 Tryz.underlying3 (wrap_i64 (by omega) (by omega))) ?_
   refine h_take 11 rfl rfl (by kernel_rfl) (by kernel_rfl) (by kernel_rfl) (fun L0 => v_bin rfl rfl rfl (b_sub (wrap_i64 (by omega) (by omega)))) ?_
   refine h_take 12 rfl rfl (by kernel_rfl) (by kernel_rfl) (by kernel_rfl) (fun L0 => v_move rfl rfl) ?_
   refine h_take 13 rfl rfl (by kernel_rfl) (by kernel_rfl) (by kernel_rfl) (fun L0 => v_nil rfl rfl) ?_
   refine h_take 14 rfl rfl (by kernel_rfl) (by kernel_rfl) (by kernel_rfl) (fun L0 => v_fieldAddr (q := ⟨k, 1, none⟩) rfl rfl Tryz.underlying81 rfl ti3 rfl) ?_
   refine h_take 15 rfl rfl (by kernel_rfl) (by kernel_rfl) (by kernel_rfl) (fun L0 => v_load1 rfl rfl Tryz.underlying3 rfl (rd_mem 0 rfl rfl)) ?_
   refine h_take 16 rfl rfl (by kernel_rfl) (by kernel_rfl) (by kernel_rfl) (fun L0 => v_cut (l' := (i + (numR 0 0 ys).2.2)) (h' := (i + (numR 0 0 ys).2.2 + (numR 0 0 ys).1)) (m := c) rfl rfl Tryz.underlying34 ti5 (.inl ⟨rfl, rfl⟩) (.inr ⟨_, _, rfl, icast rfl (by omega), (by omega)⟩) (.inr ⟨_, _, rfl, icast rfl (by omega), (by omega)⟩)) ?_
   obtain ⟨ys63, ay63, cut63, hys63, hlys63, eay63⟩ : ∃ ys_ ay_, (∀ {L : List Res}, RdS W L e8 a xs → RdS W L e8 ay_ ys_) ∧ ys_ = sub xs (i + (numR 0 0 ys).2.2) (i + (numR 0 0 ys).2.2 + (numR 0 0 ys).1) ∧ ys_.length = (i + (numR 0 0 ys).2.2 + (numR 0 0 ys).1) - (i + (numR 0 0 ys).2.2) ∧ cutA a c (i + (numR 0 0 ys).2.2) 1 = ay_ := ⟨_, _, fun h => rds_cut e8_ok h _ _ _ (by omega), rfl, sub_len (by omega), rfl⟩
   refine h_eq (t := 63) (v' := .slice ay63 ys63.length (c - (i + (numR 0 0 ys).2.2))) rfl (by rw [eay63, hlys63]) ?_
   have hs63 : ys63 = sub ys (numR 0 0 ys).2.2 ((numR 0 0 ys).2.2 + (numR 0 0 ys).1) := by rw [hys63, ← sub_drop ys, hy, List.drop_drop, sub_drop]
   refine h_one 0 rfl (by kernel_rfl) ?_
   refine o_lit e8_ok rfl Tryz.underlying34 rfl rfl rfl (lit_ok rfl) ([] : List UInt8) rfl rfl fun a47 => ?_
   refine l_nil ?_
   refine q_conv (fun w S => S.perm p1) ?_
   refine h_next ?_
   refine h_one 17 rfl (by kernel_rfl) ?_
   refine l_f1 ?_
   refine o_append e8_ok rfl rfl rfl Tryz.underlying34 (cut63 (rds_old hs)) (by show (_ + _) * 1 ≤ _; (try simp only [List.length_append, List.length_cons, List.length_nil]); omega) (by (try simp only [List.length_append, List.length_cons, List.length_nil]); omega) fun a64 c64 => ?_
   refine l_nil ?_
   refine q_conv (fun w S => S.perm p1) ?_
   refine h_next ?_
   refine h_take 18 rfl rfl (by kernel_rfl) (by kernel_rfl) (by kernel_rfl) (fun L0 => v_assign rfl rfl) ?_
   refine h_take 19 rfl rfl (by kernel_rfl) (by kernel_rfl) (by kernel_rfl) (fun L0 => v_assign rfl rfl) ?_
   refine h_done (by kernel_rfl) ?_
   refine q_then ?_
   refine c_ret ?_
   refine q_conv (fun w S => S.perm p1) ?_
   exact f_ret (r_two rfl rfl rfl) (⟨ys63, a64, c64, by rw [htr]; exact hs63, by rw [htr]; rfl, by (rw [htr]; first | done | rfl)⟩) (fun w S => by rw [hadd] at S; exact S)
end
section
set_option linter.unusedVariables false
set_option linter.unusedSimpArgs false
open Go.RowKit Classical
def Short (xs : List ByteArray) (i : Nat) : Prop := ∀ j x, j < i → xs[j]? = some x → 1 ≤ x.size ∧ x.size ≤ 16
def Rises (xs : List ByteArray) (i : Nat) : Prop := ∀ j x y, j + 1 < i → xs[j]? = some x → xs[j + 1]? = some y → slt x y = true
theorem short_0 {xs : List ByteArray} : Short xs 0 := fun j x h => absurd h (by omega)
theorem rises_0 {xs : List ByteArray} {i : Nat} (h : i ≤ 1) : Rises xs i := fun j x y h1 => absurd h1 (by omega)
theorem short_on {xs : List ByteArray} {i : Nat} {x : ByteArray} (h : Short xs i) (hx : xs[i]? = some x) (h1 : 1 ≤ x.size) (h2 : x.size ≤ 16) : Short xs (i + 1) := fun j y hj hy => by
  by_cases hji : j < i
  · exact h j y hji hy
  · obtain rfl : j = i := by omega
    rw [hx] at hy; cases hy; exact ⟨h1, h2⟩
theorem rises_on {xs : List ByteArray} {i : Nat} {x y : ByteArray} (h : Rises xs (i + 1)) (hx : xs[i]? = some x) (hy : xs[i + 1]? = some y) (h1 : slt x y = true) : Rises xs (i + 2) := fun j a b hj ha hb => by
  by_cases hji : j + 1 < i + 1
  · exact h j a b hji ha hb
  · obtain rfl : j = i := by omega
    rw [hx] at ha; rw [hy] at hb; cases ha; cases hb; exact h1
def KeysOk (xs : List ByteArray) : Prop := Short xs xs.length ∧ Rises xs xs.length
/-- declared -/
def Declared (t : Txn) : Prop := t.f_Reads.xs.length ≤ 8 ∧ t.f_Writes.xs.length + t.f_Reads.xs.length ≤ 8 ∧ KeysOk t.f_Reads.xs ∧ KeysOk t.f_Writes.xs ∧ ¬ ∃ k ∈ t.f_Reads.xs, k ∈ t.f_Writes.xs
def StepOk (t : Txn) (o : Op) : Prop := o.f_Value.xs.length ≤ 32 ∧ (o.f_N = 0 ∨ o.f_Kind = 6) ∧
  ((o.f_Kind = 2 ∧ o.f_Key ∈ t.f_Writes.xs) ∨ ((o.f_Kind = 3 ∨ o.f_Kind = 6) ∧ o.f_Key ∈ t.f_Writes.xs ∧ o.f_Value.xs.length = 0) ∨ (o.f_Kind = 4 ∧ (o.f_Key ∈ t.f_Writes.xs ∨ o.f_Key ∈ t.f_Reads.xs)) ∨
    ((o.f_Kind = 1 ∨ o.f_Kind = 5) ∧ (o.f_Key ∈ t.f_Writes.xs ∨ o.f_Key ∈ t.f_Reads.xs) ∧ o.f_Value.xs.length = 0) ∨ (o.f_Kind = 7 ∧ o.f_Key = ByteArray.empty))
def ChkOk (t : Txn) (r : Int) : Prop := 1 ≤ r ∧ r ≤ 3 ∧ Declared t ∧
  ((t.f_Kind = 1 ∧ t.f_To = 0 ∧ t.f_Ops.xs.length ≤ 16 ∧ ¬ ∃ o ∈ t.f_Ops.xs, ¬ StepOk t o) ∨ (t.f_Kind = 2 ∧ t.f_Reads.xs.length = 0 ∧ t.f_Ops.xs.length = 0 ∧ t.f_Writes.xs.length = 1 ∧ 0 ≤ t.f_To ∧ t.f_To < r))
noncomputable def chkN (t : Txn) (r : Int) : Int := if ChkOk t r then 0 else 1
/-- the document's -/
def OpOk (t : Txn) (o : Op) : Prop := o.f_Value.xs.length ≤ 32 ∧ 1 ≤ o.f_Kind ∧ o.f_Kind ≤ 7 ∧
  ((o.f_Kind = 7 ∧ o.f_Key = ByteArray.empty ∧ o.f_N = 0) ∨ (o.f_Kind ≠ 7 ∧ (o.f_Key ∈ t.f_Writes.xs ∨ (o.f_Key ∈ t.f_Reads.xs ∧ o.f_Kind ≠ 2 ∧ o.f_Kind ≠ 3 ∧ o.f_Kind ≠ 6)) ∧ (o.f_Kind = 6 ∨ o.f_N = 0) ∧ (o.f_Kind = 2 ∨ o.f_Kind = 4 ∨ o.f_Value.xs.length = 0)))
def AllKeys (t : Txn) (i : Nat) : Prop := ∀ j x, j < i → (t.f_Reads.xs ++ t.f_Writes.xs)[j]? = some x → 1 ≤ x.size ∧ x.size ≤ 16 ∧ (j < t.f_Reads.xs.length → ¬ x ∈ t.f_Writes.xs)
def OpsTo (t : Txn) (i : Nat) : Prop := ∀ j o, j < i → t.f_Ops.xs[j]? = some o → OpOk t o
def RightOk (t : Txn) (r : Int) : Prop := 1 ≤ r ∧ r ≤ 3 ∧ Rises t.f_Reads.xs t.f_Reads.xs.length ∧ Rises t.f_Writes.xs t.f_Writes.xs.length ∧ t.f_Reads.xs.length ≤ 8 ∧ t.f_Writes.xs.length ≤ 8 ∧ t.f_Reads.xs.length + t.f_Writes.xs.length ≤ 8 ∧
  AllKeys t (t.f_Reads.xs.length + t.f_Writes.xs.length) ∧
  ((t.f_Kind = 2 ∧ t.f_Reads.xs.length = 0 ∧ t.f_Ops.xs.length = 0 ∧ t.f_Writes.xs.length = 1 ∧ 0 ≤ t.f_To ∧ t.f_To < r) ∨ (t.f_Kind = 1 ∧ t.f_To = 0 ∧ t.f_Ops.xs.length ≤ 16 ∧ OpsTo t t.f_Ops.xs.length))
theorem allKeys_on {t : Txn} {i : Nat} {x : ByteArray} (h : AllKeys t i) (hx : (t.f_Reads.xs ++ t.f_Writes.xs)[i]? = some x) (h1 : 1 ≤ x.size) (h2 : x.size ≤ 16) (h3 : i < t.f_Reads.xs.length → ¬ x ∈ t.f_Writes.xs) : AllKeys t (i + 1) := fun j y hj hy => by
  by_cases hji : j < i
  · exact h j y hji hy
  · obtain rfl : j = i := by omega
    rw [hx] at hy; cases hy; exact ⟨h1, h2, h3⟩
theorem opsTo_on {t : Txn} {i : Nat} {o : Op} (h : OpsTo t i) (hx : t.f_Ops.xs[i]? = some o) (h1 : OpOk t o) : OpsTo t (i + 1) := fun j y hj hy => by
  by_cases hji : j < i
  · exact h j y hji hy
  · obtain rfl : j = i := by omega
    rw [hx] at hy; cases hy; exact h1
theorem opOk_iff (t : Txn) (o : Op) : OpOk t o ↔ StepOk t o := by
  unfold OpOk StepOk
  by_cases h1 : o.f_Kind = 1 <;> by_cases h2 : o.f_Kind = 2 <;> by_cases h3 : o.f_Kind = 3 <;> by_cases h4 : o.f_Kind = 4 <;> by_cases h5 : o.f_Kind = 5 <;> by_cases h6 : o.f_Kind = 6 <;> by_cases h7 : o.f_Kind = 7 <;>
    first
    | (exfalso; omega)
    | (constructor
       · rintro ⟨a, b, c, d⟩; grind
       · rintro ⟨a, b, c⟩; grind)
theorem right_iff (t : Txn) (r : Int) : RightOk t r ↔ ChkOk t r := by
  constructor
  · rintro ⟨a, b, c, d, e, f, g, h, i⟩
    have hs : KeysOk t.f_Reads.xs ∧ KeysOk t.f_Writes.xs ∧ ¬ ∃ k ∈ t.f_Reads.xs, k ∈ t.f_Writes.xs := by
      refine ⟨⟨fun j x hj hx => ?_, c⟩, ⟨fun j x hj hx => ?_, d⟩, ?_⟩
      · have := h j x (by omega) (by rw [List.getElem?_append_left hj]; exact hx); exact ⟨this.1, this.2.1⟩
      · have := h (t.f_Reads.xs.length + j) x (by omega) (by rw [List.getElem?_append_right (by omega), Nat.add_sub_cancel_left]; exact hx); exact ⟨this.1, this.2.1⟩
      · rintro ⟨k, hk1, hk2⟩
        obtain ⟨j, hj, rfl⟩ := List.mem_iff_getElem.1 hk1
        exact (h j _ (by omega) (by rw [List.getElem?_append_left hj]; exact List.getElem?_eq_getElem hj)).2.2 hj hk2
    refine ⟨a, b, ⟨e, by omega, hs.1, hs.2.1, hs.2.2⟩, ?_⟩
    rcases i with i | ⟨i1, i2, i3, i4⟩
    · exact .inr i
    · refine .inl ⟨i1, i2, i3, ?_⟩
      rintro ⟨o, ho, hn⟩
      obtain ⟨j, hj, rfl⟩ := List.mem_iff_getElem.1 ho
      exact hn ((opOk_iff t _).1 (i4 j _ hj (List.getElem?_eq_getElem hj)))
  · rintro ⟨a, b, ⟨c1, c2, ⟨c3, c4⟩, ⟨c5, c6⟩, c7⟩, d⟩
    refine ⟨a, b, c4, c6, c1, by omega, by omega, fun j x hj hx => ?_, ?_⟩
    · by_cases hjr : j < t.f_Reads.xs.length
      · rw [List.getElem?_append_left hjr] at hx
        have := c3 j x hjr hx
        exact ⟨this.1, this.2, fun _ hm => c7 ⟨x, List.mem_of_getElem? hx, hm⟩⟩
      · rw [List.getElem?_append_right (by omega)] at hx
        have := c5 _ x (by omega) hx
        exact ⟨this.1, this.2, fun h9 => absurd h9 hjr⟩
    · rcases d with ⟨d1, d2, d3, d4⟩ | d
      · exact .inr ⟨d1, d2, d3, fun j o hj ho => (opOk_iff t o).2 (Classical.byContradiction fun hn => d4 ⟨o, List.mem_of_getElem? ho, hn⟩)⟩
      · exact .inl d
/-- one and the same -/
def SameOp (x y : Op) : Prop := x.f_Kind = y.f_Kind ∧ x.f_Key = y.f_Key ∧ x.f_N = y.f_N ∧ x.f_Value.xs = y.f_Value.xs
def SameOps (xs ys : List Op) (i : Nat) : Prop := ∀ j x y, j < i → xs[j]? = some x → ys[j]? = some y → SameOp x y
def SameT (a b : Txn) : Prop := a.f_Kind = b.f_Kind ∧ a.f_To = b.f_To ∧ a.f_Reads.xs = b.f_Reads.xs ∧ a.f_Writes.xs = b.f_Writes.xs ∧ a.f_Ops.xs.length = b.f_Ops.xs.length ∧ SameOps a.f_Ops.xs b.f_Ops.xs a.f_Ops.xs.length
theorem sameOps_0 {xs ys : List Op} : SameOps xs ys 0 := fun j x y h => absurd h (by omega)
theorem sameOps_on {xs ys : List Op} {i : Nat} {x y : Op} (h : SameOps xs ys i) (hx : xs[i]? = some x) (hy : ys[i]? = some y) (h1 : SameOp x y) : SameOps xs ys (i + 1) := fun j a b hj ha hb => by
  by_cases hji : j < i
  · exact h j a b hji ha hb
  · obtain rfl : j = i := by omega
    rw [hx] at ha; rw [hy] at hb; cases ha; cases hb; exact h1
theorem chk_same {a b : Txn} (h : SameT a b) (r : Int) : ChkOk a r ↔ ChkOk b r := by
  obtain ⟨h1, h2, h3, h4, h5, h6⟩ := h
  have hd : Declared a ↔ Declared b := by unfold Declared; rw [h3, h4]
  have hst : ∀ x y, SameOp x y → (StepOk a x ↔ StepOk b y) := fun x y ⟨e1, e2, e3, e4⟩ => by unfold StepOk; rw [e1, e2, e3, e4, h3, h4]
  have ho : (∃ o ∈ a.f_Ops.xs, ¬ StepOk a o) ↔ ∃ o ∈ b.f_Ops.xs, ¬ StepOk b o := by
    constructor
    · rintro ⟨o, ho, hn⟩
      obtain ⟨j, hj, rfl⟩ := List.mem_iff_getElem.1 ho
      refine ⟨b.f_Ops.xs[j], List.getElem_mem _, fun h9 => hn ((hst _ _ (h6 j _ _ hj (List.getElem?_eq_getElem hj) (List.getElem?_eq_getElem (by omega)))).2 h9)⟩
    · rintro ⟨o, ho, hn⟩
      obtain ⟨j, hj, rfl⟩ := List.mem_iff_getElem.1 ho
      refine ⟨a.f_Ops.xs[j], List.getElem_mem _, fun h9 => hn ((hst _ _ (h6 j _ _ (by omega) (List.getElem?_eq_getElem (by omega)) (List.getElem?_eq_getElem hj))).1 h9)⟩
  unfold ChkOk
  rw [h1, h2, h3, h4, h5, hd, ho]
structure TxLen (t : Txn) : Prop where
  lr : t.f_Reads.xs.length ≤ 9223372036854775807
  lw : t.f_Writes.xs.length ≤ 9223372036854775807
  lo : t.f_Ops.xs.length ≤ 9223372036854775807
  lv : ∀ o ∈ t.f_Ops.xs, o.f_Value.xs.length ≤ 9223372036854775807
theorem TxLen.same {a b : Txn} (h : TxLen b) (hs : SameT a b) : TxLen a := by
  obtain ⟨h1, h2, h3, h4, h5, h6⟩ := hs
  refine ⟨by rw [h3]; exact h.lr, by rw [h4]; exact h.lw, by rw [h5]; exact h.lo, fun o ho => ?_⟩
  obtain ⟨j, hj, rfl⟩ := List.mem_iff_getElem.1 ho
  have h9 := h6 j _ _ hj (List.getElem?_eq_getElem hj) (List.getElem?_eq_getElem (show j < b.f_Ops.xs.length by omega))
  rw [h9.2.2.2]
  exact h.lv _ (List.getElem_mem _)
/-- What can be read of a transaction. -/
structure TxR (W : World) (L : List Res) (t : Txn) : Prop where
  rr : RdS W L e_S t.f_Reads.a t.f_Reads.xs
  rw : RdS W L e_S t.f_Writes.a t.f_Writes.xs
  ro : RdS W L e_Op t.f_Ops.a t.f_Ops.xs
  rv : ∀ o ∈ t.f_Ops.xs, RdS W L e8 o.f_Value.a o.f_Value.xs
  len : TxLen t
theorem TxR.c {W : World} {L : List Res} {t : Txn} {A : Res} (h : TxR W L t) : TxR W (A :: L) t := ⟨rds_c h.rr, rds_c h.rw, rds_c h.ro, fun o ho => rds_c (h.rv o ho), h.len⟩
/-- A transaction in memory of its own. -/
def txL (t : Txn) : List Res := [vrow e_S t.f_Reads, vrow e_S t.f_Writes, vrow e_Op t.f_Ops, stars ((t.f_Ops.xs.map Op.f_Value).map (vrow e8))]
def txM (t : Txn) : Res := stars (txL t)
theorem txM_R {W : World} {L : List Res} {t : Txn} (hl : TxLen t) (i : Nat) (h : L[i]? = some (txM t)) : TxR W L t where
  rr := rds_stars e_S_ok i h (List.mem_cons_self ..)
  rw := rds_stars e_S_ok i h (List.mem_cons_of_mem _ (List.mem_cons_self ..))
  ro := rds_stars e_Op_ok i h (List.mem_cons_of_mem _ (List.mem_cons_of_mem _ (List.mem_cons_self ..)))
  rv := fun o ho => fun w S hne => by
    obtain ⟨L1, S1⟩ := mem_front (List.mem_of_getElem? h) S
    obtain ⟨L2, S2⟩ := S1.stars_mem (show stars ((t.f_Ops.xs.map Op.f_Value).map (vrow e8)) ∈ txL t by simp [txL])
    exact rds_vrow e8_ok 0 rfl (List.mem_map.2 ⟨o, ho, rfl⟩) w S2 hne
  len := hl
/-- not more than is looked at -/
def Texts (xs : List ByteArray) (i : Nat) : Prop := ∀ j x, j < i → xs[j]? = some x → x.size ≤ 200
def OpsS (xs : List Op) (i : Nat) : Prop := ∀ j x, j < i → xs[j]? = some x → x.f_Key.size ≤ 200 ∧ x.f_Value.xs.length ≤ 200
structure Smalls (t : Txn) : Prop where
  r : t.f_Reads.xs.length ≤ 40
  w : t.f_Writes.xs.length ≤ 40
  o : t.f_Ops.xs.length ≤ 60
  tr : Texts t.f_Reads.xs t.f_Reads.xs.length
  tw : Texts t.f_Writes.xs t.f_Writes.xs.length
  os : OpsS t.f_Ops.xs t.f_Ops.xs.length
theorem Smalls.op {t : Txn} (h : Smalls t) {i : Nat} {x : Op} (hx : t.f_Ops.xs[i]? = some x) : x.f_Value.xs.length ≤ 200 := by
  obtain ⟨hj, _⟩ := List.getElem?_eq_some_iff.1 hx
  exact (h.os i x hj hx).2
theorem same_refl (t : Txn) : SameT t t := ⟨rfl, rfl, rfl, rfl, rfl, fun j x y _ hx hy => by rw [hx] at hy; cases hy; exact ⟨rfl, rfl, rfl, rfl⟩⟩
theorem chkN_0 {a : Txn} {g : Int} : chkN a g = 0 ↔ ChkOk a g := by
  unfold chkN
  by_cases hb : ChkOk a g
  · rw [if_pos hb]; simp [hb]
  · rw [if_neg hb]; simp [hb]
theorem vals_snoc {W w : World} {L : List Res} {os : List Op} {y : Op} (S : Sat W w (row e8.T e8.sz y.f_Value.a y.f_Value.xs.length y.f_Value.c (flat e8 y.f_Value.xs) :: stars ((os.map Op.f_Value).map (vrow e8)) :: L)) : Sat W w (stars (((os ++ [y]).map Op.f_Value).map (vrow e8)) :: L) := by
  rw [List.map_append, List.map_append]
  exact S.stars_snoc
theorem take_set {α : Type} {os : List α} {i : Nat} {x y : α} (hx : os[i]? = some x) : (os.set i y).take (i + 1) = os.take i ++ [y] := by
  obtain ⟨hi, _⟩ := List.getElem?_eq_some_iff.1 hx
  rw [List.take_add_one, List.take_set_of_le (Nat.le_refl _), List.getElem?_set_self hi]; rfl
theorem Smalls.same {a b : Txn} (h : Smalls b) (hs : SameT a b) : Smalls a := by
  obtain ⟨h1, h2, h3, h4, h5, h6⟩ := hs
  refine ⟨by rw [h3]; exact h.r, by rw [h4]; exact h.w, by rw [h5]; exact h.o, by rw [h3]; exact h.tr, by rw [h4]; exact h.tw, fun j x hj hx => ?_⟩
  have h9 := h6 j x _ hj hx (List.getElem?_eq_getElem (show j < b.f_Ops.xs.length by omega))
  have h10 := h.os j _ (by omega) (List.getElem?_eq_getElem (show j < b.f_Ops.xs.length by omega))
  rw [h9.2.1, h9.2.2.2]
  exact h10
end
section
set_option linter.unusedVariables false
set_option linter.unusedSimpArgs false
open Go.RowKit Classical
abbrev Order.txn (o : Order) : Txn := ⟨o.f_Txn_Kind, o.f_Txn_Reads, o.f_Txn_Writes, o.f_Txn_Ops, o.f_Txn_To⟩
def SameO (a b : Order) : Prop := a.tag = b.tag ∧ SameT a.txn b.txn ∧ a.f_Marks.xs = b.f_Marks.xs
theorem sameO_refl (a : Order) : SameO a a := ⟨rfl, same_refl _, rfl⟩
theorem OrdR.txn {W : World} {L : List Res} {o : Order} (h : OrdR W L o) : TxR W L o.txn := ⟨h.rr, h.rw, h.ro, h.rv, ⟨h.lr, h.lw, h.lo, h.lv⟩⟩
structure OrdLen (o : Order) : Prop where
  m : o.f_Marks.xs.length ≤ 9223372036854775807
  t : TxLen o.txn
theorem OrdR.len {W : World} {L : List Res} {o : Order} (h : OrdR W L o) : OrdLen o := ⟨h.lm, ⟨h.lr, h.lw, h.lo, h.lv⟩⟩
theorem OrdLen.same {a b : Order} (h : OrdLen b) (hs : SameO a b) : OrdLen a := ⟨by rw [hs.2.2]; exact h.m, TxLen.same h.t hs.2.1⟩
theorem ordR_mk {W : World} {L : List Res} {o : Order} (h : TxR W L o.txn) (hm : RdS W L e_Mark o.f_Marks.a o.f_Marks.xs) (hl : o.f_Marks.xs.length ≤ 9223372036854775807) : OrdR W L o := ⟨hm, h.rr, h.rw, h.ro, h.rv, hl, h.len.lr, h.len.lw, h.len.lo, h.len.lv⟩
/-- An order in memory of its own. -/
def ordM (o : Order) : Res := stars [txM o.txn, vrow e_Mark o.f_Marks]
theorem TxR.in {W w : World} {L L' : List Res} {t : Txn} (h : TxR W L t) (hc : ∀ w, Sat W w L' → Sat W w L) : TxR W L' t := ⟨fun w S => h.rr w (hc w S), fun w S => h.rw w (hc w S), fun w S => h.ro w (hc w S), fun o ho w S => h.rv o ho w (hc w S), h.len⟩
theorem OrdR.in {W : World} {L L' : List Res} {o : Order} (h : OrdR W L o) (hc : ∀ w, Sat W w L' → Sat W w L) : OrdR W L' o := ⟨fun w S => h.rm w (hc w S), fun w S => h.rr w (hc w S), fun w S => h.rw w (hc w S), fun w S => h.ro w (hc w S), fun x hx w S => h.rv x hx w (hc w S), h.lm, h.lr, h.lw, h.lo, h.lv⟩
theorem ordM_0 {W : World} {L : List Res} {o : Order} (hl : OrdLen o) : OrdR W (ordM o :: L) o :=
  OrdR.in (ordR_mk (L := txM o.txn :: vrow e_Mark o.f_Marks :: L) (txM_R hl.t 0 rfl) (rds_own e_Mark_ok 1 rfl) hl.m) fun w S => Sat.flat (Ls := [txM o.txn, vrow e_Mark o.f_Marks]) S
theorem ordM_R {W : World} {L : List Res} {o : Order} (hl : OrdLen o) (i : Nat) (h : L[i]? = some (ordM o)) : OrdR W L o := by
  obtain ⟨s, t, e⟩ := List.append_of_mem (List.mem_of_getElem? h)
  exact OrdR.in (ordM_0 (L := s ++ t) hl) fun w S => S.perm (by rw [e]; exact List.perm_middle)
theorem OSmall.tx {o : Order} (h : OSmall o) : Smalls o.txn := ⟨h.r, h.w, h.ol, fun j x _ hx => h.tr x (List.mem_of_getElem? hx), fun j x _ hx => h.tw x (List.mem_of_getElem? hx), fun j x _ hx => h.os x (List.mem_of_getElem? hx)⟩
theorem OSmall.same {a b : Order} (h : OSmall b) (hs : SameO a b) : OSmall a := by
  have hx := Smalls.same h.tx hs.2.1
  refine ⟨hx.r, hx.w, hx.o, by rw [hs.2.2]; exact h.m, fun x hm => ?_, fun x hm => ?_, by rw [hs.2.2]; exact h.tm, fun x hm => ?_⟩
  · obtain ⟨j, hj, rfl⟩ := List.mem_iff_getElem.1 hm; exact hx.tr j _ hj (List.getElem?_eq_getElem hj)
  · obtain ⟨j, hj, rfl⟩ := List.mem_iff_getElem.1 hm; exact hx.tw j _ hj (List.getElem?_eq_getElem hj)
  · obtain ⟨j, hj, rfl⟩ := List.mem_iff_getElem.1 hm; exact hx.os j _ hj (List.getElem?_eq_getElem hj)
theorem eqAt_on {α : Type} {xs ys : List α} {i : Nat} {x y : α} (h : ∀ j, j < i → xs[j]? = ys[j]?) (hx : xs[((i : Int)).toNat]? = some x) (hy : ys[((i : Int)).toNat]? = some y) (e : x = y) : ∀ j, j < i + 1 → xs[j]? = ys[j]? := fun j hj => by
  have hx' : xs[i]? = some x := hx
  have hy' : ys[i]? = some y := hy
  by_cases hji : j < i
  · exact h j hji
  · obtain rfl : j = i := by omega
    rw [hx', hy', e]
theorem eqAt_all {α : Type} {xs ys : List α} {i : Nat} (h : ∀ j, j < i → xs[j]? = ys[j]?) (hl : xs.length = ys.length) (hi : xs.length ≤ i) : xs = ys := List.ext_getElem? fun j => by
  by_cases hj : j < i
  · exact h j hj
  · rw [List.getElem?_eq_none (by omega), List.getElem?_eq_none (by omega)]
theorem eqAt_not {α : Type} {xs ys : List α} {i : Nat} {x y : α} (hx : xs[((i : Int)).toNat]? = some x) (hy : ys[((i : Int)).toNat]? = some y) (e : ¬ x = y) : ¬ xs = ys := fun h => by
  rw [h, hy] at hx
  exact e (Option.some.inj hx).symm
end
section
set_option linter.unusedVariables false
set_option linter.unusedSimpArgs false
set_option maxRecDepth 10000
open Go.RowKit Classical
theorem notin_on {xs : List ByteArray} {key x : ByteArray} {i : Nat} (h : ∀ j x, j < i → xs[j]? = some x → x ≠ key) (hx : xs[i]? = some x) (hn : ¬ x = key) : ∀ j x, j < i + 1 → xs[j]? = some x → x ≠ key := fun j y hj hy => by
  by_cases hji : j < i
  · exact h j y hji hy
  · obtain rfl : j = i := by omega
    rw [hx] at hy; cases hy; exact hn
theorem notin_all {xs : List ByteArray} {key : ByteArray} {i : Nat} (h : ∀ j x, j < i → xs[j]? = some x → x ≠ key) (hi : xs.length ≤ i) : ¬ key ∈ xs := fun hm => by
  obtain ⟨j, hj, rfl⟩ := List.mem_iff_getElem.1 hm
  exact h j _ (by omega) (List.getElem?_eq_getElem hj) rfl
theorem rises_on' {xs : List ByteArray} {i : Nat} {x y : ByteArray} (hi : 1 ≤ i) (h : Rises xs i) (hx : xs[((i : Int) - 1).toNat]? = some x) (hy : xs[((i : Int)).toNat]? = some y) (h1 : slt x y = true) : Rises xs (i + 1) := by
  obtain ⟨k, rfl⟩ : ∃ k, i = k + 1 := ⟨i - 1, by omega⟩
  rw [show (((k + 1 : Nat) : Int) - 1).toNat = k by omega] at hx
  rw [show (((k + 1 : Nat) : Int)).toNat = k + 1 by omega] at hy
  exact rises_on h hx hy h1
theorem rises_not {xs : List ByteArray} {i : Nat} {x y : ByteArray} (hi : 1 ≤ i) (hx : xs[((i : Int) - 1).toNat]? = some x) (hy : xs[((i : Int)).toNat]? = some y) (h1 : slt x y = false) : ¬ Rises xs xs.length := fun h => by
  obtain ⟨k, rfl⟩ : ∃ k, i = k + 1 := ⟨i - 1, by omega⟩
  rw [show (((k + 1 : Nat) : Int) - 1).toNat = k by omega] at hx
  rw [show (((k + 1 : Nat) : Int)).toNat = k + 1 by omega] at hy
  obtain ⟨hk, _⟩ := List.getElem?_eq_some_iff.1 hy
  rw [h k x y hk hx hy] at h1; cases h1
theorem in_ {W : World} {F : List Res} {key : ByteArray} {xs : List ByteArray} {a : Option Addr} {c : Nat} (hs : RdS W F e_S a xs) (hn : xs.length ≤ 9223372036854775807) : CS Tryz.prog 70 #[.slice a (xs).length c, .string key] W (F) (fun r L' => r = .bool (decide (key ∈ xs)) ∧ F = L') := by
 refine f_door (l0 := [(0, .slice a (xs).length c), (1, .string key)]) Tryz.func70 Tryz.ntmps70 rfl rfl rfl ?_
 refine c_seq ?_
 refine c_region ?_
 refine o_assign rfl rfl ?_
 refine l_nil ?_
 refine q_then ?_
 refine c_seq ?_
 refine c_seq ?_
 refine c_region ?_
 refine o_assign rfl rfl ?_
 refine l_nil ?_
 refine q_then ?_
 refine c_block ?_
 refine c_loop (α := Nat) (fun z => [(0, .slice a (xs).length c), (1, .string key), (5, .int .i64 (z : Int))]) (fun z => F) (fun z => z ≤ xs.length ∧ ∀ j x, j < z → xs[j]? = some x → x ≠ key) (fun z => xs.length - z) (0) (by exact ⟨Nat.zero_le _, fun j x h => absurd h (by omega)⟩) ⟨(by first | rfl | exact vint (by omega)), (by first | rfl | exact vint (by omega)), (by first | rfl | exact vint (by omega)), trivial⟩ (fun w S => S) ?_
 rintro i ⟨hi, hno⟩
 try dsimp only at *
 refine c_seq ?_
 refine c_seq ?_
 refine c_region ?_
 refine o_move rfl rfl ?_
 refine o_move rfl rfl ?_
 refine o_len rfl rfl Tryz.underlying27 ?_
 refine o_bin rfl rfl rfl b_lss ?_
 refine l_nil ?_
 refine q_then ?_
 refine c_cond rfl (fun h1 => ?_) (fun h1 => ?_)
 · -- h1T
  have h1b := h1
  try simp only [decide_eq_true_eq] at h1
  refine c_skip ?_
  refine q_then ?_
  refine c_seq ?_
  refine c_block ?_
  refine c_seq ?_
  refine c_region ?_
  refine o_move rfl rfl ?_
  refine o_move rfl rfl ?_
  refine o_index e_S_ok rfl rfl rfl Tryz.underlying27 (by omega) (by omega) hs fun ad14 ead14 => ?_
  obtain ⟨x14, hx14⟩ : ∃ x, (xs)[((i : Int)).toNat]? = some x := ⟨_, List.getElem?_eq_getElem (by omega)⟩
  refine o_load1 rfl rfl Tryz.underlying9 rfl (rd_sl0 e_S_ok ead14 hs hx14 rfl) ?_
  refine o_move rfl rfl ?_
  refine o_bin rfl rfl rfl b_seql ?_
  refine l_nil ?_
  refine q_then ?_
  refine c_cond rfl (fun h2 => ?_) (fun h2 => ?_)
  · -- h2T
   have h2b := h2
   try simp only [decide_eq_true_eq] at h2
   refine c_seq ?_
   refine c_region ?_
   refine o_assign rfl rfl ?_
   refine l_nil ?_
   refine q_then ?_
   refine c_ret ?_
   refine q_block_ret ?_
   refine q_pass_ret ?_
   refine q_pass_ret ?_
   refine q_block_ret ?_
   refine q_pass_ret ?_
   exact f_ret (r_one rfl rfl) (⟨by rw [decide_eq_true (by subst h2; exact List.mem_of_getElem? hx14)], rfl⟩) (fun w S => S)
  · -- h2F
   have h2b := h2
   try simp only [decide_eq_false_iff_not, Int.not_lt, Int.not_le] at h2
   have hne : ¬ x14 = key := h2
   refine c_skip ?_
   refine q_block ?_
   refine q_then ?_
   refine c_region ?_
   refine o_move rfl rfl ?_
   refine o_bin rfl rfl rfl (b_add (wrap_i64 (by omega) (by omega))) ?_
   refine o_assign rfl rfl ?_
   refine l_nil ?_
   exact q_round (i + 1) (by exact ⟨by omega, notin_on hno hx14 hne⟩) (by (try dsimp only); omega) ⟨(by first | rfl | exact vint (by omega)), (by first | rfl | exact vint (by omega)), (by first | rfl | exact vint (by omega)), trivial⟩ (fun w S => S)
 · -- h1F
  have h1b := h1
  try simp only [decide_eq_false_iff_not, Int.not_lt, Int.not_le] at h1
  refine c_exit ?_
  refine q_pass_exit ?_
  refine q_pass_exit ?_
  refine q_hit ?_
  refine q_then ?_
  refine c_seq ?_
  refine c_region ?_
  refine o_assign rfl rfl ?_
  refine l_nil ?_
  refine q_then ?_
  refine c_ret ?_
  exact f_ret (r_one rfl rfl) (⟨by rw [decide_eq_false (notin_all hno (by omega))], rfl⟩) (fun w S => S)
theorem index_ {W : World} {F : List Res} {key : ByteArray} {xs : List ByteArray} {a : Option Addr} {c : Nat} (hs : RdS W F e_S a xs) (hn : xs.length ≤ 9223372036854775807) : CS Tryz.prog 109 #[.slice a (xs).length c, .string key] W (F) (fun r L' => ∃ n : Int, (0 ≤ n ↔ key ∈ xs) ∧ r = .int .i64 n ∧ F = L') := by
 refine f_door (l0 := [(0, .slice a (xs).length c), (1, .string key)]) Tryz.func109 Tryz.ntmps109 rfl rfl rfl ?_
 refine c_seq ?_
 refine c_region ?_
 refine o_assign rfl rfl ?_
 refine l_nil ?_
 refine q_then ?_
 refine c_seq ?_
 refine c_seq ?_
 refine c_region ?_
 refine o_move rfl rfl ?_
 refine o_len rfl rfl Tryz.underlying27 ?_
 refine o_move rfl rfl ?_
 refine l_nil ?_
 refine q_then ?_
 refine c_block ?_
 refine c_loop (α := Nat) (fun z => [(0, .slice a (xs).length c), (1, .string key), (7, .int .i64 ((xs).length : Int)), (8, .int .i64 (z : Int))]) (fun z => F) (fun z => z ≤ xs.length ∧ ∀ j x, j < z → xs[j]? = some x → x ≠ key) (fun z => xs.length - z) (0) (by exact ⟨Nat.zero_le _, fun j x h => absurd h (by omega)⟩) ⟨(by first | rfl | exact vint (by omega)), (by first | rfl | exact vint (by omega)), (by first | rfl | exact vint (by omega)), (by first | rfl | exact vint (by omega)), trivial⟩ (fun w S => S) ?_
 rintro i ⟨hi, hno⟩
 try dsimp only at *
 refine c_seq ?_
 refine c_region ?_
 refine o_bin rfl rfl rfl b_lss ?_
 refine l_nil ?_
 refine q_then ?_
 refine c_seq ?_
 refine c_cond rfl (fun h1 => ?_) (fun h1 => ?_)
 · -- h1T
  have h1b := h1
  try simp only [decide_eq_true_eq] at h1
  refine c_skip ?_
  refine q_then ?_
  refine c_seq ?_
  refine c_block ?_
  refine c_seq ?_
  refine c_region ?_
  refine o_move rfl rfl ?_
  refine o_assign rfl rfl ?_
  refine l_nil ?_
  refine q_then ?_
  refine c_seq ?_
  refine c_region ?_
  refine o_move rfl rfl ?_
  refine o_move rfl rfl ?_
  refine o_move rfl rfl ?_
  refine o_index e_S_ok rfl rfl rfl Tryz.underlying27 (by omega) (by omega) hs fun ad14 ead14 => ?_
  obtain ⟨x14, hx14⟩ : ∃ x, (xs)[((i : Int)).toNat]? = some x := ⟨_, List.getElem?_eq_getElem (by omega)⟩
  refine o_load1 rfl rfl Tryz.underlying9 rfl (rd_sl0 e_S_ok ead14 hs hx14 rfl) ?_
  refine o_bin rfl rfl rfl b_seql ?_
  refine l_nil ?_
  refine q_then ?_
  refine c_cond rfl (fun h2 => ?_) (fun h2 => ?_)
  · -- h2T
   have h2b := h2
   try simp only [decide_eq_true_eq] at h2
   refine c_seq ?_
   refine c_region ?_
   refine o_move rfl rfl ?_
   refine o_assign rfl rfl ?_
   refine l_nil ?_
   refine q_then ?_
   refine c_ret ?_
   refine q_block_ret ?_
   refine q_pass_ret ?_
   refine q_pass_ret ?_
   refine q_block_ret ?_
   refine q_pass_ret ?_
   exact f_ret (r_one rfl rfl) (⟨(i : Int), ⟨fun _ => by subst h2; exact List.mem_of_getElem? hx14, fun _ => by omega⟩, rfl, rfl⟩) (fun w S => S)
  · -- h2F
   have h2b := h2
   try simp only [decide_eq_false_iff_not, Int.not_lt, Int.not_le] at h2
   have hne : ¬ x14 = key := fun h9 => h2 h9.symm
   refine c_skip ?_
   refine q_block ?_
   refine q_then ?_
   refine c_region ?_
   refine o_bin rfl rfl rfl (b_add (wrap_i64 (by omega) (by omega))) ?_
   refine o_move rfl rfl ?_
   refine l_nil ?_
   exact q_round (i + 1) (by exact ⟨by omega, notin_on hno hx14 hne⟩) (by (try dsimp only); omega) ⟨(by first | rfl | exact vint (by omega)), (by first | rfl | exact vint (by omega)), (by first | rfl | exact vint (by omega)), (by first | rfl | exact vint (by omega)), trivial⟩ (fun w S => S)
 · -- h1F
  have h1b := h1
  try simp only [decide_eq_false_iff_not, Int.not_lt, Int.not_le] at h1
  refine c_exit ?_
  refine q_pass_exit ?_
  refine q_pass_exit ?_
  refine q_hit ?_
  refine q_then ?_
  refine c_seq ?_
  refine c_region ?_
  refine o_assign rfl rfl ?_
  refine l_nil ?_
  refine q_then ?_
  refine c_ret ?_
  exact f_ret (r_one rfl rfl) (⟨-1, ⟨fun h9 => absurd h9 (by decide), fun h9 => absurd h9 (notin_all hno (by omega))⟩, rfl, rfl⟩) (fun w S => S)
theorem contains_ {W : World} {F : List Res} {key : ByteArray} {xs : List ByteArray} {a : Option Addr} {c : Nat} (hs : RdS W F e_S a xs) (hn : xs.length ≤ 9223372036854775807) : CS Tryz.prog 91 #[.slice a (xs).length c, .string key] W (F) (fun r L' => r = .bool (decide (key ∈ xs)) ∧ F = L') := by
 refine f_door (l0 := [(0, .slice a (xs).length c), (1, .string key)]) Tryz.func91 Tryz.ntmps91 rfl rfl rfl ?_
 refine c_seq ?_
 refine c_region ?_
 refine o_assign rfl rfl ?_
 refine l_nil ?_
 refine q_then ?_
 refine c_seq ?_
 refine c_region ?_
 refine o_move rfl rfl ?_
 refine o_move rfl rfl ?_
 refine o_call rfl cal109 rfl (index_ (key := key) hs (by omega)) ?_
 rintro _ _ ⟨n7, hn7, rfl, rfl⟩
 refine o_bin rfl rfl rfl b_geq ?_
 refine o_assign rfl rfl ?_
 refine l_nil ?_
 refine q_then ?_
 refine c_ret ?_
 exact f_ret (r_one rfl rfl) (⟨by rw [decide_eq_decide.2 hn7], rfl⟩) (fun w S => S)
theorem rising_ {W : World} {F : List Res} {xs : List ByteArray} {a : Option Addr} {c : Nat} (hs : RdS W F e_S a xs) (hn : xs.length ≤ 9223372036854775807) : CS Tryz.prog 69 #[.slice a (xs).length c] W (F) (fun r L' => r = .bool (decide (Rises xs xs.length)) ∧ F = L') := by
 refine f_door (l0 := [(0, .slice a (xs).length c)]) Tryz.func69 Tryz.ntmps69 rfl rfl rfl ?_
 refine c_seq ?_
 refine c_region ?_
 refine o_assign rfl rfl ?_
 refine l_nil ?_
 refine q_then ?_
 refine c_seq ?_
 refine c_seq ?_
 refine c_region ?_
 refine o_assign rfl rfl ?_
 refine l_nil ?_
 refine q_then ?_
 refine c_block ?_
 refine c_loop (α := Nat) (fun z => [(0, .slice a (xs).length c), (3, .int .i64 (z : Int))]) (fun z => F) (fun z => 1 ≤ z ∧ Rises xs z) (fun z => xs.length - z) (1) (by exact ⟨Nat.le_refl _, rises_0 (Nat.le_refl _)⟩) ⟨(by first | rfl | exact vint (by omega)), (by first | rfl | exact vint (by omega)), trivial⟩ (fun w S => S) ?_
 rintro i ⟨hi, hr⟩
 try dsimp only at *
 refine c_seq ?_
 refine c_seq ?_
 refine c_region ?_
 refine o_move rfl rfl ?_
 refine o_move rfl rfl ?_
 refine o_len rfl rfl Tryz.underlying27 ?_
 refine o_bin rfl rfl rfl b_lss ?_
 refine l_nil ?_
 refine q_then ?_
 refine c_cond rfl (fun h1 => ?_) (fun h1 => ?_)
 · -- h1T
  have h1b := h1
  try simp only [decide_eq_true_eq] at h1
  refine c_skip ?_
  refine q_then ?_
  refine c_seq ?_
  refine c_block ?_
  refine c_seq ?_
  refine c_fact (p := ∃ ad, a = some ad) (rds_some (e := e_S) (xs := xs) hs (by intro h0; have h00 := congrArg List.length h0; simp only [List.length_nil] at h00; omega)) ?_
  rintro ⟨adx, eadx⟩
  refine c_quiet (by kernel_rfl) (by kernel_rfl) ?_
  refine Qt.o_val rfl (v_move rfl rfl) ?_
  refine Qt.o_val rfl (v_move rfl rfl) ?_
  refine Qt.o_val rfl (v_bin rfl rfl rfl (b_sub (wrap_i64 (by omega) (by omega)))) ?_
  refine Qt.o_val rfl (v_indexK e_S_ok eadx rfl rfl rfl Tryz.underlying27 (by omega) (by omega)) ?_
  obtain ⟨x13, hx13⟩ : ∃ x, (xs)[(((i : Int) - 1)).toNat]? = some x := ⟨_, List.getElem?_eq_getElem (by omega)⟩
  refine Qt.o_val rfl (v_load1 rfl rfl Tryz.underlying9 rfl (rd_sl0 e_S_ok eadx hs hx13 rfl)) ?_
  refine Qt.o_val rfl (v_move rfl rfl) ?_
  refine Qt.o_val rfl (v_move rfl rfl) ?_
  refine Qt.o_val rfl (v_indexK e_S_ok eadx rfl rfl rfl Tryz.underlying27 (by omega) (by omega)) ?_
  obtain ⟨x17, hx17⟩ : ∃ x, (xs)[((i : Int)).toNat]? = some x := ⟨_, List.getElem?_eq_getElem (by omega)⟩
  refine Qt.o_val rfl (v_load1 rfl rfl Tryz.underlying9 rfl (rd_sl0 e_S_ok eadx hs hx17 rfl)) ?_
  refine Qt.o_val rfl (v_bin rfl rfl rfl b_sgeq) ?_
  refine Qt.l_nil ?_
  refine q_then ?_
  refine c_cond rfl (fun h2 => ?_) (fun h2 => ?_)
  · -- h2T
   have h2b := h2
   try simp only [decide_eq_true_eq, decide_eq_false_iff_not, Bool.not_eq_eq_eq_not, Bool.not_true, Bool.not_false, Bool.not_eq_true', Bool.not_eq_false', Int.not_lt, Int.not_le, Bool.or_eq_true, Bool.and_eq_true] at h2
   refine c_seq ?_
   refine c_region ?_
   refine o_assign rfl rfl ?_
   refine l_nil ?_
   refine q_then ?_
   refine c_ret ?_
   refine q_block_ret ?_
   refine q_pass_ret ?_
   refine q_pass_ret ?_
   refine q_block_ret ?_
   refine q_pass_ret ?_
   exact f_ret (r_one rfl rfl) (⟨by rw [decide_eq_false (rises_not hi hx13 hx17 (by simpa using h2b))], rfl⟩) (fun w S => S)
  · -- h2F
   have h2b := h2
   try simp only [decide_eq_true_eq, decide_eq_false_iff_not, Bool.not_eq_eq_eq_not, Bool.not_true, Bool.not_false, Bool.not_eq_true', Bool.not_eq_false', Int.not_lt, Int.not_le, Bool.or_eq_true, Bool.and_eq_true] at h2
   refine c_skip ?_
   refine q_block ?_
   refine q_then ?_
   refine c_region ?_
   refine o_move rfl rfl ?_
   refine o_bin rfl rfl rfl (b_add (wrap_i64 (by omega) (by omega))) ?_
   refine o_assign rfl rfl ?_
   refine l_nil ?_
   exact q_round (i + 1) (by exact ⟨by omega, rises_on' hi hr hx13 hx17 (by simpa using h2)⟩) (by (try dsimp only); omega) ⟨(by first | rfl | exact vint (by omega)), (by first | rfl | exact vint (by omega)), trivial⟩ (fun w S => S)
 · -- h1F
  have h1b := h1
  try simp only [decide_eq_false_iff_not, Int.not_lt, Int.not_le] at h1
  refine c_exit ?_
  refine q_pass_exit ?_
  refine q_pass_exit ?_
  refine q_hit ?_
  refine q_then ?_
  refine c_seq ?_
  refine c_region ?_
  refine o_assign rfl rfl ?_
  refine l_nil ?_
  refine q_then ?_
  refine c_ret ?_
  exact f_ret (r_one rfl rfl) (⟨by rw [decide_eq_true (show Rises xs xs.length from fun j x y hj => hr j x y (by omega))], rfl⟩) (fun w S => S)
end
section
set_option linter.unusedVariables false
set_option linter.unusedSimpArgs false
set_option maxRecDepth 10000
open Go.RowKit Classical
theorem cat_len {ss : List (Sl ByteArray)} {i : Nat} {x : Sl ByteArray} (hx : ss[((i : Int)).toNat]? = some x) : ((ss.take (i + 1)).flatMap Sl.xs).length = ((ss.take i).flatMap Sl.xs).length + x.xs.length := by
  have hx' : ss[i]? = some x := hx
  rw [List.take_add_one, hx', List.flatMap_append, List.length_append]; simp
theorem cat_on {ss : List (Sl ByteArray)} {i : Nat} {x : Sl ByteArray} (hx : ss[((i : Int)).toNat]? = some x) : (ss.take (i + 1)).flatMap Sl.xs = (ss.take i).flatMap Sl.xs ++ x.xs := by
  have hx' : ss[i]? = some x := hx
  rw [List.take_add_one, hx', List.flatMap_append]; simp
theorem cat_le {ss : List (Sl ByteArray)} (i : Nat) : ((ss.take i).flatMap Sl.xs).length ≤ (ss.flatMap Sl.xs).length := by
  have h : ss.flatMap Sl.xs = (ss.take i).flatMap Sl.xs ++ (ss.drop i).flatMap Sl.xs := by rw [← List.flatMap_append, List.take_append_drop]
  rw [h, List.length_append]; omega
theorem two_sl {W : World} {L : List Res} {s1 s2 : Sl ByteArray} (h1 : RdS W L e_S s1.a s1.xs) (h2 : RdS W L e_S s2.a s2.xs) : ∀ s ∈ [s1, s2], RdS W L e_S s.a s.xs := fun s hs => by
  simp only [List.mem_cons, List.not_mem_nil, or_false] at hs
  rcases hs with rfl | rfl
  · exact h1
  · exact h2
theorem grow_ {W : World} {F : List Res} {n : Nat} (hn : n ≤ 1000000) : CS Tryz.prog 86 #[.slice none 0 0, .int .i64 (n : Int)] W (row e_S.T e_S.sz none 0 0 (flat e_S []) :: F) (fun r L' => ∃ (a : Option Addr) (c : Nat), r = .slice a 0 c ∧ L' = row e_S.T e_S.sz a 0 c (flat e_S []) :: F) := by
 refine f_door (l0 := [(0, .slice none 0 0), (1, .int .i64 (n : Int))]) Tryz.func86 Tryz.ntmps86 rfl rfl rfl ?_
 refine c_seq ?_
 refine c_region ?_
 refine o_assign rfl rfl ?_
 refine l_nil ?_
 refine q_then ?_
 refine c_seq ?_
 refine c_seq ?_
 refine c_region ?_
 refine o_move rfl rfl ?_
 refine o_bin rfl rfl rfl b_lss ?_
 refine l_nil ?_
 refine q_then ?_
 refine c_cond rfl (fun h1 => ?_) (fun h1 => ?_)
 · -- h1T
  have h1b := h1
  try simp only [decide_eq_true_eq] at h1
  omega
 · -- h1F
  have h1b := h1
  try simp only [decide_eq_false_iff_not, Int.not_lt, Int.not_le] at h1
  refine c_skip ?_
  refine q_then ?_
  refine c_seq ?_
  refine c_seq ?_
  refine c_region ?_
  refine o_move rfl rfl ?_
  refine o_move rfl rfl ?_
  refine o_cap rfl rfl Tryz.underlying27 ?_
  refine o_move rfl rfl ?_
  refine o_len rfl rfl Tryz.underlying27 ?_
  refine o_bin rfl rfl rfl (b_sub (wrap_i64 (by omega) (by omega))) ?_
  refine o_bin rfl rfl rfl (b_sub (wrap_i64 (by omega) (by omega))) ?_
  refine o_assign rfl rfl ?_
  refine l_nil ?_
  refine q_then ?_
  refine c_seq ?_
  refine c_region ?_
  refine o_move rfl rfl ?_
  refine o_bin rfl rfl rfl b_gtr ?_
  refine l_nil ?_
  refine q_then ?_
  refine c_cond rfl (fun h2 => ?_) (fun h2 => ?_)
  · -- h2T
   have h2b := h2
   try simp only [decide_eq_true_eq] at h2
   refine c_region ?_
   refine o_move rfl rfl ?_
   refine o_move rfl rfl ?_
   refine o_cap rfl rfl Tryz.underlying27 ?_
   refine o_cut (l' := 0) (h' := 0) (m := 0) rfl rfl Tryz.underlying27 ti9 (.inl ⟨rfl, rfl⟩) (.inr ⟨_, _, rfl, icast rfl (by omega), (by omega)⟩) (.inl ⟨rfl, rfl⟩) ?_
   refine l_eq (t := 20) (v' := .slice none 0 0) rfl (by first | (rw [cutA_0]; done) | (rw [cutA_0]; rfl)) ?_
   refine o_move rfl rfl ?_
   refine o_appendZ (e := e_S) (xs := ([] : List ByteArray)) (i := 0) (k := n) (n := n) e_S_ok (by omega) rfl (cutA_0 _ _ _) rfl rfl Tryz.underlying27 Tryz.underlying3 (by simp) (by omega) (by omega) (by show _ * 16 ≤ _; omega) (by omega) fun a22 c22 zs22 hz22 => ?_
   refine o_move rfl rfl ?_
   refine o_len rfl rfl Tryz.underlying27 ?_
   refine o_cut (l' := 0) (h' := 0) (m := c22) rfl rfl Tryz.underlying27 ti9 (.inl ⟨rfl, rfl⟩) (.inr ⟨_, _, rfl, icast rfl (by omega), (by omega)⟩) (.inl ⟨rfl, rfl⟩) ?_
   refine l_eq (t := 25) (v' := .slice a22 0 c22) rfl (by first | (rw [cutA_0]; done) | (rw [cutA_0]; rfl)) ?_
   refine o_assign rfl rfl ?_
   refine l_nil ?_
   refine q_then ?_
   refine c_seq ?_
   refine c_region ?_
   refine o_move rfl rfl ?_
   refine o_assign rfl rfl ?_
   refine l_nil ?_
   refine q_then ?_
   refine c_ret ?_
   refine q_conv (fun w S => (S.perm p1).tail) ?_
   exact f_ret (r_one rfl rfl) (⟨a22, c22, rfl, rfl⟩) (fun w S => Sat.row_cut (n' := 0) (c' := c22) S (Nat.zero_le _) (Nat.zero_le _) (Nat.le_refl _) (by have := row_capL S; omega))
  · -- h2F
   have h2b := h2
   try simp only [decide_eq_false_iff_not, Int.not_lt, Int.not_le] at h2
   refine c_skip ?_
   refine q_then ?_
   refine c_seq ?_
   refine c_region ?_
   refine o_move rfl rfl ?_
   refine o_assign rfl rfl ?_
   refine l_nil ?_
   refine q_then ?_
   refine c_ret ?_
   exact f_ret (r_one rfl rfl) (⟨none, 0, rfl, rfl⟩) (fun w S => S)
theorem concat_ {W : World} {F : List Res} {ss : List (Sl ByteArray)} {a : Option Addr} {c : Nat} (hs : RdS W F e_s27 a ss) (hn : ss.length ≤ 1000) (hv : ∀ s ∈ ss, RdS W F e_S s.a s.xs) (hb : (ss.flatMap Sl.xs).length ≤ 1000000) : CS Tryz.prog 62 #[.slice a ss.length c] W (F) (fun r L' => ∃ (a : Option Addr) (c : Nat), r = .slice a (ss.flatMap Sl.xs).length c ∧ L' = row e_S.T e_S.sz a (ss.flatMap Sl.xs).length c (flat e_S (ss.flatMap Sl.xs)) :: F) := by
 refine f_door (l0 := [(0, .slice a ss.length c)]) Tryz.func62 Tryz.ntmps62 rfl rfl rfl ?_
 refine c_seq ?_
 refine c_region ?_
 refine o_assign rfl rfl ?_
 refine l_nil ?_
 refine q_then ?_
 refine c_seq ?_
 refine c_region ?_
 refine o_assign rfl rfl ?_
 refine l_nil ?_
 refine q_then ?_
 refine c_seq ?_
 refine c_seq ?_
 refine c_region ?_
 refine o_move rfl rfl ?_
 refine o_len rfl rfl Tryz.underlying140 ?_
 refine o_move rfl rfl ?_
 refine l_nil ?_
 refine q_then ?_
 refine c_block ?_
 refine c_loop (α := Nat) (fun z => [(0, .slice a (ss).length c), (3, .int .i64 (((ss.take z).flatMap Sl.xs).length : Int)), (9, .slice a (ss).length c), (10, .int .i64 ((ss).length : Int)), (11, .int .i64 (z : Int))]) (fun z => F) (fun z => z ≤ ss.length) (fun z => ss.length - z) (0) (by exact Nat.zero_le _) ⟨(by first | rfl | exact vint (by omega)), (by first | rfl | exact vint (by omega)), (by first | rfl | exact vint (by omega)), (by first | rfl | exact vint (by omega)), (by first | rfl | exact vint (by omega)), trivial⟩ (fun w S => S) ?_
 rintro i hi
 try dsimp only at *
 refine c_seq ?_
 refine c_region ?_
 refine o_bin rfl rfl rfl b_lss ?_
 refine l_nil ?_
 refine q_then ?_
 refine c_seq ?_
 refine c_cond rfl (fun h1 => ?_) (fun h1 => ?_)
 · -- h1T
  have h1b := h1
  try simp only [decide_eq_true_eq] at h1
  refine c_skip ?_
  refine q_then ?_
  refine c_seq ?_
  refine c_block ?_
  refine c_seq ?_
  refine c_region ?_
  refine o_index e_s27_ok rfl rfl rfl Tryz.underlying140 (by omega) (by omega) hs fun ad13 ead13 => ?_
  obtain ⟨x13, hx13⟩ : ∃ x, (ss)[((i : Int)).toNat]? = some x := ⟨_, List.getElem?_eq_getElem (by omega)⟩
  refine o_load1 rfl rfl Tryz.underlying27 rfl (rd_sl0 e_s27_ok ead13 hs hx13 rfl) ?_
  have hcl := cat_len hx13
  have hcb := cat_le (ss := ss) (i + 1)
  refine o_assign rfl rfl ?_
  refine l_nil ?_
  refine q_then ?_
  refine c_seq ?_
  refine c_region ?_
  refine o_move rfl rfl ?_
  refine o_move rfl rfl ?_
  refine o_len rfl rfl Tryz.underlying27 ?_
  refine o_bin rfl rfl rfl (b_add (wrap_i64 (by omega) (by omega))) ?_
  refine o_assign rfl rfl ?_
  refine l_nil ?_
  refine q_then ?_
  refine c_seq ?_
  refine c_region ?_
  refine o_move rfl rfl ?_
  refine o_bin rfl rfl rfl b_lss ?_
  refine l_nil ?_
  refine q_then ?_
  refine c_cond rfl (fun h2 => ?_) (fun h2 => ?_)
  · -- h2T
   have h2b := h2
   try simp only [decide_eq_true_eq] at h2
   omega
  · -- h2F
   have h2b := h2
   try simp only [decide_eq_false_iff_not, Int.not_lt, Int.not_le] at h2
   refine c_skip ?_
   refine q_block ?_
   refine q_then ?_
   refine c_region ?_
   refine o_bin rfl rfl rfl (b_add (wrap_i64 (by omega) (by omega))) ?_
   refine o_move rfl rfl ?_
   refine l_nil ?_
   exact q_round (i + 1) (by omega) (by (try dsimp only); omega) ⟨(by first | rfl | exact vint (by omega)), (by first | rfl | exact vint (by omega)), (by first | rfl | exact vint (by omega)), (by first | rfl | exact vint (by omega)), (by first | rfl | exact vint (by omega)), trivial⟩ (fun w S => S)
 · -- h1F
  have h1b := h1
  try simp only [decide_eq_false_iff_not, Int.not_lt, Int.not_le] at h1
  refine c_exit ?_
  refine q_pass_exit ?_
  refine q_pass_exit ?_
  refine q_hit ?_
  refine q_then ?_
  refine c_seq ?_
  have hcb := cat_le (ss := ss) i
  refine c_region ?_
  refine o_move rfl rfl ?_
  refine l_nilrow e_S ?_
  refine o_call rfl cal86 rfl (grow_ (n := ((ss.take i).flatMap Sl.xs).length) (by omega)) ?_
  rintro _ _ ⟨a24, c24, rfl, rfl⟩
  refine l_conv (L' := row e_S.T e_S.sz a24 (([] : List ByteArray)).length c24 (flat e_S ([] : List ByteArray)) :: _) (fun w S => S) ?_
  refine o_assign rfl rfl ?_
  refine l_nil ?_
  refine q_then ?_
  refine c_seq ?_
  refine c_seq ?_
  refine c_region ?_
  refine o_move rfl rfl ?_
  refine o_len rfl rfl Tryz.underlying140 ?_
  refine o_move rfl rfl ?_
  refine l_nil ?_
  refine q_then ?_
  refine c_block ?_
  refine c_loop (α := Nat × (List ByteArray) × (Option Addr) × Nat) (fun z => [(6, .slice z.2.2.1 (z.2.1).length z.2.2.2), (25, .slice a (ss).length c), (26, .int .i64 ((ss).length : Int)), (27, .int .i64 (z.1 : Int))]) (fun z => row e_S.T e_S.sz z.2.2.1 (z.2.1).length z.2.2.2 (flat e_S z.2.1) :: F) (fun z => z.1 ≤ ss.length ∧ z.2.1 = (ss.take z.1).flatMap Sl.xs) (fun z => ss.length - z.1) (0, [], a24, c24) (by exact ⟨Nat.zero_le _, rfl⟩) ⟨(by first | rfl | exact vint (by omega)), (by first | rfl | exact vint (by omega)), (by first | rfl | exact vint (by omega)), (by first | rfl | exact vint (by omega)), trivial⟩ (fun w S => S) ?_
  rintro ⟨i2, acc, a6, c6⟩ ⟨hi2, hacc⟩
  try dsimp only at *
  refine c_seq ?_
  refine c_region ?_
  refine o_bin rfl rfl rfl b_lss ?_
  refine l_nil ?_
  refine q_then ?_
  refine c_seq ?_
  refine c_cond rfl (fun h3 => ?_) (fun h3 => ?_)
  · -- h3T
   have h3b := h3
   try simp only [decide_eq_true_eq] at h3
   refine c_skip ?_
   refine q_then ?_
   refine c_seq ?_
   refine c_block ?_
   refine c_seq ?_
   refine c_region ?_
   refine o_index e_s27_ok rfl rfl rfl Tryz.underlying140 (by omega) (by omega) (rds_c hs) fun ad29 ead29 => ?_
   obtain ⟨x29, hx29⟩ : ∃ x, (ss)[((i2 : Int)).toNat]? = some x := ⟨_, List.getElem?_eq_getElem (by omega)⟩
   refine o_load1 rfl rfl Tryz.underlying27 rfl (rd_sl0 e_s27_ok ead29 (rds_c hs) hx29 rfl) ?_
   have hcl := cat_len hx29
   have hcb := cat_le (ss := ss) (i2 + 1)
   have hac : acc.length + x29.xs.length ≤ 1000000 := by rw [hacc]; omega
   refine o_assign rfl rfl ?_
   refine l_nil ?_
   refine q_then ?_
   refine c_region ?_
   refine o_move rfl rfl ?_
   refine o_move rfl rfl ?_
   refine o_append e_S_ok rfl rfl rfl Tryz.underlying27 (rds_c (hv x29 (List.mem_of_getElem? hx29))) (by show (_ + _) * 16 ≤ _; (try simp only [List.length_append, List.length_cons, List.length_nil]); omega) (by (try simp only [List.length_append, List.length_cons, List.length_nil]); omega) fun a33 c33 => ?_
   refine o_assign rfl rfl ?_
   refine l_nil ?_
   refine q_block ?_
   refine q_then ?_
   refine c_region ?_
   refine o_bin rfl rfl rfl (b_add (wrap_i64 (by omega) (by omega))) ?_
   refine o_move rfl rfl ?_
   refine l_nil ?_
   exact q_round (i2 + 1, acc ++ x29.xs, a33, c33) (by exact ⟨by omega, by rw [cat_on hx29, hacc]⟩) (by (try dsimp only); omega) ⟨(by first | rfl | exact vint (by omega)), (by first | rfl | exact vint (by omega)), (by first | rfl | exact vint (by omega)), (by first | rfl | exact vint (by omega)), trivial⟩ (fun w S => S)
  · -- h3F
   have h3b := h3
   try simp only [decide_eq_false_iff_not, Int.not_lt, Int.not_le] at h3
   refine c_exit ?_
   refine q_pass_exit ?_
   refine q_pass_exit ?_
   refine q_hit ?_
   refine q_then ?_
   refine c_seq ?_
   have hall : acc = ss.flatMap Sl.xs := by rw [hacc, List.take_of_length_le (by omega)]
   refine c_region ?_
   refine o_move rfl rfl ?_
   refine o_assign rfl rfl ?_
   refine l_nil ?_
   refine q_then ?_
   refine c_ret ?_
   exact f_ret (r_one rfl rfl) (⟨a6, c6, by rw [hall], by rw [hall]⟩) (fun w S => S)
theorem concat2_ {W : World} {F : List Res} {s1 s2 : Sl ByteArray} {a : Option Addr} {c : Nat} (hs : RdS W F e_s27 a [s1, s2]) (h1 : RdS W F e_S s1.a s1.xs) (h2 : RdS W F e_S s2.a s2.xs) (hb : s1.xs.length + s2.xs.length ≤ 1000000) :
    CS Tryz.prog 62 #[.slice a [s1, s2].length c] W F (fun r L' => ∃ (a : Option Addr) (c : Nat), r = .slice a (s1.xs ++ s2.xs).length c ∧ L' = row e_S.T e_S.sz a (s1.xs ++ s2.xs).length c (flat e_S (s1.xs ++ s2.xs)) :: F) :=
  (concat_ hs (by simp) (two_sl h1 h2) (by simp only [List.flatMap_cons, List.flatMap_nil, List.append_nil, List.length_append]; omega)).mono fun v L' ⟨a', c', e1, e2⟩ => ⟨a', c', by simpa only [List.flatMap_cons, List.flatMap_nil, List.append_nil] using e1, by simpa only [List.flatMap_cons, List.flatMap_nil, List.append_nil] using e2⟩
end
section
set_option linter.unusedVariables false
set_option linter.unusedSimpArgs false
set_option maxRecDepth 10000
open Go.RowKit Classical
theorem ba_pos {x : ByteArray} (h : ¬ x = ByteArray.empty) : 1 ≤ x.size := by
  rcases Nat.eq_zero_or_pos x.size with h1 | h1
  · exact absurd (ByteArray.ext (Array.eq_empty_of_size_eq_zero h1)) h
  · exact h1
theorem keys_no {xs : List ByteArray} {x : ByteArray} {i : Nat} (hx : xs[((i : Int)).toNat]? = some x) (h : x.size = 0 ∨ 16 < x.size) : ¬ KeysOk xs := fun hk => by
  obtain ⟨hj, _⟩ := List.getElem?_eq_some_iff.1 hx
  have := hk.1 _ x hj hx
  omega
theorem rises_first {xs : List ByteArray} {i : Nat} (h : Rises xs i) (hi : i ≤ 0) : Rises xs (i + 1) := rises_0 (by omega)
theorem bnot_dec {p q : Prop} {i : Decidable p} {j : Decidable q} (h : q ↔ ¬ p) : Value.bool (!@decide p i) = Value.bool (@decide q j) := by
  by_cases hp : p
  · rw [decide_eq_true hp, decide_eq_false (fun hq => h.1 hq hp)]; rfl
  · rw [decide_eq_false hp, decide_eq_true (h.2 hp)]; rfl
theorem bdec {p q : Prop} {i : Decidable p} {j : Decidable q} (h : q ↔ p) : Value.bool (@decide p i) = Value.bool (@decide q j) := by
  by_cases hp : p
  · rw [decide_eq_true hp, decide_eq_true (h.2 hp)]
  · rw [decide_eq_false hp, decide_eq_false (fun hq => hp (h.1 hq))]
theorem bnot_b {b : Bool} {p q : Prop} {j : Decidable q} (hb : b = true ↔ p) (h : q ↔ ¬ p) : Value.bool (!b) = Value.bool (@decide q j) := by
  cases b with
  | true => rw [decide_eq_false (fun hq => h.1 hq (hb.1 rfl))]; rfl
  | false => rw [decide_eq_true (h.2 fun hp => absurd (hb.2 hp) (by decide))]; rfl
theorem fv_dec {P : Program} {fv : Value} {args : List Value} {W : World} {L : List Res} {p : Prop} {i : Decidable p} (h : FV P fv args W L (fun r L' => r = .bool (@decide p i) ∧ L = L')) : FV P fv args W L (fun r L' => ∃ b : Bool, (b = true ↔ p) ∧ r = .bool b ∧ L = L') :=
  h.mono fun _ _ h => ⟨_, decide_eq_true_iff, h.1, h.2⟩
theorem none_on {α : Type} {p : α → Prop} {xs : List α} {x : α} {i : Nat} (h : ∀ j x, j < i → xs[j]? = some x → ¬ p x) (hx : xs[i]? = some x) (hn : ¬ p x) : ∀ j x, j < i + 1 → xs[j]? = some x → ¬ p x := fun j y hj hy => by
  by_cases hji : j < i
  · exact h j y hji hy
  · obtain rfl : j = i := by omega
    rw [hx] at hy; cases hy; exact hn
theorem none_all {α : Type} {p : α → Prop} {xs : List α} {i : Nat} (h : ∀ j x, j < i → xs[j]? = some x → ¬ p x) (hi : xs.length ≤ i) : ¬ ∃ x ∈ xs, p x := fun ⟨x, hm, hp⟩ => by
  obtain ⟨j, hj, rfl⟩ := List.mem_iff_getElem.1 hm
  exact h j _ (by omega) (List.getElem?_eq_getElem hj) hp
theorem rises_ {W : World} {F : List Res} {xs : List ByteArray} {a : Option Addr} {c : Nat} (hs : RdS W F e_S a xs) (hn : xs.length ≤ 9223372036854775807) : CS Tryz.prog 88 #[.slice a (xs).length c] W (F) (fun r L' => r = .bool (decide (KeysOk xs)) ∧ F = L') := by
 refine f_door (l0 := [(0, .slice a (xs).length c)]) Tryz.func88 Tryz.ntmps88 rfl rfl rfl ?_
 refine c_seq ?_
 refine c_region ?_
 refine o_assign rfl rfl ?_
 refine l_nil ?_
 refine q_then ?_
 refine c_seq ?_
 refine c_seq ?_
 refine c_region ?_
 refine o_move rfl rfl ?_
 refine o_len rfl rfl Tryz.underlying27 ?_
 refine o_move rfl rfl ?_
 refine l_nil ?_
 refine q_then ?_
 refine c_block ?_
 refine c_loop (α := Nat) (fun z => [(0, .slice a (xs).length c), (5, .slice a (xs).length c), (6, .int .i64 ((xs).length : Int)), (7, .int .i64 (z : Int))]) (fun z => F) (fun z => z ≤ xs.length ∧ Short xs z ∧ Rises xs z) (fun z => xs.length - z) (0) (by exact ⟨Nat.zero_le _, short_0, rises_0 (by omega)⟩) ⟨(by first | rfl | exact vint (by omega)), (by first | rfl | exact vint (by omega)), (by first | rfl | exact vint (by omega)), (by first | rfl | exact vint (by omega)), trivial⟩ (fun w S => S) ?_
 rintro i ⟨hi, hsh, hr⟩
 try dsimp only at *
 refine c_seq ?_
 refine c_region ?_
 refine o_bin rfl rfl rfl b_lss ?_
 refine l_nil ?_
 refine q_then ?_
 refine c_seq ?_
 refine c_cond rfl (fun h1 => ?_) (fun h1 => ?_)
 · -- h1T
  have h1b := h1
  try simp only [decide_eq_true_eq] at h1
  refine c_skip ?_
  refine q_then ?_
  refine c_seq ?_
  refine c_block ?_
  refine c_seq ?_
  refine c_region ?_
  refine o_move rfl rfl ?_
  refine o_index e_S_ok rfl rfl rfl Tryz.underlying27 (by omega) (by omega) hs fun ad10 ead10 => ?_
  obtain ⟨x10, hx10⟩ : ∃ x, (xs)[((i : Int)).toNat]? = some x := ⟨_, List.getElem?_eq_getElem (by omega)⟩
  refine o_load1 rfl rfl Tryz.underlying9 rfl (rd_sl0 e_S_ok ead10 hs hx10 rfl) ?_
  refine o_assign rfl rfl ?_
  refine o_assign rfl rfl ?_
  refine l_nil ?_
  refine q_then ?_
  refine c_seq ?_
  refine c_region ?_
  refine o_move rfl rfl ?_
  refine o_bin rfl rfl rfl b_seql ?_
  refine o_move rfl rfl ?_
  refine l_split (t := 14) rfl (fun h2 => ?_) (fun h2 => ?_)
  · -- h2T
   have h2b := h2
   try simp only [decide_eq_true_eq] at h2
   refine o_no rfl rfl rfl rfl ?_
   refine o_no rfl rfl rfl rfl ?_
   refine o_no rfl rfl rfl rfl ?_
   refine o_pick_true rfl rfl rfl ?_
   refine o_move rfl rfl ?_
   refine o_no rfl rfl rfl rfl ?_
   refine o_no rfl rfl rfl rfl ?_
   refine o_no rfl rfl rfl rfl ?_
   refine o_no rfl rfl rfl rfl ?_
   refine o_no rfl rfl rfl rfl ?_
   refine o_no rfl rfl rfl rfl ?_
   refine o_no rfl rfl rfl rfl ?_
   refine o_no rfl rfl rfl rfl ?_
   refine o_no rfl rfl rfl rfl ?_
   refine o_no rfl rfl rfl rfl ?_
   refine o_no rfl rfl rfl rfl ?_
   refine o_pick_true rfl rfl rfl ?_
   refine l_nil ?_
   refine q_then ?_
   refine c_true rfl ?_
   refine c_seq ?_
   refine c_region ?_
   refine o_assign rfl rfl ?_
   refine l_nil ?_
   refine q_then ?_
   refine c_ret ?_
   refine q_block_ret ?_
   refine q_pass_ret ?_
   refine q_pass_ret ?_
   refine q_block_ret ?_
   refine q_pass_ret ?_
   exact f_ret (r_one rfl rfl) (⟨by rw [decide_eq_false (keys_no hx10 (.inl (by rw [h2]; rfl)))], rfl⟩) (fun w S => S)
  · -- h2F
   have h2b := h2
   try simp only [decide_eq_false_iff_not, Int.not_lt, Int.not_le] at h2
   refine o_yes rfl rfl rfl ?_
   refine o_move rfl rfl ?_
   refine o_yes rfl rfl rfl ?_
   refine o_lenStr rfl rfl Tryz.underlying9 ?_
   refine o_yes rfl rfl rfl ?_
   refine o_bin rfl rfl rfl b_gtr ?_
   refine o_pick_false rfl rfl rfl ?_
   refine o_move rfl rfl ?_
   refine l_split (t := 19) rfl (fun h3 => ?_) (fun h3 => ?_)
   · -- h3T
    have h3b := h3
    try simp only [decide_eq_true_eq] at h3
    refine o_no rfl rfl rfl rfl ?_
    refine o_no rfl rfl rfl rfl ?_
    refine o_no rfl rfl rfl rfl ?_
    refine o_no rfl rfl rfl rfl ?_
    refine o_no rfl rfl rfl rfl ?_
    refine o_no rfl rfl rfl rfl ?_
    refine o_no rfl rfl rfl rfl ?_
    refine o_no rfl rfl rfl rfl ?_
    refine o_no rfl rfl rfl rfl ?_
    refine o_no rfl rfl rfl rfl ?_
    refine o_no rfl rfl rfl rfl ?_
    refine o_pick_true rfl rfl rfl ?_
    refine l_nil ?_
    refine q_then ?_
    refine c_true rfl ?_
    refine c_seq ?_
    refine c_region ?_
    refine o_assign rfl rfl ?_
    refine l_nil ?_
    refine q_then ?_
    refine c_ret ?_
    refine q_block_ret ?_
    refine q_pass_ret ?_
    refine q_pass_ret ?_
    refine q_block_ret ?_
    refine q_pass_ret ?_
    exact f_ret (r_one rfl rfl) (⟨by rw [decide_eq_false (keys_no hx10 (.inr (by omega)))], rfl⟩) (fun w S => S)
   · -- h3F
    have h3b := h3
    try simp only [decide_eq_false_iff_not, Int.not_lt, Int.not_le] at h3
    refine o_yes rfl rfl rfl ?_
    refine o_move rfl rfl ?_
    refine o_yes rfl rfl rfl ?_
    refine o_bin rfl rfl rfl b_gtr ?_
    refine o_yes rfl rfl rfl ?_
    refine o_move rfl rfl ?_
    refine l_split (t := 22) rfl (fun h4 => ?_) (fun h4 => ?_)
    · -- h4T
     have h4b := h4
     try simp only [decide_eq_true_eq] at h4
     refine o_yes rfl rfl rfl ?_
     refine o_move rfl rfl ?_
     refine o_yes rfl rfl rfl ?_
     refine o_move rfl rfl ?_
     refine o_yes rfl rfl rfl ?_
     refine o_bin rfl rfl rfl (b_sub (wrap_i64 (by omega) (by omega))) ?_
     refine o_yes rfl rfl rfl ?_
     refine o_indexK e_S_ok ead10 rfl rfl rfl Tryz.underlying27 (by omega) (by omega) ?_
     obtain ⟨x26, hx26⟩ : ∃ x, (xs)[(((i : Int) - 1)).toNat]? = some x := ⟨_, List.getElem?_eq_getElem (by omega)⟩
     refine o_yes rfl rfl rfl ?_
     refine o_load1 rfl rfl Tryz.underlying9 rfl (rd_sl0 e_S_ok ead10 hs hx26 rfl) ?_
     refine o_yes rfl rfl rfl ?_
     refine o_move rfl rfl ?_
     refine o_yes rfl rfl rfl ?_
     refine o_bin rfl rfl rfl b_sgeq ?_
     refine o_yes rfl rfl rfl ?_
     refine o_pick_true rfl rfl rfl ?_
     refine o_pick_false rfl rfl rfl ?_
     refine l_nil ?_
     refine q_then ?_
     refine c_cond rfl (fun h5 => ?_) (fun h5 => ?_)
     · -- h5T
      have h5b := h5
      try simp only [decide_eq_true_eq, decide_eq_false_iff_not, Bool.not_eq_eq_eq_not, Bool.not_true, Bool.not_false, Bool.not_eq_true', Bool.not_eq_false', Int.not_lt, Int.not_le, Bool.or_eq_true, Bool.and_eq_true] at h5
      refine c_seq ?_
      refine c_region ?_
      refine o_assign rfl rfl ?_
      refine l_nil ?_
      refine q_then ?_
      refine c_ret ?_
      refine q_block_ret ?_
      refine q_pass_ret ?_
      refine q_pass_ret ?_
      refine q_block_ret ?_
      refine q_pass_ret ?_
      exact f_ret (r_one rfl rfl) (⟨by rw [decide_eq_false (fun hk => rises_not (by omega) hx26 hx10 (by simpa using h5b) hk.2)], rfl⟩) (fun w S => S)
     · -- h5F
      have h5b := h5
      try simp only [decide_eq_true_eq, decide_eq_false_iff_not, Bool.not_eq_eq_eq_not, Bool.not_true, Bool.not_false, Bool.not_eq_true', Bool.not_eq_false', Int.not_lt, Int.not_le, Bool.or_eq_true, Bool.and_eq_true] at h5
      refine c_skip ?_
      refine q_block ?_
      refine q_then ?_
      refine c_region ?_
      refine o_bin rfl rfl rfl (b_add (wrap_i64 (by omega) (by omega))) ?_
      refine o_move rfl rfl ?_
      refine l_nil ?_
      exact q_round (i + 1) (by exact ⟨by omega, short_on hsh hx10 (ba_pos h2) (by omega), rises_on' (by omega) hr hx26 hx10 (by simpa using h5)⟩) (by (try dsimp only); omega) ⟨(by first | rfl | exact vint (by omega)), (by first | rfl | exact vint (by omega)), (by first | rfl | exact vint (by omega)), (by first | rfl | exact vint (by omega)), trivial⟩ (fun w S => S)
    · -- h4F
     have h4b := h4
     try simp only [decide_eq_false_iff_not, Int.not_lt, Int.not_le] at h4
     refine o_no rfl rfl rfl rfl ?_
     refine o_no rfl rfl rfl rfl ?_
     refine o_no rfl rfl rfl rfl ?_
     refine o_no rfl rfl rfl rfl ?_
     refine o_no rfl rfl rfl rfl ?_
     refine o_no rfl rfl rfl rfl ?_
     refine o_no rfl rfl rfl rfl ?_
     refine o_yes rfl rfl rfl ?_
     refine o_pick_false rfl rfl rfl ?_
     refine o_pick_false rfl rfl rfl ?_
     refine l_nil ?_
     refine q_then ?_
     refine c_false rfl ?_
     refine c_skip ?_
     refine q_block ?_
     refine q_then ?_
     refine c_region ?_
     refine o_bin rfl rfl rfl (b_add (wrap_i64 (by omega) (by omega))) ?_
     refine o_move rfl rfl ?_
     refine l_nil ?_
     exact q_round (i + 1) (by exact ⟨by omega, short_on hsh hx10 (ba_pos h2) (by omega), rises_first hr (by omega)⟩) (by (try dsimp only); omega) ⟨(by first | rfl | exact vint (by omega)), (by first | rfl | exact vint (by omega)), (by first | rfl | exact vint (by omega)), (by first | rfl | exact vint (by omega)), trivial⟩ (fun w S => S)
 · -- h1F
  have h1b := h1
  try simp only [decide_eq_false_iff_not, Int.not_lt, Int.not_le] at h1
  refine c_exit ?_
  refine q_pass_exit ?_
  refine q_pass_exit ?_
  refine q_hit ?_
  refine q_then ?_
  refine c_seq ?_
  refine c_region ?_
  refine o_assign rfl rfl ?_
  refine l_nil ?_
  refine q_then ?_
  refine c_ret ?_
  exact f_ret (r_one rfl rfl) (⟨by rw [decide_eq_true (show KeysOk xs from ⟨fun j x hj => hsh j x (by omega), fun j x y hj => hr j x y (by omega)⟩)], rfl⟩) (fun w S => S)
theorem indexFS {W : World} {F : List Res} {xs : List ByteArray} {a : Option Addr} {c : Nat} (hs : RdS W F e_S a xs) (hn : xs.length ≤ 9223372036854775807) {fv : Value} {p : ByteArray → Prop} (hf : ∀ x ∈ xs, FV Tryz.prog fv [.string x] W F (fun r L' => ∃ b : Bool, (b = true ↔ p x) ∧ r = .bool b ∧ F = L')) : CS Tryz.prog 108 #[.slice a (xs).length c, fv] W (F) (fun r L' => ∃ n : Int, (0 ≤ n ↔ ∃ x ∈ xs, p x) ∧ r = .int .i64 n ∧ F = L') := by
 refine f_door (l0 := [(0, .slice a (xs).length c), (1, fv)]) Tryz.func108 Tryz.ntmps108 rfl rfl rfl ?_
 refine c_seq ?_
 refine c_region ?_
 refine o_assign rfl rfl ?_
 refine l_nil ?_
 refine q_then ?_
 refine c_seq ?_
 refine c_seq ?_
 refine c_region ?_
 refine o_move rfl rfl ?_
 refine o_len rfl rfl Tryz.underlying27 ?_
 refine o_move rfl rfl ?_
 refine l_nil ?_
 refine q_then ?_
 refine c_block ?_
 refine c_loop (α := Nat) (fun z => [(0, .slice a (xs).length c), (1, fv), (7, .int .i64 ((xs).length : Int)), (8, .int .i64 (z : Int))]) (fun z => F) (fun z => z ≤ xs.length ∧ ∀ j x, j < z → xs[j]? = some x → ¬ p x) (fun z => xs.length - z) (0) (by exact ⟨Nat.zero_le _, fun j x h => absurd h (by omega)⟩) ⟨(by first | rfl | exact vint (by omega)), (by first | rfl | exact vint (by omega)), (by first | rfl | exact vint (by omega)), (by first | rfl | exact vint (by omega)), trivial⟩ (fun w S => S) ?_
 rintro i ⟨hi, hno⟩
 try dsimp only at *
 refine c_seq ?_
 refine c_region ?_
 refine o_bin rfl rfl rfl b_lss ?_
 refine l_nil ?_
 refine q_then ?_
 refine c_seq ?_
 refine c_cond rfl (fun h1 => ?_) (fun h1 => ?_)
 · -- h1T
  have h1b := h1
  try simp only [decide_eq_true_eq] at h1
  refine c_skip ?_
  refine q_then ?_
  refine c_seq ?_
  refine c_block ?_
  refine c_seq ?_
  refine c_region ?_
  refine o_move rfl rfl ?_
  refine o_assign rfl rfl ?_
  refine l_nil ?_
  refine q_then ?_
  refine c_seq ?_
  refine c_region ?_
  refine o_move rfl rfl ?_
  refine o_move rfl rfl ?_
  refine o_move rfl rfl ?_
  refine o_index e_S_ok rfl rfl rfl Tryz.underlying27 (by omega) (by omega) hs fun ad14 ead14 => ?_
  obtain ⟨x14, hx14⟩ : ∃ x, (xs)[((i : Int)).toNat]? = some x := ⟨_, List.getElem?_eq_getElem (by omega)⟩
  refine o_load1 rfl rfl Tryz.underlying9 rfl (rd_sl0 e_S_ok ead14 hs hx14 rfl) ?_
  refine o_callV rfl rfl rfl (hf x14 (List.mem_of_getElem? hx14)) ?_
  rintro _ _ ⟨b16, hb16, rfl, rfl⟩
  refine l_nil ?_
  refine q_then ?_
  refine c_cond rfl (fun h2 => ?_) (fun h2 => ?_)
  · -- h2T
   have h2b := h2
   try simp only [decide_eq_true_eq, decide_eq_false_iff_not, Bool.not_eq_eq_eq_not, Bool.not_true, Bool.not_false, Bool.not_eq_true', Bool.not_eq_false', Int.not_lt, Int.not_le, Bool.or_eq_true, Bool.and_eq_true] at h2
   refine c_seq ?_
   refine c_region ?_
   refine o_move rfl rfl ?_
   refine o_assign rfl rfl ?_
   refine l_nil ?_
   refine q_then ?_
   refine c_ret ?_
   refine q_block_ret ?_
   refine q_pass_ret ?_
   refine q_pass_ret ?_
   refine q_block_ret ?_
   refine q_pass_ret ?_
   exact f_ret (r_one rfl rfl) (⟨(i : Int), ⟨fun _ => ⟨x14, List.mem_of_getElem? hx14, hb16.1 h2b⟩, fun _ => by omega⟩, rfl, rfl⟩) (fun w S => S)
  · -- h2F
   have h2b := h2
   try simp only [decide_eq_true_eq, decide_eq_false_iff_not, Bool.not_eq_eq_eq_not, Bool.not_true, Bool.not_false, Bool.not_eq_true', Bool.not_eq_false', Int.not_lt, Int.not_le, Bool.or_eq_true, Bool.and_eq_true] at h2
   refine c_skip ?_
   refine q_block ?_
   refine q_then ?_
   refine c_region ?_
   refine o_bin rfl rfl rfl (b_add (wrap_i64 (by omega) (by omega))) ?_
   refine o_move rfl rfl ?_
   refine l_nil ?_
   exact q_round (i + 1) (by exact ⟨by omega, none_on hno hx14 (fun h9 => by rw [hb16.2 h9] at h2b; cases h2b)⟩) (by (try dsimp only); omega) ⟨(by first | rfl | exact vint (by omega)), (by first | rfl | exact vint (by omega)), (by first | rfl | exact vint (by omega)), (by first | rfl | exact vint (by omega)), trivial⟩ (fun w S => S)
 · -- h1F
  have h1b := h1
  try simp only [decide_eq_false_iff_not, Int.not_lt, Int.not_le] at h1
  refine c_exit ?_
  refine q_pass_exit ?_
  refine q_pass_exit ?_
  refine q_hit ?_
  refine q_then ?_
  refine c_seq ?_
  refine c_region ?_
  refine o_assign rfl rfl ?_
  refine l_nil ?_
  refine q_then ?_
  refine c_ret ?_
  exact f_ret (r_one rfl rfl) (⟨-1, ⟨fun h9 => absurd h9 (by decide), fun h9 => absurd h9 (none_all hno (by omega))⟩, rfl, rfl⟩) (fun w S => S)
theorem containsFS {W : World} {F : List Res} {xs : List ByteArray} {a : Option Addr} {c : Nat} (hs : RdS W F e_S a xs) (hn : xs.length ≤ 9223372036854775807) {fv : Value} {p : ByteArray → Prop} (hf : ∀ x ∈ xs, FV Tryz.prog fv [.string x] W F (fun r L' => ∃ b : Bool, (b = true ↔ p x) ∧ r = .bool b ∧ F = L')) : CS Tryz.prog 89 #[.slice a (xs).length c, fv] W (F) (fun r L' => ∃ b : Bool, (b = true ↔ ∃ x ∈ xs, p x) ∧ r = .bool b ∧ F = L') := by
 refine f_door (l0 := [(0, .slice a (xs).length c), (1, fv)]) Tryz.func89 Tryz.ntmps89 rfl rfl rfl ?_
 refine c_seq ?_
 refine c_region ?_
 refine o_assign rfl rfl ?_
 refine l_nil ?_
 refine q_then ?_
 refine c_seq ?_
 refine c_region ?_
 refine o_move rfl rfl ?_
 refine o_move rfl rfl ?_
 refine o_call rfl cal108 rfl (indexFS (p := p) hs (by omega) hf) ?_
 rintro _ _ ⟨n7, hn7, rfl, rfl⟩
 refine o_bin rfl rfl rfl b_geq ?_
 refine o_assign rfl rfl ?_
 refine l_nil ?_
 refine q_then ?_
 refine c_ret ?_
 exact f_ret (r_one rfl rfl) (⟨_, by rw [decide_eq_true_iff]; exact hn7, rfl, rfl⟩) (fun w S => S)
theorem indexFO {W : World} {F : List Res} {xs : List Op} {a : Option Addr} {c : Nat} (hs : RdS W F e_Op a xs) (hn : xs.length ≤ 9223372036854775807) {fv : Value} {p : Op → Prop} (hf : ∀ x ∈ xs, FV Tryz.prog fv [.agg (e_Op.cells x).toArray] W F (fun r L' => ∃ b : Bool, (b = true ↔ p x) ∧ r = .bool b ∧ F = L')) : CS Tryz.prog 92 #[.slice a (xs).length c, fv] W (F) (fun r L' => ∃ n : Int, (0 ≤ n ↔ ∃ x ∈ xs, p x) ∧ r = .int .i64 n ∧ F = L') := by
 refine f_door (l0 := [(0, .slice a (xs).length c), (1, fv)]) Tryz.func92 Tryz.ntmps92 rfl rfl rfl ?_
 refine c_seq ?_
 refine c_region ?_
 refine o_assign rfl rfl ?_
 refine l_nil ?_
 refine q_then ?_
 refine c_seq ?_
 refine c_seq ?_
 refine c_region ?_
 refine o_move rfl rfl ?_
 refine o_len rfl rfl Tryz.underlying28 ?_
 refine o_move rfl rfl ?_
 refine l_nil ?_
 refine q_then ?_
 refine c_block ?_
 refine c_loop (α := Nat) (fun z => [(0, .slice a (xs).length c), (1, fv), (7, .int .i64 ((xs).length : Int)), (8, .int .i64 (z : Int))]) (fun z => F) (fun z => z ≤ xs.length ∧ ∀ j x, j < z → xs[j]? = some x → ¬ p x) (fun z => xs.length - z) (0) (by exact ⟨Nat.zero_le _, fun j x h => absurd h (by omega)⟩) ⟨(by first | rfl | exact vint (by omega)), (by first | rfl | exact vint (by omega)), (by first | rfl | exact vint (by omega)), (by first | rfl | exact vint (by omega)), trivial⟩ (fun w S => S) ?_
 rintro i ⟨hi, hno⟩
 try dsimp only at *
 refine c_seq ?_
 refine c_region ?_
 refine o_bin rfl rfl rfl b_lss ?_
 refine l_nil ?_
 refine q_then ?_
 refine c_seq ?_
 refine c_cond rfl (fun h1 => ?_) (fun h1 => ?_)
 · -- h1T
  have h1b := h1
  try simp only [decide_eq_true_eq] at h1
  refine c_skip ?_
  refine q_then ?_
  refine c_seq ?_
  refine c_block ?_
  refine c_seq ?_
  refine c_region ?_
  refine o_move rfl rfl ?_
  refine o_assign rfl rfl ?_
  refine l_nil ?_
  refine q_then ?_
  refine c_seq ?_
  refine c_region ?_
  refine o_move rfl rfl ?_
  refine o_move rfl rfl ?_
  refine o_move rfl rfl ?_
  refine o_index e_Op_ok rfl rfl rfl Tryz.underlying28 (by omega) (by omega) hs fun ad14 ead14 => ?_
  obtain ⟨x14, hx14⟩ : ∃ x, (xs)[((i : Int)).toNat]? = some x := ⟨_, List.getElem?_eq_getElem (by omega)⟩
  refine o_loadn (vs := e_Op.cells x14) rfl rfl Tryz.underlying92 rfl ti92 (rdn_sl e_Op_ok ead14 hs hx14) ?_
  refine o_callV rfl rfl rfl (hf x14 (List.mem_of_getElem? hx14)) ?_
  rintro _ _ ⟨b16, hb16, rfl, rfl⟩
  refine l_nil ?_
  refine q_then ?_
  refine c_cond rfl (fun h2 => ?_) (fun h2 => ?_)
  · -- h2T
   have h2b := h2
   try simp only [decide_eq_true_eq, decide_eq_false_iff_not, Bool.not_eq_eq_eq_not, Bool.not_true, Bool.not_false, Bool.not_eq_true', Bool.not_eq_false', Int.not_lt, Int.not_le, Bool.or_eq_true, Bool.and_eq_true] at h2
   refine c_seq ?_
   refine c_region ?_
   refine o_move rfl rfl ?_
   refine o_assign rfl rfl ?_
   refine l_nil ?_
   refine q_then ?_
   refine c_ret ?_
   refine q_block_ret ?_
   refine q_pass_ret ?_
   refine q_pass_ret ?_
   refine q_block_ret ?_
   refine q_pass_ret ?_
   exact f_ret (r_one rfl rfl) (⟨(i : Int), ⟨fun _ => ⟨x14, List.mem_of_getElem? hx14, hb16.1 h2b⟩, fun _ => by omega⟩, rfl, rfl⟩) (fun w S => S)
  · -- h2F
   have h2b := h2
   try simp only [decide_eq_true_eq, decide_eq_false_iff_not, Bool.not_eq_eq_eq_not, Bool.not_true, Bool.not_false, Bool.not_eq_true', Bool.not_eq_false', Int.not_lt, Int.not_le, Bool.or_eq_true, Bool.and_eq_true] at h2
   refine c_skip ?_
   refine q_block ?_
   refine q_then ?_
   refine c_region ?_
   refine o_bin rfl rfl rfl (b_add (wrap_i64 (by omega) (by omega))) ?_
   refine o_move rfl rfl ?_
   refine l_nil ?_
   exact q_round (i + 1) (by exact ⟨by omega, none_on hno hx14 (fun h9 => by rw [hb16.2 h9] at h2b; cases h2b)⟩) (by (try dsimp only); omega) ⟨(by first | rfl | exact vint (by omega)), (by first | rfl | exact vint (by omega)), (by first | rfl | exact vint (by omega)), (by first | rfl | exact vint (by omega)), trivial⟩ (fun w S => S)
 · -- h1F
  have h1b := h1
  try simp only [decide_eq_false_iff_not, Int.not_lt, Int.not_le] at h1
  refine c_exit ?_
  refine q_pass_exit ?_
  refine q_pass_exit ?_
  refine q_hit ?_
  refine q_then ?_
  refine c_seq ?_
  refine c_region ?_
  refine o_assign rfl rfl ?_
  refine l_nil ?_
  refine q_then ?_
  refine c_ret ?_
  exact f_ret (r_one rfl rfl) (⟨-1, ⟨fun h9 => absurd h9 (by decide), fun h9 => absurd h9 (none_all hno (by omega))⟩, rfl, rfl⟩) (fun w S => S)
theorem containsFO {W : World} {F : List Res} {xs : List Op} {a : Option Addr} {c : Nat} (hs : RdS W F e_Op a xs) (hn : xs.length ≤ 9223372036854775807) {fv : Value} {p : Op → Prop} (hf : ∀ x ∈ xs, FV Tryz.prog fv [.agg (e_Op.cells x).toArray] W F (fun r L' => ∃ b : Bool, (b = true ↔ p x) ∧ r = .bool b ∧ F = L')) : CS Tryz.prog 68 #[.slice a (xs).length c, fv] W (F) (fun r L' => ∃ b : Bool, (b = true ↔ ∃ x ∈ xs, p x) ∧ r = .bool b ∧ F = L') := by
 refine f_door (l0 := [(0, .slice a (xs).length c), (1, fv)]) Tryz.func68 Tryz.ntmps68 rfl rfl rfl ?_
 refine c_seq ?_
 refine c_region ?_
 refine o_assign rfl rfl ?_
 refine l_nil ?_
 refine q_then ?_
 refine c_seq ?_
 refine c_region ?_
 refine o_move rfl rfl ?_
 refine o_move rfl rfl ?_
 refine o_call rfl cal92 rfl (indexFO (p := p) hs (by omega) hf) ?_
 rintro _ _ ⟨n7, hn7, rfl, rfl⟩
 refine o_bin rfl rfl rfl b_geq ?_
 refine o_assign rfl rfl ?_
 refine l_nil ?_
 refine q_then ?_
 refine c_ret ?_
 exact f_ret (r_one rfl rfl) (⟨_, by rw [decide_eq_true_iff]; exact hn7, rfl, rfl⟩) (fun w S => S)
end
section
set_option linter.unusedVariables false
set_option linter.unusedSimpArgs false
set_option maxRecDepth 10000
open Go.RowKit Classical
noncomputable def keysT (t : Txn) : List ByteArray := setOf strlt (t.f_Reads.xs ++ t.f_Writes.xs)
theorem keysT_len (t : Txn) : (keysT t).length ≤ t.f_Reads.xs.length + t.f_Writes.xs.length := by
  have := setOf_le strlt_sto (t.f_Reads.xs ++ t.f_Writes.xs)
  rw [List.length_append] at this; exact this
theorem keysT_same {a b : Txn} (h : SameT a b) : keysT a = keysT b := by unfold keysT; rw [h.2.2.1, h.2.2.2.1]
theorem keys_ {W : World} {F : List Res} {t : Txn} (T_t : TxR W F t) (hb : t.f_Reads.xs.length + t.f_Writes.xs.length ≤ 1000000) : CS Tryz.prog 40 #[.agg #[.int .i64 t.f_Kind, .slice t.f_Reads.a (t.f_Reads.xs).length t.f_Reads.c, .slice t.f_Writes.a (t.f_Writes.xs).length t.f_Writes.c, .slice t.f_Ops.a (t.f_Ops.xs).length t.f_Ops.c, .int .i64 t.f_To]] W (F) (fun r L' => ∃ (a : Option Addr) (c : Nat), r = .slice a (keysT t).length c ∧ L' = row e_S.T e_S.sz a (keysT t).length c (flat e_S (keysT t)) :: F) := by
 refine f_door (l0 := [(0, .agg #[.int .i64 t.f_Kind, .slice t.f_Reads.a (t.f_Reads.xs).length t.f_Reads.c, .slice t.f_Writes.a (t.f_Writes.xs).length t.f_Writes.c, .slice t.f_Ops.a (t.f_Ops.xs).length t.f_Ops.c, .int .i64 t.f_To])]) Tryz.func40 Tryz.ntmps40 rfl rfl rfl ?_
 refine c_seq ?_
 refine c_region ?_
 refine o_box rfl rfl fun b1 => ?_
 refine o_assign rfl rfl ?_
 refine l_nil ?_
 refine q_then ?_
 refine c_seq ?_
 refine c_region ?_
 refine o_fieldAddr (q := ⟨b1, 1, none⟩) rfl rfl Tryz.underlying30 rfl ti27 rfl ?_
 refine o_load1 rfl rfl Tryz.underlying27 rfl (rd_mem 0 rfl rfl) ?_
 refine o_fieldAddr (q := ⟨b1, 2, none⟩) rfl rfl Tryz.underlying30 rfl ti27 rfl ?_
 refine o_load1 rfl rfl Tryz.underlying27 rfl (rd_mem 0 rfl rfl) ?_
 refine o_lit e_s27_ok rfl Tryz.underlying140 rfl rfl rfl (lit_ok rfl) [t.f_Reads, t.f_Writes] rfl rfl fun a8 => ?_
 refine o_call rfl cal62 rfl (concat2_ (rds_own e_s27_ok 0 rfl) (TxR.c (TxR.c T_t)).rr (TxR.c (TxR.c T_t)).rw (by omega)) ?_
 rintro _ _ ⟨a9, c9, rfl, rfl⟩
 refine o_assign rfl rfl ?_
 refine l_nil ?_
 refine q_then ?_
 refine c_seq ?_
 refine c_region ?_
 refine o_move rfl rfl ?_
 refine o_call rfl cal63 rfl (sortS (e := e_S) (a := a9) (c := c9) (xs := (t.f_Reads.xs ++ t.f_Writes.xs)) rfl rfl (by try simp only [List.length_append]; omega)) ?_
 rintro _ _ ⟨ys11, hp11, hs11, rfl, rfl⟩
 have hl11 := hp11.length_eq
 refine l_eq (t := 9) (v' := .slice a9 (ys11).length c9) rfl (by rw [hl11]) ?_
 refine l_eq (t := 3) (v' := .slice a9 (ys11).length c9) rfl (by rw [hl11]) ?_
 refine l_eq (t := 10) (v' := .slice a9 (ys11).length c9) rfl (by rw [hl11]) ?_
 refine l_nil ?_
 refine q_then ?_
 refine c_seq ?_
 refine c_region ?_
 refine o_move rfl rfl ?_
 refine o_call rfl cal64 rfl (compactS (e := e_S) (a := a9) (c := c9) (xs := ys11) rfl rfl hs11 (by rw [hl11, List.length_append]; omega)) ?_
 rintro _ _ ⟨rfl, rfl⟩
 refine o_assign rfl rfl ?_
 refine l_nil ?_
 refine q_then ?_
 refine c_ret ?_
 refine q_conv (fun w S => (S.perm p1).tail) ?_
 refine q_conv (fun w S => (S.perm p1).tail) ?_
 exact f_ret (r_one rfl rfl) (⟨a9, c9, by rw [setOf_perm strlt_sto hp11]; rfl, by rw [setOf_perm strlt_sto hp11]; rfl⟩) (fun w S => S)
end
section
set_option linter.unusedVariables false
set_option linter.unusedSimpArgs false
open Go.RowKit Classical
def MkOk (r : Int) (m : Mark) (k : ByteArray) : Prop := m.f_Key = k ∧ 0 ≤ m.f_Home ∧ m.f_Home < r
def MksTo (r : Int) (ms : List Mark) (ks : List ByteArray) (i : Nat) : Prop := ∀ j m k, j < i → ms[j]? = some m → ks[j]? = some k → MkOk r m k
def IdOk (o : Order) : Prop := 0 ≤ o.f_Tag_Id_Node ∧ o.f_Tag_Id_Node < 9 ∧ 0 < o.f_Tag_Id_Epoch ∧ 0 < o.f_Tag_Id_Seq ∧ 0 ≤ o.f_Tag_Try ∧ o.f_Tag_Try < 3
def OrdOk (o : Order) (r : Int) : Prop := ChkOk o.txn r ∧ IdOk o ∧ o.f_Marks.xs.length = (keysT o.txn).length ∧ MksTo r o.f_Marks.xs (keysT o.txn) o.f_Marks.xs.length
noncomputable def chkO (o : Order) (r : Int) : Int := if OrdOk o r then 0 else 1
theorem chkO_0 {o : Order} {r : Int} : chkO o r = 0 ↔ OrdOk o r := by unfold chkO; split <;> simp_all
theorem chkO_yes {o : Order} {r : Int} (h : OrdOk o r) : chkO o r = 0 := if_pos h
theorem chkO_no {o : Order} {r : Int} (h : ¬ OrdOk o r) : chkO o r = 1 := if_neg h
theorem mks_0 {r : Int} {ms : List Mark} {ks : List ByteArray} : MksTo r ms ks 0 := fun j m k h => absurd h (by omega)
theorem mks_on {r : Int} {ms : List Mark} {ks : List ByteArray} {i : Nat} {m : Mark} {k : ByteArray} (h : MksTo r ms ks i) (hm : ms[((i : Int)).toNat]? = some m) (hk : ks[((i : Int)).toNat]? = some k) (h1 : MkOk r m k) : MksTo r ms ks (i + 1) := fun j a b hj ha hb => by
  have hm' : ms[i]? = some m := hm
  have hk' : ks[i]? = some k := hk
  by_cases hji : j < i
  · exact h j a b hji ha hb
  · obtain rfl : j = i := by omega
    rw [hm'] at ha; rw [hk'] at hb; cases ha; cases hb; exact h1
theorem ord_no {o : Order} {r : Int} {i : Nat} {m : Mark} {k : ByteArray} (hm : o.f_Marks.xs[((i : Int)).toNat]? = some m) (hk : (keysT o.txn)[((i : Int)).toNat]? = some k) (h1 : ¬ MkOk r m k) : ¬ OrdOk o r := fun h => h1 (h.2.2.2 i m k (List.getElem?_eq_some_iff.1 hm).1 hm hk)
theorem ordOk_same {a b : Order} {r : Int} (h : SameO a b) : OrdOk a r ↔ OrdOk b r := by
  have h1 : a.f_Tag_Id_Node = b.f_Tag_Id_Node := congrArg Tag.f_Id_Node h.1
  have h2 : a.f_Tag_Id_Epoch = b.f_Tag_Id_Epoch := congrArg Tag.f_Id_Epoch h.1
  have h3 : a.f_Tag_Id_Seq = b.f_Tag_Id_Seq := congrArg Tag.f_Id_Seq h.1
  have h4 : a.f_Tag_Try = b.f_Tag_Try := congrArg Tag.f_Try h.1
  unfold OrdOk IdOk
  rw [chk_same h.2.1, keysT_same h.2.1, h.2.2, h1, h2, h3, h4]
end
end Go.Proofs.YtlblipkcbmcfkaaGreat
