/- Printed by eng.py out of 13/spec.py. -/
import Derived.Test.YtokphffmbennkaaLearn
import Derived.Test.YtokphffmbennkaaRange
set_option linter.unusedVariables false
set_option linter.unusedSimpArgs false
set_option maxRecDepth 10000
namespace Go.Proofs.Ytokphffmbennkaa
open Go.RowKit
theorem all_ {W : World} {F : List Res} {k : Nat} : CS Try.prog 21 #[.pointer (some ⟨k, 0, none⟩)] W (F) (fun r L' => ∃ b, r = .func (.func 22) #[] #[.pointer (some ⟨b, 0, none⟩)] ∧ L' = blk b (.cells #[.pointer (some ⟨k, 0, none⟩)] 31 (0, 0)) :: F) := by
  refine f_door (l0 := [(0, .pointer (some ⟨k, 0, none⟩))]) Try.func21 Try.ntmps21 rfl rfl rfl ?_
  refine c_seq ?_
  refine c_region ?_
  refine o_box rfl rfl fun b1 => ?_
  refine o_assign rfl rfl ?_
  refine l_nil ?_
  refine q_then ?_
  refine c_seq ?_
  refine c_region ?_
  refine o_makeFunc rfl rfl rfl ?_
  refine o_assign rfl rfl ?_
  refine l_nil ?_
  refine q_then ?_
  refine c_ret ?_
  exact f_ret (r_one rfl rfl) (⟨b1, rfl, rfl⟩) (fun w S => S)

abbrev known (D : List (Int × ByteArray)) (wh : Nat) : List (Int × ByteArray) := (List.range wh).map fun (i : Nat) => ((i : Int), (mget D (i : Int)).getD ByteArray.empty)
theorem known_take {D : List (Int × ByteArray)} {wh i : Nat} (h : i < wh) : (known D wh).take (i + 1) = (known D wh).take i ++ [((i : Int), (mget D (i : Int)).getD ByteArray.empty)] := by
  have h1 : (known D wh)[i]? = some ((i : Int), (mget D (i : Int)).getD ByteArray.empty) := by simp [known, h]
  rw [List.take_add_one, h1]; rfl
theorem known_all {D : List (Int × ByteArray)} {wh i : Nat} (h : wh ≤ i) : (known D wh).take i = known D wh := List.take_of_length_le (by simp [known]; exact h)
abbrev encK : Int × ByteArray → List Value := fun x => [.int .i64 x.1, .string x.2]
theorem all_iter {W : World} {k mb b wh : Nat} {D : List (Int × ByteArray)} (hw : wh ≤ 64) : Iter Try.prog 22 #[.pointer (some ⟨b, 0, none⟩)] encK W [blk b (.cells #[.pointer (some ⟨k, 0, none⟩)] 31 (0, 0)), blk k (.cells #[.map (some mb), .int .i64 (wh : Int)] 57 (0, 0)), mapR kvI vvS mb D] (known D wh) := by
  intro y I J L0 h0 hy
  show CS Try.prog 22 #[y, .pointer (some ⟨b, 0, none⟩)] W (blk b (.cells #[.pointer (some ⟨k, 0, none⟩)] 31 (0, 0)) :: blk k (.cells #[.map (some mb), .int .i64 (wh : Int)] 57 (0, 0)) :: mapR kvI vvS mb D :: L0) (fun _ L' => ∃ L2, (I (known D wh) L2 ∨ J L2) ∧ L' = [blk b (.cells #[.pointer (some ⟨k, 0, none⟩)] 31 (0, 0)), blk k (.cells #[.map (some mb), .int .i64 (wh : Int)] 57 (0, 0)), mapR kvI vvS mb D] ++ L2)
  refine f_door (l0 := [(0, y), (1, .pointer (some ⟨b, 0, none⟩))]) Try.func22 Try.ntmps22 rfl rfl rfl ?_
  refine c_seq ?_
  refine c_region ?_
  refine o_assign rfl rfl ?_
  refine l_nil ?_
  refine q_then ?_
  refine c_block ?_
  refine c_loop (α := Nat × (List Res)) (fun z => [(0, y), (1, .pointer (some ⟨b, 0, none⟩)), (3, .int .i64 (z.1 : Int))]) (fun z => blk b (.cells #[.pointer (some ⟨k, 0, none⟩)] 31 (0, 0)) :: blk k (.cells #[.map (some mb), .int .i64 (wh : Int)] 57 (0, 0)) :: mapR kvI vvS mb D :: z.2) (fun z => I ((known D wh).take z.1) z.2 ∧ z.1 ≤ wh) (fun z => wh - z.1) (0, L0) (by exact ⟨h0, Nat.zero_le _⟩) ⟨(by first | rfl | exact vint (by omega)), (by first | rfl | exact vint (by omega)), (by first | rfl | exact vint (by omega)), trivial⟩ (fun w S => S) ?_
  rintro ⟨i, Lp⟩ ⟨hI, hi⟩
  try dsimp only at *
  refine c_seq ?_
  refine c_seq ?_
  refine c_region ?_
  refine o_move rfl rfl ?_
  refine o_load1 rfl rfl Try.underlying31 rfl (rd_mem 0 rfl rfl) ?_
  refine o_nil rfl rfl ?_
  refine o_fieldAddr (q := ⟨k, 1, none⟩) rfl rfl Try.underlying57 rfl ti3 rfl ?_
  refine o_load1 rfl rfl Try.underlying3 rfl (rd_mem 1 rfl rfl) ?_
  refine o_bin rfl rfl rfl b_lss ?_
  refine l_nil ?_
  refine q_then ?_
  refine c_cond rfl (fun h1 => ?_) (fun h1 => ?_)
  · -- h1T
    have h1b := h1
    try simp only [decide_eq_true_eq, decide_eq_false_iff_not, Bool.not_eq_eq_eq_not, Bool.not_true, Bool.not_false, Bool.not_eq_true', Bool.not_eq_false', Int.not_lt, Int.not_le, Bool.or_eq_true, Bool.and_eq_true] at h1
    refine c_skip ?_
    refine q_then ?_
    refine c_seq ?_
    refine c_block ?_
    refine c_seq ?_
    refine c_region ?_
    refine o_move rfl rfl ?_
    refine o_move rfl rfl ?_
    refine o_load1 rfl rfl Try.underlying31 rfl (rd_mem 0 rfl rfl) ?_
    refine o_nil rfl rfl ?_
    refine o_fieldAddr (q := ⟨k, 0, none⟩) rfl rfl Try.underlying57 rfl ti55 rfl ?_
    refine o_load1 rfl rfl Try.underlying55 rfl (rd_mem 1 rfl rfl) ?_
    refine o_move rfl rfl ?_
    refine o_lookupD (kv := kvI) (vv := vvS) (b0 := ByteArray.empty) 2 rfl koI rfl rfl rfl Try.underlying55 ti9 ?_
    refine o_callV rfl rfl rfl (hy ((known D wh).take i) ((i : Int), (mget D (i : Int)).getD ByteArray.empty) _ hI (by rw [← known_take (by omega)]; exact List.take_prefix _ _)) ?_
    rintro _ _ (⟨rfl, Ly2, hy2, rfl⟩ | ⟨rfl, Ly2, hy2, rfl⟩)
    · -- the round says True
      refine l_conv (L' := blk b (.cells #[.pointer (some ⟨k, 0, none⟩)] 31 (0, 0)) :: blk k (.cells #[.map (some mb), .int .i64 (wh : Int)] 57 (0, 0)) :: mapR kvI vvS mb D :: Ly2) (fun w S => S) ?_
      refine o_not rfl rfl ?_
      refine l_nil ?_
      refine q_then ?_
      refine c_false rfl ?_
      refine c_skip ?_
      refine q_block ?_
      refine q_then ?_
      refine c_region ?_
      refine o_move rfl rfl ?_
      refine o_bin rfl rfl rfl (b_add (wrap_i64 (by omega) (by omega))) ?_
      refine o_assign rfl rfl ?_
      refine l_nil ?_
      exact q_round (i + 1, Ly2) (by exact ⟨by rw [known_take (by omega)]; exact hy2, by omega⟩) (by (try dsimp only); omega) ⟨(by first | rfl | exact vint (by omega)), (by first | rfl | exact vint (by omega)), (by first | rfl | exact vint (by omega)), trivial⟩ (fun w S => S)
    · -- the round says False
      refine l_conv (L' := blk b (.cells #[.pointer (some ⟨k, 0, none⟩)] 31 (0, 0)) :: blk k (.cells #[.map (some mb), .int .i64 (wh : Int)] 57 (0, 0)) :: mapR kvI vvS mb D :: Ly2) (fun w S => S) ?_
      refine o_not rfl rfl ?_
      refine l_nil ?_
      refine q_then ?_
      refine c_true rfl ?_
      refine c_ret ?_
      refine q_block_ret ?_
      refine q_pass_ret ?_
      refine q_pass_ret ?_
      refine q_block_ret ?_
      exact f_ret (r_none rfl) (⟨Ly2, .inr hy2, rfl⟩) (fun w S => S)
  · -- h1F
    have h1b := h1
    try simp only [decide_eq_true_eq, decide_eq_false_iff_not, Bool.not_eq_eq_eq_not, Bool.not_true, Bool.not_false, Bool.not_eq_true', Bool.not_eq_false', Int.not_lt, Int.not_le, Bool.or_eq_true, Bool.and_eq_true] at h1
    refine c_exit ?_
    refine q_pass_exit ?_
    refine q_pass_exit ?_
    refine q_hit ?_
    exact f_end (r_none rfl) (⟨Lp, .inl (by rw [← known_all (D := D) (show wh ≤ i by omega)]; exact hI), rfl⟩) (fun w S => S)

end Go.Proofs.Ytokphffmbennkaa
