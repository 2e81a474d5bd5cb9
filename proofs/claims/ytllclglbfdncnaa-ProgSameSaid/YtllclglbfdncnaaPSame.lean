/- Printed by eng2.py out of 05/spec.py. -/
import Derived.Test.YtllclglbfdncnaaSame
set_option linter.unusedVariables false
set_option linter.unusedSimpArgs false
set_option maxRecDepth 10000
namespace Go.Proofs.Ytllclglbfdncnaa
open Go.RowKit Classical
theorem alike_on {p : Op → Op → Prop} {xs ys : List Op} {i : Nat} {x y : Op} (h : ∀ j x y, j < i → xs[j]? = some x → ys[j]? = some y → p x y) (hx : xs[((i : Int)).toNat]? = some x) (hy : ys[((i : Int)).toNat]? = some y) (h1 : p x y) : ∀ j x y, j < i + 1 → xs[j]? = some x → ys[j]? = some y → p x y := fun j a b hj ha hb => by
  by_cases hji : j < i
  · exact h j a b hji ha hb
  · obtain rfl : j = i := by omega
    have hx' : xs[j]? = some x := hx
    have hy' : ys[j]? = some y := hy
    rw [hx'] at ha; rw [hy'] at hb; cases ha; cases hb; exact h1
theorem bval {b : Bool} {p q : Prop} {j : Decidable q} (hb : b = true ↔ p) (h : q ↔ p) : Value.bool b = Value.bool (@decide q j) := by
  cases b with
  | true => rw [decide_eq_true (h.2 (hb.1 rfl))]
  | false => rw [decide_eq_false (fun hq => absurd (hb.2 (h.1 hq)) (by decide))]
theorem sameOps_all {xs ys : List Op} : SameOps xs ys xs.length ↔ ∀ (j : Nat) x y, xs[j]? = some x → ys[j]? = some y → SameOp x y :=
  ⟨fun h j x y hx hy => h j x y (List.getElem?_eq_some_iff.1 hx).1 hx hy, fun h j x y _ hx hy => h j x y hx hy⟩
theorem bequal {W : World} {F : List Res} {xs ys : List UInt8} {a b : Option Addr} {c d : Nat} (h1 : RdS W F e8 a xs) (h2 : RdS W F e8 b ys) : CS Try.prog 33 #[.slice a xs.length c, .slice b ys.length d] W (F) (fun r L' => r = .bool (decide (xs = ys)) ∧ F = L') := by
  refine f_door (l0 := [(0, .slice a xs.length c), (1, .slice b ys.length d)]) Try.func33 Try.ntmps33 rfl rfl rfl ?_
  refine c_seq ?_
  refine c_region ?_
  refine o_assign rfl rfl ?_
  refine l_nil ?_
  refine q_then ?_
  refine c_seq ?_
  refine c_region ?_
  refine o_move rfl rfl ?_
  refine o_bytesStr (e := e8) rfl rfl rfl Try.underlying33 Try.underlying5 Try.underlying9 h1 ?_
  refine o_move rfl rfl ?_
  refine o_bytesStr (e := e8) rfl rfl rfl Try.underlying33 Try.underlying5 Try.underlying9 h2 ?_
  refine o_bin rfl rfl rfl b_seql ?_
  refine o_assign rfl rfl ?_
  refine l_nil ?_
  refine q_then ?_
  refine c_ret ?_
  exact f_ret (r_one rfl rfl) (⟨bdec bts_eq.symm, rfl⟩) (fun w S => S)

theorem sameF {W : World} {F : List Res} {x y : Op} (V_x : RdS W F e8 x.f_Value.a x.f_Value.xs) (V_y : RdS W F e8 y.f_Value.a y.f_Value.xs) : CS Try.prog 32 #[.agg #[.int .i64 x.f_Kind, .string x.f_Key, .slice x.f_Value.a (x.f_Value.xs).length x.f_Value.c, .int .i64 x.f_N], .agg #[.int .i64 y.f_Kind, .string y.f_Key, .slice y.f_Value.a (y.f_Value.xs).length y.f_Value.c, .int .i64 y.f_N]] W (F) (fun r L' => r = .bool (decide (SameOp x y)) ∧ F = L') := by
  refine f_door (l0 := [(0, .agg #[.int .i64 x.f_Kind, .string x.f_Key, .slice x.f_Value.a (x.f_Value.xs).length x.f_Value.c, .int .i64 x.f_N]), (1, .agg #[.int .i64 y.f_Kind, .string y.f_Key, .slice y.f_Value.a (y.f_Value.xs).length y.f_Value.c, .int .i64 y.f_N])]) Try.func32 Try.ntmps32 rfl rfl rfl ?_
  refine c_seq ?_
  refine c_region ?_
  refine o_box rfl rfl fun b2 => ?_
  refine o_box rfl rfl fun b3 => ?_
  refine o_assign rfl rfl ?_
  refine l_nil ?_
  refine q_then ?_
  refine c_seq ?_
  refine c_region ?_
  refine o_fieldAddr (q := ⟨b2, 0, none⟩) rfl rfl Try.underlying35 rfl ti3 rfl ?_
  refine o_load1 rfl rfl Try.underlying3 rfl (rd_mem 1 rfl rfl) ?_
  refine o_fieldAddr (q := ⟨b3, 0, none⟩) rfl rfl Try.underlying35 rfl ti3 rfl ?_
  refine o_load1 rfl rfl Try.underlying3 rfl (rd_mem 0 rfl rfl) ?_
  refine o_bin rfl rfl rfl b_eql ?_
  refine o_move rfl rfl ?_
  refine l_split (t := 10) rfl (fun h1 => ?_) (fun h1 => ?_)
  · -- h1T
    have h1b := h1
    try simp only [decide_eq_true_eq, decide_eq_false_iff_not, Bool.not_eq_eq_eq_not, Bool.not_true, Bool.not_false, Bool.not_eq_true', Bool.not_eq_false', Int.not_lt, Int.not_le, Bool.or_eq_true, Bool.and_eq_true] at h1
    refine o_yes rfl rfl rfl ?_
    refine o_fieldAddr (q := ⟨b2, 1, none⟩) rfl rfl Try.underlying35 rfl ti9 rfl ?_
    refine o_yes rfl rfl rfl ?_
    refine o_load1 rfl rfl Try.underlying9 rfl (rd_mem 1 rfl rfl) ?_
    refine o_yes rfl rfl rfl ?_
    refine o_fieldAddr (q := ⟨b3, 1, none⟩) rfl rfl Try.underlying35 rfl ti9 rfl ?_
    refine o_yes rfl rfl rfl ?_
    refine o_load1 rfl rfl Try.underlying9 rfl (rd_mem 0 rfl rfl) ?_
    refine o_yes rfl rfl rfl ?_
    refine o_bin rfl rfl rfl b_seql ?_
    refine o_pick_true rfl rfl rfl ?_
    refine o_move rfl rfl ?_
    refine l_split (t := 17) rfl (fun h2 => ?_) (fun h2 => ?_)
    · -- h2T
      have h2b := h2
      try simp only [decide_eq_true_eq, decide_eq_false_iff_not, Bool.not_eq_eq_eq_not, Bool.not_true, Bool.not_false, Bool.not_eq_true', Bool.not_eq_false', Int.not_lt, Int.not_le, Bool.or_eq_true, Bool.and_eq_true] at h2
      refine o_yes rfl rfl rfl ?_
      refine o_fieldAddr (q := ⟨b2, 3, none⟩) rfl rfl Try.underlying35 rfl ti2 rfl ?_
      refine o_yes rfl rfl rfl ?_
      refine o_load1 rfl rfl Try.underlying2 rfl (rd_mem 1 rfl rfl) ?_
      refine o_yes rfl rfl rfl ?_
      refine o_fieldAddr (q := ⟨b3, 3, none⟩) rfl rfl Try.underlying35 rfl ti2 rfl ?_
      refine o_yes rfl rfl rfl ?_
      refine o_load1 rfl rfl Try.underlying2 rfl (rd_mem 0 rfl rfl) ?_
      refine o_yes rfl rfl rfl ?_
      refine o_bin rfl rfl rfl b_eql ?_
      refine o_pick_true rfl rfl rfl ?_
      refine o_move rfl rfl ?_
      refine l_split (t := 24) rfl (fun h3 => ?_) (fun h3 => ?_)
      · -- h3T
        have h3b := h3
        try simp only [decide_eq_true_eq, decide_eq_false_iff_not, Bool.not_eq_eq_eq_not, Bool.not_true, Bool.not_false, Bool.not_eq_true', Bool.not_eq_false', Int.not_lt, Int.not_le, Bool.or_eq_true, Bool.and_eq_true] at h3
        refine o_yes rfl rfl rfl ?_
        refine o_fieldAddr (q := ⟨b2, 2, none⟩) rfl rfl Try.underlying35 rfl ti33 rfl ?_
        refine o_yes rfl rfl rfl ?_
        refine o_load1 rfl rfl Try.underlying33 rfl (rd_mem 1 rfl rfl) ?_
        refine o_yes rfl rfl rfl ?_
        refine o_fieldAddr (q := ⟨b3, 2, none⟩) rfl rfl Try.underlying35 rfl ti33 rfl ?_
        refine o_yes rfl rfl rfl ?_
        refine o_load1 rfl rfl Try.underlying33 rfl (rd_mem 0 rfl rfl) ?_
        refine o_yes rfl rfl rfl ?_
        refine o_call rfl cal33 rfl (bequal (rds_c (rds_c V_x)) (rds_c (rds_c V_y))) ?_
        rintro _ _ ⟨rfl, rfl⟩
        refine o_pick_true rfl rfl rfl ?_
        refine o_assign rfl rfl ?_
        refine l_nil ?_
        refine q_then ?_
        refine c_ret ?_
        refine q_conv (fun w S => S.tail) ?_
        refine q_conv (fun w S => S.tail) ?_
        exact f_ret (r_one rfl rfl) (⟨by first | exact vtrue (by unfold SameOp; grind) | exact vfalse (by unfold SameOp; grind) | exact bdec (by unfold SameOp; grind), rfl⟩) (fun w S => S)
      · -- h3F
        have h3b := h3
        try simp only [decide_eq_true_eq, decide_eq_false_iff_not, Bool.not_eq_eq_eq_not, Bool.not_true, Bool.not_false, Bool.not_eq_true', Bool.not_eq_false', Int.not_lt, Int.not_le, Bool.or_eq_true, Bool.and_eq_true] at h3
        refine o_no rfl rfl rfl rfl ?_
        refine o_no rfl rfl rfl rfl ?_
        refine o_no rfl rfl rfl rfl ?_
        refine o_no rfl rfl rfl rfl ?_
        refine o_no rfl rfl rfl rfl ?_
        refine o_pick_false rfl rfl rfl ?_
        refine o_assign rfl rfl ?_
        refine l_nil ?_
        refine q_then ?_
        refine c_ret ?_
        refine q_conv (fun w S => S.tail) ?_
        refine q_conv (fun w S => S.tail) ?_
        exact f_ret (r_one rfl rfl) (⟨by first | exact vtrue (by unfold SameOp; grind) | exact vfalse (by unfold SameOp; grind) | exact bdec (by unfold SameOp; grind), rfl⟩) (fun w S => S)
    · -- h2F
      have h2b := h2
      try simp only [decide_eq_true_eq, decide_eq_false_iff_not, Bool.not_eq_eq_eq_not, Bool.not_true, Bool.not_false, Bool.not_eq_true', Bool.not_eq_false', Int.not_lt, Int.not_le, Bool.or_eq_true, Bool.and_eq_true] at h2
      refine o_no rfl rfl rfl rfl ?_
      refine o_no rfl rfl rfl rfl ?_
      refine o_no rfl rfl rfl rfl ?_
      refine o_no rfl rfl rfl rfl ?_
      refine o_no rfl rfl rfl rfl ?_
      refine o_pick_false rfl rfl rfl ?_
      refine o_move rfl rfl ?_
      refine o_no rfl rfl rfl rfl ?_
      refine o_no rfl rfl rfl rfl ?_
      refine o_no rfl rfl rfl rfl ?_
      refine o_no rfl rfl rfl rfl ?_
      refine o_no rfl rfl rfl rfl ?_
      refine o_pick_false rfl rfl rfl ?_
      refine o_assign rfl rfl ?_
      refine l_nil ?_
      refine q_then ?_
      refine c_ret ?_
      refine q_conv (fun w S => S.tail) ?_
      refine q_conv (fun w S => S.tail) ?_
      exact f_ret (r_one rfl rfl) (⟨by first | exact vtrue (by unfold SameOp; grind) | exact vfalse (by unfold SameOp; grind) | exact bdec (by unfold SameOp; grind), rfl⟩) (fun w S => S)
  · -- h1F
    have h1b := h1
    try simp only [decide_eq_true_eq, decide_eq_false_iff_not, Bool.not_eq_eq_eq_not, Bool.not_true, Bool.not_false, Bool.not_eq_true', Bool.not_eq_false', Int.not_lt, Int.not_le, Bool.or_eq_true, Bool.and_eq_true] at h1
    refine o_no rfl rfl rfl rfl ?_
    refine o_no rfl rfl rfl rfl ?_
    refine o_no rfl rfl rfl rfl ?_
    refine o_no rfl rfl rfl rfl ?_
    refine o_no rfl rfl rfl rfl ?_
    refine o_pick_false rfl rfl rfl ?_
    refine o_move rfl rfl ?_
    refine o_no rfl rfl rfl rfl ?_
    refine o_no rfl rfl rfl rfl ?_
    refine o_no rfl rfl rfl rfl ?_
    refine o_no rfl rfl rfl rfl ?_
    refine o_no rfl rfl rfl rfl ?_
    refine o_pick_false rfl rfl rfl ?_
    refine o_move rfl rfl ?_
    refine o_no rfl rfl rfl rfl ?_
    refine o_no rfl rfl rfl rfl ?_
    refine o_no rfl rfl rfl rfl ?_
    refine o_no rfl rfl rfl rfl ?_
    refine o_no rfl rfl rfl rfl ?_
    refine o_pick_false rfl rfl rfl ?_
    refine o_assign rfl rfl ?_
    refine l_nil ?_
    refine q_then ?_
    refine c_ret ?_
    refine q_conv (fun w S => S.tail) ?_
    refine q_conv (fun w S => S.tail) ?_
    exact f_ret (r_one rfl rfl) (⟨by first | exact vtrue (by unfold SameOp; grind) | exact vfalse (by unfold SameOp; grind) | exact bdec (by unfold SameOp; grind), rfl⟩) (fun w S => S)

theorem equalF {W : World} {F : List Res} {xs ys : List Op} {a b : Option Addr} {c c2 : Nat} (hs : RdS W F e_Op a xs) (hn : xs.length ≤ 9223372036854775807) (hs2 : RdS W F e_Op b ys) {fv : Value} {p : Op → Op → Prop} (hf : ∀ x ∈ xs, ∀ y ∈ ys, ∀ A B : Res, FV Try.prog fv [.agg (e_Op.cells x).toArray, .agg (e_Op.cells y).toArray] W (A :: B :: F) (fun r L' => ∃ b : Bool, (b = true ↔ p x y) ∧ r = .bool b ∧ A :: B :: F = L')) : CS Try.prog 35 #[.slice a xs.length c, .slice b ys.length c2, fv] W (F) (fun r L' => ∃ q : Bool, (q = true ↔ xs.length = ys.length ∧ ∀ (j : Nat) x y, xs[j]? = some x → ys[j]? = some y → p x y) ∧ r = .bool q ∧ F = L') := by
  refine f_door (l0 := [(0, .slice a xs.length c), (1, .slice b ys.length c2), (2, fv)]) Try.func35 Try.ntmps35 rfl rfl rfl ?_
  refine c_seq ?_
  refine c_region ?_
  refine o_assign rfl rfl ?_
  refine l_nil ?_
  refine q_then ?_
  refine c_seq ?_
  refine c_seq ?_
  refine c_region ?_
  refine o_move rfl rfl ?_
  refine o_len rfl rfl Try.underlying24 ?_
  refine o_move rfl rfl ?_
  refine o_len rfl rfl Try.underlying24 ?_
  refine o_bin rfl rfl rfl b_neq ?_
  refine l_nil ?_
  refine q_then ?_
  refine c_cond rfl (fun h1 => ?_) (fun h1 => ?_)
  · -- h1T
    have h1b := h1
    try simp only [decide_eq_true_eq, decide_eq_false_iff_not, Bool.not_eq_eq_eq_not, Bool.not_true, Bool.not_false, Bool.not_eq_true', Bool.not_eq_false', Int.not_lt, Int.not_le, Bool.or_eq_true, Bool.and_eq_true] at h1
    refine c_seq ?_
    refine c_region ?_
    refine o_assign rfl rfl ?_
    refine l_nil ?_
    refine q_then ?_
    refine c_ret ?_
    refine q_pass_ret ?_
    exact f_ret (r_one rfl rfl) (⟨false, ⟨fun h9 => absurd h9 (by decide), fun h9 => absurd h9.1 (by omega)⟩, rfl, rfl⟩) (fun w S => S)
  · -- h1F
    have h1b := h1
    try simp only [decide_eq_true_eq, decide_eq_false_iff_not, Bool.not_eq_eq_eq_not, Bool.not_true, Bool.not_false, Bool.not_eq_true', Bool.not_eq_false', Int.not_lt, Int.not_le, Bool.or_eq_true, Bool.and_eq_true] at h1
    refine c_skip ?_
    refine q_then ?_
    refine c_seq ?_
    refine c_seq ?_
    refine c_region ?_
    refine o_move rfl rfl ?_
    refine o_len rfl rfl Try.underlying24 ?_
    refine o_move rfl rfl ?_
    refine l_nil ?_
    refine q_then ?_
    refine c_block ?_
    refine c_loop (α := Nat) (fun z => [(1, .slice b (ys).length c2), (2, fv), (15, .slice a (xs).length c), (16, .int .i64 ((xs).length : Int)), (17, .int .i64 (z : Int))]) (fun z => F) (fun z => z ≤ xs.length ∧ ∀ j x y, j < z → xs[j]? = some x → ys[j]? = some y → p x y) (fun z => xs.length - z) (0) (by exact ⟨Nat.zero_le _, fun j x y h => absurd h (by omega)⟩) ⟨(by first | rfl | exact vint (by omega)), (by first | rfl | exact vint (by omega)), (by first | rfl | exact vint (by omega)), (by first | rfl | exact vint (by omega)), (by first | rfl | exact vint (by omega)), trivial⟩ (fun w S => S) ?_
    rintro i ⟨hi, hal⟩
    try dsimp only at *
    refine c_seq ?_
    refine c_region ?_
    refine o_bin rfl rfl rfl b_lss ?_
    refine l_nil ?_
    refine q_then ?_
    refine c_seq ?_
    refine c_cond rfl (fun h2 => ?_) (fun h2 => ?_)
    · -- h2T
      have h2b := h2
      try simp only [decide_eq_true_eq, decide_eq_false_iff_not, Bool.not_eq_eq_eq_not, Bool.not_true, Bool.not_false, Bool.not_eq_true', Bool.not_eq_false', Int.not_lt, Int.not_le, Bool.or_eq_true, Bool.and_eq_true] at h2
      refine c_skip ?_
      refine q_then ?_
      refine c_seq ?_
      refine c_block ?_
      refine c_seq ?_
      refine c_region ?_
      refine o_move rfl rfl ?_
      refine o_index e_Op_ok rfl rfl rfl Try.underlying24 (by omega) (by omega) hs fun ad20 ead20 => ?_
      obtain ⟨x20, hx20⟩ : ∃ x, (xs)[((i : Int)).toNat]? = some x := ⟨_, List.getElem?_eq_getElem (by omega)⟩
      refine o_loadn (vs := e_Op.cells x20) rfl rfl Try.underlying35 rfl ti35 (rdn_sl e_Op_ok ead20 hs hx20) ?_
      refine o_alloc rfl ti35 fun b8 => ?_
      refine o_assign rfl rfl ?_
      refine o_storen rfl rfl ti35 rfl rfl rfl rfl ?_
      refine l_nil ?_
      refine q_then ?_
      refine c_seq ?_
      refine c_region ?_
      refine o_move rfl rfl ?_
      refine o_move rfl rfl ?_
      refine o_index e_Op_ok rfl rfl rfl Try.underlying24 (by omega) (by omega) (rds_c hs2) fun ad24 ead24 => ?_
      obtain ⟨x24, hx24⟩ : ∃ x, (ys)[((i : Int)).toNat]? = some x := ⟨_, List.getElem?_eq_getElem (by omega)⟩
      refine o_loadn (vs := e_Op.cells x24) rfl rfl Try.underlying35 rfl ti35 (rdn_sl e_Op_ok ead24 (rds_c hs2) hx24) ?_
      refine o_alloc rfl ti35 fun b9 => ?_
      refine o_storen rfl rfl ti35 rfl rfl rfl rfl ?_
      refine l_nil ?_
      refine q_then ?_
      refine c_seq ?_
      refine c_region ?_
      refine o_move rfl rfl ?_
      refine o_loadn (vs := [_, _, _, _]) rfl rfl Try.underlying35 rfl ti35 (rdn_lit 1 rfl rfl) ?_
      refine o_loadn (vs := [_, _, _, _]) rfl rfl Try.underlying35 rfl ti35 (rdn_lit 0 rfl rfl) ?_
      refine o_callV rfl rfl rfl (hf x20 (List.mem_of_getElem? hx20) x24 (List.mem_of_getElem? hx24) _ _) ?_
      rintro _ _ ⟨b29, hb29, rfl, rfl⟩
      refine o_not rfl rfl ?_
      refine l_nil ?_
      refine q_then ?_
      refine c_cond rfl (fun h3 => ?_) (fun h3 => ?_)
      · -- h3T
        have h3b := h3
        try simp only [decide_eq_true_eq, decide_eq_false_iff_not, Bool.not_eq_eq_eq_not, Bool.not_true, Bool.not_false, Bool.not_eq_true', Bool.not_eq_false', Int.not_lt, Int.not_le, Bool.or_eq_true, Bool.and_eq_true] at h3
        refine c_seq ?_
        refine c_region ?_
        refine o_assign rfl rfl ?_
        refine l_nil ?_
        refine q_then ?_
        refine c_ret ?_
        refine q_block_ret ?_
        refine q_pass_ret ?_
        refine q_pass_ret ?_
        refine q_block_ret ?_
        refine q_pass_ret ?_
        refine q_conv (fun w S => S.tail) ?_
        refine q_conv (fun w S => S.tail) ?_
        exact f_ret (r_one rfl rfl) (⟨false, ⟨fun h9 => absurd h9 (by decide), fun h9 => by have h10 := hb29.2 (h9.2 i x20 x24 hx20 hx24); rw [h10] at h3b; cases h3b⟩, rfl, rfl⟩) (fun w S => S)
      · -- h3F
        have h3b := h3
        try simp only [decide_eq_true_eq, decide_eq_false_iff_not, Bool.not_eq_eq_eq_not, Bool.not_true, Bool.not_false, Bool.not_eq_true', Bool.not_eq_false', Int.not_lt, Int.not_le, Bool.or_eq_true, Bool.and_eq_true] at h3
        refine c_skip ?_
        refine q_block ?_
        refine q_then ?_
        refine c_region ?_
        refine o_bin rfl rfl rfl (b_add (wrap_i64 (by omega) (by omega))) ?_
        refine o_move rfl rfl ?_
        refine l_nil ?_
        refine q_conv (fun w S => S.tail) ?_
        refine q_conv (fun w S => S.tail) ?_
        exact q_round (i + 1) (by exact ⟨by omega, alike_on hal hx20 hx24 (hb29.1 (by simpa using h3b))⟩) (by (try dsimp only); omega) ⟨(by first | rfl | exact vint (by omega)), (by first | rfl | exact vint (by omega)), (by first | rfl | exact vint (by omega)), (by first | rfl | exact vint (by omega)), (by first | rfl | exact vint (by omega)), trivial⟩ (fun w S => S)
    · -- h2F
      have h2b := h2
      try simp only [decide_eq_true_eq, decide_eq_false_iff_not, Bool.not_eq_eq_eq_not, Bool.not_true, Bool.not_false, Bool.not_eq_true', Bool.not_eq_false', Int.not_lt, Int.not_le, Bool.or_eq_true, Bool.and_eq_true] at h2
      refine c_exit ?_
      refine q_pass_exit ?_
      refine q_pass_exit ?_
      refine q_hit ?_
      refine q_then ?_
      refine c_seq ?_
      refine c_region ?_
      refine o_assign rfl rfl ?_
      refine l_nil ?_
      refine q_then ?_
      refine c_ret ?_
      exact f_ret (r_one rfl rfl) (⟨true, ⟨fun _ => ⟨by omega, fun j x y hx hy => hal j x y (by obtain ⟨hj, _⟩ := List.getElem?_eq_some_iff.1 hx; omega) hx hy⟩, fun _ => rfl⟩, rfl, rfl⟩) (fun w S => S)

theorem psame_ {W : World} {F : List Res} {a b : Txn} (T_a : TxR W F a) (T_b : TxR W F b) : CS Try.prog 17 #[.agg #[.int .i64 a.f_Kind, .slice a.f_Reads.a (a.f_Reads.xs).length a.f_Reads.c, .slice a.f_Writes.a (a.f_Writes.xs).length a.f_Writes.c, .slice a.f_Ops.a (a.f_Ops.xs).length a.f_Ops.c, .int .i64 a.f_To], .agg #[.int .i64 b.f_Kind, .slice b.f_Reads.a (b.f_Reads.xs).length b.f_Reads.c, .slice b.f_Writes.a (b.f_Writes.xs).length b.f_Writes.c, .slice b.f_Ops.a (b.f_Ops.xs).length b.f_Ops.c, .int .i64 b.f_To]] W (F) (fun r L' => r = .bool (decide (SameT a b)) ∧ F = L') := by
  refine f_door (l0 := [(0, .agg #[.int .i64 a.f_Kind, .slice a.f_Reads.a (a.f_Reads.xs).length a.f_Reads.c, .slice a.f_Writes.a (a.f_Writes.xs).length a.f_Writes.c, .slice a.f_Ops.a (a.f_Ops.xs).length a.f_Ops.c, .int .i64 a.f_To]), (1, .agg #[.int .i64 b.f_Kind, .slice b.f_Reads.a (b.f_Reads.xs).length b.f_Reads.c, .slice b.f_Writes.a (b.f_Writes.xs).length b.f_Writes.c, .slice b.f_Ops.a (b.f_Ops.xs).length b.f_Ops.c, .int .i64 b.f_To])]) Try.func17 Try.ntmps17 rfl rfl rfl ?_
  refine c_seq ?_
  refine c_region ?_
  refine o_box rfl rfl fun b2 => ?_
  refine o_box rfl rfl fun b3 => ?_
  refine o_assign rfl rfl ?_
  refine l_nil ?_
  refine q_then ?_
  refine c_seq ?_
  refine c_region ?_
  refine o_assign rfl rfl ?_
  refine l_nil ?_
  refine q_then ?_
  refine c_seq ?_
  refine c_region ?_
  refine o_fieldAddr (q := ⟨b2, 0, none⟩) rfl rfl Try.underlying26 rfl ti3 rfl ?_
  refine o_load1 rfl rfl Try.underlying3 rfl (rd_mem 1 rfl rfl) ?_
  refine o_fieldAddr (q := ⟨b3, 0, none⟩) rfl rfl Try.underlying26 rfl ti3 rfl ?_
  refine o_load1 rfl rfl Try.underlying3 rfl (rd_mem 0 rfl rfl) ?_
  refine o_bin rfl rfl rfl b_eql ?_
  refine o_move rfl rfl ?_
  refine l_split (t := 11) rfl (fun h1 => ?_) (fun h1 => ?_)
  · -- h1T
    have h1b := h1
    try simp only [decide_eq_true_eq, decide_eq_false_iff_not, Bool.not_eq_eq_eq_not, Bool.not_true, Bool.not_false, Bool.not_eq_true', Bool.not_eq_false', Int.not_lt, Int.not_le, Bool.or_eq_true, Bool.and_eq_true] at h1
    refine o_yes rfl rfl rfl ?_
    refine o_fieldAddr (q := ⟨b2, 4, none⟩) rfl rfl Try.underlying26 rfl ti3 rfl ?_
    refine o_yes rfl rfl rfl ?_
    refine o_load1 rfl rfl Try.underlying3 rfl (rd_mem 1 rfl rfl) ?_
    refine o_yes rfl rfl rfl ?_
    refine o_fieldAddr (q := ⟨b3, 4, none⟩) rfl rfl Try.underlying26 rfl ti3 rfl ?_
    refine o_yes rfl rfl rfl ?_
    refine o_load1 rfl rfl Try.underlying3 rfl (rd_mem 0 rfl rfl) ?_
    refine o_yes rfl rfl rfl ?_
    refine o_bin rfl rfl rfl b_eql ?_
    refine o_pick_true rfl rfl rfl ?_
    refine o_move rfl rfl ?_
    refine l_split (t := 18) rfl (fun h2 => ?_) (fun h2 => ?_)
    · -- h2T
      have h2b := h2
      try simp only [decide_eq_true_eq, decide_eq_false_iff_not, Bool.not_eq_eq_eq_not, Bool.not_true, Bool.not_false, Bool.not_eq_true', Bool.not_eq_false', Int.not_lt, Int.not_le, Bool.or_eq_true, Bool.and_eq_true] at h2
      refine o_yes rfl rfl rfl ?_
      refine o_fieldAddr (q := ⟨b2, 1, none⟩) rfl rfl Try.underlying26 rfl ti23 rfl ?_
      refine o_yes rfl rfl rfl ?_
      refine o_load1 rfl rfl Try.underlying23 rfl (rd_mem 1 rfl rfl) ?_
      refine o_yes rfl rfl rfl ?_
      refine o_fieldAddr (q := ⟨b3, 1, none⟩) rfl rfl Try.underlying26 rfl ti23 rfl ?_
      refine o_yes rfl rfl rfl ?_
      refine o_load1 rfl rfl Try.underlying23 rfl (rd_mem 0 rfl rfl) ?_
      refine o_yes rfl rfl rfl ?_
      refine o_call rfl cal34 rfl (equalS (TxR.c (TxR.c T_a)).rr (by first | exact T_a.len.lr | exact T_a.len.lw | exact T_a.len.lo | omega) (TxR.c (TxR.c T_b)).rr) ?_
      rintro _ _ ⟨rfl, rfl⟩
      refine o_pick_true rfl rfl rfl ?_
      refine o_move rfl rfl ?_
      refine l_split (t := 25) rfl (fun h3 => ?_) (fun h3 => ?_)
      · -- h3T
        have h3b := h3
        try simp only [decide_eq_true_eq, decide_eq_false_iff_not, Bool.not_eq_eq_eq_not, Bool.not_true, Bool.not_false, Bool.not_eq_true', Bool.not_eq_false', Int.not_lt, Int.not_le, Bool.or_eq_true, Bool.and_eq_true] at h3
        refine o_yes rfl rfl rfl ?_
        refine o_fieldAddr (q := ⟨b2, 2, none⟩) rfl rfl Try.underlying26 rfl ti23 rfl ?_
        refine o_yes rfl rfl rfl ?_
        refine o_load1 rfl rfl Try.underlying23 rfl (rd_mem 1 rfl rfl) ?_
        refine o_yes rfl rfl rfl ?_
        refine o_fieldAddr (q := ⟨b3, 2, none⟩) rfl rfl Try.underlying26 rfl ti23 rfl ?_
        refine o_yes rfl rfl rfl ?_
        refine o_load1 rfl rfl Try.underlying23 rfl (rd_mem 0 rfl rfl) ?_
        refine o_yes rfl rfl rfl ?_
        refine o_call rfl cal34 rfl (equalS (TxR.c (TxR.c T_a)).rw (by first | exact T_a.len.lr | exact T_a.len.lw | exact T_a.len.lo | omega) (TxR.c (TxR.c T_b)).rw) ?_
        rintro _ _ ⟨rfl, rfl⟩
        refine o_pick_true rfl rfl rfl ?_
        refine o_move rfl rfl ?_
        refine l_split (t := 32) rfl (fun h4 => ?_) (fun h4 => ?_)
        · -- h4T
          have h4b := h4
          try simp only [decide_eq_true_eq, decide_eq_false_iff_not, Bool.not_eq_eq_eq_not, Bool.not_true, Bool.not_false, Bool.not_eq_true', Bool.not_eq_false', Int.not_lt, Int.not_le, Bool.or_eq_true, Bool.and_eq_true] at h4
          refine o_yes rfl rfl rfl ?_
          refine o_fieldAddr (q := ⟨b2, 3, none⟩) rfl rfl Try.underlying26 rfl ti24 rfl ?_
          refine o_yes rfl rfl rfl ?_
          refine o_load1 rfl rfl Try.underlying24 rfl (rd_mem 1 rfl rfl) ?_
          refine o_yes rfl rfl rfl ?_
          refine o_fieldAddr (q := ⟨b3, 3, none⟩) rfl rfl Try.underlying26 rfl ti24 rfl ?_
          refine o_yes rfl rfl rfl ?_
          refine o_load1 rfl rfl Try.underlying24 rfl (rd_mem 0 rfl rfl) ?_
          refine o_yes rfl rfl rfl ?_
          refine o_move rfl rfl ?_
          refine o_yes rfl rfl rfl ?_
          refine o_call rfl cal35 rfl (equalF (p := SameOp) (TxR.c (TxR.c T_a)).ro (by first | exact T_a.len.lr | exact T_a.len.lw | exact T_a.len.lo | omega) (TxR.c (TxR.c T_b)).ro (fun x hx y hy A B => fv_dec (FV.of_csL cal32 (sameF (x := x) (y := y) (rds_c (rds_c ((TxR.c (TxR.c T_a)).rv x hx))) (rds_c (rds_c ((TxR.c (TxR.c T_b)).rv y hy))))))) ?_
          rintro _ _ ⟨b38, hb38, rfl, rfl⟩
          refine o_pick_true rfl rfl rfl ?_
          refine o_assign rfl rfl ?_
          refine l_nil ?_
          refine q_then ?_
          refine c_ret ?_
          refine q_conv (fun w S => S.tail) ?_
          refine q_conv (fun w S => S.tail) ?_
          exact f_ret (r_one rfl rfl) (⟨by first | exact vfalse (by unfold SameT; grind) | exact bval hb38 (by unfold SameT; rw [sameOps_all]; grind), rfl⟩) (fun w S => S)
        · -- h4F
          have h4b := h4
          try simp only [decide_eq_true_eq, decide_eq_false_iff_not, Bool.not_eq_eq_eq_not, Bool.not_true, Bool.not_false, Bool.not_eq_true', Bool.not_eq_false', Int.not_lt, Int.not_le, Bool.or_eq_true, Bool.and_eq_true] at h4
          refine o_no rfl rfl rfl rfl ?_
          refine o_no rfl rfl rfl rfl ?_
          refine o_no rfl rfl rfl rfl ?_
          refine o_no rfl rfl rfl rfl ?_
          refine o_no rfl rfl rfl rfl ?_
          refine o_no rfl rfl rfl rfl ?_
          refine o_pick_false rfl rfl rfl ?_
          refine o_assign rfl rfl ?_
          refine l_nil ?_
          refine q_then ?_
          refine c_ret ?_
          refine q_conv (fun w S => S.tail) ?_
          refine q_conv (fun w S => S.tail) ?_
          exact f_ret (r_one rfl rfl) (⟨by first | exact vfalse (by unfold SameT; grind) | exact bval hb38 (by unfold SameT; rw [sameOps_all]; grind), rfl⟩) (fun w S => S)
      · -- h3F
        have h3b := h3
        try simp only [decide_eq_true_eq, decide_eq_false_iff_not, Bool.not_eq_eq_eq_not, Bool.not_true, Bool.not_false, Bool.not_eq_true', Bool.not_eq_false', Int.not_lt, Int.not_le, Bool.or_eq_true, Bool.and_eq_true] at h3
        refine o_no rfl rfl rfl rfl ?_
        refine o_no rfl rfl rfl rfl ?_
        refine o_no rfl rfl rfl rfl ?_
        refine o_no rfl rfl rfl rfl ?_
        refine o_no rfl rfl rfl rfl ?_
        refine o_pick_false rfl rfl rfl ?_
        refine o_move rfl rfl ?_
        refine o_no rfl rfl rfl rfl ?_
        refine o_no rfl rfl rfl rfl ?_
        refine o_no rfl rfl rfl rfl ?_
        refine o_no rfl rfl rfl rfl ?_
        refine o_no rfl rfl rfl rfl ?_
        refine o_no rfl rfl rfl rfl ?_
        refine o_pick_false rfl rfl rfl ?_
        refine o_assign rfl rfl ?_
        refine l_nil ?_
        refine q_then ?_
        refine c_ret ?_
        refine q_conv (fun w S => S.tail) ?_
        refine q_conv (fun w S => S.tail) ?_
        exact f_ret (r_one rfl rfl) (⟨by first | exact vfalse (by unfold SameT; grind) | exact bval hb38 (by unfold SameT; rw [sameOps_all]; grind), rfl⟩) (fun w S => S)
    · -- h2F
      have h2b := h2
      try simp only [decide_eq_true_eq, decide_eq_false_iff_not, Bool.not_eq_eq_eq_not, Bool.not_true, Bool.not_false, Bool.not_eq_true', Bool.not_eq_false', Int.not_lt, Int.not_le, Bool.or_eq_true, Bool.and_eq_true] at h2
      refine o_no rfl rfl rfl rfl ?_
      refine o_no rfl rfl rfl rfl ?_
      refine o_no rfl rfl rfl rfl ?_
      refine o_no rfl rfl rfl rfl ?_
      refine o_no rfl rfl rfl rfl ?_
      refine o_pick_false rfl rfl rfl ?_
      refine o_move rfl rfl ?_
      refine o_no rfl rfl rfl rfl ?_
      refine o_no rfl rfl rfl rfl ?_
      refine o_no rfl rfl rfl rfl ?_
      refine o_no rfl rfl rfl rfl ?_
      refine o_no rfl rfl rfl rfl ?_
      refine o_pick_false rfl rfl rfl ?_
      refine o_move rfl rfl ?_
      refine o_no rfl rfl rfl rfl ?_
      refine o_no rfl rfl rfl rfl ?_
      refine o_no rfl rfl rfl rfl ?_
      refine o_no rfl rfl rfl rfl ?_
      refine o_no rfl rfl rfl rfl ?_
      refine o_no rfl rfl rfl rfl ?_
      refine o_pick_false rfl rfl rfl ?_
      refine o_assign rfl rfl ?_
      refine l_nil ?_
      refine q_then ?_
      refine c_ret ?_
      refine q_conv (fun w S => S.tail) ?_
      refine q_conv (fun w S => S.tail) ?_
      exact f_ret (r_one rfl rfl) (⟨by first | exact vfalse (by unfold SameT; grind) | exact bval hb38 (by unfold SameT; rw [sameOps_all]; grind), rfl⟩) (fun w S => S)
  · -- h1F
    have h1b := h1
    try simp only [decide_eq_true_eq, decide_eq_false_iff_not, Bool.not_eq_eq_eq_not, Bool.not_true, Bool.not_false, Bool.not_eq_true', Bool.not_eq_false', Int.not_lt, Int.not_le, Bool.or_eq_true, Bool.and_eq_true] at h1
    refine o_no rfl rfl rfl rfl ?_
    refine o_no rfl rfl rfl rfl ?_
    refine o_no rfl rfl rfl rfl ?_
    refine o_no rfl rfl rfl rfl ?_
    refine o_no rfl rfl rfl rfl ?_
    refine o_pick_false rfl rfl rfl ?_
    refine o_move rfl rfl ?_
    refine o_no rfl rfl rfl rfl ?_
    refine o_no rfl rfl rfl rfl ?_
    refine o_no rfl rfl rfl rfl ?_
    refine o_no rfl rfl rfl rfl ?_
    refine o_no rfl rfl rfl rfl ?_
    refine o_pick_false rfl rfl rfl ?_
    refine o_move rfl rfl ?_
    refine o_no rfl rfl rfl rfl ?_
    refine o_no rfl rfl rfl rfl ?_
    refine o_no rfl rfl rfl rfl ?_
    refine o_no rfl rfl rfl rfl ?_
    refine o_no rfl rfl rfl rfl ?_
    refine o_pick_false rfl rfl rfl ?_
    refine o_move rfl rfl ?_
    refine o_no rfl rfl rfl rfl ?_
    refine o_no rfl rfl rfl rfl ?_
    refine o_no rfl rfl rfl rfl ?_
    refine o_no rfl rfl rfl rfl ?_
    refine o_no rfl rfl rfl rfl ?_
    refine o_no rfl rfl rfl rfl ?_
    refine o_pick_false rfl rfl rfl ?_
    refine o_assign rfl rfl ?_
    refine l_nil ?_
    refine q_then ?_
    refine c_ret ?_
    refine q_conv (fun w S => S.tail) ?_
    refine q_conv (fun w S => S.tail) ?_
    exact f_ret (r_one rfl rfl) (⟨by first | exact vfalse (by unfold SameT; grind) | exact bval hb38 (by unfold SameT; rw [sameOps_all]; grind), rfl⟩) (fun w S => S)

end Go.Proofs.Ytllclglbfdncnaa
