/- Printed by eng2.py out of 09a/spec.py. -/
import Derived.Test.YtlblipkcbmcfkaaStrs
import Derived.Test.YtlblipkcbmcfkaaSort
set_option linter.unusedVariables false
set_option linter.unusedSimpArgs false
set_option maxRecDepth 10000
namespace Go.Proofs.Ytlblipkcbmcfkaa
open Go.RowKit Classical
theorem cat_len {ss : List (Sl ByteArray)} {i : Nat} {x : Sl ByteArray} (hx : ss[((i : Int)).toNat]? = some x) : ((ss.take (i + 1)).flatMap Sl.xs).length = ((ss.take i).flatMap Sl.xs).length + x.xs.length := by
  have hx' : ss[i]? = some x := hx
  rw [List.take_add_one, hx', List.flatMap_append, List.length_append]; simp
theorem cat_on {ss : List (Sl ByteArray)} {i : Nat} {x : Sl ByteArray} (hx : ss[((i : Int)).toNat]? = some x) : (ss.take (i + 1)).flatMap Sl.xs = (ss.take i).flatMap Sl.xs ++ x.xs := by
  have hx' : ss[i]? = some x := hx
  rw [List.take_add_one, hx', List.flatMap_append]; simp
theorem cat_le {ss : List (Sl ByteArray)} (i : Nat) : ((ss.take i).flatMap Sl.xs).length ≤ (ss.flatMap Sl.xs).length := by
  have h : ss.flatMap Sl.xs = (ss.take i).flatMap Sl.xs ++ (ss.drop i).flatMap Sl.xs := by rw [← List.flatMap_append, List.take_append_drop]
  rw [h, List.length_append]; omega
theorem two_sl {W : World} {L : List Res} {s1 s2 : Sl ByteArray} (h1 : RdS W L e_S s1.a s1.xs) (h2 : RdS W L e_S s2.a s2.xs) : ∀ s ∈ [s1, s2], RdS W L e_S s.a s.xs := fun s hs => by
  simp only [List.mem_cons, List.not_mem_nil, or_false] at hs
  rcases hs with rfl | rfl
  · exact h1
  · exact h2
theorem grow_ {W : World} {F : List Res} {n : Nat} (hn : n ≤ 1000000) : CS Try.prog 76 #[.slice none 0 0, .int .i64 (n : Int)] W (row e_S.T e_S.sz none 0 0 (flat e_S []) :: F) (fun r L' => ∃ (a : Option Addr) (c : Nat), r = .slice a 0 c ∧ L' = row e_S.T e_S.sz a 0 c (flat e_S []) :: F) := by
 refine f_door (l0 := [(0, .slice none 0 0), (1, .int .i64 (n : Int))]) Try.func76 Try.ntmps76 rfl rfl rfl ?_
 refine c_seq ?_
 refine c_region ?_
 refine o_assign rfl rfl ?_
 refine l_nil ?_
 refine q_then ?_
 refine c_seq ?_
 refine c_seq ?_
 refine c_region ?_
 refine o_move rfl rfl ?_
 refine o_bin rfl rfl rfl b_lss ?_
 refine l_nil ?_
 refine q_then ?_
 refine c_cond rfl (fun h1 => ?_) (fun h1 => ?_)
 · -- h1T
  have h1b := h1
  try simp only [decide_eq_true_eq] at h1
  omega
 · -- h1F
  have h1b := h1
  try simp only [decide_eq_false_iff_not, Int.not_lt, Int.not_le] at h1
  refine c_skip ?_
  refine q_then ?_
  refine c_seq ?_
  refine c_seq ?_
  refine c_region ?_
  refine o_move rfl rfl ?_
  refine o_move rfl rfl ?_
  refine o_cap rfl rfl Try.underlying27 ?_
  refine o_move rfl rfl ?_
  refine o_len rfl rfl Try.underlying27 ?_
  refine o_bin rfl rfl rfl (b_sub (wrap_i64 (by omega) (by omega))) ?_
  refine o_bin rfl rfl rfl (b_sub (wrap_i64 (by omega) (by omega))) ?_
  refine o_assign rfl rfl ?_
  refine l_nil ?_
  refine q_then ?_
  refine c_seq ?_
  refine c_region ?_
  refine o_move rfl rfl ?_
  refine o_bin rfl rfl rfl b_gtr ?_
  refine l_nil ?_
  refine q_then ?_
  refine c_cond rfl (fun h2 => ?_) (fun h2 => ?_)
  · -- h2T
   have h2b := h2
   try simp only [decide_eq_true_eq] at h2
   refine c_region ?_
   refine o_move rfl rfl ?_
   refine o_move rfl rfl ?_
   refine o_cap rfl rfl Try.underlying27 ?_
   refine o_cut (l' := 0) (h' := 0) (m := 0) rfl rfl Try.underlying27 ti9 (.inl ⟨rfl, rfl⟩) (.inr ⟨_, _, rfl, icast rfl (by omega), (by omega)⟩) (.inl ⟨rfl, rfl⟩) ?_
   refine l_eq (t := 20) (v' := .slice none 0 0) rfl (by first | (rw [cutA_0]; done) | (rw [cutA_0]; rfl)) ?_
   refine o_move rfl rfl ?_
   refine o_appendZ (e := e_S) (xs := ([] : List ByteArray)) (i := 0) (k := n) (n := n) e_S_ok (by omega) rfl (cutA_0 _ _ _) rfl rfl Try.underlying27 Try.underlying3 (by simp) (by omega) (by omega) (by show _ * 16 ≤ _; omega) (by omega) fun a22 c22 zs22 hz22 => ?_
   refine o_move rfl rfl ?_
   refine o_len rfl rfl Try.underlying27 ?_
   refine o_cut (l' := 0) (h' := 0) (m := c22) rfl rfl Try.underlying27 ti9 (.inl ⟨rfl, rfl⟩) (.inr ⟨_, _, rfl, icast rfl (by omega), (by omega)⟩) (.inl ⟨rfl, rfl⟩) ?_
   refine l_eq (t := 25) (v' := .slice a22 0 c22) rfl (by first | (rw [cutA_0]; done) | (rw [cutA_0]; rfl)) ?_
   refine o_assign rfl rfl ?_
   refine l_nil ?_
   refine q_then ?_
   refine c_seq ?_
   refine c_region ?_
   refine o_move rfl rfl ?_
   refine o_assign rfl rfl ?_
   refine l_nil ?_
   refine q_then ?_
   refine c_ret ?_
   refine q_conv (fun w S => (S.perm p1).tail) ?_
   exact f_ret (r_one rfl rfl) (⟨a22, c22, rfl, rfl⟩) (fun w S => Sat.row_cut (n' := 0) (c' := c22) S (Nat.zero_le _) (Nat.zero_le _) (Nat.le_refl _) (by have := row_capL S; omega))
  · -- h2F
   have h2b := h2
   try simp only [decide_eq_false_iff_not, Int.not_lt, Int.not_le] at h2
   refine c_skip ?_
   refine q_then ?_
   refine c_seq ?_
   refine c_region ?_
   refine o_move rfl rfl ?_
   refine o_assign rfl rfl ?_
   refine l_nil ?_
   refine q_then ?_
   refine c_ret ?_
   exact f_ret (r_one rfl rfl) (⟨none, 0, rfl, rfl⟩) (fun w S => S)

theorem concat_ {W : World} {F : List Res} {ss : List (Sl ByteArray)} {a : Option Addr} {c : Nat} (hs : RdS W F e_s27 a ss) (hn : ss.length ≤ 1000) (hv : ∀ s ∈ ss, RdS W F e_S s.a s.xs) (hb : (ss.flatMap Sl.xs).length ≤ 1000000) : CS Try.prog 41 #[.slice a ss.length c] W (F) (fun r L' => ∃ (a : Option Addr) (c : Nat), r = .slice a (ss.flatMap Sl.xs).length c ∧ L' = row e_S.T e_S.sz a (ss.flatMap Sl.xs).length c (flat e_S (ss.flatMap Sl.xs)) :: F) := by
 refine f_door (l0 := [(0, .slice a ss.length c)]) Try.func41 Try.ntmps41 rfl rfl rfl ?_
 refine c_seq ?_
 refine c_region ?_
 refine o_assign rfl rfl ?_
 refine l_nil ?_
 refine q_then ?_
 refine c_seq ?_
 refine c_region ?_
 refine o_assign rfl rfl ?_
 refine l_nil ?_
 refine q_then ?_
 refine c_seq ?_
 refine c_seq ?_
 refine c_region ?_
 refine o_move rfl rfl ?_
 refine o_len rfl rfl Try.underlying115 ?_
 refine o_move rfl rfl ?_
 refine l_nil ?_
 refine q_then ?_
 refine c_block ?_
 refine c_loop (α := Nat) (fun z => [(0, .slice a (ss).length c), (3, .int .i64 (((ss.take z).flatMap Sl.xs).length : Int)), (9, .slice a (ss).length c), (10, .int .i64 ((ss).length : Int)), (11, .int .i64 (z : Int))]) (fun z => F) (fun z => z ≤ ss.length) (fun z => ss.length - z) (0) (by exact Nat.zero_le _) ⟨(by first | rfl | exact vint (by omega)), (by first | rfl | exact vint (by omega)), (by first | rfl | exact vint (by omega)), (by first | rfl | exact vint (by omega)), (by first | rfl | exact vint (by omega)), trivial⟩ (fun w S => S) ?_
 rintro i hi
 try dsimp only at *
 refine c_seq ?_
 refine c_region ?_
 refine o_bin rfl rfl rfl b_lss ?_
 refine l_nil ?_
 refine q_then ?_
 refine c_seq ?_
 refine c_cond rfl (fun h1 => ?_) (fun h1 => ?_)
 · -- h1T
  have h1b := h1
  try simp only [decide_eq_true_eq] at h1
  refine c_skip ?_
  refine q_then ?_
  refine c_seq ?_
  refine c_block ?_
  refine c_seq ?_
  refine c_region ?_
  refine o_index e_s27_ok rfl rfl rfl Try.underlying115 (by omega) (by omega) hs fun ad13 ead13 => ?_
  obtain ⟨x13, hx13⟩ : ∃ x, (ss)[((i : Int)).toNat]? = some x := ⟨_, List.getElem?_eq_getElem (by omega)⟩
  refine o_load1 rfl rfl Try.underlying27 rfl (rd_sl0 e_s27_ok ead13 hs hx13 rfl) ?_
  have hcl := cat_len hx13
  have hcb := cat_le (ss := ss) (i + 1)
  refine o_assign rfl rfl ?_
  refine l_nil ?_
  refine q_then ?_
  refine c_seq ?_
  refine c_region ?_
  refine o_move rfl rfl ?_
  refine o_move rfl rfl ?_
  refine o_len rfl rfl Try.underlying27 ?_
  refine o_bin rfl rfl rfl (b_add (wrap_i64 (by omega) (by omega))) ?_
  refine o_assign rfl rfl ?_
  refine l_nil ?_
  refine q_then ?_
  refine c_seq ?_
  refine c_region ?_
  refine o_move rfl rfl ?_
  refine o_bin rfl rfl rfl b_lss ?_
  refine l_nil ?_
  refine q_then ?_
  refine c_cond rfl (fun h2 => ?_) (fun h2 => ?_)
  · -- h2T
   have h2b := h2
   try simp only [decide_eq_true_eq] at h2
   omega
  · -- h2F
   have h2b := h2
   try simp only [decide_eq_false_iff_not, Int.not_lt, Int.not_le] at h2
   refine c_skip ?_
   refine q_block ?_
   refine q_then ?_
   refine c_region ?_
   refine o_bin rfl rfl rfl (b_add (wrap_i64 (by omega) (by omega))) ?_
   refine o_move rfl rfl ?_
   refine l_nil ?_
   exact q_round (i + 1) (by omega) (by (try dsimp only); omega) ⟨(by first | rfl | exact vint (by omega)), (by first | rfl | exact vint (by omega)), (by first | rfl | exact vint (by omega)), (by first | rfl | exact vint (by omega)), (by first | rfl | exact vint (by omega)), trivial⟩ (fun w S => S)
 · -- h1F
  have h1b := h1
  try simp only [decide_eq_false_iff_not, Int.not_lt, Int.not_le] at h1
  refine c_exit ?_
  refine q_pass_exit ?_
  refine q_pass_exit ?_
  refine q_hit ?_
  refine q_then ?_
  refine c_seq ?_
  have hcb := cat_le (ss := ss) i
  refine c_region ?_
  refine o_move rfl rfl ?_
  refine l_nilrow e_S ?_
  refine o_call rfl cal76 rfl (grow_ (n := ((ss.take i).flatMap Sl.xs).length) (by omega)) ?_
  rintro _ _ ⟨a24, c24, rfl, rfl⟩
  refine l_conv (L' := row e_S.T e_S.sz a24 (([] : List ByteArray)).length c24 (flat e_S ([] : List ByteArray)) :: _) (fun w S => S) ?_
  refine o_assign rfl rfl ?_
  refine l_nil ?_
  refine q_then ?_
  refine c_seq ?_
  refine c_seq ?_
  refine c_region ?_
  refine o_move rfl rfl ?_
  refine o_len rfl rfl Try.underlying115 ?_
  refine o_move rfl rfl ?_
  refine l_nil ?_
  refine q_then ?_
  refine c_block ?_
  refine c_loop (α := Nat × (List ByteArray) × (Option Addr) × Nat) (fun z => [(6, .slice z.2.2.1 (z.2.1).length z.2.2.2), (25, .slice a (ss).length c), (26, .int .i64 ((ss).length : Int)), (27, .int .i64 (z.1 : Int))]) (fun z => row e_S.T e_S.sz z.2.2.1 (z.2.1).length z.2.2.2 (flat e_S z.2.1) :: F) (fun z => z.1 ≤ ss.length ∧ z.2.1 = (ss.take z.1).flatMap Sl.xs) (fun z => ss.length - z.1) (0, [], a24, c24) (by exact ⟨Nat.zero_le _, rfl⟩) ⟨(by first | rfl | exact vint (by omega)), (by first | rfl | exact vint (by omega)), (by first | rfl | exact vint (by omega)), (by first | rfl | exact vint (by omega)), trivial⟩ (fun w S => S) ?_
  rintro ⟨i2, acc, a6, c6⟩ ⟨hi2, hacc⟩
  try dsimp only at *
  refine c_seq ?_
  refine c_region ?_
  refine o_bin rfl rfl rfl b_lss ?_
  refine l_nil ?_
  refine q_then ?_
  refine c_seq ?_
  refine c_cond rfl (fun h3 => ?_) (fun h3 => ?_)
  · -- h3T
   have h3b := h3
   try simp only [decide_eq_true_eq] at h3
   refine c_skip ?_
   refine q_then ?_
   refine c_seq ?_
   refine c_block ?_
   refine c_seq ?_
   refine c_region ?_
   refine o_index e_s27_ok rfl rfl rfl Try.underlying115 (by omega) (by omega) (rds_c hs) fun ad29 ead29 => ?_
   obtain ⟨x29, hx29⟩ : ∃ x, (ss)[((i2 : Int)).toNat]? = some x := ⟨_, List.getElem?_eq_getElem (by omega)⟩
   refine o_load1 rfl rfl Try.underlying27 rfl (rd_sl0 e_s27_ok ead29 (rds_c hs) hx29 rfl) ?_
   have hcl := cat_len hx29
   have hcb := cat_le (ss := ss) (i2 + 1)
   have hac : acc.length + x29.xs.length ≤ 1000000 := by rw [hacc]; omega
   refine o_assign rfl rfl ?_
   refine l_nil ?_
   refine q_then ?_
   refine c_region ?_
   refine o_move rfl rfl ?_
   refine o_move rfl rfl ?_
   refine o_append e_S_ok rfl rfl rfl Try.underlying27 (rds_c (hv x29 (List.mem_of_getElem? hx29))) (by show (_ + _) * 16 ≤ _; (try simp only [List.length_append, List.length_cons, List.length_nil]); omega) (by (try simp only [List.length_append, List.length_cons, List.length_nil]); omega) fun a33 c33 => ?_
   refine o_assign rfl rfl ?_
   refine l_nil ?_
   refine q_block ?_
   refine q_then ?_
   refine c_region ?_
   refine o_bin rfl rfl rfl (b_add (wrap_i64 (by omega) (by omega))) ?_
   refine o_move rfl rfl ?_
   refine l_nil ?_
   exact q_round (i2 + 1, acc ++ x29.xs, a33, c33) (by exact ⟨by omega, by rw [cat_on hx29, hacc]⟩) (by (try dsimp only); omega) ⟨(by first | rfl | exact vint (by omega)), (by first | rfl | exact vint (by omega)), (by first | rfl | exact vint (by omega)), (by first | rfl | exact vint (by omega)), trivial⟩ (fun w S => S)
  · -- h3F
   have h3b := h3
   try simp only [decide_eq_false_iff_not, Int.not_lt, Int.not_le] at h3
   refine c_exit ?_
   refine q_pass_exit ?_
   refine q_pass_exit ?_
   refine q_hit ?_
   refine q_then ?_
   refine c_seq ?_
   have hall : acc = ss.flatMap Sl.xs := by rw [hacc, List.take_of_length_le (by omega)]
   refine c_region ?_
   refine o_move rfl rfl ?_
   refine o_assign rfl rfl ?_
   refine l_nil ?_
   refine q_then ?_
   refine c_ret ?_
   exact f_ret (r_one rfl rfl) (⟨a6, c6, by rw [hall], by rw [hall]⟩) (fun w S => S)

theorem concat2_ {W : World} {F : List Res} {s1 s2 : Sl ByteArray} {a : Option Addr} {c : Nat} (hs : RdS W F e_s27 a [s1, s2]) (h1 : RdS W F e_S s1.a s1.xs) (h2 : RdS W F e_S s2.a s2.xs) (hb : s1.xs.length + s2.xs.length ≤ 1000000) :
    CS Try.prog 41 #[.slice a [s1, s2].length c] W F (fun r L' => ∃ (a : Option Addr) (c : Nat), r = .slice a (s1.xs ++ s2.xs).length c ∧ L' = row e_S.T e_S.sz a (s1.xs ++ s2.xs).length c (flat e_S (s1.xs ++ s2.xs)) :: F) :=
  (concat_ hs (by simp) (two_sl h1 h2) (by simp only [List.flatMap_cons, List.flatMap_nil, List.append_nil, List.length_append]; omega)).mono fun v L' ⟨a', c', e1, e2⟩ => ⟨a', c', by simpa only [List.flatMap_cons, List.flatMap_nil, List.append_nil] using e1, by simpa only [List.flatMap_cons, List.flatMap_nil, List.append_nil] using e2⟩
end Go.Proofs.Ytlblipkcbmcfkaa
