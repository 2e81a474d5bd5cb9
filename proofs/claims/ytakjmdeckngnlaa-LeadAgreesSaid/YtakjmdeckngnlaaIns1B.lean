/- Printed by eng2.py out of 12/spec2.py. -/
import Derived.Test.YtakjmdeckngnlaaBTy
set_option linter.unusedVariables false
set_option linter.unusedSimpArgs false
set_option maxRecDepth 10000
namespace Go.Proofs.Ytakjmdeckngnlaa
open Go.RowKit Classical
set_option maxHeartbeats 1000000 in
theorem insI_B {W : World} {F : List Res} {xs : List ItB} {x : ItB} {a a2 : Option Addr} {c c2 i : Nat} (hi : i ≤ xs.length) (hn : xs.length ≤ 1000) : CS Try.prog 55 #[.slice a xs.length c, .int .i64 (i : Int), .slice a2 ([x]).length c2] W (row e_ItB.T e_ItB.sz a (xs).length c (flat e_ItB xs) :: row e_ItB.T e_ItB.sz a2 ([x]).length c2 (flat e_ItB [x]) :: F) (fun r L' => ∃ (a' : Option Addr) (c' : Nat), r = .slice a' (xs.take i ++ x :: xs.drop i).length c' ∧ L' = row e_ItB.T e_ItB.sz a' ((xs.take i ++ x :: xs.drop i)).length c' (flat e_ItB (xs.take i ++ x :: xs.drop i)) :: F) := by
 refine f_door (l0 := [(0, .slice a xs.length c), (1, .int .i64 (i : Int)), (2, .slice a2 ([x]).length c2)]) Try.func55 Try.ntmps55 rfl rfl rfl ?_
 refine c_seq ?_
 refine c_region ?_
 refine o_assign rfl rfl ?_
 refine l_nil ?_
 refine q_then ?_
 refine c_seq ?_
 refine c_rowcap ?_
 intro hrc
 simp only [maxLen] at hrc
 refine c_region ?_
 refine o_move rfl rfl ?_
 refine o_move rfl rfl ?_
 refine o_cut (l' := i) (h' := ((xs).length)) (m := c) rfl rfl Try.underlying112 ti125 (.inl ⟨rfl, rfl⟩) (.inl ⟨rfl, rfl, rfl⟩) (.inr ⟨_, _, rfl, icast rfl (by omega), (by omega)⟩) ?_
 obtain ⟨ys12, ay12, cut12, hys12, hlys12, eay12⟩ : ∃ ys_ ay_, (∀ {L : List Res}, RdS W L e_ItB a xs → RdS W L e_ItB ay_ ys_) ∧ ys_ = sub xs i ((xs).length) ∧ ys_.length = ((xs).length) - i ∧ cutA a c i 4 = ay_ := ⟨_, _, fun h => rds_cut e_ItB_ok h _ _ _ (by omega), rfl, sub_len (by omega), rfl⟩
 refine l_eq (t := 12) (v' := .slice ay12 ys12.length (c - i)) rfl (by rw [eay12, hlys12]) ?_
 refine l_nil ?_
 refine q_then ?_
 refine c_seq ?_
 refine c_region ?_
 refine o_move rfl rfl ?_
 refine o_len rfl rfl Try.underlying112 ?_
 refine o_assign rfl rfl ?_
 refine l_nil ?_
 refine q_then ?_
 refine c_seq ?_
 refine c_seq ?_
 refine c_region ?_
 refine o_move rfl rfl ?_
 refine o_bin rfl rfl rfl b_eql ?_
 refine l_eq (t := 16) (v' := .bool false) rfl (show _ = Value.bool false from by simp) ?_
 refine l_nil ?_
 refine q_then ?_
 refine c_false rfl ?_
 refine c_skip ?_
 refine q_then ?_
 refine c_seq ?_
 refine c_region ?_
 refine o_move rfl rfl ?_
 refine o_len rfl rfl Try.underlying112 ?_
 refine o_assign rfl rfl ?_
 refine l_nil ?_
 refine q_then ?_
 refine c_seq ?_
 refine c_seq ?_
 refine c_region ?_
 refine o_move rfl rfl ?_
 refine o_move rfl rfl ?_
 refine o_bin rfl rfl rfl b_eql ?_
 refine l_nil ?_
 refine q_then ?_
 refine c_cond rfl (fun h1 => ?_) (fun h1 => ?_)
 · -- h1T
  have h1b := h1
  try simp only [decide_eq_true_eq] at h1
  have hend : xs ++ [x] = xs.take i ++ x :: xs.drop i := by rw [List.take_of_length_le (by omega), List.drop_of_length_le (by omega)]
  refine c_seq ?_
  refine c_region ?_
  refine o_move rfl rfl ?_
  refine o_move rfl rfl ?_
  refine o_append e_ItB_ok rfl rfl rfl Try.underlying112 (rds_own e_ItB_ok 1 rfl) (by show (_ + _) * 32 ≤ _; (try simp only [List.length_append, List.length_cons, List.length_nil]); omega) (by (try simp only [List.length_append, List.length_cons, List.length_nil]); omega) fun a25 c25 => ?_
  refine o_assign rfl rfl ?_
  refine l_nil ?_
  refine q_then ?_
  refine c_ret ?_
  refine q_pass_ret ?_
  refine q_conv (fun w S => (S.perm p1).tail) ?_
  exact f_ret (r_one rfl rfl) (⟨a25, c25, by (rw [hend]; first | done | rfl), rfl⟩) (fun w S => by rw [hend] at S; exact S)
 · -- h1F
  have h1b := h1
  try simp only [decide_eq_false_iff_not, Int.not_lt, Int.not_le] at h1
  have hlt : i < xs.length := by omega
  have hlen : (xs.take i ++ x :: xs.drop i).length = xs.length + 1 := by rw [List.length_append, List.length_take, List.length_cons, List.length_drop]; omega
  have hfl : (flat e_ItB xs).length = xs.length * 4 := flat_length e_ItB_ok xs
  have hf1 : (flat e_ItB [x]).length = 1 * 4 := flat_length e_ItB_ok [x]
  refine c_skip ?_
  refine q_then ?_
  refine c_seq ?_
  refine c_seq ?_
  refine c_conv (L' := row 125 4 a xs.length c (flat e_ItB xs) :: _) (fun w S => S) ?_
  refine c_region ?_
  refine o_move rfl rfl ?_
  refine o_move rfl rfl ?_
  refine o_bin rfl rfl rfl (b_add (show IntKind.i64.wrap ((xs.length : Int) + (([x] : List ItB).length : Int)) = ((xs.length + 1 : Nat) : Int) from by rw [wrap_i64 (by (try simp only [List.length_cons, List.length_nil]); omega) (by (try simp only [List.length_cons, List.length_nil]); omega)]; (try simp only [List.length_cons, List.length_nil]); omega)) ?_
  refine o_move rfl rfl ?_
  refine o_cap rfl rfl Try.underlying112 ?_
  refine o_bin rfl rfl rfl b_gtr ?_
  refine l_nil ?_
  refine q_then ?_
  refine c_cond rfl (fun h2 => ?_) (fun h2 => ?_)
  · -- h2T
   have h2b := h2
   try simp only [decide_eq_true_eq] at h2
   have hft : (flat e_ItB (xs.take i)).length = i * 4 := by rw [flat_length e_ItB_ok, List.length_take, Nat.min_eq_left hi]; first | done | rfl
   refine c_seq ?_
   refine c_region ?_
   refine o_move rfl rfl ?_
   refine o_move rfl rfl ?_
   refine o_cut (l' := 0) (h' := i) (m := c) rfl rfl Try.underlying112 ti125 (.inl ⟨rfl, rfl⟩) (.inr ⟨_, _, rfl, icast rfl (by omega), (by omega)⟩) (.inl ⟨rfl, rfl⟩) ?_
   refine l_eq (t := 34) (v' := .slice a i c) rfl (by rw [cutA_0]; rfl) ?_
   refine o_move rfl rfl ?_
   refine o_move rfl rfl ?_
   refine o_bin rfl rfl rfl (b_add (show IntKind.i64.wrap ((xs.length : Int) + (([x] : List ItB).length : Int)) = ((xs.length + 1 : Nat) : Int) from by rw [wrap_i64 (by (try simp only [List.length_cons, List.length_nil]); omega) (by (try simp only [List.length_cons, List.length_nil]); omega)]; (try simp only [List.length_cons, List.length_nil]); omega)) ?_
   refine o_move rfl rfl ?_
   refine o_bin rfl rfl rfl (b_sub (show IntKind.i64.wrap (((xs.length + 1 : Nat) : Int) - (i : Int)) = ((xs.length + 1 - i : Nat) : Int) from by rw [wrap_i64 (by (try simp only [List.length_cons, List.length_nil]); omega) (by (try simp only [List.length_cons, List.length_nil]); omega)]; (try simp only [List.length_cons, List.length_nil]); omega)) ?_
   refine o_appendZ (e := e_ItB) (xs := xs) (i := i) (k := (xs.length + 1 - i)) (n := (xs.length + 1)) e_ItB_ok (by omega) rfl (cutA_0 _ _ _) rfl rfl Try.underlying112 Try.underlying3 (by omega) (by omega) (by omega) (by show _ * 32 ≤ _; omega) (by omega) fun a40 c40 zs40 hz40 => ?_
   refine o_assign rfl rfl ?_
   refine l_nil ?_
   refine q_then ?_
   refine c_seq ?_
   refine c_region ?_
   refine o_move rfl rfl ?_
   refine o_move rfl rfl ?_
   refine o_cut (l' := i) (h' := (xs.length + 1)) (m := c40) rfl rfl Try.underlying112 ti125 (.inl ⟨rfl, rfl⟩) (.inl ⟨rfl, rfl, rfl⟩) (.inr ⟨_, _, rfl, icast rfl (by omega), (by omega)⟩) ?_
   refine o_move rfl rfl ?_
   refine o_copy (T := 125) (sz := 4) (lo := i) (k := 1) (ds := (flat e_ItB [x])) rfl rfl rfl Try.underlying112 ti125 (by simp [Nat.min_def]; omega) (by omega) hf1 (rdO_of (rds_own e_ItB_ok 2 rfl) (by simp)) (by omega) (flat_one e_ItB_ok [x]) ?_
   refine l_nil ?_
   refine q_then ?_
   refine c_seq ?_
   refine c_conv (fun w S => S.perm p2) ?_
   refine c_conv (fun w S => S.perm p2) ?_
   refine c_held [row 125 4 a xs.length c (flat e_ItB xs), row e_ItB.T e_ItB.sz a2 ([x]).length c2 (flat e_ItB [x])] (by kernel_rfl) rfl ?_
   refine h_take 0 rfl rfl (by kernel_rfl) (by kernel_rfl) (by kernel_rfl) (fun L0 => v_move rfl rfl) ?_
   refine h_take 1 rfl rfl (by kernel_rfl) (by kernel_rfl) (by kernel_rfl) (fun L0 => v_move rfl rfl) ?_
   refine h_take 2 rfl rfl (by kernel_rfl) (by kernel_rfl) (by kernel_rfl) (fun L0 => v_move rfl rfl) ?_
   refine h_take 3 rfl rfl (by kernel_rfl) (by kernel_rfl) (by kernel_rfl) (fun L0 => v_bin rfl rfl rfl (b_add (show IntKind.i64.wrap ((i : Int) + (([x] : List ItB).length : Int)) = ((i + 1 : Nat) : Int) from by rw [wrap_i64 (by (try simp only [List.length_cons, List.length_nil]); omega) (by (try simp only [List.length_cons, List.length_nil]); omega)]; (try simp only [List.length_cons, List.length_nil]); omega))) ?_
   refine h_take 4 rfl rfl (by kernel_rfl) (by kernel_rfl) (by kernel_rfl) (fun L0 => v_cut (l' := (i + 1)) (h' := (xs.length + 1)) (m := c40) rfl rfl Try.underlying112 ti125 (.inl ⟨rfl, rfl⟩) (.inl ⟨rfl, rfl, rfl⟩) (.inr ⟨_, _, rfl, icast rfl (by omega), (by omega)⟩)) ?_
   refine h_take 5 rfl rfl (by kernel_rfl) (by kernel_rfl) (by kernel_rfl) (fun L0 => v_move rfl rfl) ?_
   refine h_take 6 rfl rfl (by kernel_rfl) (by kernel_rfl) (by kernel_rfl) (fun L0 => v_move rfl rfl) ?_
   refine h_take 7 rfl rfl (by kernel_rfl) (by kernel_rfl) (by kernel_rfl) (fun L0 => v_cut (l' := i) (h' := xs.length) (m := c) rfl rfl Try.underlying112 ti125 (.inl ⟨rfl, rfl⟩) (.inl ⟨rfl, rfl, rfl⟩) (.inr ⟨_, _, rfl, icast rfl (by omega), (by omega)⟩)) ?_
   refine h_one 8 rfl (by kernel_rfl) ?_
   refine l_f2 ?_
   refine o_copy (T := 125) (sz := 4) (lo := (i + 1)) (k := (xs.length - i)) (ds := (((flat e_ItB xs).drop (i * 4)).take ((xs.length - i) * 4))) rfl rfl rfl Try.underlying112 ti125 (by simp only [Nat.min_def]; split <;> omega) (by omega) (by (try simp only [List.length_take, List.length_drop, List.length_append]); omega) (rdO_row 1 rfl (by omega) (by omega)) (by omega) (fun v hv => flat_one e_ItB_ok xs v (List.mem_of_mem_drop (List.mem_of_mem_take hv))) ?_
   refine l_nil ?_
   refine q_conv (fun w S => S.perm p2) ?_
   refine q_conv (fun w S => S.perm p2) ?_
   refine h_next ?_
   refine h_done (by kernel_rfl) ?_
   refine q_then ?_
   refine c_seq ?_
   refine c_region ?_
   refine o_move rfl rfl ?_
   refine o_assign rfl rfl ?_
   refine l_nil ?_
   refine q_then ?_
   refine c_ret ?_
   refine q_pass_ret ?_
   refine q_conv (fun w S => S.tail) ?_
   refine q_conv (fun w S => S.tail) ?_
   exact f_ret (r_one rfl rfl) (⟨a40, c40, by (rw [hlen]; first | done | rfl), rfl⟩) (fun w S => by have h9 := ins_raw2 e_ItB_ok (xs := xs) (x := x) (i := i) hlt hz40; rw [← h9, hlen]; exact S)
  · -- h2F
   have h2b := h2
   try simp only [decide_eq_false_iff_not, Int.not_lt, Int.not_le] at h2
   refine c_skip ?_
   refine q_then ?_
   refine c_seq ?_
   refine c_more 1 (by omega) (by omega) ?_
   intro js hjs
   refine c_region ?_
   refine o_move rfl rfl ?_
   refine o_move rfl rfl ?_
   refine o_move rfl rfl ?_
   refine o_bin rfl rfl rfl (b_add (show IntKind.i64.wrap ((xs.length : Int) + (([x] : List ItB).length : Int)) = ((xs.length + 1 : Nat) : Int) from by rw [wrap_i64 (by (try simp only [List.length_cons, List.length_nil]); omega) (by (try simp only [List.length_cons, List.length_nil]); omega)]; (try simp only [List.length_cons, List.length_nil]); omega)) ?_
   refine o_cut (l' := 0) (h' := (xs.length + 1)) (m := c) rfl rfl Try.underlying112 ti125 (.inl ⟨rfl, rfl⟩) (.inr ⟨_, _, rfl, icast rfl (by omega), (by omega)⟩) (.inl ⟨rfl, rfl⟩) ?_
   refine l_eq (t := 60) (v' := .slice a (xs.length + 1) c) rfl (by rw [cutA_0]; rfl) ?_
   refine o_assign rfl rfl ?_
   refine l_nil ?_
   refine q_then ?_
   refine c_seq ?_
   refine c_seq ?_
   refine c_region ?_
   refine o_move rfl rfl ?_
   refine o_move rfl rfl ?_
   refine o_move rfl rfl ?_
   refine o_move rfl rfl ?_
   refine o_bin rfl rfl rfl (b_add (show IntKind.i64.wrap ((i : Int) + (([x] : List ItB).length : Int)) = ((i + 1 : Nat) : Int) from by rw [wrap_i64 (by (try simp only [List.length_cons, List.length_nil]); omega) (by (try simp only [List.length_cons, List.length_nil]); omega)]; (try simp only [List.length_cons, List.length_nil]); omega)) ?_
   refine o_cut (l' := (i + 1)) (h' := (xs.length + 1)) (m := c) rfl rfl Try.underlying112 ti125 (.inl ⟨rfl, rfl⟩) (.inl ⟨rfl, rfl, rfl⟩) (.inr ⟨_, _, rfl, icast rfl (by omega), (by omega)⟩) ?_
   refine l_conv (fun w S => S.perm p1) ?_
   refine o_overlaps (f := 67) (tS := 112) (tR := 4) (sz := 4) (lo := (i + 1)) rfl rfl rfl Try.func67 (by kernel_rfl) (by kernel_rfl) (by kernel_rfl) (by kernel_rfl) Try.underlying112 ti125 (by decide) (by simp) (by omega) ?_
   refine o_not rfl rfl ?_
   refine l_nil ?_
   refine q_then ?_
   refine c_true rfl ?_
   refine c_seq ?_
   refine c_held [row e_ItB.T e_ItB.sz a2 ([x]).length c2 (flat e_ItB [x])] (by kernel_rfl) rfl ?_
   refine h_take 0 rfl rfl (by kernel_rfl) (by kernel_rfl) (by kernel_rfl) (fun L0 => v_move rfl rfl) ?_
   refine h_take 1 rfl rfl (by kernel_rfl) (by kernel_rfl) (by kernel_rfl) (fun L0 => v_move rfl rfl) ?_
   refine h_take 2 rfl rfl (by kernel_rfl) (by kernel_rfl) (by kernel_rfl) (fun L0 => v_move rfl rfl) ?_
   refine h_take 3 rfl rfl (by kernel_rfl) (by kernel_rfl) (by kernel_rfl) (fun L0 => v_bin rfl rfl rfl (b_add (show IntKind.i64.wrap ((i : Int) + (([x] : List ItB).length : Int)) = ((i + 1 : Nat) : Int) from by rw [wrap_i64 (by (try simp only [List.length_cons, List.length_nil]); omega) (by (try simp only [List.length_cons, List.length_nil]); omega)]; (try simp only [List.length_cons, List.length_nil]); omega))) ?_
   refine h_take 4 rfl rfl (by kernel_rfl) (by kernel_rfl) (by kernel_rfl) (fun L0 => v_cut (l' := (i + 1)) (h' := (xs.length + 1)) (m := c) rfl rfl Try.underlying112 ti125 (.inl ⟨rfl, rfl⟩) (.inl ⟨rfl, rfl, rfl⟩) (.inr ⟨_, _, rfl, icast rfl (by omega), (by omega)⟩)) ?_
   refine h_take 5 rfl rfl (by kernel_rfl) (by kernel_rfl) (by kernel_rfl) (fun L0 => v_move rfl rfl) ?_
   refine h_take 6 rfl rfl (by kernel_rfl) (by kernel_rfl) (by kernel_rfl) (fun L0 => v_move rfl rfl) ?_
   refine h_take 7 rfl rfl (by kernel_rfl) (by kernel_rfl) (by kernel_rfl) (fun L0 => v_cut (l' := i) (h' := (xs.length + 1)) (m := c) rfl rfl Try.underlying112 ti125 (.inl ⟨rfl, rfl⟩) (.inl ⟨rfl, rfl, rfl⟩) (.inr ⟨_, _, rfl, icast rfl (by omega), (by omega)⟩)) ?_
   refine h_one 8 rfl (by kernel_rfl) ?_
   refine l_f1 ?_
   refine o_copy (T := 125) (sz := 4) (lo := (i + 1)) (k := (xs.length - i)) (ds := (((flat e_ItB xs ++ js).drop (i * 4)).take ((xs.length - i) * 4))) rfl rfl rfl Try.underlying112 ti125 (by simp only [Nat.min_def]; split <;> omega) (by omega) (by (try simp only [List.length_take, List.length_drop, List.length_append]); omega) (rdO_row 0 rfl (by omega) (by omega)) (by omega) (fun v hv => by have h8 := List.mem_of_mem_take hv; rw [List.drop_append_of_le_length (by omega), ] at hv; rw [List.take_append_of_le_length (by rw [List.length_drop]; omega)] at hv; exact flat_one e_ItB_ok xs v (List.mem_of_mem_drop (List.mem_of_mem_take hv))) ?_
   refine l_nil ?_
   refine q_conv (fun w S => S.perm p1) ?_
   refine h_next ?_
   refine h_done (by kernel_rfl) ?_
   refine q_then ?_
   refine c_seq ?_
   refine c_region ?_
   refine o_move rfl rfl ?_
   refine o_move rfl rfl ?_
   refine o_cut (l' := i) (h' := (xs.length + 1)) (m := c) rfl rfl Try.underlying112 ti125 (.inl ⟨rfl, rfl⟩) (.inl ⟨rfl, rfl, rfl⟩) (.inr ⟨_, _, rfl, icast rfl (by omega), (by omega)⟩) ?_
   refine o_move rfl rfl ?_
   refine l_f1 ?_
   refine o_copy (T := 125) (sz := 4) (lo := i) (k := 1) (ds := (flat e_ItB [x])) rfl rfl rfl Try.underlying112 ti125 (by simp [Nat.min_def]; omega) (by omega) hf1 (rdO_of (rds_own e_ItB_ok 1 rfl) (by simp)) (by omega) (flat_one e_ItB_ok [x]) ?_
   refine l_nil ?_
   refine q_then ?_
   refine c_seq ?_
   refine c_region ?_
   refine o_move rfl rfl ?_
   refine o_assign rfl rfl ?_
   refine l_nil ?_
   refine q_then ?_
   refine c_ret ?_
   refine q_pass_ret ?_
   refine q_conv (fun w S => (S.perm p1).tail) ?_
   exact f_ret (r_one rfl rfl) (⟨a, c, by (rw [hlen]; first | done | rfl), rfl⟩) (fun w S => by have h9 := ins_raw e_ItB_ok (xs := xs) (x := x) (i := i) hlt hjs rfl; rw [← h9, hlen]; exact S)

set_option maxHeartbeats 1000000 in
theorem insK_B {W : World} {F : List Res} {xs : List Nat} {x : Nat} {a a2 : Option Addr} {c c2 i : Nat} (hi : i ≤ xs.length) (hn : xs.length ≤ 1000) : CS Try.prog 56 #[.slice a xs.length c, .int .i64 (i : Int), .slice a2 ([x]).length c2] W (row eN111.T eN111.sz a (xs).length c (flat eN111 xs) :: row eN111.T eN111.sz a2 ([x]).length c2 (flat eN111 [x]) :: F) (fun r L' => ∃ (a' : Option Addr) (c' : Nat), r = .slice a' (xs.take i ++ x :: xs.drop i).length c' ∧ L' = row eN111.T eN111.sz a' ((xs.take i ++ x :: xs.drop i)).length c' (flat eN111 (xs.take i ++ x :: xs.drop i)) :: F) := by
 refine f_door (l0 := [(0, .slice a xs.length c), (1, .int .i64 (i : Int)), (2, .slice a2 ([x]).length c2)]) Try.func56 Try.ntmps56 rfl rfl rfl ?_
 refine c_seq ?_
 refine c_region ?_
 refine o_assign rfl rfl ?_
 refine l_nil ?_
 refine q_then ?_
 refine c_seq ?_
 refine c_rowcap ?_
 intro hrc
 simp only [maxLen] at hrc
 refine c_region ?_
 refine o_move rfl rfl ?_
 refine o_move rfl rfl ?_
 refine o_cut (l' := i) (h' := ((xs).length)) (m := c) rfl rfl Try.underlying113 ti111 (.inl ⟨rfl, rfl⟩) (.inl ⟨rfl, rfl, rfl⟩) (.inr ⟨_, _, rfl, icast rfl (by omega), (by omega)⟩) ?_
 obtain ⟨ys12, ay12, cut12, hys12, hlys12, eay12⟩ : ∃ ys_ ay_, (∀ {L : List Res}, RdS W L eN111 a xs → RdS W L eN111 ay_ ys_) ∧ ys_ = sub xs i ((xs).length) ∧ ys_.length = ((xs).length) - i ∧ cutA a c i 1 = ay_ := ⟨_, _, fun h => rds_cut eN111_ok h _ _ _ (by omega), rfl, sub_len (by omega), rfl⟩
 refine l_eq (t := 12) (v' := .slice ay12 ys12.length (c - i)) rfl (by rw [eay12, hlys12]) ?_
 refine l_nil ?_
 refine q_then ?_
 refine c_seq ?_
 refine c_region ?_
 refine o_move rfl rfl ?_
 refine o_len rfl rfl Try.underlying113 ?_
 refine o_assign rfl rfl ?_
 refine l_nil ?_
 refine q_then ?_
 refine c_seq ?_
 refine c_seq ?_
 refine c_region ?_
 refine o_move rfl rfl ?_
 refine o_bin rfl rfl rfl b_eql ?_
 refine l_eq (t := 16) (v' := .bool false) rfl (show _ = Value.bool false from by simp) ?_
 refine l_nil ?_
 refine q_then ?_
 refine c_false rfl ?_
 refine c_skip ?_
 refine q_then ?_
 refine c_seq ?_
 refine c_region ?_
 refine o_move rfl rfl ?_
 refine o_len rfl rfl Try.underlying113 ?_
 refine o_assign rfl rfl ?_
 refine l_nil ?_
 refine q_then ?_
 refine c_seq ?_
 refine c_seq ?_
 refine c_region ?_
 refine o_move rfl rfl ?_
 refine o_move rfl rfl ?_
 refine o_bin rfl rfl rfl b_eql ?_
 refine l_nil ?_
 refine q_then ?_
 refine c_cond rfl (fun h1 => ?_) (fun h1 => ?_)
 · -- h1T
  have h1b := h1
  try simp only [decide_eq_true_eq] at h1
  have hend : xs ++ [x] = xs.take i ++ x :: xs.drop i := by rw [List.take_of_length_le (by omega), List.drop_of_length_le (by omega)]
  refine c_seq ?_
  refine c_region ?_
  refine o_move rfl rfl ?_
  refine o_move rfl rfl ?_
  refine o_append eN111_ok rfl rfl rfl Try.underlying113 (rds_own eN111_ok 1 rfl) (by show (_ + _) * 8 ≤ _; (try simp only [List.length_append, List.length_cons, List.length_nil]); omega) (by (try simp only [List.length_append, List.length_cons, List.length_nil]); omega) fun a25 c25 => ?_
  refine o_assign rfl rfl ?_
  refine l_nil ?_
  refine q_then ?_
  refine c_ret ?_
  refine q_pass_ret ?_
  refine q_conv (fun w S => (S.perm p1).tail) ?_
  exact f_ret (r_one rfl rfl) (⟨a25, c25, by (rw [hend]; first | done | rfl), rfl⟩) (fun w S => by rw [hend] at S; exact S)
 · -- h1F
  have h1b := h1
  try simp only [decide_eq_false_iff_not, Int.not_lt, Int.not_le] at h1
  have hlt : i < xs.length := by omega
  have hlen : (xs.take i ++ x :: xs.drop i).length = xs.length + 1 := by rw [List.length_append, List.length_take, List.length_cons, List.length_drop]; omega
  have hfl : (flat eN111 xs).length = xs.length * 1 := flat_length eN111_ok xs
  have hf1 : (flat eN111 [x]).length = 1 * 1 := flat_length eN111_ok [x]
  refine c_skip ?_
  refine q_then ?_
  refine c_seq ?_
  refine c_seq ?_
  refine c_conv (L' := row 111 1 a xs.length c (flat eN111 xs) :: _) (fun w S => S) ?_
  refine c_region ?_
  refine o_move rfl rfl ?_
  refine o_move rfl rfl ?_
  refine o_bin rfl rfl rfl (b_add (show IntKind.i64.wrap ((xs.length : Int) + (([x] : List Nat).length : Int)) = ((xs.length + 1 : Nat) : Int) from by rw [wrap_i64 (by (try simp only [List.length_cons, List.length_nil]); omega) (by (try simp only [List.length_cons, List.length_nil]); omega)]; (try simp only [List.length_cons, List.length_nil]); omega)) ?_
  refine o_move rfl rfl ?_
  refine o_cap rfl rfl Try.underlying113 ?_
  refine o_bin rfl rfl rfl b_gtr ?_
  refine l_nil ?_
  refine q_then ?_
  refine c_cond rfl (fun h2 => ?_) (fun h2 => ?_)
  · -- h2T
   have h2b := h2
   try simp only [decide_eq_true_eq] at h2
   have hft : (flat eN111 (xs.take i)).length = i * 1 := by rw [flat_length eN111_ok, List.length_take, Nat.min_eq_left hi]; first | done | rfl
   refine c_seq ?_
   refine c_region ?_
   refine o_move rfl rfl ?_
   refine o_move rfl rfl ?_
   refine o_cut (l' := 0) (h' := i) (m := c) rfl rfl Try.underlying113 ti111 (.inl ⟨rfl, rfl⟩) (.inr ⟨_, _, rfl, icast rfl (by omega), (by omega)⟩) (.inl ⟨rfl, rfl⟩) ?_
   refine l_eq (t := 34) (v' := .slice a i c) rfl (by rw [cutA_0]; rfl) ?_
   refine o_move rfl rfl ?_
   refine o_move rfl rfl ?_
   refine o_bin rfl rfl rfl (b_add (show IntKind.i64.wrap ((xs.length : Int) + (([x] : List Nat).length : Int)) = ((xs.length + 1 : Nat) : Int) from by rw [wrap_i64 (by (try simp only [List.length_cons, List.length_nil]); omega) (by (try simp only [List.length_cons, List.length_nil]); omega)]; (try simp only [List.length_cons, List.length_nil]); omega)) ?_
   refine o_move rfl rfl ?_
   refine o_bin rfl rfl rfl (b_sub (show IntKind.i64.wrap (((xs.length + 1 : Nat) : Int) - (i : Int)) = ((xs.length + 1 - i : Nat) : Int) from by rw [wrap_i64 (by (try simp only [List.length_cons, List.length_nil]); omega) (by (try simp only [List.length_cons, List.length_nil]); omega)]; (try simp only [List.length_cons, List.length_nil]); omega)) ?_
   refine o_appendZ (e := eN111) (xs := xs) (i := i) (k := (xs.length + 1 - i)) (n := (xs.length + 1)) eN111_ok (by omega) rfl (cutA_0 _ _ _) rfl rfl Try.underlying113 Try.underlying3 (by omega) (by omega) (by omega) (by show _ * 8 ≤ _; omega) (by omega) fun a40 c40 zs40 hz40 => ?_
   refine o_assign rfl rfl ?_
   refine l_nil ?_
   refine q_then ?_
   refine c_seq ?_
   refine c_region ?_
   refine o_move rfl rfl ?_
   refine o_move rfl rfl ?_
   refine o_cut (l' := i) (h' := (xs.length + 1)) (m := c40) rfl rfl Try.underlying113 ti111 (.inl ⟨rfl, rfl⟩) (.inl ⟨rfl, rfl, rfl⟩) (.inr ⟨_, _, rfl, icast rfl (by omega), (by omega)⟩) ?_
   refine o_move rfl rfl ?_
   refine o_copy (T := 111) (sz := 1) (lo := i) (k := 1) (ds := (flat eN111 [x])) rfl rfl rfl Try.underlying113 ti111 (by simp [Nat.min_def]; omega) (by omega) hf1 (rdO_of (rds_own eN111_ok 2 rfl) (by simp)) (by omega) (flat_one eN111_ok [x]) ?_
   refine l_nil ?_
   refine q_then ?_
   refine c_seq ?_
   refine c_conv (fun w S => S.perm p2) ?_
   refine c_conv (fun w S => S.perm p2) ?_
   refine c_held [row 111 1 a xs.length c (flat eN111 xs), row eN111.T eN111.sz a2 ([x]).length c2 (flat eN111 [x])] (by kernel_rfl) rfl ?_
   refine h_take 0 rfl rfl (by kernel_rfl) (by kernel_rfl) (by kernel_rfl) (fun L0 => v_move rfl rfl) ?_
   refine h_take 1 rfl rfl (by kernel_rfl) (by kernel_rfl) (by kernel_rfl) (fun L0 => v_move rfl rfl) ?_
   refine h_take 2 rfl rfl (by kernel_rfl) (by kernel_rfl) (by kernel_rfl) (fun L0 => v_move rfl rfl) ?_
   refine h_take 3 rfl rfl (by kernel_rfl) (by kernel_rfl) (by kernel_rfl) (fun L0 => v_bin rfl rfl rfl (b_add (show IntKind.i64.wrap ((i : Int) + (([x] : List Nat).length : Int)) = ((i + 1 : Nat) : Int) from by rw [wrap_i64 (by (try simp only [List.length_cons, List.length_nil]); omega) (by (try simp only [List.length_cons, List.length_nil]); omega)]; (try simp only [List.length_cons, List.length_nil]); omega))) ?_
   refine h_take 4 rfl rfl (by kernel_rfl) (by kernel_rfl) (by kernel_rfl) (fun L0 => v_cut (l' := (i + 1)) (h' := (xs.length + 1)) (m := c40) rfl rfl Try.underlying113 ti111 (.inl ⟨rfl, rfl⟩) (.inl ⟨rfl, rfl, rfl⟩) (.inr ⟨_, _, rfl, icast rfl (by omega), (by omega)⟩)) ?_
   refine h_take 5 rfl rfl (by kernel_rfl) (by kernel_rfl) (by kernel_rfl) (fun L0 => v_move rfl rfl) ?_
   refine h_take 6 rfl rfl (by kernel_rfl) (by kernel_rfl) (by kernel_rfl) (fun L0 => v_move rfl rfl) ?_
   refine h_take 7 rfl rfl (by kernel_rfl) (by kernel_rfl) (by kernel_rfl) (fun L0 => v_cut (l' := i) (h' := xs.length) (m := c) rfl rfl Try.underlying113 ti111 (.inl ⟨rfl, rfl⟩) (.inl ⟨rfl, rfl, rfl⟩) (.inr ⟨_, _, rfl, icast rfl (by omega), (by omega)⟩)) ?_
   refine h_one 8 rfl (by kernel_rfl) ?_
   refine l_f2 ?_
   refine o_copy (T := 111) (sz := 1) (lo := (i + 1)) (k := (xs.length - i)) (ds := (((flat eN111 xs).drop (i * 1)).take ((xs.length - i) * 1))) rfl rfl rfl Try.underlying113 ti111 (by simp only [Nat.min_def]; split <;> omega) (by omega) (by (try simp only [List.length_take, List.length_drop, List.length_append]); omega) (rdO_row 1 rfl (by omega) (by omega)) (by omega) (fun v hv => flat_one eN111_ok xs v (List.mem_of_mem_drop (List.mem_of_mem_take hv))) ?_
   refine l_nil ?_
   refine q_conv (fun w S => S.perm p2) ?_
   refine q_conv (fun w S => S.perm p2) ?_
   refine h_next ?_
   refine h_done (by kernel_rfl) ?_
   refine q_then ?_
   refine c_seq ?_
   refine c_region ?_
   refine o_move rfl rfl ?_
   refine o_assign rfl rfl ?_
   refine l_nil ?_
   refine q_then ?_
   refine c_ret ?_
   refine q_pass_ret ?_
   refine q_conv (fun w S => S.tail) ?_
   refine q_conv (fun w S => S.tail) ?_
   exact f_ret (r_one rfl rfl) (⟨a40, c40, by (rw [hlen]; first | done | rfl), rfl⟩) (fun w S => by have h9 := ins_raw2 eN111_ok (xs := xs) (x := x) (i := i) hlt hz40; rw [← h9, hlen]; exact S)
  · -- h2F
   have h2b := h2
   try simp only [decide_eq_false_iff_not, Int.not_lt, Int.not_le] at h2
   refine c_skip ?_
   refine q_then ?_
   refine c_seq ?_
   refine c_more 1 (by omega) (by omega) ?_
   intro js hjs
   refine c_region ?_
   refine o_move rfl rfl ?_
   refine o_move rfl rfl ?_
   refine o_move rfl rfl ?_
   refine o_bin rfl rfl rfl (b_add (show IntKind.i64.wrap ((xs.length : Int) + (([x] : List Nat).length : Int)) = ((xs.length + 1 : Nat) : Int) from by rw [wrap_i64 (by (try simp only [List.length_cons, List.length_nil]); omega) (by (try simp only [List.length_cons, List.length_nil]); omega)]; (try simp only [List.length_cons, List.length_nil]); omega)) ?_
   refine o_cut (l' := 0) (h' := (xs.length + 1)) (m := c) rfl rfl Try.underlying113 ti111 (.inl ⟨rfl, rfl⟩) (.inr ⟨_, _, rfl, icast rfl (by omega), (by omega)⟩) (.inl ⟨rfl, rfl⟩) ?_
   refine l_eq (t := 60) (v' := .slice a (xs.length + 1) c) rfl (by rw [cutA_0]; rfl) ?_
   refine o_assign rfl rfl ?_
   refine l_nil ?_
   refine q_then ?_
   refine c_seq ?_
   refine c_seq ?_
   refine c_region ?_
   refine o_move rfl rfl ?_
   refine o_move rfl rfl ?_
   refine o_move rfl rfl ?_
   refine o_move rfl rfl ?_
   refine o_bin rfl rfl rfl (b_add (show IntKind.i64.wrap ((i : Int) + (([x] : List Nat).length : Int)) = ((i + 1 : Nat) : Int) from by rw [wrap_i64 (by (try simp only [List.length_cons, List.length_nil]); omega) (by (try simp only [List.length_cons, List.length_nil]); omega)]; (try simp only [List.length_cons, List.length_nil]); omega)) ?_
   refine o_cut (l' := (i + 1)) (h' := (xs.length + 1)) (m := c) rfl rfl Try.underlying113 ti111 (.inl ⟨rfl, rfl⟩) (.inl ⟨rfl, rfl, rfl⟩) (.inr ⟨_, _, rfl, icast rfl (by omega), (by omega)⟩) ?_
   refine l_conv (fun w S => S.perm p1) ?_
   refine o_overlaps (f := 69) (tS := 113) (tR := 4) (sz := 1) (lo := (i + 1)) rfl rfl rfl Try.func69 (by kernel_rfl) (by kernel_rfl) (by kernel_rfl) (by kernel_rfl) Try.underlying113 ti111 (by decide) (by simp) (by omega) ?_
   refine o_not rfl rfl ?_
   refine l_nil ?_
   refine q_then ?_
   refine c_true rfl ?_
   refine c_seq ?_
   refine c_held [row eN111.T eN111.sz a2 ([x]).length c2 (flat eN111 [x])] (by kernel_rfl) rfl ?_
   refine h_take 0 rfl rfl (by kernel_rfl) (by kernel_rfl) (by kernel_rfl) (fun L0 => v_move rfl rfl) ?_
   refine h_take 1 rfl rfl (by kernel_rfl) (by kernel_rfl) (by kernel_rfl) (fun L0 => v_move rfl rfl) ?_
   refine h_take 2 rfl rfl (by kernel_rfl) (by kernel_rfl) (by kernel_rfl) (fun L0 => v_move rfl rfl) ?_
   refine h_take 3 rfl rfl (by kernel_rfl) (by kernel_rfl) (by kernel_rfl) (fun L0 => v_bin rfl rfl rfl (b_add (show IntKind.i64.wrap ((i : Int) + (([x] : List Nat).length : Int)) = ((i + 1 : Nat) : Int) from by rw [wrap_i64 (by (try simp only [List.length_cons, List.length_nil]); omega) (by (try simp only [List.length_cons, List.length_nil]); omega)]; (try simp only [List.length_cons, List.length_nil]); omega))) ?_
   refine h_take 4 rfl rfl (by kernel_rfl) (by kernel_rfl) (by kernel_rfl) (fun L0 => v_cut (l' := (i + 1)) (h' := (xs.length + 1)) (m := c) rfl rfl Try.underlying113 ti111 (.inl ⟨rfl, rfl⟩) (.inl ⟨rfl, rfl, rfl⟩) (.inr ⟨_, _, rfl, icast rfl (by omega), (by omega)⟩)) ?_
   refine h_take 5 rfl rfl (by kernel_rfl) (by kernel_rfl) (by kernel_rfl) (fun L0 => v_move rfl rfl) ?_
   refine h_take 6 rfl rfl (by kernel_rfl) (by kernel_rfl) (by kernel_rfl) (fun L0 => v_move rfl rfl) ?_
   refine h_take 7 rfl rfl (by kernel_rfl) (by kernel_rfl) (by kernel_rfl) (fun L0 => v_cut (l' := i) (h' := (xs.length + 1)) (m := c) rfl rfl Try.underlying113 ti111 (.inl ⟨rfl, rfl⟩) (.inl ⟨rfl, rfl, rfl⟩) (.inr ⟨_, _, rfl, icast rfl (by omega), (by omega)⟩)) ?_
   refine h_one 8 rfl (by kernel_rfl) ?_
   refine l_f1 ?_
   refine o_copy (T := 111) (sz := 1) (lo := (i + 1)) (k := (xs.length - i)) (ds := (((flat eN111 xs ++ js).drop (i * 1)).take ((xs.length - i) * 1))) rfl rfl rfl Try.underlying113 ti111 (by simp only [Nat.min_def]; split <;> omega) (by omega) (by (try simp only [List.length_take, List.length_drop, List.length_append]); omega) (rdO_row 0 rfl (by omega) (by omega)) (by omega) (fun v hv => by have h8 := List.mem_of_mem_take hv; rw [List.drop_append_of_le_length (by omega), ] at hv; rw [List.take_append_of_le_length (by rw [List.length_drop]; omega)] at hv; exact flat_one eN111_ok xs v (List.mem_of_mem_drop (List.mem_of_mem_take hv))) ?_
   refine l_nil ?_
   refine q_conv (fun w S => S.perm p1) ?_
   refine h_next ?_
   refine h_done (by kernel_rfl) ?_
   refine q_then ?_
   refine c_seq ?_
   refine c_region ?_
   refine o_move rfl rfl ?_
   refine o_move rfl rfl ?_
   refine o_cut (l' := i) (h' := (xs.length + 1)) (m := c) rfl rfl Try.underlying113 ti111 (.inl ⟨rfl, rfl⟩) (.inl ⟨rfl, rfl, rfl⟩) (.inr ⟨_, _, rfl, icast rfl (by omega), (by omega)⟩) ?_
   refine o_move rfl rfl ?_
   refine l_f1 ?_
   refine o_copy (T := 111) (sz := 1) (lo := i) (k := 1) (ds := (flat eN111 [x])) rfl rfl rfl Try.underlying113 ti111 (by simp [Nat.min_def]; omega) (by omega) hf1 (rdO_of (rds_own eN111_ok 1 rfl) (by simp)) (by omega) (flat_one eN111_ok [x]) ?_
   refine l_nil ?_
   refine q_then ?_
   refine c_seq ?_
   refine c_region ?_
   refine o_move rfl rfl ?_
   refine o_assign rfl rfl ?_
   refine l_nil ?_
   refine q_then ?_
   refine c_ret ?_
   refine q_pass_ret ?_
   refine q_conv (fun w S => (S.perm p1).tail) ?_
   exact f_ret (r_one rfl rfl) (⟨a, c, by (rw [hlen]; first | done | rfl), rfl⟩) (fun w S => by have h9 := ins_raw eN111_ok (xs := xs) (x := x) (i := i) hlt hjs rfl; rw [← h9, hlen]; exact S)

end Go.Proofs.Ytakjmdeckngnlaa
