/- Texts of the proof: Ins1, Put, Walk, Tre, Fst, Nextp, Speaks, Numbers. -/
import Derived.Test.YtlbggbjekpfokaaBNE
namespace Go.Proofs.Ytlbggbjekpfokaa
section
set_option linter.unusedVariables false
set_option linter.unusedSimpArgs false
set_option maxRecDepth 10000
open Go.RowKit Classical
set_option maxHeartbeats 1000000 in
theorem insI_A {W : World} {F : List Res} {xs : List ItA} {x : ItA} {a a2 : Option Addr} {c c2 i : Nat} (hi : i ≤ xs.length) (hn : xs.length ≤ 1000) : CS Try.prog 36 #[.slice a xs.length c, .int .i64 (i : Int), .slice a2 ([x]).length c2] W (row e_ItA.T e_ItA.sz a (xs).length c (flat e_ItA xs) :: row e_ItA.T e_ItA.sz a2 ([x]).length c2 (flat e_ItA [x]) :: F) (fun r L' => ∃ (a' : Option Addr) (c' : Nat), r = .slice a' (xs.take i ++ x :: xs.drop i).length c' ∧ L' = row e_ItA.T e_ItA.sz a' ((xs.take i ++ x :: xs.drop i)).length c' (flat e_ItA (xs.take i ++ x :: xs.drop i)) :: F) := by
 refine f_door (l0 := [(0, .slice a xs.length c), (1, .int .i64 (i : Int)), (2, .slice a2 ([x]).length c2)]) Try.func36 Try.ntmps36 rfl rfl rfl ?_
 refine c_seq ?_
 refine c_region ?_
 refine o_assign rfl rfl ?_
 refine l_nil ?_
 refine q_then ?_
 refine c_seq ?_
 refine c_rowcap ?_
 intro hrc
 simp only [maxLen] at hrc
 refine c_region ?_
 refine o_move rfl rfl ?_
 refine o_move rfl rfl ?_
 refine o_cut (l' := i) (h' := ((xs).length)) (m := c) rfl rfl Try.underlying58 ti68 (.inl ⟨rfl, rfl⟩) (.inl ⟨rfl, rfl, rfl⟩) (.inr ⟨_, _, rfl, icast rfl (by omega), (by omega)⟩) ?_
 obtain ⟨ys12, ay12, cut12, hys12, hlys12, eay12⟩ : ∃ ys_ ay_, (∀ {L : List Res}, RdS W L e_ItA a xs → RdS W L e_ItA ay_ ys_) ∧ ys_ = sub xs i ((xs).length) ∧ ys_.length = ((xs).length) - i ∧ cutA a c i 2 = ay_ := ⟨_, _, fun h => rds_cut e_ItA_ok h _ _ _ (by omega), rfl, sub_len (by omega), rfl⟩
 refine l_eq (t := 12) (v' := .slice ay12 ys12.length (c - i)) rfl (by rw [eay12, hlys12]) ?_
 refine l_nil ?_
 refine q_then ?_
 refine c_seq ?_
 refine c_region ?_
 refine o_move rfl rfl ?_
 refine o_len rfl rfl Try.underlying58 ?_
 refine o_assign rfl rfl ?_
 refine l_nil ?_
 refine q_then ?_
 refine c_seq ?_
 refine c_seq ?_
 refine c_region ?_
 refine o_move rfl rfl ?_
 refine o_bin rfl rfl rfl b_eql ?_
 refine l_eq (t := 16) (v' := .bool false) rfl (show _ = Value.bool false from by simp) ?_
 refine l_nil ?_
 refine q_then ?_
 refine c_false rfl ?_
 refine c_skip ?_
 refine q_then ?_
 refine c_seq ?_
 refine c_region ?_
 refine o_move rfl rfl ?_
 refine o_len rfl rfl Try.underlying58 ?_
 refine o_assign rfl rfl ?_
 refine l_nil ?_
 refine q_then ?_
 refine c_seq ?_
 refine c_seq ?_
 refine c_region ?_
 refine o_move rfl rfl ?_
 refine o_move rfl rfl ?_
 refine o_bin rfl rfl rfl b_eql ?_
 refine l_nil ?_
 refine q_then ?_
 refine c_cond rfl (fun h1 => ?_) (fun h1 => ?_)
 · -- h1T
  have h1b := h1
  try simp only [decide_eq_true_eq] at h1
  have hend : xs ++ [x] = xs.take i ++ x :: xs.drop i := by rw [List.take_of_length_le (by omega), List.drop_of_length_le (by omega)]
  refine c_seq ?_
  refine c_region ?_
  refine o_move rfl rfl ?_
  refine o_move rfl rfl ?_
  refine o_append e_ItA_ok rfl rfl rfl Try.underlying58 (rds_own e_ItA_ok 1 rfl) (by show (_ + _) * 24 ≤ _; (try simp only [List.length_append, List.length_cons, List.length_nil]); omega) (by (try simp only [List.length_append, List.length_cons, List.length_nil]); omega) fun a25 c25 => ?_
  refine o_assign rfl rfl ?_
  refine l_nil ?_
  refine q_then ?_
  refine c_ret ?_
  refine q_pass_ret ?_
  refine q_conv (fun w S => (S.perm p1).tail) ?_
  exact f_ret (r_one rfl rfl) (⟨a25, c25, by (rw [hend]; first | done | rfl), rfl⟩) (fun w S => by rw [hend] at S; exact S)
 · -- h1F
  have h1b := h1
  try simp only [decide_eq_false_iff_not, Int.not_lt, Int.not_le] at h1
  have hlt : i < xs.length := by omega
  have hlen : (xs.take i ++ x :: xs.drop i).length = xs.length + 1 := by rw [List.length_append, List.length_take, List.length_cons, List.length_drop]; omega
  have hfl : (flat e_ItA xs).length = xs.length * 2 := flat_length e_ItA_ok xs
  have hf1 : (flat e_ItA [x]).length = 1 * 2 := flat_length e_ItA_ok [x]
  refine c_skip ?_
  refine q_then ?_
  refine c_seq ?_
  refine c_seq ?_
  refine c_conv (L' := row 68 2 a xs.length c (flat e_ItA xs) :: _) (fun w S => S) ?_
  refine c_region ?_
  refine o_move rfl rfl ?_
  refine o_move rfl rfl ?_
  refine o_bin rfl rfl rfl (b_add (show IntKind.i64.wrap ((xs.length : Int) + (([x] : List ItA).length : Int)) = ((xs.length + 1 : Nat) : Int) from by rw [wrap_i64 (by (try simp only [List.length_cons, List.length_nil]); omega) (by (try simp only [List.length_cons, List.length_nil]); omega)]; (try simp only [List.length_cons, List.length_nil]); omega)) ?_
  refine o_move rfl rfl ?_
  refine o_cap rfl rfl Try.underlying58 ?_
  refine o_bin rfl rfl rfl b_gtr ?_
  refine l_nil ?_
  refine q_then ?_
  refine c_cond rfl (fun h2 => ?_) (fun h2 => ?_)
  · -- h2T
   have h2b := h2
   try simp only [decide_eq_true_eq] at h2
   have hft : (flat e_ItA (xs.take i)).length = i * 2 := by rw [flat_length e_ItA_ok, List.length_take, Nat.min_eq_left hi]; first | done | rfl
   refine c_seq ?_
   refine c_region ?_
   refine o_move rfl rfl ?_
   refine o_move rfl rfl ?_
   refine o_cut (l' := 0) (h' := i) (m := c) rfl rfl Try.underlying58 ti68 (.inl ⟨rfl, rfl⟩) (.inr ⟨_, _, rfl, icast rfl (by omega), (by omega)⟩) (.inl ⟨rfl, rfl⟩) ?_
   refine l_eq (t := 34) (v' := .slice a i c) rfl (by first | (rw [cutA_0]; done) | (rw [cutA_0]; rfl)) ?_
   refine o_move rfl rfl ?_
   refine o_move rfl rfl ?_
   refine o_bin rfl rfl rfl (b_add (show IntKind.i64.wrap ((xs.length : Int) + (([x] : List ItA).length : Int)) = ((xs.length + 1 : Nat) : Int) from by rw [wrap_i64 (by (try simp only [List.length_cons, List.length_nil]); omega) (by (try simp only [List.length_cons, List.length_nil]); omega)]; (try simp only [List.length_cons, List.length_nil]); omega)) ?_
   refine o_move rfl rfl ?_
   refine o_bin rfl rfl rfl (b_sub (show IntKind.i64.wrap (((xs.length + 1 : Nat) : Int) - (i : Int)) = ((xs.length + 1 - i : Nat) : Int) from by rw [wrap_i64 (by (try simp only [List.length_cons, List.length_nil]); omega) (by (try simp only [List.length_cons, List.length_nil]); omega)]; (try simp only [List.length_cons, List.length_nil]); omega)) ?_
   refine o_appendZ (e := e_ItA) (xs := xs) (i := i) (k := (xs.length + 1 - i)) (n := (xs.length + 1)) e_ItA_ok (by omega) rfl (cutA_0 _ _ _) rfl rfl Try.underlying58 Try.underlying3 (by omega) (by omega) (by omega) (by show _ * 24 ≤ _; omega) (by omega) fun a40 c40 zs40 hz40 => ?_
   refine o_assign rfl rfl ?_
   refine l_nil ?_
   refine q_then ?_
   refine c_seq ?_
   refine c_region ?_
   refine o_move rfl rfl ?_
   refine o_move rfl rfl ?_
   refine o_cut (l' := i) (h' := (xs.length + 1)) (m := c40) rfl rfl Try.underlying58 ti68 (.inl ⟨rfl, rfl⟩) (.inl ⟨rfl, rfl, rfl⟩) (.inr ⟨_, _, rfl, icast rfl (by omega), (by omega)⟩) ?_
   refine o_move rfl rfl ?_
   refine o_copy (T := 68) (sz := 2) (lo := i) (k := 1) (ds := (flat e_ItA [x])) rfl rfl rfl Try.underlying58 ti68 (by simp [Nat.min_def]; omega) (by omega) hf1 (rdO_of (rds_own e_ItA_ok 2 rfl) (by simp)) (by omega) (flat_one e_ItA_ok [x]) ?_
   refine l_nil ?_
   refine q_then ?_
   refine c_seq ?_
   refine c_conv (fun w S => S.perm p2) ?_
   refine c_conv (fun w S => S.perm p2) ?_
   refine c_held [row 68 2 a xs.length c (flat e_ItA xs), row e_ItA.T e_ItA.sz a2 ([x]).length c2 (flat e_ItA [x])] (by kernel_rfl) rfl ?_
   refine h_take 0 rfl rfl (by kernel_rfl) (by kernel_rfl) (by kernel_rfl) (fun L0 => v_move rfl rfl) ?_
   refine h_take 1 rfl rfl (by kernel_rfl) (by kernel_rfl) (by kernel_rfl) (fun L0 => v_move rfl rfl) ?_
   refine h_take 2 rfl rfl (by kernel_rfl) (by kernel_rfl) (by kernel_rfl) (fun L0 => v_move rfl rfl) ?_
   refine h_take 3 rfl rfl (by kernel_rfl) (by kernel_rfl) (by kernel_rfl) (fun L0 => v_bin rfl rfl rfl (b_add (show IntKind.i64.wrap ((i : Int) + (([x] : List ItA).length : Int)) = ((i + 1 : Nat) : Int) from by rw [wrap_i64 (by (try simp only [List.length_cons, List.length_nil]); omega) (by (try simp only [List.length_cons, List.length_nil]); omega)]; (try simp only [List.length_cons, List.length_nil]); omega))) ?_
   refine h_take 4 rfl rfl (by kernel_rfl) (by kernel_rfl) (by kernel_rfl) (fun L0 => v_cut (l' := (i + 1)) (h' := (xs.length + 1)) (m := c40) rfl rfl Try.underlying58 ti68 (.inl ⟨rfl, rfl⟩) (.inl ⟨rfl, rfl, rfl⟩) (.inr ⟨_, _, rfl, icast rfl (by omega), (by omega)⟩)) ?_
   refine h_take 5 rfl rfl (by kernel_rfl) (by kernel_rfl) (by kernel_rfl) (fun L0 => v_move rfl rfl) ?_
   refine h_take 6 rfl rfl (by kernel_rfl) (by kernel_rfl) (by kernel_rfl) (fun L0 => v_move rfl rfl) ?_
   refine h_take 7 rfl rfl (by kernel_rfl) (by kernel_rfl) (by kernel_rfl) (fun L0 => v_cut (l' := i) (h' := xs.length) (m := c) rfl rfl Try.underlying58 ti68 (.inl ⟨rfl, rfl⟩) (.inl ⟨rfl, rfl, rfl⟩) (.inr ⟨_, _, rfl, icast rfl (by omega), (by omega)⟩)) ?_
   refine h_one 8 rfl (by kernel_rfl) ?_
   refine l_f2 ?_
   refine o_copy (T := 68) (sz := 2) (lo := (i + 1)) (k := (xs.length - i)) (ds := (((flat e_ItA xs).drop (i * 2)).take ((xs.length - i) * 2))) rfl rfl rfl Try.underlying58 ti68 (by simp only [Nat.min_def]; split <;> omega) (by omega) (by (try simp only [List.length_take, List.length_drop, List.length_append]); omega) (rdO_row 1 rfl (by omega) (by omega)) (by omega) (fun v hv => flat_one e_ItA_ok xs v (List.mem_of_mem_drop (List.mem_of_mem_take hv))) ?_
   refine l_nil ?_
   refine q_conv (fun w S => S.perm p2) ?_
   refine q_conv (fun w S => S.perm p2) ?_
   refine h_next ?_
   refine h_done (by kernel_rfl) ?_
   refine q_then ?_
   refine c_seq ?_
   refine c_region ?_
   refine o_move rfl rfl ?_
   refine o_assign rfl rfl ?_
   refine l_nil ?_
   refine q_then ?_
   refine c_ret ?_
   refine q_pass_ret ?_
   refine q_conv (fun w S => S.tail) ?_
   refine q_conv (fun w S => S.tail) ?_
   exact f_ret (r_one rfl rfl) (⟨a40, c40, by (rw [hlen]; first | done | rfl), rfl⟩) (fun w S => by have h9 := ins_raw2 e_ItA_ok (xs := xs) (x := x) (i := i) hlt hz40; rw [← h9, hlen]; exact S)
  · -- h2F
   have h2b := h2
   try simp only [decide_eq_false_iff_not, Int.not_lt, Int.not_le] at h2
   refine c_skip ?_
   refine q_then ?_
   refine c_seq ?_
   refine c_more 1 (by omega) (by omega) ?_
   intro js hjs
   refine c_region ?_
   refine o_move rfl rfl ?_
   refine o_move rfl rfl ?_
   refine o_move rfl rfl ?_
   refine o_bin rfl rfl rfl (b_add (show IntKind.i64.wrap ((xs.length : Int) + (([x] : List ItA).length : Int)) = ((xs.length + 1 : Nat) : Int) from by rw [wrap_i64 (by (try simp only [List.length_cons, List.length_nil]); omega) (by (try simp only [List.length_cons, List.length_nil]); omega)]; (try simp only [List.length_cons, List.length_nil]); omega)) ?_
   refine o_cut (l' := 0) (h' := (xs.length + 1)) (m := c) rfl rfl Try.underlying58 ti68 (.inl ⟨rfl, rfl⟩) (.inr ⟨_, _, rfl, icast rfl (by omega), (by omega)⟩) (.inl ⟨rfl, rfl⟩) ?_
   refine l_eq (t := 60) (v' := .slice a (xs.length + 1) c) rfl (by first | (rw [cutA_0]; done) | (rw [cutA_0]; rfl)) ?_
   refine o_assign rfl rfl ?_
   refine l_nil ?_
   refine q_then ?_
   refine c_seq ?_
   refine c_seq ?_
   refine c_region ?_
   refine o_move rfl rfl ?_
   refine o_move rfl rfl ?_
   refine o_move rfl rfl ?_
   refine o_move rfl rfl ?_
   refine o_bin rfl rfl rfl (b_add (show IntKind.i64.wrap ((i : Int) + (([x] : List ItA).length : Int)) = ((i + 1 : Nat) : Int) from by rw [wrap_i64 (by (try simp only [List.length_cons, List.length_nil]); omega) (by (try simp only [List.length_cons, List.length_nil]); omega)]; (try simp only [List.length_cons, List.length_nil]); omega)) ?_
   refine o_cut (l' := (i + 1)) (h' := (xs.length + 1)) (m := c) rfl rfl Try.underlying58 ti68 (.inl ⟨rfl, rfl⟩) (.inl ⟨rfl, rfl, rfl⟩) (.inr ⟨_, _, rfl, icast rfl (by omega), (by omega)⟩) ?_
   refine l_conv (fun w S => S.perm p1) ?_
   refine o_overlaps (f := 63) (tS := 58) (tR := 4) (sz := 2) (lo := (i + 1)) rfl rfl rfl Try.func63 (by kernel_rfl) (by kernel_rfl) (by kernel_rfl) (by kernel_rfl) Try.underlying58 ti68 (by decide) (by simp) (by omega) ?_
   refine o_not rfl rfl ?_
   refine l_nil ?_
   refine q_then ?_
   refine c_true rfl ?_
   refine c_seq ?_
   refine c_held [row e_ItA.T e_ItA.sz a2 ([x]).length c2 (flat e_ItA [x])] (by kernel_rfl) rfl ?_
   refine h_take 0 rfl rfl (by kernel_rfl) (by kernel_rfl) (by kernel_rfl) (fun L0 => v_move rfl rfl) ?_
   refine h_take 1 rfl rfl (by kernel_rfl) (by kernel_rfl) (by kernel_rfl) (fun L0 => v_move rfl rfl) ?_
   refine h_take 2 rfl rfl (by kernel_rfl) (by kernel_rfl) (by kernel_rfl) (fun L0 => v_move rfl rfl) ?_
   refine h_take 3 rfl rfl (by kernel_rfl) (by kernel_rfl) (by kernel_rfl) (fun L0 => v_bin rfl rfl rfl (b_add (show IntKind.i64.wrap ((i : Int) + (([x] : List ItA).length : Int)) = ((i + 1 : Nat) : Int) from by rw [wrap_i64 (by (try simp only [List.length_cons, List.length_nil]); omega) (by (try simp only [List.length_cons, List.length_nil]); omega)]; (try simp only [List.length_cons, List.length_nil]); omega))) ?_
   refine h_take 4 rfl rfl (by kernel_rfl) (by kernel_rfl) (by kernel_rfl) (fun L0 => v_cut (l' := (i + 1)) (h' := (xs.length + 1)) (m := c) rfl rfl Try.underlying58 ti68 (.inl ⟨rfl, rfl⟩) (.inl ⟨rfl, rfl, rfl⟩) (.inr ⟨_, _, rfl, icast rfl (by omega), (by omega)⟩)) ?_
   refine h_take 5 rfl rfl (by kernel_rfl) (by kernel_rfl) (by kernel_rfl) (fun L0 => v_move rfl rfl) ?_
   refine h_take 6 rfl rfl (by kernel_rfl) (by kernel_rfl) (by kernel_rfl) (fun L0 => v_move rfl rfl) ?_
   refine h_take 7 rfl rfl (by kernel_rfl) (by kernel_rfl) (by kernel_rfl) (fun L0 => v_cut (l' := i) (h' := (xs.length + 1)) (m := c) rfl rfl Try.underlying58 ti68 (.inl ⟨rfl, rfl⟩) (.inl ⟨rfl, rfl, rfl⟩) (.inr ⟨_, _, rfl, icast rfl (by omega), (by omega)⟩)) ?_
   refine h_one 8 rfl (by kernel_rfl) ?_
   refine l_f1 ?_
   refine o_copy (T := 68) (sz := 2) (lo := (i + 1)) (k := (xs.length - i)) (ds := (((flat e_ItA xs ++ js).drop (i * 2)).take ((xs.length - i) * 2))) rfl rfl rfl Try.underlying58 ti68 (by simp only [Nat.min_def]; split <;> omega) (by omega) (by (try simp only [List.length_take, List.length_drop, List.length_append]); omega) (rdO_row 0 rfl (by omega) (by omega)) (by omega) (fun v hv => by have h8 := List.mem_of_mem_take hv; rw [List.drop_append_of_le_length (by omega), ] at hv; rw [List.take_append_of_le_length (by rw [List.length_drop]; omega)] at hv; exact flat_one e_ItA_ok xs v (List.mem_of_mem_drop (List.mem_of_mem_take hv))) ?_
   refine l_nil ?_
   refine q_conv (fun w S => S.perm p1) ?_
   refine h_next ?_
   refine h_done (by kernel_rfl) ?_
   refine q_then ?_
   refine c_seq ?_
   refine c_region ?_
   refine o_move rfl rfl ?_
   refine o_move rfl rfl ?_
   refine o_cut (l' := i) (h' := (xs.length + 1)) (m := c) rfl rfl Try.underlying58 ti68 (.inl ⟨rfl, rfl⟩) (.inl ⟨rfl, rfl, rfl⟩) (.inr ⟨_, _, rfl, icast rfl (by omega), (by omega)⟩) ?_
   refine o_move rfl rfl ?_
   refine l_f1 ?_
   refine o_copy (T := 68) (sz := 2) (lo := i) (k := 1) (ds := (flat e_ItA [x])) rfl rfl rfl Try.underlying58 ti68 (by simp [Nat.min_def]; omega) (by omega) hf1 (rdO_of (rds_own e_ItA_ok 1 rfl) (by simp)) (by omega) (flat_one e_ItA_ok [x]) ?_
   refine l_nil ?_
   refine q_then ?_
   refine c_seq ?_
   refine c_region ?_
   refine o_move rfl rfl ?_
   refine o_assign rfl rfl ?_
   refine l_nil ?_
   refine q_then ?_
   refine c_ret ?_
   refine q_pass_ret ?_
   refine q_conv (fun w S => (S.perm p1).tail) ?_
   exact f_ret (r_one rfl rfl) (⟨a, c, by (rw [hlen]; first | done | rfl), rfl⟩) (fun w S => by have h9 := ins_raw e_ItA_ok (xs := xs) (x := x) (i := i) hlt hjs rfl; rw [← h9, hlen]; exact S)
set_option maxHeartbeats 1000000 in
theorem insK_A {W : World} {F : List Res} {xs : List Nat} {x : Nat} {a a2 : Option Addr} {c c2 i : Nat} (hi : i ≤ xs.length) (hn : xs.length ≤ 1000) : CS Try.prog 37 #[.slice a xs.length c, .int .i64 (i : Int), .slice a2 ([x]).length c2] W (row eN57.T eN57.sz a (xs).length c (flat eN57 xs) :: row eN57.T eN57.sz a2 ([x]).length c2 (flat eN57 [x]) :: F) (fun r L' => ∃ (a' : Option Addr) (c' : Nat), r = .slice a' (xs.take i ++ x :: xs.drop i).length c' ∧ L' = row eN57.T eN57.sz a' ((xs.take i ++ x :: xs.drop i)).length c' (flat eN57 (xs.take i ++ x :: xs.drop i)) :: F) := by
 refine f_door (l0 := [(0, .slice a xs.length c), (1, .int .i64 (i : Int)), (2, .slice a2 ([x]).length c2)]) Try.func37 Try.ntmps37 rfl rfl rfl ?_
 refine c_seq ?_
 refine c_region ?_
 refine o_assign rfl rfl ?_
 refine l_nil ?_
 refine q_then ?_
 refine c_seq ?_
 refine c_rowcap ?_
 intro hrc
 simp only [maxLen] at hrc
 refine c_region ?_
 refine o_move rfl rfl ?_
 refine o_move rfl rfl ?_
 refine o_cut (l' := i) (h' := ((xs).length)) (m := c) rfl rfl Try.underlying59 ti57 (.inl ⟨rfl, rfl⟩) (.inl ⟨rfl, rfl, rfl⟩) (.inr ⟨_, _, rfl, icast rfl (by omega), (by omega)⟩) ?_
 obtain ⟨ys12, ay12, cut12, hys12, hlys12, eay12⟩ : ∃ ys_ ay_, (∀ {L : List Res}, RdS W L eN57 a xs → RdS W L eN57 ay_ ys_) ∧ ys_ = sub xs i ((xs).length) ∧ ys_.length = ((xs).length) - i ∧ cutA a c i 1 = ay_ := ⟨_, _, fun h => rds_cut eN57_ok h _ _ _ (by omega), rfl, sub_len (by omega), rfl⟩
 refine l_eq (t := 12) (v' := .slice ay12 ys12.length (c - i)) rfl (by rw [eay12, hlys12]) ?_
 refine l_nil ?_
 refine q_then ?_
 refine c_seq ?_
 refine c_region ?_
 refine o_move rfl rfl ?_
 refine o_len rfl rfl Try.underlying59 ?_
 refine o_assign rfl rfl ?_
 refine l_nil ?_
 refine q_then ?_
 refine c_seq ?_
 refine c_seq ?_
 refine c_region ?_
 refine o_move rfl rfl ?_
 refine o_bin rfl rfl rfl b_eql ?_
 refine l_eq (t := 16) (v' := .bool false) rfl (show _ = Value.bool false from by simp) ?_
 refine l_nil ?_
 refine q_then ?_
 refine c_false rfl ?_
 refine c_skip ?_
 refine q_then ?_
 refine c_seq ?_
 refine c_region ?_
 refine o_move rfl rfl ?_
 refine o_len rfl rfl Try.underlying59 ?_
 refine o_assign rfl rfl ?_
 refine l_nil ?_
 refine q_then ?_
 refine c_seq ?_
 refine c_seq ?_
 refine c_region ?_
 refine o_move rfl rfl ?_
 refine o_move rfl rfl ?_
 refine o_bin rfl rfl rfl b_eql ?_
 refine l_nil ?_
 refine q_then ?_
 refine c_cond rfl (fun h1 => ?_) (fun h1 => ?_)
 · -- h1T
  have h1b := h1
  try simp only [decide_eq_true_eq] at h1
  have hend : xs ++ [x] = xs.take i ++ x :: xs.drop i := by rw [List.take_of_length_le (by omega), List.drop_of_length_le (by omega)]
  refine c_seq ?_
  refine c_region ?_
  refine o_move rfl rfl ?_
  refine o_move rfl rfl ?_
  refine o_append eN57_ok rfl rfl rfl Try.underlying59 (rds_own eN57_ok 1 rfl) (by show (_ + _) * 8 ≤ _; (try simp only [List.length_append, List.length_cons, List.length_nil]); omega) (by (try simp only [List.length_append, List.length_cons, List.length_nil]); omega) fun a25 c25 => ?_
  refine o_assign rfl rfl ?_
  refine l_nil ?_
  refine q_then ?_
  refine c_ret ?_
  refine q_pass_ret ?_
  refine q_conv (fun w S => (S.perm p1).tail) ?_
  exact f_ret (r_one rfl rfl) (⟨a25, c25, by (rw [hend]; first | done | rfl), rfl⟩) (fun w S => by rw [hend] at S; exact S)
 · -- h1F
  have h1b := h1
  try simp only [decide_eq_false_iff_not, Int.not_lt, Int.not_le] at h1
  have hlt : i < xs.length := by omega
  have hlen : (xs.take i ++ x :: xs.drop i).length = xs.length + 1 := by rw [List.length_append, List.length_take, List.length_cons, List.length_drop]; omega
  have hfl : (flat eN57 xs).length = xs.length * 1 := flat_length eN57_ok xs
  have hf1 : (flat eN57 [x]).length = 1 * 1 := flat_length eN57_ok [x]
  refine c_skip ?_
  refine q_then ?_
  refine c_seq ?_
  refine c_seq ?_
  refine c_conv (L' := row 57 1 a xs.length c (flat eN57 xs) :: _) (fun w S => S) ?_
  refine c_region ?_
  refine o_move rfl rfl ?_
  refine o_move rfl rfl ?_
  refine o_bin rfl rfl rfl (b_add (show IntKind.i64.wrap ((xs.length : Int) + (([x] : List Nat).length : Int)) = ((xs.length + 1 : Nat) : Int) from by rw [wrap_i64 (by (try simp only [List.length_cons, List.length_nil]); omega) (by (try simp only [List.length_cons, List.length_nil]); omega)]; (try simp only [List.length_cons, List.length_nil]); omega)) ?_
  refine o_move rfl rfl ?_
  refine o_cap rfl rfl Try.underlying59 ?_
  refine o_bin rfl rfl rfl b_gtr ?_
  refine l_nil ?_
  refine q_then ?_
  refine c_cond rfl (fun h2 => ?_) (fun h2 => ?_)
  · -- h2T
   have h2b := h2
   try simp only [decide_eq_true_eq] at h2
   have hft : (flat eN57 (xs.take i)).length = i * 1 := by rw [flat_length eN57_ok, List.length_take, Nat.min_eq_left hi]; first | done | rfl
   refine c_seq ?_
   refine c_region ?_
   refine o_move rfl rfl ?_
   refine o_move rfl rfl ?_
   refine o_cut (l' := 0) (h' := i) (m := c) rfl rfl Try.underlying59 ti57 (.inl ⟨rfl, rfl⟩) (.inr ⟨_, _, rfl, icast rfl (by omega), (by omega)⟩) (.inl ⟨rfl, rfl⟩) ?_
   refine l_eq (t := 34) (v' := .slice a i c) rfl (by first | (rw [cutA_0]; done) | (rw [cutA_0]; rfl)) ?_
   refine o_move rfl rfl ?_
   refine o_move rfl rfl ?_
   refine o_bin rfl rfl rfl (b_add (show IntKind.i64.wrap ((xs.length : Int) + (([x] : List Nat).length : Int)) = ((xs.length + 1 : Nat) : Int) from by rw [wrap_i64 (by (try simp only [List.length_cons, List.length_nil]); omega) (by (try simp only [List.length_cons, List.length_nil]); omega)]; (try simp only [List.length_cons, List.length_nil]); omega)) ?_
   refine o_move rfl rfl ?_
   refine o_bin rfl rfl rfl (b_sub (show IntKind.i64.wrap (((xs.length + 1 : Nat) : Int) - (i : Int)) = ((xs.length + 1 - i : Nat) : Int) from by rw [wrap_i64 (by (try simp only [List.length_cons, List.length_nil]); omega) (by (try simp only [List.length_cons, List.length_nil]); omega)]; (try simp only [List.length_cons, List.length_nil]); omega)) ?_
   refine o_appendZ (e := eN57) (xs := xs) (i := i) (k := (xs.length + 1 - i)) (n := (xs.length + 1)) eN57_ok (by omega) rfl (cutA_0 _ _ _) rfl rfl Try.underlying59 Try.underlying3 (by omega) (by omega) (by omega) (by show _ * 8 ≤ _; omega) (by omega) fun a40 c40 zs40 hz40 => ?_
   refine o_assign rfl rfl ?_
   refine l_nil ?_
   refine q_then ?_
   refine c_seq ?_
   refine c_region ?_
   refine o_move rfl rfl ?_
   refine o_move rfl rfl ?_
   refine o_cut (l' := i) (h' := (xs.length + 1)) (m := c40) rfl rfl Try.underlying59 ti57 (.inl ⟨rfl, rfl⟩) (.inl ⟨rfl, rfl, rfl⟩) (.inr ⟨_, _, rfl, icast rfl (by omega), (by omega)⟩) ?_
   refine o_move rfl rfl ?_
   refine o_copy (T := 57) (sz := 1) (lo := i) (k := 1) (ds := (flat eN57 [x])) rfl rfl rfl Try.underlying59 ti57 (by simp [Nat.min_def]; omega) (by omega) hf1 (rdO_of (rds_own eN57_ok 2 rfl) (by simp)) (by omega) (flat_one eN57_ok [x]) ?_
   refine l_nil ?_
   refine q_then ?_
   refine c_seq ?_
   refine c_conv (fun w S => S.perm p2) ?_
   refine c_conv (fun w S => S.perm p2) ?_
   refine c_held [row 57 1 a xs.length c (flat eN57 xs), row eN57.T eN57.sz a2 ([x]).length c2 (flat eN57 [x])] (by kernel_rfl) rfl ?_
   refine h_take 0 rfl rfl (by kernel_rfl) (by kernel_rfl) (by kernel_rfl) (fun L0 => v_move rfl rfl) ?_
   refine h_take 1 rfl rfl (by kernel_rfl) (by kernel_rfl) (by kernel_rfl) (fun L0 => v_move rfl rfl) ?_
   refine h_take 2 rfl rfl (by kernel_rfl) (by kernel_rfl) (by kernel_rfl) (fun L0 => v_move rfl rfl) ?_
   refine h_take 3 rfl rfl (by kernel_rfl) (by kernel_rfl) (by kernel_rfl) (fun L0 => v_bin rfl rfl rfl (b_add (show IntKind.i64.wrap ((i : Int) + (([x] : List Nat).length : Int)) = ((i + 1 : Nat) : Int) from by rw [wrap_i64 (by (try simp only [List.length_cons, List.length_nil]); omega) (by (try simp only [List.length_cons, List.length_nil]); omega)]; (try simp only [List.length_cons, List.length_nil]); omega))) ?_
   refine h_take 4 rfl rfl (by kernel_rfl) (by kernel_rfl) (by kernel_rfl) (fun L0 => v_cut (l' := (i + 1)) (h' := (xs.length + 1)) (m := c40) rfl rfl Try.underlying59 ti57 (.inl ⟨rfl, rfl⟩) (.inl ⟨rfl, rfl, rfl⟩) (.inr ⟨_, _, rfl, icast rfl (by omega), (by omega)⟩)) ?_
   refine h_take 5 rfl rfl (by kernel_rfl) (by kernel_rfl) (by kernel_rfl) (fun L0 => v_move rfl rfl) ?_
   refine h_take 6 rfl rfl (by kernel_rfl) (by kernel_rfl) (by kernel_rfl) (fun L0 => v_move rfl rfl) ?_
   refine h_take 7 rfl rfl (by kernel_rfl) (by kernel_rfl) (by kernel_rfl) (fun L0 => v_cut (l' := i) (h' := xs.length) (m := c) rfl rfl Try.underlying59 ti57 (.inl ⟨rfl, rfl⟩) (.inl ⟨rfl, rfl, rfl⟩) (.inr ⟨_, _, rfl, icast rfl (by omega), (by omega)⟩)) ?_
   refine h_one 8 rfl (by kernel_rfl) ?_
   refine l_f2 ?_
   refine o_copy (T := 57) (sz := 1) (lo := (i + 1)) (k := (xs.length - i)) (ds := (((flat eN57 xs).drop (i * 1)).take ((xs.length - i) * 1))) rfl rfl rfl Try.underlying59 ti57 (by simp only [Nat.min_def]; split <;> omega) (by omega) (by (try simp only [List.length_take, List.length_drop, List.length_append]); omega) (rdO_row 1 rfl (by omega) (by omega)) (by omega) (fun v hv => flat_one eN57_ok xs v (List.mem_of_mem_drop (List.mem_of_mem_take hv))) ?_
   refine l_nil ?_
   refine q_conv (fun w S => S.perm p2) ?_
   refine q_conv (fun w S => S.perm p2) ?_
   refine h_next ?_
   refine h_done (by kernel_rfl) ?_
   refine q_then ?_
   refine c_seq ?_
   refine c_region ?_
   refine o_move rfl rfl ?_
   refine o_assign rfl rfl ?_
   refine l_nil ?_
   refine q_then ?_
   refine c_ret ?_
   refine q_pass_ret ?_
   refine q_conv (fun w S => S.tail) ?_
   refine q_conv (fun w S => S.tail) ?_
   exact f_ret (r_one rfl rfl) (⟨a40, c40, by (rw [hlen]; first | done | rfl), rfl⟩) (fun w S => by have h9 := ins_raw2 eN57_ok (xs := xs) (x := x) (i := i) hlt hz40; rw [← h9, hlen]; exact S)
  · -- h2F
   have h2b := h2
   try simp only [decide_eq_false_iff_not, Int.not_lt, Int.not_le] at h2
   refine c_skip ?_
   refine q_then ?_
   refine c_seq ?_
   refine c_more 1 (by omega) (by omega) ?_
   intro js hjs
   refine c_region ?_
   refine o_move rfl rfl ?_
   refine o_move rfl rfl ?_
   refine o_move rfl rfl ?_
   refine o_bin rfl rfl rfl (b_add (show IntKind.i64.wrap ((xs.length : Int) + (([x] : List Nat).length : Int)) = ((xs.length + 1 : Nat) : Int) from by rw [wrap_i64 (by (try simp only [List.length_cons, List.length_nil]); omega) (by (try simp only [List.length_cons, List.length_nil]); omega)]; (try simp only [List.length_cons, List.length_nil]); omega)) ?_
   refine o_cut (l' := 0) (h' := (xs.length + 1)) (m := c) rfl rfl Try.underlying59 ti57 (.inl ⟨rfl, rfl⟩) (.inr ⟨_, _, rfl, icast rfl (by omega), (by omega)⟩) (.inl ⟨rfl, rfl⟩) ?_
   refine l_eq (t := 60) (v' := .slice a (xs.length + 1) c) rfl (by first | (rw [cutA_0]; done) | (rw [cutA_0]; rfl)) ?_
   refine o_assign rfl rfl ?_
   refine l_nil ?_
   refine q_then ?_
   refine c_seq ?_
   refine c_seq ?_
   refine c_region ?_
   refine o_move rfl rfl ?_
   refine o_move rfl rfl ?_
   refine o_move rfl rfl ?_
   refine o_move rfl rfl ?_
   refine o_bin rfl rfl rfl (b_add (show IntKind.i64.wrap ((i : Int) + (([x] : List Nat).length : Int)) = ((i + 1 : Nat) : Int) from by rw [wrap_i64 (by (try simp only [List.length_cons, List.length_nil]); omega) (by (try simp only [List.length_cons, List.length_nil]); omega)]; (try simp only [List.length_cons, List.length_nil]); omega)) ?_
   refine o_cut (l' := (i + 1)) (h' := (xs.length + 1)) (m := c) rfl rfl Try.underlying59 ti57 (.inl ⟨rfl, rfl⟩) (.inl ⟨rfl, rfl, rfl⟩) (.inr ⟨_, _, rfl, icast rfl (by omega), (by omega)⟩) ?_
   refine l_conv (fun w S => S.perm p1) ?_
   refine o_overlaps (f := 65) (tS := 59) (tR := 4) (sz := 1) (lo := (i + 1)) rfl rfl rfl Try.func65 (by kernel_rfl) (by kernel_rfl) (by kernel_rfl) (by kernel_rfl) Try.underlying59 ti57 (by decide) (by simp) (by omega) ?_
   refine o_not rfl rfl ?_
   refine l_nil ?_
   refine q_then ?_
   refine c_true rfl ?_
   refine c_seq ?_
   refine c_held [row eN57.T eN57.sz a2 ([x]).length c2 (flat eN57 [x])] (by kernel_rfl) rfl ?_
   refine h_take 0 rfl rfl (by kernel_rfl) (by kernel_rfl) (by kernel_rfl) (fun L0 => v_move rfl rfl) ?_
   refine h_take 1 rfl rfl (by kernel_rfl) (by kernel_rfl) (by kernel_rfl) (fun L0 => v_move rfl rfl) ?_
   refine h_take 2 rfl rfl (by kernel_rfl) (by kernel_rfl) (by kernel_rfl) (fun L0 => v_move rfl rfl) ?_
   refine h_take 3 rfl rfl (by kernel_rfl) (by kernel_rfl) (by kernel_rfl) (fun L0 => v_bin rfl rfl rfl (b_add (show IntKind.i64.wrap ((i : Int) + (([x] : List Nat).length : Int)) = ((i + 1 : Nat) : Int) from by rw [wrap_i64 (by (try simp only [List.length_cons, List.length_nil]); omega) (by (try simp only [List.length_cons, List.length_nil]); omega)]; (try simp only [List.length_cons, List.length_nil]); omega))) ?_
   refine h_take 4 rfl rfl (by kernel_rfl) (by kernel_rfl) (by kernel_rfl) (fun L0 => v_cut (l' := (i + 1)) (h' := (xs.length + 1)) (m := c) rfl rfl Try.underlying59 ti57 (.inl ⟨rfl, rfl⟩) (.inl ⟨rfl, rfl, rfl⟩) (.inr ⟨_, _, rfl, icast rfl (by omega), (by omega)⟩)) ?_
   refine h_take 5 rfl rfl (by kernel_rfl) (by kernel_rfl) (by kernel_rfl) (fun L0 => v_move rfl rfl) ?_
   refine h_take 6 rfl rfl (by kernel_rfl) (by kernel_rfl) (by kernel_rfl) (fun L0 => v_move rfl rfl) ?_
   refine h_take 7 rfl rfl (by kernel_rfl) (by kernel_rfl) (by kernel_rfl) (fun L0 => v_cut (l' := i) (h' := (xs.length + 1)) (m := c) rfl rfl Try.underlying59 ti57 (.inl ⟨rfl, rfl⟩) (.inl ⟨rfl, rfl, rfl⟩) (.inr ⟨_, _, rfl, icast rfl (by omega), (by omega)⟩)) ?_
   refine h_one 8 rfl (by kernel_rfl) ?_
   refine l_f1 ?_
   refine o_copy (T := 57) (sz := 1) (lo := (i + 1)) (k := (xs.length - i)) (ds := (((flat eN57 xs ++ js).drop (i * 1)).take ((xs.length - i) * 1))) rfl rfl rfl Try.underlying59 ti57 (by simp only [Nat.min_def]; split <;> omega) (by omega) (by (try simp only [List.length_take, List.length_drop, List.length_append]); omega) (rdO_row 0 rfl (by omega) (by omega)) (by omega) (fun v hv => by have h8 := List.mem_of_mem_take hv; rw [List.drop_append_of_le_length (by omega), ] at hv; rw [List.take_append_of_le_length (by rw [List.length_drop]; omega)] at hv; exact flat_one eN57_ok xs v (List.mem_of_mem_drop (List.mem_of_mem_take hv))) ?_
   refine l_nil ?_
   refine q_conv (fun w S => S.perm p1) ?_
   refine h_next ?_
   refine h_done (by kernel_rfl) ?_
   refine q_then ?_
   refine c_seq ?_
   refine c_region ?_
   refine o_move rfl rfl ?_
   refine o_move rfl rfl ?_
   refine o_cut (l' := i) (h' := (xs.length + 1)) (m := c) rfl rfl Try.underlying59 ti57 (.inl ⟨rfl, rfl⟩) (.inl ⟨rfl, rfl, rfl⟩) (.inr ⟨_, _, rfl, icast rfl (by omega), (by omega)⟩) ?_
   refine o_move rfl rfl ?_
   refine l_f1 ?_
   refine o_copy (T := 57) (sz := 1) (lo := i) (k := 1) (ds := (flat eN57 [x])) rfl rfl rfl Try.underlying59 ti57 (by simp [Nat.min_def]; omega) (by omega) hf1 (rdO_of (rds_own eN57_ok 1 rfl) (by simp)) (by omega) (flat_one eN57_ok [x]) ?_
   refine l_nil ?_
   refine q_then ?_
   refine c_seq ?_
   refine c_region ?_
   refine o_move rfl rfl ?_
   refine o_assign rfl rfl ?_
   refine l_nil ?_
   refine q_then ?_
   refine c_ret ?_
   refine q_pass_ret ?_
   refine q_conv (fun w S => (S.perm p1).tail) ?_
   exact f_ret (r_one rfl rfl) (⟨a, c, by (rw [hlen]; first | done | rfl), rfl⟩) (fun w S => by have h9 := ins_raw eN57_ok (xs := xs) (x := x) (i := i) hlt hjs rfl; rw [← h9, hlen]; exact S)
end
section
set_option linter.unusedVariables false
set_option linter.unusedSimpArgs false
set_option maxRecDepth 10000
open Go.RowKit Classical
def PutSpec_A (d : Nat) : Prop := ∀ {W : World} {F : List Res} {mn b : Nat} {xs : List ItA} {x : ItA}, mn ≤ 2 → Srt ItA.f_key strlt xs → CS Try.prog 25 #[.pointer (some ⟨b, 0, none⟩), .agg (e_ItA.cells x).toArray] W (nodeR e_ItA eN57 61 d mn b xs :: F) (fun r L' => ∃ (old : Int) (had : Bool) (ls : List ItA) (s : Option (Nat × ItA × Nat × List ItA)), (ins ItA.f_key strlt x xs = insS ls s ∧ Old ItA.f_key ItA.f_value (0 : Int) x xs old had) ∧ r = .tuple #[.int .i64 old, .bool had, .pointer (s.map fun z => (⟨z.1, 0, none⟩ : Addr)), .pointer (s.map fun z => (⟨z.2.2.1, 0, none⟩ : Addr))] ∧ L' = nodeR e_ItA eN57 61 d (mnO mn s) b ls :: midR e_ItA eN57 61 d s :: F)
set_option maxHeartbeats 4000000 in
theorem put_step_A {d : Nat} (ih : ∀ d', d = d' + 1 → PutSpec_A d') : PutSpec_A d := by
 unfold PutSpec_A
 intro W F mn b xs x hmn srt
 refine f_door (l0 := [(0, .pointer (some ⟨b, 0, none⟩)), (1, .agg (e_ItA.cells x).toArray)]) Try.func25 Try.ntmps25 rfl rfl rfl ?_
 refine c_seq ?_
 refine c_region ?_
 refine o_box rfl rfl fun b3 => ?_
 refine o_assign rfl rfl ?_
 refine o_assign rfl rfl ?_
 refine o_assign rfl rfl ?_
 refine o_assign rfl rfl ?_
 refine l_nil ?_
 refine q_then ?_
 refine c_seq ?_
 refine c_conv (fun w S => S.perm p1) ?_
 refine c_node ?_
 rintro q hq
 have hsi := hq.srt strlt_sto srt
 have hle := hq.le
 have hsh := hq.sh
 refine c_conv (L' := blk b (.cells #[.slice q.a (q.items).length q.c, .slice q.ak ((q.kids.map Prod.fst)).length q.ck] 61 (0, 0)) :: row e_ItA.T e_ItA.sz q.a (q.items).length q.c (flat e_ItA q.items) :: row eN57.T eN57.sz q.ak ((q.kids.map Prod.fst)).length q.ck (flat eN57 (q.kids.map Prod.fst)) :: kidsR e_ItA eN57 61 d q.kids :: blk b3 (.cells #[.string x.f_key, .int .i64 x.f_value] 68 (0, 0)) :: F) (fun w S => S) ?_
 refine c_region ?_
 refine o_move rfl rfl ?_
 refine o_fieldAddr (q := ⟨b3, 0, none⟩) rfl rfl Try.underlying68 rfl ti9 rfl ?_
 refine o_load1 rfl rfl Try.underlying9 rfl (rd_mem 4 rfl rfl) ?_
 refine l_f1 ?_
 refine l_f1 ?_
 refine o_call rfl cal35 rfl (search_A (k := x.f_key) (by omega) hsi) ?_
 rintro _ _ ⟨i17, fd17, ⟨hF17, hfd17⟩, rfl, rfl⟩
 refine o_move rfl rfl ?_
 refine o_extract rfl rfl rfl ?_
 refine o_extract rfl rfl rfl ?_
 refine o_assign rfl rfl ?_
 refine o_assign rfl rfl ?_
 refine l_nil ?_
 refine q_then ?_
 refine c_seq ?_
 refine c_mid (α := (NodeW ItA) × Int × Bool) (fun z => [(0, .pointer (some ⟨b, 0, none⟩)), (4, .int .i64 z.2.1), (5, .bool z.2.2)]) (fun z => blk b (.cells #[.slice z.1.a (z.1.items).length z.1.c, .slice z.1.ak ((z.1.kids.map Prod.fst)).length z.1.ck] 61 (0, 0)) :: row e_ItA.T e_ItA.sz z.1.a (z.1.items).length z.1.c (flat e_ItA z.1.items) :: row eN57.T eN57.sz z.1.ak ((z.1.kids.map Prod.fst)).length z.1.ck (flat eN57 (z.1.kids.map Prod.fst)) :: kidsR e_ItA eN57 61 d z.1.kids :: F) (fun z => PutMid ItA.f_key strlt ItA.f_value (0 : Int) d mn x xs z.1.items z.1.kids z.2.1 z.2.2) ?_ ?_
 · -- cut
  refine c_block ?_
  refine c_seq ?_
  refine c_region ?_
  refine o_move rfl rfl ?_
  refine o_assign rfl rfl ?_
  refine l_nil ?_
  refine q_then ?_
  refine c_cond rfl (fun h1 => ?_) (fun h1 => ?_)
  · -- h1T
   have h1b := h1
   try simp only [decide_eq_true_eq, decide_eq_false_iff_not, Bool.not_eq_eq_eq_not, Bool.not_true, Bool.not_false, Bool.not_eq_true', Bool.not_eq_false', Int.not_lt, Int.not_le, Bool.or_eq_true, Bool.and_eq_true] at h1
   obtain ⟨yf, hyf, hkf⟩ := hfd17.1 (by simpa using h1b)
   have hil := (List.getElem?_eq_some_iff.1 hyf).1
   refine c_seq ?_
   refine c_fact (p := ∃ ad, q.a = some ad) (rds_some (e := e_ItA) (xs := q.items) (rds_own e_ItA_ok 1 rfl) (by intro h0; rw [h0] at hyf; simp at hyf)) ?_
   rintro ⟨adx, eadx⟩
   refine c_region ?_
   refine o_move rfl rfl ?_
   refine o_nil rfl rfl ?_
   refine o_fieldAddr (q := ⟨b, 0, none⟩) rfl rfl Try.underlying61 rfl ti58 rfl ?_
   refine o_load1 rfl rfl Try.underlying58 rfl (rd_mem 0 rfl rfl) ?_
   refine o_move rfl rfl ?_
   refine o_indexK e_ItA_ok eadx rfl rfl rfl Try.underlying58 (by omega) (by omega) ?_
   obtain ⟨x68, hx68⟩ : ∃ x, (q.items)[((i17 : Int)).toNat]? = some x := ⟨_, List.getElem?_eq_getElem (by omega)⟩
   have e68 : x68 = yf := by rw [show q.items[i17]? = some x68 from hx68] at hyf; exact Option.some.inj hyf
   refine o_fieldAddr rfl rfl Try.underlying68 rfl ti3 (Addr.add_add' _ _ _) ?_
   refine o_load1 rfl rfl Try.underlying3 rfl (rd_sl e_ItA_ok eadx (rds_own e_ItA_ok 1 rfl) hx68 rfl) ?_
   refine o_assign rfl rfl ?_
   refine o_assign rfl rfl ?_
   refine l_nil ?_
   refine q_then ?_
   refine c_seq ?_
   refine c_conv (fun w S => S.perm p1) ?_
   refine c_conv (fun w S => S.perm p1) ?_
   refine c_conv (fun w S => S.perm p4) ?_
   refine c_conv (fun w S => S.perm p4) ?_
   refine c_conv (fun w S => S.perm p4) ?_
   refine c_held [row eN57.T eN57.sz q.ak ((q.kids.map Prod.fst)).length q.ck (flat eN57 (q.kids.map Prod.fst)), kidsR e_ItA eN57 61 d q.kids, blk b3 (.cells #[.string x.f_key, .int .i64 x.f_value] 68 (0, 0))] (by kernel_rfl) rfl ?_
   refine h_take 0 rfl rfl (by kernel_rfl) (by kernel_rfl) (by kernel_rfl) (fun L0 => v_move rfl rfl) ?_
   refine h_take 1 rfl rfl (by kernel_rfl) (by kernel_rfl) (by kernel_rfl) (fun L0 => v_nil rfl rfl) ?_
   refine h_take 2 rfl rfl (by kernel_rfl) (by kernel_rfl) (by kernel_rfl) (fun L0 => v_fieldAddr (q := ⟨b, 0, none⟩) rfl rfl Try.underlying61 rfl ti58 rfl) ?_
   refine h_take 4 rfl rfl (by kernel_rfl) (by kernel_rfl) (by kernel_rfl) (fun L0 => v_move rfl rfl) ?_
   refine h_take 5 rfl rfl (by kernel_rfl) (by kernel_rfl) (by kernel_rfl) (fun L0 => v_fieldAddr (q := ⟨b3, 1, none⟩) rfl rfl Try.underlying68 rfl ti3 rfl) ?_
   refine h_take 6 rfl rfl (by kernel_rfl) (by kernel_rfl) (by kernel_rfl) (fun L0 => v_load1 rfl rfl Try.underlying3 rfl (rd_mem 2 rfl rfl)) ?_
   refine h_one 3 rfl (by kernel_rfl) ?_
   refine o_load1 rfl rfl Try.underlying58 rfl (rd_mem 3 rfl rfl) ?_
   refine l_nil ?_
   refine h_next ?_
   refine h_take 7 rfl rfl (by kernel_rfl) (by kernel_rfl) (by kernel_rfl) (fun L0 => v_indexK e_ItA_ok eadx rfl rfl rfl Try.underlying58 (by omega) (by omega)) ?_
   obtain ⟨x78, hx78⟩ : ∃ x, (q.items)[((i17 : Int)).toNat]? = some x := ⟨_, List.getElem?_eq_getElem (by omega)⟩
   have e78 : x78 = yf := by rw [show q.items[i17]? = some x78 from hx78] at hyf; exact Option.some.inj hyf
   refine h_take 8 rfl rfl (by kernel_rfl) (by kernel_rfl) (by kernel_rfl) (fun L0 => v_fieldAddr rfl rfl Try.underlying68 rfl ti3 (Addr.add_add' _ _ _)) ?_
   refine h_one 9 rfl (by kernel_rfl) ?_
   refine l_f4 ?_
   refine o_storeRow (x1 := ⟨x78.f_key, x.f_value⟩) e_ItA_ok eadx rfl rfl rfl ti3 hx78 (by decide) rfl ?_
   refine l_f4 ?_
   refine l_conv (L' := blk b (.cells #[.slice q.a (q.items).length q.c, .slice q.ak ((q.kids.map Prod.fst)).length q.ck] 61 (0, 0)) :: _) (fun w S => S) ?_
   refine l_conv (L' := blk b (.cells #[.slice q.a ((q.items).set ((i17 : Int)).toNat ⟨x78.f_key, x.f_value⟩).length q.c, .slice q.ak ((q.kids.map Prod.fst)).length q.ck] 61 (0, 0)) :: row e_ItA.T e_ItA.sz q.a ((q.items).set ((i17 : Int)).toNat ⟨x78.f_key, x.f_value⟩).length q.c (flat e_ItA ((q.items).set ((i17 : Int)).toNat ⟨x78.f_key, x.f_value⟩)) :: row eN57.T eN57.sz q.ak ((q.kids.map Prod.fst)).length q.ck (flat eN57 (q.kids.map Prod.fst)) :: kidsR e_ItA eN57 61 d q.kids :: blk b3 (.cells #[.string x.f_key, .int .i64 x.f_value] 68 (0, 0)) :: F) (fun w S => by first | exact S | simpa only [List.length_set] using S | (simp only [List.length_set] at S ⊢; exact S)) ?_
   refine l_nil ?_
   refine q_conv (fun w S => S.perm p1) ?_
   refine q_conv (fun w S => S.perm p1) ?_
   refine q_conv (fun w S => S.perm p4) ?_
   refine q_conv (fun w S => S.perm p4) ?_
   refine q_conv (fun w S => S.perm p4) ?_
   refine h_next ?_
   refine h_done (by kernel_rfl) ?_
   refine q_then ?_
   refine c_seq ?_
   have hput := put_found (val := ItA.f_value) (zero := (0 : Int)) strlt_sto hq srt hyf hkf (show (⟨x78.f_key, x.f_value⟩ : ItA) = x by rw [e78, show yf.f_key = x.f_key from hkf]) q.a q.c
   refine c_region ?_
   refine o_move rfl rfl ?_
   refine o_move rfl rfl ?_
   refine o_assign rfl rfl ?_
   refine o_assign rfl rfl ?_
   refine o_assign rfl rfl ?_
   refine o_assign rfl rfl ?_
   refine l_nil ?_
   refine q_then ?_
   refine c_ret ?_
   refine q_block_ret ?_
   refine q_pass_ret ?_
   refine q_conv (fun w S => (S.perm p2).tail) ?_
   refine q_conv (fun w S => S.perm p1) ?_
   refine q_conv (fun w S => S.perm p1) ?_
   refine q_conv (fun w S => S.perm p3) ?_
   refine q_conv (fun w S => S.perm p3) ?_
   exact f_ret (r_four rfl rfl rfl rfl rfl) (⟨x68.f_value, true, ins ItA.f_key strlt x xs, none, ⟨rfl, by rw [e68]; exact hput.2⟩, rfl, rfl⟩) (fun w S => (Sat.emp_ (nodeMk ⟨q.a, q.c, q.ak, q.ck, _, q.kids⟩ hput.1 S)).perm (List.Perm.swap _ _ _))
  · -- h1F
   have h1b := h1
   try simp only [decide_eq_true_eq, decide_eq_false_iff_not, Bool.not_eq_eq_eq_not, Bool.not_true, Bool.not_false, Bool.not_eq_true', Bool.not_eq_false', Int.not_lt, Int.not_le, Bool.or_eq_true, Bool.and_eq_true] at h1
   have hnf : ¬ ∃ y, q.items[i17]? = some y ∧ y.f_key = x.f_key := fun h9 => by rw [hfd17.2 h9] at h1b; cases h1b
   refine c_seq ?_
   refine c_region ?_
   refine o_move rfl rfl ?_
   refine o_nil rfl rfl ?_
   refine o_fieldAddr (q := ⟨b, 1, none⟩) rfl rfl Try.underlying61 rfl ti59 rfl ?_
   refine o_load1 rfl rfl Try.underlying59 rfl (rd_mem 0 rfl rfl) ?_
   refine o_len rfl rfl Try.underlying59 ?_
   refine o_bin rfl rfl rfl b_eql ?_
   refine o_assign rfl rfl ?_
   refine l_nil ?_
   refine q_then ?_
   refine c_cond rfl (fun h2 => ?_) (fun h2 => ?_)
   · -- h2T
    have h2b := h2
    try simp only [decide_eq_true_eq] at h2
    refine c_conv (fun w S => S.perm p1) ?_
    refine c_conv (fun w S => S.perm p1) ?_
    refine c_conv (fun w S => S.perm p4) ?_
    refine c_conv (fun w S => S.perm p4) ?_
    refine c_conv (fun w S => S.perm p4) ?_
    refine c_held [row eN57.T eN57.sz q.ak ((q.kids.map Prod.fst)).length q.ck (flat eN57 (q.kids.map Prod.fst)), kidsR e_ItA eN57 61 d q.kids, blk b3 (.cells #[.string x.f_key, .int .i64 x.f_value] 68 (0, 0))] (by kernel_rfl) rfl ?_
    refine h_take 0 rfl rfl (by kernel_rfl) (by kernel_rfl) (by kernel_rfl) (fun L0 => v_move rfl rfl) ?_
    refine h_take 1 rfl rfl (by kernel_rfl) (by kernel_rfl) (by kernel_rfl) (fun L0 => v_move rfl rfl) ?_
    refine h_take 2 rfl rfl (by kernel_rfl) (by kernel_rfl) (by kernel_rfl) (fun L0 => v_nil rfl rfl) ?_
    refine h_take 3 rfl rfl (by kernel_rfl) (by kernel_rfl) (by kernel_rfl) (fun L0 => v_fieldAddr (q := ⟨b, 0, none⟩) rfl rfl Try.underlying61 rfl ti58 rfl) ?_
    refine h_take 5 rfl rfl (by kernel_rfl) (by kernel_rfl) (by kernel_rfl) (fun L0 => v_move rfl rfl) ?_
    refine h_take 6 rfl rfl (by kernel_rfl) (by kernel_rfl) (by kernel_rfl) (fun L0 => v_loadn (vs := [_, _]) rfl rfl Try.underlying68 rfl ti68 (rdn_lit 2 rfl rfl)) ?_
    refine h_many (is := [4, 7]) (by kernel_rfl) (by decide) (forall_cons ⟨_, rfl, ?_⟩ (forall_cons ⟨_, rfl, ?_⟩ forall_nil))
    · -- 4 comes first
     refine o_load1 rfl rfl Try.underlying58 rfl (rd_mem 3 rfl rfl) ?_
     refine l_nil ?_
     refine h_next ?_
     refine h_one 7 rfl (by kernel_rfl) ?_
     refine o_lit e_ItA_ok rfl Try.underlying58 rfl rfl rfl (lit_ok rfl) [x] rfl rfl fun a96 => ?_
     refine l_nil ?_
     refine q_conv (fun w S => S.perm p5) ?_
     refine q_conv (fun w S => S.perm p5) ?_
     refine q_conv (fun w S => S.perm p2) ?_
     refine q_conv (fun w S => S.perm p5) ?_
     refine q_conv (fun w S => S.perm p5) ?_
     refine q_conv (fun w S => S.perm p5) ?_
     refine h_next ?_
     refine h_one 8 rfl (by kernel_rfl) ?_
     refine l_f3 ?_
     refine l_f5 ?_
     refine o_call rfl cal36 rfl (insI_A (xs := q.items) (x := x) (i := i17) hF17.le (by omega)) ?_
     rintro _ _ ⟨a97, c97, rfl, rfl⟩
     refine l_nil ?_
     refine q_conv (fun w S => S.perm p4) ?_
     refine q_conv (fun w S => S.perm p1) ?_
     refine q_conv (fun w S => S.perm p4) ?_
     refine q_conv (fun w S => S.perm p4) ?_
     refine q_conv (fun w S => S.perm p4) ?_
     refine h_next ?_
     refine h_take 9 rfl rfl (by kernel_rfl) (by kernel_rfl) (by kernel_rfl) (fun L0 => v_nil rfl rfl) ?_
     refine h_take 10 rfl rfl (by kernel_rfl) (by kernel_rfl) (by kernel_rfl) (fun L0 => v_fieldAddr (q := ⟨b, 0, none⟩) rfl rfl Try.underlying61 rfl ti58 rfl) ?_
     refine h_one 11 rfl (by kernel_rfl) ?_
     refine l_f4 ?_
     refine o_store1 rfl rfl rfl ti58 rfl rfl ?_
     refine l_nil ?_
     refine q_conv (fun w S => S.perm p4) ?_
     refine q_conv (fun w S => S.perm p1) ?_
     refine q_conv (fun w S => S.perm p4) ?_
     refine q_conv (fun w S => S.perm p4) ?_
     refine q_conv (fun w S => S.perm p4) ?_
     refine h_next ?_
     refine h_done (by kernel_rfl) ?_
     refine q_block ?_
     refine q_conv (fun w S => (S.perm p2).tail) ?_
     refine q_conv (fun w S => S.perm p1) ?_
     refine q_conv (fun w S => S.perm p1) ?_
     refine q_conv (fun w S => S.perm p3) ?_
     refine q_conv (fun w S => S.perm p3) ?_
     exact q_mid (⟨a97, c97, q.ak, q.ck, (q.items.take i17 ++ x :: q.items.drop i17), q.kids⟩, _, _) (by exact put_leaf strlt_sto hq srt (by omega) hF17 hnf) ⟨(by first | rfl | exact vint (by omega)), (by first | rfl | exact vint (by omega)), (by first | rfl | exact vint (by omega)), trivial⟩ (fun w S => S)
    · -- 7 comes first
     refine o_lit e_ItA_ok rfl Try.underlying58 rfl rfl rfl (lit_ok rfl) [x] rfl rfl fun a96 => ?_
     refine l_nil ?_
     refine q_conv (fun w S => S.perm p5) ?_
     refine q_conv (fun w S => S.perm p5) ?_
     refine q_conv (fun w S => S.perm p2) ?_
     refine q_conv (fun w S => S.perm p5) ?_
     refine q_conv (fun w S => S.perm p5) ?_
     refine q_conv (fun w S => S.perm p5) ?_
     refine h_next ?_
     refine h_one 4 rfl (by kernel_rfl) ?_
     refine o_load1 rfl rfl Try.underlying58 rfl (rd_mem 4 rfl rfl) ?_
     refine l_nil ?_
     refine h_next ?_
     refine h_one 8 rfl (by kernel_rfl) ?_
     refine l_f3 ?_
     refine l_f5 ?_
     refine o_call rfl cal36 rfl (insI_A (xs := q.items) (x := x) (i := i17) hF17.le (by omega)) ?_
     rintro _ _ ⟨a97, c97, rfl, rfl⟩
     refine l_nil ?_
     refine q_conv (fun w S => S.perm p4) ?_
     refine q_conv (fun w S => S.perm p1) ?_
     refine q_conv (fun w S => S.perm p4) ?_
     refine q_conv (fun w S => S.perm p4) ?_
     refine q_conv (fun w S => S.perm p4) ?_
     refine h_next ?_
     refine h_take 9 rfl rfl (by kernel_rfl) (by kernel_rfl) (by kernel_rfl) (fun L0 => v_nil rfl rfl) ?_
     refine h_take 10 rfl rfl (by kernel_rfl) (by kernel_rfl) (by kernel_rfl) (fun L0 => v_fieldAddr (q := ⟨b, 0, none⟩) rfl rfl Try.underlying61 rfl ti58 rfl) ?_
     refine h_one 11 rfl (by kernel_rfl) ?_
     refine l_f4 ?_
     refine o_store1 rfl rfl rfl ti58 rfl rfl ?_
     refine l_nil ?_
     refine q_conv (fun w S => S.perm p4) ?_
     refine q_conv (fun w S => S.perm p1) ?_
     refine q_conv (fun w S => S.perm p4) ?_
     refine q_conv (fun w S => S.perm p4) ?_
     refine q_conv (fun w S => S.perm p4) ?_
     refine h_next ?_
     refine h_done (by kernel_rfl) ?_
     refine q_block ?_
     refine q_conv (fun w S => (S.perm p2).tail) ?_
     refine q_conv (fun w S => S.perm p1) ?_
     refine q_conv (fun w S => S.perm p1) ?_
     refine q_conv (fun w S => S.perm p3) ?_
     refine q_conv (fun w S => S.perm p3) ?_
     exact q_mid (⟨a97, c97, q.ak, q.ck, (q.items.take i17 ++ x :: q.items.drop i17), q.kids⟩, _, _) (by exact put_leaf strlt_sto hq srt (by omega) hF17 hnf) ⟨(by first | rfl | exact vint (by omega)), (by first | rfl | exact vint (by omega)), (by first | rfl | exact vint (by omega)), trivial⟩ (fun w S => S)
   · -- h2F
    have h2b := h2
    try simp only [decide_eq_false_iff_not, Int.not_lt, Int.not_le] at h2
    refine c_seq ?_
    refine c_region ?_
    refine o_assign rfl rfl ?_
    refine l_nil ?_
    refine q_then ?_
    refine c_seq ?_
    refine c_region ?_
    refine o_assign rfl rfl ?_
    refine l_nil ?_
    refine q_then ?_
    refine c_seq ?_
    have hkl : q.kids.length = q.items.length + 1 := by rcases hsh with ⟨_, h9⟩ | ⟨_, h9, _⟩; exact absurd (show ((q.kids.map Prod.fst).length : Int) = 0 by rw [h9]; rfl) (by assumption); exact h9
    have hd0 : d ≠ 0 := by rcases hsh with ⟨_, h9⟩ | ⟨h9, _, _⟩; exact absurd (show ((q.kids.map Prod.fst).length : Int) = 0 by rw [h9]; rfl) (by assumption); exact h9
    have hkm : (q.kids.map Prod.fst).length = q.items.length + 1 := by rw [List.length_map]; exact hkl
    have hfl := hF17.le
    obtain ⟨⟨kb, ys⟩, hkid⟩ : ∃ z, q.kids[i17]? = some z := ⟨_, List.getElem?_eq_getElem (by omega)⟩
    obtain ⟨A, B, hxA, _, _, hA, hB, _, _, hsy⟩ := kid_parts strlt_sto hq srt hkid hF17 hnf
    obtain ⟨d', hd'⟩ : ∃ d', d = d' + 1 := ⟨d - 1, by omega⟩
    refine c_conv (fun w S => S.perm p3) ?_
    refine c_conv (L' := nodeR e_ItA eN57 61 d' 2 kb ys :: kidsR e_ItA eN57 61 d (q.kids.eraseIdx i17) :: _) (fun w S => by have h9 := Sat.kid_take hkid S; rw [hd'] at h9 ⊢; exact h9) ?_
    refine c_fact (p := ∃ ad, q.ak = some ad) (rds_some (e := eN57) (xs := (q.kids.map Prod.fst)) (rds_own eN57_ok 4 rfl) (by intro h0; have h00 := congrArg List.length h0; simp only [List.length_nil] at h00; omega)) ?_
    rintro ⟨adx, eadx⟩
    refine c_conv (fun w S => S.perm p5) ?_
    refine c_conv (fun w S => S.perm p5) ?_
    refine c_conv (fun w S => S.perm p5) ?_
    refine c_conv (fun w S => S.perm p5) ?_
    refine c_conv (fun w S => S.perm p5) ?_
    refine c_held [kidsR e_ItA eN57 61 d (q.kids.eraseIdx i17), blk b (.cells #[.slice q.a (q.items).length q.c, .slice q.ak ((q.kids.map Prod.fst)).length q.ck] 61 (0, 0)), row e_ItA.T e_ItA.sz q.a (q.items).length q.c (flat e_ItA q.items), row eN57.T eN57.sz q.ak ((q.kids.map Prod.fst)).length q.ck (flat eN57 (q.kids.map Prod.fst)), blk b3 (.cells #[.string x.f_key, .int .i64 x.f_value] 68 (0, 0))] (by kernel_rfl) rfl ?_
    refine h_take 0 rfl rfl (by kernel_rfl) (by kernel_rfl) (by kernel_rfl) (fun L0 => v_move rfl rfl) ?_
    refine h_take 1 rfl rfl (by kernel_rfl) (by kernel_rfl) (by kernel_rfl) (fun L0 => v_nil rfl rfl) ?_
    refine h_take 2 rfl rfl (by kernel_rfl) (by kernel_rfl) (by kernel_rfl) (fun L0 => v_fieldAddr (q := ⟨b, 1, none⟩) rfl rfl Try.underlying61 rfl ti59 rfl) ?_
    refine h_take 3 rfl rfl (by kernel_rfl) (by kernel_rfl) (by kernel_rfl) (fun L0 => v_load1 rfl rfl Try.underlying59 rfl (rd_mem 1 rfl rfl)) ?_
    refine h_take 4 rfl rfl (by kernel_rfl) (by kernel_rfl) (by kernel_rfl) (fun L0 => v_move rfl rfl) ?_
    refine h_take 5 rfl rfl (by kernel_rfl) (by kernel_rfl) (by kernel_rfl) (fun L0 => v_indexK eN57_ok eadx rfl rfl rfl Try.underlying59 (by omega) (by omega)) ?_
    obtain ⟨x26, hx26⟩ : ∃ x, ((q.kids.map Prod.fst))[((i17 : Int)).toNat]? = some x := ⟨_, List.getElem?_eq_getElem (by omega)⟩
    have hxk : x26 = kb := by have h9 := hx26; rw [show ((i17 : Int)).toNat = i17 from rfl, List.getElem?_map, hkid] at h9; exact (Option.some.inj h9).symm
    refine h_take 6 rfl rfl (by kernel_rfl) (by kernel_rfl) (by kernel_rfl) (fun L0 => v_load1 rfl rfl Try.underlying57 rfl (rd_sl0 eN57_ok eadx (rds_own eN57_ok 3 rfl) hx26 rfl)) ?_
    refine h_eq (t := 27) (v' := .pointer (some ⟨kb, 0, none⟩)) rfl (by rw [hxk]) ?_
    refine h_take 7 rfl rfl (by kernel_rfl) (by kernel_rfl) (by kernel_rfl) (fun L0 => v_loadn (vs := [_, _]) rfl rfl Try.underlying68 rfl ti68 (rdn_lit 4 rfl rfl)) ?_
    refine h_one 8 rfl (by kernel_rfl) ?_
    refine l_f5 ?_
    refine o_call rfl cal25 rfl (ih d' hd' (by omega) hsy) ?_
    rintro _ _ ⟨old29, had29, ls29, s29, ⟨his29, hol29⟩, rfl, rfl⟩
    refine l_nil ?_
    refine q_conv (fun w S => S.perm p1) ?_
    refine q_conv (fun w S => S.perm p1) ?_
    refine q_conv (fun w S => S.perm p6) ?_
    refine q_conv (fun w S => S.perm p6) ?_
    refine q_conv (fun w S => S.perm p6) ?_
    refine q_conv (fun w S => S.perm p6) ?_
    refine q_conv (fun w S => S.perm p6) ?_
    refine h_next ?_
    refine h_take 9 rfl rfl (by kernel_rfl) (by kernel_rfl) (by kernel_rfl) (fun L0 => v_move rfl rfl) ?_
    refine h_take 10 rfl rfl (by kernel_rfl) (by kernel_rfl) (by kernel_rfl) (fun L0 => v_extract rfl rfl rfl) ?_
    refine h_take 11 rfl rfl (by kernel_rfl) (by kernel_rfl) (by kernel_rfl) (fun L0 => v_extract rfl rfl rfl) ?_
    refine h_take 12 rfl rfl (by kernel_rfl) (by kernel_rfl) (by kernel_rfl) (fun L0 => v_extract rfl rfl rfl) ?_
    refine h_take 13 rfl rfl (by kernel_rfl) (by kernel_rfl) (by kernel_rfl) (fun L0 => v_extract rfl rfl rfl) ?_
    refine h_take 14 rfl rfl (by kernel_rfl) (by kernel_rfl) (by kernel_rfl) (fun L0 => v_assign rfl rfl) ?_
    refine h_take 15 rfl rfl (by kernel_rfl) (by kernel_rfl) (by kernel_rfl) (fun L0 => v_assign rfl rfl) ?_
    refine h_take 16 rfl rfl (by kernel_rfl) (by kernel_rfl) (by kernel_rfl) (fun L0 => v_assign rfl rfl) ?_
    refine h_take 17 rfl rfl (by kernel_rfl) (by kernel_rfl) (by kernel_rfl) (fun L0 => v_assign rfl rfl) ?_
    refine h_done (by kernel_rfl) ?_
    refine q_then ?_
    refine c_seq ?_
    refine c_region ?_
    refine o_move rfl rfl ?_
    refine o_bin rfl rfl rfl (b_pne Try.underlying64 _) ?_
    refine l_nil ?_
    refine q_then ?_
    refine c_cond rfl (fun h3 => ?_) (fun h3 => ?_)
    · -- h3T
     have h3b := h3
     try simp only [decide_eq_true_eq, decide_eq_false_iff_not, Bool.not_eq_eq_eq_not, Bool.not_true, Bool.not_false, Bool.not_eq_true', Bool.not_eq_false', Int.not_lt, Int.not_le, Bool.or_eq_true, Bool.and_eq_true] at h3
     obtain ⟨⟨bm, m, br, rs⟩, hs29⟩ : ∃ z, s29 = some z := by cases s29 with | none => simp at h3b | some z => exact ⟨z, rfl⟩
     subst hs29
     refine c_seq ?_
     refine c_mid (α := (Option Addr) × Nat × (Option Addr)) (fun z => [(0, .pointer (some ⟨b, 0, none⟩)), (1, .agg #[.string x.f_key, .int .i64 x.f_value]), (3, .pointer (some ⟨b3, 0, none⟩)), (4, .int .i64 old29), (5, .bool had29), (6, .pointer none), (7, .pointer none), (8, .int .i64 (i17 : Int)), (9, .bool fd17), (10, .pointer (some ⟨bm, 0, none⟩)), (11, .pointer (some ⟨br, 0, none⟩)), (13, .tuple #[.int .i64 (i17 : Int), .bool fd17]), (14, .pointer (some ⟨b, 0, none⟩)), (15, .pointer (some ⟨b3, 0, none⟩)), (16, .string x.f_key), (17, .tuple #[.int .i64 (i17 : Int), .bool fd17]), (18, .int .i64 (i17 : Int)), (19, .bool fd17), (21, .pointer (some ⟨b, 0, none⟩)), (22, .pointer (some ⟨b, 0, none⟩)), (23, .pointer (some ⟨b, 1, none⟩)), (24, .slice q.ak ((q.kids.map Prod.fst)).length q.ck), (25, .int .i64 (i17 : Int)), (27, .pointer (some ⟨kb, 0, none⟩)), (28, .agg #[.string x.f_key, .int .i64 x.f_value]), (30, .int .i64 old29), (31, .bool had29), (36, .pointer (some ⟨b, 0, none⟩)), (37, .pointer (some ⟨b, 0, none⟩)), (38, .pointer (some ⟨b, 0, none⟩)), (39, .pointer (some ⟨b, 0, none⟩)), (40, .slice q.a (q.items).length q.c), (41, .int .i64 (i17 : Int)), (42, .pointer (some ⟨bm, 0, none⟩)), (43, .pointer (some ⟨bm, 0, none⟩)), (44, .agg #[.string m.f_key, .int .i64 m.f_value]), (45, .slice z.2.2 ([m]).length 1), (46, .slice z.1 ((q.items.take i17 ++ m :: q.items.drop i17)).length z.2.1), (47, .pointer (some ⟨b, 0, none⟩)), (48, .pointer (some ⟨b, 0, none⟩)), (61, .bool fd17), (62, .bool fd17), (82, .bool (decide ((((q.kids.map Prod.fst)).length : Int) = 0))), (83, .pointer (some ⟨b, 0, none⟩)), (84, .pointer (some ⟨b, 0, none⟩)), (85, .pointer (some ⟨b, 1, none⟩)), (86, .slice q.ak ((q.kids.map Prod.fst)).length q.ck), (87, .int .i64 (((q.kids.map Prod.fst)).length : Int)), (88, .bool (decide ((((q.kids.map Prod.fst)).length : Int) = 0)))]) (fun z => blk b (.cells #[.slice z.1 ((q.items.take i17 ++ m :: q.items.drop i17)).length z.2.1, .slice q.ak ((q.kids.map Prod.fst)).length q.ck] 61 (0, 0)) :: row e_ItA.T e_ItA.sz z.1 ((q.items.take i17 ++ m :: q.items.drop i17)).length z.2.1 (flat e_ItA (q.items.take i17 ++ m :: q.items.drop i17)) :: blk bm (.cells #[.string m.f_key, .int .i64 m.f_value] 68 (0, 0)) :: nodeR e_ItA eN57 61 d' 2 br rs :: kidsR e_ItA eN57 61 d (q.kids.eraseIdx i17) :: row eN57.T eN57.sz q.ak ((q.kids.map Prod.fst)).length q.ck (flat eN57 (q.kids.map Prod.fst)) :: blk b3 (.cells #[.string x.f_key, .int .i64 x.f_value] 68 (0, 0)) :: nodeR e_ItA eN57 61 d' 2 kb ls29 :: F) (fun z => True) ?_ ?_
     · -- cut
      refine c_conv (fun w S => S.perm p6) ?_
      refine c_conv (L' := blk bm (.cells #[.string m.f_key, .int .i64 m.f_value] 68 (0, 0)) :: nodeR e_ItA eN57 61 d' 2 br rs :: _) (fun w S => Sat.flat (Ls := [_, _]) S) ?_
      refine c_conv (fun w S => S.perm p4) ?_
      refine c_conv (fun w S => S.perm p4) ?_
      refine c_conv (fun w S => S.perm p7) ?_
      refine c_conv (fun w S => S.perm p7) ?_
      refine c_conv (fun w S => S.perm p7) ?_
      refine c_conv (fun w S => S.perm p7) ?_
      refine c_conv (fun w S => S.perm p7) ?_
      refine c_conv (fun w S => S.perm p7) ?_
      refine c_held [blk bm (.cells #[.string m.f_key, .int .i64 m.f_value] 68 (0, 0)), nodeR e_ItA eN57 61 d' 2 br rs, kidsR e_ItA eN57 61 d (q.kids.eraseIdx i17), row eN57.T eN57.sz q.ak ((q.kids.map Prod.fst)).length q.ck (flat eN57 (q.kids.map Prod.fst)), blk b3 (.cells #[.string x.f_key, .int .i64 x.f_value] 68 (0, 0)), nodeR e_ItA eN57 61 d' 2 kb ls29] (by kernel_rfl) rfl ?_
      refine h_take 0 rfl rfl (by kernel_rfl) (by kernel_rfl) (by kernel_rfl) (fun L0 => v_move rfl rfl) ?_
      refine h_take 1 rfl rfl (by kernel_rfl) (by kernel_rfl) (by kernel_rfl) (fun L0 => v_move rfl rfl) ?_
      refine h_take 2 rfl rfl (by kernel_rfl) (by kernel_rfl) (by kernel_rfl) (fun L0 => v_nil rfl rfl) ?_
      refine h_take 3 rfl rfl (by kernel_rfl) (by kernel_rfl) (by kernel_rfl) (fun L0 => v_fieldAddr (q := ⟨b, 0, none⟩) rfl rfl Try.underlying61 rfl ti58 rfl) ?_
      refine h_take 5 rfl rfl (by kernel_rfl) (by kernel_rfl) (by kernel_rfl) (fun L0 => v_move rfl rfl) ?_
      refine h_take 6 rfl rfl (by kernel_rfl) (by kernel_rfl) (by kernel_rfl) (fun L0 => v_move rfl rfl) ?_
      refine h_take 7 rfl rfl (by kernel_rfl) (by kernel_rfl) (by kernel_rfl) (fun L0 => v_nil rfl rfl) ?_
      refine h_take 8 rfl rfl (by kernel_rfl) (by kernel_rfl) (by kernel_rfl) (fun L0 => v_loadn (vs := [_, _]) rfl rfl Try.underlying68 rfl ti68 (rdn_lit 0 rfl rfl)) ?_
      refine h_many (is := [4, 9]) (by kernel_rfl) (by decide) (forall_cons ⟨_, rfl, ?_⟩ (forall_cons ⟨_, rfl, ?_⟩ forall_nil))
      · -- 4 comes first
       refine o_load1 rfl rfl Try.underlying58 rfl (rd_mem 6 rfl rfl) ?_
       refine l_nil ?_
       refine h_next ?_
       refine h_one 9 rfl (by kernel_rfl) ?_
       refine o_lit e_ItA_ok rfl Try.underlying58 rfl rfl rfl (lit_ok rfl) [m] rfl rfl fun a45 => ?_
       refine l_nil ?_
       refine q_conv (fun w S => S.perm p8) ?_
       refine q_conv (fun w S => S.perm p8) ?_
       refine q_conv (fun w S => S.perm p2) ?_
       refine q_conv (fun w S => S.perm p8) ?_
       refine q_conv (fun w S => S.perm p8) ?_
       refine q_conv (fun w S => S.perm p8) ?_
       refine q_conv (fun w S => S.perm p8) ?_
       refine q_conv (fun w S => S.perm p8) ?_
       refine q_conv (fun w S => S.perm p8) ?_
       refine h_next ?_
       refine h_one 10 rfl (by kernel_rfl) ?_
       refine l_f6 ?_
       refine l_f8 ?_
       refine o_call rfl cal36 rfl (insI_A (xs := q.items) (x := m) (i := i17) hF17.le (by omega)) ?_
       rintro _ _ ⟨a46, c46, rfl, rfl⟩
       refine l_nil ?_
       refine q_conv (fun w S => S.perm p7) ?_
       refine q_conv (fun w S => S.perm p1) ?_
       refine q_conv (fun w S => S.perm p7) ?_
       refine q_conv (fun w S => S.perm p7) ?_
       refine q_conv (fun w S => S.perm p7) ?_
       refine q_conv (fun w S => S.perm p7) ?_
       refine q_conv (fun w S => S.perm p7) ?_
       refine q_conv (fun w S => S.perm p7) ?_
       refine h_next ?_
       refine h_take 11 rfl rfl (by kernel_rfl) (by kernel_rfl) (by kernel_rfl) (fun L0 => v_nil rfl rfl) ?_
       refine h_take 12 rfl rfl (by kernel_rfl) (by kernel_rfl) (by kernel_rfl) (fun L0 => v_fieldAddr (q := ⟨b, 0, none⟩) rfl rfl Try.underlying61 rfl ti58 rfl) ?_
       refine h_one 13 rfl (by kernel_rfl) ?_
       refine l_f7 ?_
       refine o_store1 rfl rfl rfl ti58 rfl rfl ?_
       refine l_nil ?_
       refine q_conv (fun w S => S.perm p7) ?_
       refine q_conv (fun w S => S.perm p1) ?_
       refine q_conv (fun w S => S.perm p7) ?_
       refine q_conv (fun w S => S.perm p7) ?_
       refine q_conv (fun w S => S.perm p7) ?_
       refine q_conv (fun w S => S.perm p7) ?_
       refine q_conv (fun w S => S.perm p7) ?_
       refine q_conv (fun w S => S.perm p7) ?_
       refine h_next ?_
       refine h_done (by kernel_rfl) ?_
       refine q_conv (fun w S => S.perm p5) ?_
       refine q_conv (fun w S => S.perm p5) ?_
       refine q_conv (fun w S => S.perm p5) ?_
       refine q_conv (fun w S => S.perm p5) ?_
       refine q_conv (fun w S => S.perm p5) ?_
       refine q_conv (fun w S => S.perm p5) ?_
       refine q_conv (fun w S => S.perm p7) ?_
       refine q_conv (fun w S => S.perm p7) ?_
       exact q_mid (a46, c46, a45) (by trivial) ⟨(by first | rfl | exact vint (by omega)), (by first | rfl | exact vint (by omega)), (by first | rfl | exact vint (by omega)), (by first | rfl | exact vint (by omega)), (by first | rfl | exact vint (by omega)), (by first | rfl | exact vint (by omega)), (by first | rfl | exact vint (by omega)), (by first | rfl | exact vint (by omega)), (by first | rfl | exact vint (by omega)), (by first | rfl | exact vint (by omega)), (by first | rfl | exact vint (by omega)), (by first | rfl | exact vint (by omega)), (by first | rfl | exact vint (by omega)), (by first | rfl | exact vint (by omega)), (by first | rfl | exact vint (by omega)), (by first | rfl | exact vint (by omega)), (by first | rfl | exact vint (by omega)), (by first | rfl | exact vint (by omega)), (by first | rfl | exact vint (by omega)), (by first | rfl | exact vint (by omega)), (by first | rfl | exact vint (by omega)), (by first | rfl | exact vint (by omega)), (by first | rfl | exact vint (by omega)), (by first | rfl | exact vint (by omega)), (by first | rfl | exact vint (by omega)), (by first | rfl | exact vint (by omega)), (by first | rfl | exact vint (by omega)), (by first | rfl | exact vint (by omega)), (by first | rfl | exact vint (by omega)), (by first | rfl | exact vint (by omega)), (by first | rfl | exact vint (by omega)), (by first | rfl | exact vint (by omega)), (by first | rfl | exact vint (by omega)), (by first | rfl | exact vint (by omega)), (by first | rfl | exact vint (by omega)), (by first | rfl | exact vint (by omega)), (by first | rfl | exact vint (by omega)), (by first | rfl | exact vint (by omega)), (by first | rfl | exact vint (by omega)), (by first | rfl | exact vint (by omega)), (by first | rfl | exact vint (by omega)), (by first | rfl | exact vint (by omega)), (by first | rfl | exact vint (by omega)), (by first | rfl | exact vint (by omega)), (by first | rfl | exact vint (by omega)), (by first | rfl | exact vint (by omega)), (by first | rfl | exact vint (by omega)), (by first | rfl | exact vint (by omega)), (by first | rfl | exact vint (by omega)), trivial⟩ (fun w S => S)
      · -- 9 comes first
       refine o_lit e_ItA_ok rfl Try.underlying58 rfl rfl rfl (lit_ok rfl) [m] rfl rfl fun a45 => ?_
       refine l_nil ?_
       refine q_conv (fun w S => S.perm p8) ?_
       refine q_conv (fun w S => S.perm p8) ?_
       refine q_conv (fun w S => S.perm p2) ?_
       refine q_conv (fun w S => S.perm p8) ?_
       refine q_conv (fun w S => S.perm p8) ?_
       refine q_conv (fun w S => S.perm p8) ?_
       refine q_conv (fun w S => S.perm p8) ?_
       refine q_conv (fun w S => S.perm p8) ?_
       refine q_conv (fun w S => S.perm p8) ?_
       refine h_next ?_
       refine h_one 4 rfl (by kernel_rfl) ?_
       refine o_load1 rfl rfl Try.underlying58 rfl (rd_mem 7 rfl rfl) ?_
       refine l_nil ?_
       refine h_next ?_
       refine h_one 10 rfl (by kernel_rfl) ?_
       refine l_f6 ?_
       refine l_f8 ?_
       refine o_call rfl cal36 rfl (insI_A (xs := q.items) (x := m) (i := i17) hF17.le (by omega)) ?_
       rintro _ _ ⟨a46, c46, rfl, rfl⟩
       refine l_nil ?_
       refine q_conv (fun w S => S.perm p7) ?_
       refine q_conv (fun w S => S.perm p1) ?_
       refine q_conv (fun w S => S.perm p7) ?_
       refine q_conv (fun w S => S.perm p7) ?_
       refine q_conv (fun w S => S.perm p7) ?_
       refine q_conv (fun w S => S.perm p7) ?_
       refine q_conv (fun w S => S.perm p7) ?_
       refine q_conv (fun w S => S.perm p7) ?_
       refine h_next ?_
       refine h_take 11 rfl rfl (by kernel_rfl) (by kernel_rfl) (by kernel_rfl) (fun L0 => v_nil rfl rfl) ?_
       refine h_take 12 rfl rfl (by kernel_rfl) (by kernel_rfl) (by kernel_rfl) (fun L0 => v_fieldAddr (q := ⟨b, 0, none⟩) rfl rfl Try.underlying61 rfl ti58 rfl) ?_
       refine h_one 13 rfl (by kernel_rfl) ?_
       refine l_f7 ?_
       refine o_store1 rfl rfl rfl ti58 rfl rfl ?_
       refine l_nil ?_
       refine q_conv (fun w S => S.perm p7) ?_
       refine q_conv (fun w S => S.perm p1) ?_
       refine q_conv (fun w S => S.perm p7) ?_
       refine q_conv (fun w S => S.perm p7) ?_
       refine q_conv (fun w S => S.perm p7) ?_
       refine q_conv (fun w S => S.perm p7) ?_
       refine q_conv (fun w S => S.perm p7) ?_
       refine q_conv (fun w S => S.perm p7) ?_
       refine h_next ?_
       refine h_done (by kernel_rfl) ?_
       refine q_conv (fun w S => S.perm p5) ?_
       refine q_conv (fun w S => S.perm p5) ?_
       refine q_conv (fun w S => S.perm p5) ?_
       refine q_conv (fun w S => S.perm p5) ?_
       refine q_conv (fun w S => S.perm p5) ?_
       refine q_conv (fun w S => S.perm p5) ?_
       refine q_conv (fun w S => S.perm p7) ?_
       refine q_conv (fun w S => S.perm p7) ?_
       exact q_mid (a46, c46, a45) (by trivial) ⟨(by first | rfl | exact vint (by omega)), (by first | rfl | exact vint (by omega)), (by first | rfl | exact vint (by omega)), (by first | rfl | exact vint (by omega)), (by first | rfl | exact vint (by omega)), (by first | rfl | exact vint (by omega)), (by first | rfl | exact vint (by omega)), (by first | rfl | exact vint (by omega)), (by first | rfl | exact vint (by omega)), (by first | rfl | exact vint (by omega)), (by first | rfl | exact vint (by omega)), (by first | rfl | exact vint (by omega)), (by first | rfl | exact vint (by omega)), (by first | rfl | exact vint (by omega)), (by first | rfl | exact vint (by omega)), (by first | rfl | exact vint (by omega)), (by first | rfl | exact vint (by omega)), (by first | rfl | exact vint (by omega)), (by first | rfl | exact vint (by omega)), (by first | rfl | exact vint (by omega)), (by first | rfl | exact vint (by omega)), (by first | rfl | exact vint (by omega)), (by first | rfl | exact vint (by omega)), (by first | rfl | exact vint (by omega)), (by first | rfl | exact vint (by omega)), (by first | rfl | exact vint (by omega)), (by first | rfl | exact vint (by omega)), (by first | rfl | exact vint (by omega)), (by first | rfl | exact vint (by omega)), (by first | rfl | exact vint (by omega)), (by first | rfl | exact vint (by omega)), (by first | rfl | exact vint (by omega)), (by first | rfl | exact vint (by omega)), (by first | rfl | exact vint (by omega)), (by first | rfl | exact vint (by omega)), (by first | rfl | exact vint (by omega)), (by first | rfl | exact vint (by omega)), (by first | rfl | exact vint (by omega)), (by first | rfl | exact vint (by omega)), (by first | rfl | exact vint (by omega)), (by first | rfl | exact vint (by omega)), (by first | rfl | exact vint (by omega)), (by first | rfl | exact vint (by omega)), (by first | rfl | exact vint (by omega)), (by first | rfl | exact vint (by omega)), (by first | rfl | exact vint (by omega)), (by first | rfl | exact vint (by omega)), (by first | rfl | exact vint (by omega)), (by first | rfl | exact vint (by omega)), trivial⟩ (fun w S => S)
     · -- behind the cut
      rintro ⟨a46, c46, a45⟩ _hp
      try dsimp only at *
      refine c_region ?_
      refine o_move rfl rfl ?_
      refine o_move rfl rfl ?_
      refine o_nil rfl rfl ?_
      refine o_fieldAddr (q := ⟨b, 1, none⟩) rfl rfl Try.underlying61 rfl ti59 rfl ?_
      refine o_load1 rfl rfl Try.underlying59 rfl (rd_mem 0 rfl rfl) ?_
      refine o_move rfl rfl ?_
      refine o_bin rfl rfl rfl (b_add (show IntKind.i64.wrap ((i17 : Int) + 1) = ((i17 + 1 : Nat) : Int) from by rw [wrap_i64 (by omega) (by omega)]; omega)) ?_
      refine o_move rfl rfl ?_
      refine o_lit eN57_ok rfl Try.underlying59 rfl rfl rfl (lit_ok rfl) [br] rfl rfl fun a57 => ?_
      refine l_f6 ?_
      refine o_call rfl cal37 rfl (insK_A (xs := (q.kids.map Prod.fst)) (x := br) (i := (i17 + 1 : Nat)) (by omega) (by omega)) ?_
      rintro _ _ ⟨a58, c58, rfl, rfl⟩
      refine o_nil rfl rfl ?_
      refine o_fieldAddr (q := ⟨b, 1, none⟩) rfl rfl Try.underlying61 rfl ti59 rfl ?_
      refine l_f1 ?_
      refine o_store1 rfl rfl rfl ti59 rfl rfl ?_
      refine l_nil ?_
      refine q_block ?_
      refine q_conv (fun w S => S.perm p6) ?_
      refine q_conv (fun w S => S.perm p4) ?_
      refine q_conv (fun w S => S.perm p4) ?_
      refine q_conv (fun w S => S.perm p4) ?_
      refine q_conv (fun w S => S.perm p4) ?_
      refine q_conv (fun w S => S.perm p6) ?_
      refine q_conv (fun w S => S.perm p6) ?_
      refine q_conv (fun w S => S.perm p7) ?_
      refine q_conv (L' := kidsR e_ItA eN57 61 d (q.kids.take i17 ++ (kb, ls29) :: (br, rs) :: q.kids.drop (i17 + 1)) :: _) (fun w S => Sat.kid_two (k := (kb, ls29)) (k2 := (br, rs)) (by omega) (by rw [hd'] at S ⊢; exact S)) ?_
      have hkf : ((q.kids.map Prod.fst).take (i17 + 1 : Nat) ++ br :: (q.kids.map Prod.fst).drop (i17 + 1 : Nat)) = ((q.kids.take i17 ++ (kb, ls29) :: (br, rs) :: q.kids.drop (i17 + 1)).map Prod.fst) := by rw [kids_fst hkid]
      refine q_conv (fun w S => S.perm p5) ?_
      refine q_conv (fun w S => S.perm p5) ?_
      refine q_conv (fun w S => S.perm p5) ?_
      refine q_conv (fun w S => S.perm p3) ?_
      refine q_conv (fun w S => S.perm p4) ?_
      refine q_conv (fun w S => S.perm p5) ?_
      refine q_conv (L' := row eN57.T eN57.sz a58 (((q.kids.take i17 ++ (kb, ls29) :: (br, rs) :: q.kids.drop (i17 + 1)).map Prod.fst)).length c58 (flat eN57 ((q.kids.take i17 ++ (kb, ls29) :: (br, rs) :: q.kids.drop (i17 + 1)).map Prod.fst)) :: blk b (.cells #[.slice a46 ((q.items.take i17 ++ m :: q.items.drop i17)).length c46, .slice a58 (((q.kids.take i17 ++ (kb, ls29) :: (br, rs) :: q.kids.drop (i17 + 1)).map Prod.fst)).length c58] 61 (0, 0)) :: _) (fun w S => by rw [hkf] at S; exact S) ?_
      refine q_conv (fun w S => (S.perm p4).tail) ?_
      refine q_conv (fun w S => (S.perm p4).tail) ?_
      refine q_conv (fun w S => S.perm p2) ?_
      refine q_conv (fun w S => S.perm p1) ?_
      refine q_conv (fun w S => S.perm p3) ?_
      refine q_conv (fun w S => S.perm p3) ?_
      exact q_mid (⟨a46, c46, a58, c58, (q.items.take i17 ++ m :: q.items.drop i17), (q.kids.take i17 ++ (kb, ls29) :: (br, rs) :: q.kids.drop (i17 + 1))⟩, _, _) (by exact put_part strlt_sto hq srt hkid hF17 hnf his29 hol29) ⟨(by first | rfl | exact vint (by omega)), (by first | rfl | exact vint (by omega)), (by first | rfl | exact vint (by omega)), trivial⟩ (fun w S => S)
    · -- h3F
     have h3b := h3
     try simp only [decide_eq_true_eq, decide_eq_false_iff_not, Bool.not_eq_eq_eq_not, Bool.not_true, Bool.not_false, Bool.not_eq_true', Bool.not_eq_false', Int.not_lt, Int.not_le, Bool.or_eq_true, Bool.and_eq_true] at h3
     have hs29 : s29 = none := by cases s29 with | none => rfl | some z => simp at h3b
     subst hs29
     refine c_skip ?_
     refine q_block ?_
     refine q_conv (fun w S => S.perm p6) ?_
     refine q_conv (fun w S => S.perm p5) ?_
     refine q_conv (fun w S => S.perm p5) ?_
     refine q_conv (fun w S => S.perm p5) ?_
     refine q_conv (fun w S => S.perm p5) ?_
     refine q_conv (fun w S => S.perm p5) ?_
     refine q_conv (fun w S => S.perm p6) ?_
     refine q_conv (L' := kidsR e_ItA eN57 61 d (q.kids.set i17 (kb, ls29)) :: _) (fun w S => Sat.kid_set (k := (kb, ls29)) (by omega) (by rw [hd'] at S ⊢; exact S)) ?_
     have hkf : (q.kids.map Prod.fst) = ((q.kids.set i17 (kb, ls29)).map Prod.fst) := kids_fst_set hkid
     refine q_conv (fun w S => S.perm p5) ?_
     refine q_conv (fun w S => S.perm p5) ?_
     refine q_conv (fun w S => S.perm p4) ?_
     refine q_conv (fun w S => S.perm p3) ?_
     refine q_conv (fun w S => S.perm p4) ?_
     refine q_conv (fun w S => S.perm p5) ?_
     refine q_conv (L' := row eN57.T eN57.sz q.ak (((q.kids.set i17 (kb, ls29)).map Prod.fst)).length q.ck (flat eN57 ((q.kids.set i17 (kb, ls29)).map Prod.fst)) :: blk b (.cells #[.slice q.a (q.items).length q.c, .slice q.ak (((q.kids.set i17 (kb, ls29)).map Prod.fst)).length q.ck] 61 (0, 0)) :: _) (fun w S => by rw [hkf] at S; exact S) ?_
     refine q_conv (fun w S => (S.perm p4).tail) ?_
     refine q_conv (fun w S => (S.perm p4).tail) ?_
     refine q_conv (fun w S => S.perm p2) ?_
     refine q_conv (fun w S => S.perm p1) ?_
     refine q_conv (fun w S => S.perm p3) ?_
     refine q_conv (fun w S => S.perm p3) ?_
     exact q_mid (⟨q.a, q.c, q.ak, q.ck, q.items, (q.kids.set i17 (kb, ls29))⟩, _, _) (by exact put_kid strlt_sto hq srt hkid hF17 hnf his29 hol29) ⟨(by first | rfl | exact vint (by omega)), (by first | rfl | exact vint (by omega)), (by first | rfl | exact vint (by omega)), trivial⟩ (fun w S => S)
 · -- behind the cut
  rintro ⟨q1, old, had⟩ hmid
  try dsimp only at *
  have hm6 := hmid.le
  refine c_seq ?_
  refine c_seq ?_
  refine c_region ?_
  refine o_move rfl rfl ?_
  refine o_nil rfl rfl ?_
  refine o_fieldAddr (q := ⟨b, 0, none⟩) rfl rfl Try.underlying61 rfl ti58 rfl ?_
  refine o_load1 rfl rfl Try.underlying58 rfl (rd_mem 0 rfl rfl) ?_
  refine o_len rfl rfl Try.underlying58 ?_
  refine o_bin rfl rfl rfl b_leq ?_
  refine l_nil ?_
  refine q_then ?_
  refine c_cond rfl (fun h4 => ?_) (fun h4 => ?_)
  · -- h4T
   have h4b := h4
   try simp only [decide_eq_true_eq] at h4
   refine c_seq ?_
   refine c_region ?_
   refine o_move rfl rfl ?_
   refine o_move rfl rfl ?_
   refine o_assign rfl rfl ?_
   refine o_assign rfl rfl ?_
   refine o_assign rfl rfl ?_
   refine o_assign rfl rfl ?_
   refine l_nil ?_
   refine q_then ?_
   refine c_ret ?_
   refine q_pass_ret ?_
   exact f_ret (r_four rfl rfl rfl rfl rfl) (⟨old, had, ins ItA.f_key strlt x xs, none, ⟨rfl, hmid.old⟩, rfl, rfl⟩) (fun w S => (Sat.emp_ (nodeMk q1 (hmid.fits (by omega) q1.a q1.c q1.ak q1.ck) S)).perm (List.Perm.swap _ _ _))
  · -- h4F
   have h4b := h4
   try simp only [decide_eq_false_iff_not, Int.not_lt, Int.not_le] at h4
   refine c_skip ?_
   refine q_then ?_
   refine c_seq ?_
   refine c_fact (p := ∃ ad, q1.a = some ad) (rds_some (e := e_ItA) (xs := q1.items) (rds_own e_ItA_ok 1 rfl) (by intro h0; have h00 := congrArg List.length h0; simp only [List.length_nil] at h00; omega)) ?_
   rintro ⟨adx, eadx⟩
   refine c_region ?_
   refine o_move rfl rfl ?_
   refine o_nil rfl rfl ?_
   refine o_fieldAddr (q := ⟨b, 0, none⟩) rfl rfl Try.underlying61 rfl ti58 rfl ?_
   refine o_load1 rfl rfl Try.underlying58 rfl (rd_mem 0 rfl rfl) ?_
   refine o_indexK e_ItA_ok eadx rfl rfl rfl Try.underlying58 (by omega) (by omega) ?_
   obtain ⟨x112, hx112⟩ : ∃ x, (q1.items)[((2 : Int)).toNat]? = some x := ⟨_, List.getElem?_eq_getElem (by omega)⟩
   have hpar := hmid.parts (by omega) (show q1.items[2]? = some x112 from hx112)
   refine o_loadn (vs := e_ItA.cells x112) rfl rfl Try.underlying68 rfl ti68 (rdn_sl e_ItA_ok eadx (rds_own e_ItA_ok 1 rfl) hx112) ?_
   refine o_alloc rfl ti68 fun b12 => ?_
   refine o_storen rfl rfl ti68 rfl rfl rfl rfl ?_
   refine l_nil ?_
   refine q_then ?_
   refine c_seq ?_
   refine c_conv (fun w S => S.perm p2) ?_
   refine c_rowcap ?_
   intro hcI
   simp only [maxLen] at hcI
   refine c_region ?_
   refine o_move rfl rfl ?_
   refine o_nil rfl rfl ?_
   refine o_fieldAddr (q := ⟨b, 0, none⟩) rfl rfl Try.underlying61 rfl ti58 rfl ?_
   refine o_load1 rfl rfl Try.underlying58 rfl (rd_mem 2 rfl rfl) ?_
   refine o_cut (l' := 3) (h' := ((q1.items).length)) (m := q1.c) rfl rfl Try.underlying58 ti68 (.inl ⟨rfl, rfl⟩) (.inl ⟨rfl, rfl, rfl⟩) (.inr ⟨_, _, rfl, icast rfl (by omega), (by omega)⟩) ?_
   obtain ⟨ys118, ay118, cut118, hys118, hlys118, eay118⟩ : ∃ ys_ ay_, (∀ {L : List Res}, RdS W L e_ItA q1.a q1.items → RdS W L e_ItA ay_ ys_) ∧ ys_ = sub q1.items 3 ((q1.items).length) ∧ ys_.length = ((q1.items).length) - 3 ∧ cutA q1.a q1.c 3 2 = ay_ := ⟨_, _, fun h => rds_cut e_ItA_ok h _ _ _ (by omega), rfl, sub_len (by omega), rfl⟩
   refine l_eq (t := 118) (v' := .slice ay118 ys118.length (q1.c - 3)) rfl (by rw [eay118, hlys118]) ?_
   have hd118 : ys118 = q1.items.drop 3 := by rw [hys118]; unfold sub; rw [List.take_length]
   refine o_call rfl cal38 rfl (cloI_A (cut118 (rds_own e_ItA_ok 0 rfl)) (by omega)) ?_
   rintro _ _ ⟨a119, c119, rfl, rfl⟩
   refine o_build rfl sp61 ti61 rfl ((fill_cons (cells' := [.slice a119 (ys118).length c119, .slice none 0 0]) rfl rfl rfl rfl fill_nil)) ?_
   refine o_box rfl rfl fun b121 => ?_
   refine o_assign rfl rfl ?_
   refine l_nil ?_
   refine q_then ?_
   refine c_seq ?_
   refine c_region ?_
   refine o_move rfl rfl ?_
   refine o_move rfl rfl ?_
   refine o_nil rfl rfl ?_
   refine o_fieldAddr (q := ⟨b, 0, none⟩) rfl rfl Try.underlying61 rfl ti58 rfl ?_
   refine o_load1 rfl rfl Try.underlying58 rfl (rd_mem 4 rfl rfl) ?_
   refine o_cut (l' := 0) (h' := 2) (m := 2) rfl rfl Try.underlying58 ti68 (.inr ⟨_, _, rfl, icast rfl (by omega), (by omega)⟩) (.inr ⟨_, _, rfl, icast rfl (by omega), (by omega)⟩) (.inl ⟨rfl, rfl⟩) ?_
   obtain ⟨ys127, ay127, cut127, hys127, hlys127, eay127⟩ : ∃ ys_ ay_, (∀ {L : List Res}, RdS W L e_ItA q1.a q1.items → RdS W L e_ItA ay_ ys_) ∧ ys_ = sub q1.items 0 2 ∧ ys_.length = 2 - 0 ∧ cutA q1.a 2 0 2 = ay_ := ⟨_, _, fun h => rds_cut e_ItA_ok h _ _ _ (by omega), rfl, sub_len (by omega), rfl⟩
   refine l_eq (t := 127) (v' := .slice ay127 ys127.length (2 - 0)) rfl (by rw [eay127, hlys127]) ?_
   refine o_nil rfl rfl ?_
   refine o_fieldAddr (q := ⟨b, 0, none⟩) rfl rfl Try.underlying61 rfl ti58 rfl ?_
   refine l_f4 ?_
   refine o_store1 rfl rfl rfl ti58 rfl rfl ?_
   refine l_nil ?_
   refine q_then ?_
   refine c_seq ?_
   refine c_seq ?_
   refine c_region ?_
   refine o_move rfl rfl ?_
   refine o_nil rfl rfl ?_
   refine o_fieldAddr (q := ⟨b, 1, none⟩) rfl rfl Try.underlying61 rfl ti59 rfl ?_
   refine o_load1 rfl rfl Try.underlying59 rfl (rd_mem 0 rfl rfl) ?_
   refine o_len rfl rfl Try.underlying59 ?_
   refine o_bin rfl rfl rfl b_gtr ?_
   refine l_nil ?_
   refine q_then ?_
   refine c_cond rfl (fun h5 => ?_) (fun h5 => ?_)
   · -- h5T
    have h5b := h5
    try simp only [decide_eq_true_eq] at h5
    refine c_seq ?_
    have hk6 : 6 ≤ q1.kids.length := by have h9 := hmid.sh; have h8 : (q1.kids.map Prod.fst).length = q1.kids.length := List.length_map _; rcases h9 with ⟨_, h9⟩ | ⟨_, h9, _⟩ <;> first | omega | (have h7 := congrArg List.length h9; simp only [List.length_nil] at h7; omega)
    have hk7 : q1.kids.length ≤ 7 := by have h9 := hmid.sh; rcases h9 with ⟨_, h9⟩ | ⟨_, h9, _⟩ <;> first | omega | (have h7 := congrArg List.length h9; simp only [List.length_nil] at h7; omega)
    have hkm : (q1.kids.map Prod.fst).length = q1.kids.length := List.length_map _
    refine c_conv (fun w S => S.perm p5) ?_
    refine c_rowcap ?_
    intro hcK
    simp only [maxLen] at hcK
    refine c_region ?_
    refine o_move rfl rfl ?_
    refine o_move rfl rfl ?_
    refine o_nil rfl rfl ?_
    refine o_fieldAddr (q := ⟨b, 1, none⟩) rfl rfl Try.underlying61 rfl ti59 rfl ?_
    refine o_load1 rfl rfl Try.underlying59 rfl (rd_mem 1 rfl rfl) ?_
    refine o_cut (l' := 3) (h' := (((q1.kids.map Prod.fst)).length)) (m := q1.ck) rfl rfl Try.underlying59 ti57 (.inl ⟨rfl, rfl⟩) (.inl ⟨rfl, rfl, rfl⟩) (.inr ⟨_, _, rfl, icast rfl (by omega), (by omega)⟩) ?_
    obtain ⟨ys141, ay141, cut141, hys141, hlys141, eay141⟩ : ∃ ys_ ay_, (∀ {L : List Res}, RdS W L eN57 q1.ak (q1.kids.map Prod.fst) → RdS W L eN57 ay_ ys_) ∧ ys_ = sub (q1.kids.map Prod.fst) 3 (((q1.kids.map Prod.fst)).length) ∧ ys_.length = (((q1.kids.map Prod.fst)).length) - 3 ∧ cutA q1.ak q1.ck 3 1 = ay_ := ⟨_, _, fun h => rds_cut eN57_ok h _ _ _ (by omega), rfl, sub_len (by omega), rfl⟩
    refine l_eq (t := 141) (v' := .slice ay141 ys141.length (q1.ck - 3)) rfl (by rw [eay141, hlys141]) ?_
    have hd141 : ys141 = (q1.kids.map Prod.fst).drop 3 := by rw [hys141]; unfold sub; rw [List.take_length]
    refine o_call rfl cal39 rfl (cloK_A (cut141 (rds_own eN57_ok 0 rfl)) (by omega)) ?_
    rintro _ _ ⟨a142, c142, rfl, rfl⟩
    refine o_nil rfl rfl ?_
    refine o_fieldAddr (q := ⟨b121, 1, none⟩) rfl rfl Try.underlying61 rfl ti59 rfl ?_
    refine l_f3 ?_
    refine o_store1 rfl rfl rfl ti59 rfl rfl ?_
    refine l_nil ?_
    refine q_then ?_
    refine c_region ?_
    refine o_move rfl rfl ?_
    refine o_move rfl rfl ?_
    refine o_nil rfl rfl ?_
    refine o_fieldAddr (q := ⟨b, 1, none⟩) rfl rfl Try.underlying61 rfl ti59 rfl ?_
    refine o_load1 rfl rfl Try.underlying59 rfl (rd_mem 3 rfl rfl) ?_
    refine o_cut (l' := 0) (h' := 3) (m := 3) rfl rfl Try.underlying59 ti57 (.inr ⟨_, _, rfl, icast rfl (by omega), (by omega)⟩) (.inr ⟨_, _, rfl, icast rfl (by omega), (by omega)⟩) (.inl ⟨rfl, rfl⟩) ?_
    obtain ⟨ys150, ay150, cut150, hys150, hlys150, eay150⟩ : ∃ ys_ ay_, (∀ {L : List Res}, RdS W L eN57 q1.ak (q1.kids.map Prod.fst) → RdS W L eN57 ay_ ys_) ∧ ys_ = sub (q1.kids.map Prod.fst) 0 3 ∧ ys_.length = 3 - 0 ∧ cutA q1.ak 3 0 1 = ay_ := ⟨_, _, fun h => rds_cut eN57_ok h _ _ _ (by omega), rfl, sub_len (by omega), rfl⟩
    refine l_eq (t := 150) (v' := .slice ay150 ys150.length (3 - 0)) rfl (by rw [eay150, hlys150]) ?_
    refine o_nil rfl rfl ?_
    refine o_fieldAddr (q := ⟨b, 1, none⟩) rfl rfl Try.underlying61 rfl ti59 rfl ?_
    refine l_f3 ?_
    refine o_store1 rfl rfl rfl ti59 rfl rfl ?_
    refine l_nil ?_
    refine q_then ?_
    refine c_seq ?_
    skip
    refine c_region ?_
    refine o_move rfl rfl ?_
    refine o_move rfl rfl ?_
    refine o_move rfl rfl ?_
    refine o_assign rfl rfl ?_
    refine o_assign rfl rfl ?_
    refine o_assign rfl rfl ?_
    refine o_assign rfl rfl ?_
    refine l_nil ?_
    refine q_then ?_
    refine c_ret ?_
    refine q_conv (fun w S => S.perm p2) ?_
    refine q_conv (fun w S => S.perm p4) ?_
    refine q_conv (fun w S => S.perm p3) ?_
    refine q_conv (fun w S => S.perm p6) ?_
    refine q_conv (fun w S => S.perm p7) ?_
    refine q_conv (fun w S => S.perm p6) ?_
    refine q_conv (fun w S => S.perm p7) ?_
    refine q_conv (fun w S => S.perm p7) ?_
    exact f_ret (r_four rfl rfl rfl rfl rfl) (⟨old, had, weave ((q1.kids.take 3).map Prod.snd) (q1.items.take 2), some (b12, x112, b121, weave ((q1.kids.drop 3).map Prod.snd) (q1.items.drop 3)), ⟨hpar.2.2, hmid.old⟩, rfl, rfl⟩) (fun w S => put_end e_ItA_ok eN57_ok (by omega) hk6 (hpar.1 _ _ _ _) (hpar.2.1 _ _ _ _) (by rw [hlys127, hlys150, ← eay127, ← eay150, cutA_0, cutA_0, hd118, hd141] at S; exact S))
   · -- h5F
    have h5b := h5
    try simp only [decide_eq_false_iff_not, Int.not_lt, Int.not_le] at h5
    have hk0 : q1.kids = [] := List.eq_nil_of_length_eq_zero (by have h8 : (q1.kids.map Prod.fst).length = q1.kids.length := List.length_map _; omega)
    refine c_skip ?_
    refine q_then ?_
    refine c_seq ?_
    skip
    refine c_region ?_
    refine o_move rfl rfl ?_
    refine o_move rfl rfl ?_
    refine o_move rfl rfl ?_
    refine o_assign rfl rfl ?_
    refine o_assign rfl rfl ?_
    refine o_assign rfl rfl ?_
    refine o_assign rfl rfl ?_
    refine l_nil ?_
    refine q_then ?_
    refine c_ret ?_
    refine q_conv (fun w S => S.perm p2) ?_
    refine q_conv (fun w S => S.perm p2) ?_
    refine q_conv (fun w S => S.perm p4) ?_
    refine q_conv (fun w S => S.perm p6) ?_
    refine q_conv (fun w S => S.perm p6) ?_
    refine q_conv (fun w S => S.perm p6) ?_
    refine q_conv (fun w S => S.perm p6) ?_
    exact f_ret (r_four rfl rfl rfl rfl rfl) (⟨old, had, weave ((q1.kids.take 3).map Prod.snd) (q1.items.take 2), some (b12, x112, b121, weave ((q1.kids.drop 3).map Prod.snd) (q1.items.drop 3)), ⟨hpar.2.2, hmid.old⟩, rfl, rfl⟩) (fun w S => put_end0 e_ItA_ok (by omega) hk0 (hpar.1 _ _ _ _) (hpar.2.1 _ _ _ _) (by rw [hlys127, ← eay127, cutA_0, hd118] at S; exact S))
theorem put_A : ∀ d, PutSpec_A d
  | 0 => put_step_A fun d' h => by omega
  | d + 1 => put_step_A fun d' h => by obtain rfl : d = d' := (by omega); exact put_A d
end
section
set_option linter.unusedVariables false
set_option linter.unusedSimpArgs false
set_option maxRecDepth 10000
open Go.RowKit Classical
def WalkSpec_A (d : Nat) : Prop := ∀ {W : World} {G : List Res} {mn b : Nat} {xs : List ItA} {y : Value} {I : List ItA → List Res → Prop} {J : List Res → Prop} {full pre : List ItA} {L0 : List Res} {fr : Option ByteArray} {fp : Option Addr}, Srt ItA.f_key strlt xs → FromOk (fun k : ByteArray => Value.string k) 9 G fr fp → I pre L0 → (pre ++ sel ItA.f_key strlt fr xs <+: full) → (∀ (Lx : List Res) pre x L, I pre L → pre ++ [x] <+: full → FV Try.prog y [.string x.f_key, .int .i64 x.f_value] W (Lx ++ L) (fun v L' => ∃ (bb : Bool) (L2 : List Res), v = .bool bb ∧ ((bb = true ∧ I (pre ++ [x]) L2) ∨ (bb = false ∧ J L2)) ∧ L' = Lx ++ L2)) → CS Try.prog 27 #[.pointer (some ⟨b, 0, none⟩), .pointer fp, y] W (nodeR e_ItA eN57 61 d mn b xs :: (G ++ L0)) (fun r L' => ∃ (bb : Bool) (L2 : List Res), r = .bool bb ∧ ((bb = true ∧ I (pre ++ sel ItA.f_key strlt fr xs) L2) ∨ (bb = false ∧ J L2)) ∧ L' = nodeR e_ItA eN57 61 d mn b xs :: (G ++ L2))
set_option maxHeartbeats 4000000 in
theorem walk_step_A {d : Nat} (ih : ∀ d', d = d' + 1 → WalkSpec_A d') : WalkSpec_A d := by
 unfold WalkSpec_A
 intro W G mn b xs y I J full pre L0 fr fp srt hfr hI0 hfull hy
 refine f_door (l0 := [(0, .pointer (some ⟨b, 0, none⟩)), (1, .pointer fp), (2, y)]) Try.func27 Try.ntmps27 rfl rfl rfl ?_
 refine c_seq ?_
 refine c_region ?_
 refine o_assign rfl rfl ?_
 refine l_nil ?_
 refine q_then ?_
 refine c_seq ?_
 refine c_node ?_
 rintro q hq
 have hsi := hq.srt strlt_sto srt
 have hle := hq.le
 have hsh := hq.sh
 have hor := hsh.or
 refine c_conv (L' := blk b (.cells #[.slice q.a (q.items).length q.c, .slice q.ak ((q.kids.map Prod.fst)).length q.ck] 61 (0, 0)) :: row e_ItA.T e_ItA.sz q.a (q.items).length q.c (flat e_ItA q.items) :: row eN57.T eN57.sz q.ak ((q.kids.map Prod.fst)).length q.ck (flat eN57 (q.kids.map Prod.fst)) :: kidsR e_ItA eN57 61 d q.kids :: (G ++ L0)) (fun w S => S) ?_
 have hxs := hq.is
 have hkm : (q.kids.map Prod.fst).length = q.kids.length := List.length_map _
 refine c_region ?_
 refine o_assign rfl rfl ?_
 refine l_nil ?_
 refine q_then ?_
 refine c_seq ?_
 refine c_seq ?_
 refine c_region ?_
 refine o_move rfl rfl ?_
 refine o_bin rfl rfl rfl (b_pne Try.underlying71 _) ?_
 refine l_nil ?_
 refine q_then ?_
 refine c_cond rfl (fun h1 => ?_) (fun h1 => ?_)
 · -- h1T
  have h1b := h1
  try simp only [decide_eq_true_eq, decide_eq_false_iff_not, Bool.not_eq_eq_eq_not, Bool.not_true, Bool.not_false, Bool.not_eq_true', Bool.not_eq_false', Int.not_lt, Int.not_le, Bool.or_eq_true, Bool.and_eq_true] at h1
  obtain ⟨k, kb, hfrk, hfpk, hin⟩ := hfr.some (fun h9 => by rw [h9] at h1b; simp at h1b)
  subst hfpk
  refine c_region ?_
  refine o_move rfl rfl ?_
  refine o_move rfl rfl ?_
  refine o_nil rfl rfl ?_
  refine o_load1 rfl rfl Try.underlying9 rfl (rd_in (List.mem_cons_of_mem _ (List.mem_cons_of_mem _ (List.mem_cons_of_mem _ (List.mem_cons_of_mem _ (List.mem_append_left _ hin)))))) ?_
  refine l_f1 ?_
  refine l_f1 ?_
  refine o_call rfl cal35 rfl (search_A (k := k) (by omega) hsi) ?_
  rintro _ _ ⟨i15, fd15, ⟨hF15, hfd15⟩, rfl, rfl⟩
  refine o_move rfl rfl ?_
  refine o_extract rfl rfl rfl ?_
  refine o_extract rfl rfl rfl ?_
  refine o_assign rfl rfl ?_
  refine l_nil ?_
  refine q_then ?_
  refine c_seq ?_
  refine c_block ?_
  refine c_loop (α := Nat × (Option ByteArray) × (Option Addr) × (List ItA) × (List Res)) (fun z => [(0, .pointer (some ⟨b, 0, none⟩)), (1, .pointer z.2.2.1), (2, y), (7, .int .i64 (z.1 : Int))]) (fun z => blk b (.cells #[.slice q.a (q.items).length q.c, .slice q.ak ((q.kids.map Prod.fst)).length q.ck] 61 (0, 0)) :: row e_ItA.T e_ItA.sz q.a (q.items).length q.c (flat e_ItA q.items) :: row eN57.T eN57.sz q.ak ((q.kids.map Prod.fst)).length q.ck (flat eN57 (q.kids.map Prod.fst)) :: kidsR e_ItA eN57 61 d q.kids :: (G ++ z.2.2.2.2)) (fun z => z.1 ≤ q.items.length + 1 ∧ FromOk (fun k : ByteArray => Value.string k) 9 G z.2.1 z.2.2.1 ∧ I z.2.2.2.1 z.2.2.2.2 ∧ z.2.2.2.1 ++ restW ItA.f_key strlt (q.kids.map Prod.snd) q.items z.1 z.2.1 = pre ++ sel ItA.f_key strlt fr xs) (fun z => q.items.length + 1 - z.1) (i15, some k, some ⟨kb, 0, none⟩, pre, L0) (by exact ⟨by have := hF15.le; omega, .inr ⟨k, kb, rfl, rfl, hin⟩, hI0, by rw [hfrk, hxs, ← rest_some strlt_sto hor hF15 (by have h9 := srt; rw [hxs] at h9; exact h9)]⟩) ⟨(by first | rfl | exact vint (by omega)), (by first | rfl | exact vint (by omega)), (by first | rfl | exact vint (by omega)), (by first | rfl | exact vint (by omega)), trivial⟩ (fun w S => S) ?_
  rintro ⟨i, fo, fp2, pre2, Lc⟩ ⟨hi, hfo, hI, hpre⟩
  try dsimp only at *
  refine c_seq ?_
  refine c_seq ?_
  refine c_region ?_
  refine o_move rfl rfl ?_
  refine o_move rfl rfl ?_
  refine o_nil rfl rfl ?_
  refine o_fieldAddr (q := ⟨b, 0, none⟩) rfl rfl Try.underlying61 rfl ti58 rfl ?_
  refine o_load1 rfl rfl Try.underlying58 rfl (rd_mem 0 rfl rfl) ?_
  refine o_len rfl rfl Try.underlying58 ?_
  refine o_bin rfl rfl rfl b_leq ?_
  refine l_nil ?_
  refine q_then ?_
  refine c_cond rfl (fun h2 => ?_) (fun h2 => ?_)
  · -- h2T
   have h2b := h2
   try simp only [decide_eq_true_eq] at h2
   refine c_skip ?_
   refine q_then ?_
   refine c_seq ?_
   refine c_block ?_
   refine c_seq ?_
   refine c_seq ?_
   refine c_region ?_
   refine o_move rfl rfl ?_
   refine o_move rfl rfl ?_
   refine o_nil rfl rfl ?_
   refine o_fieldAddr (q := ⟨b, 1, none⟩) rfl rfl Try.underlying61 rfl ti59 rfl ?_
   refine o_load1 rfl rfl Try.underlying59 rfl (rd_mem 0 rfl rfl) ?_
   refine o_len rfl rfl Try.underlying59 ?_
   refine o_bin rfl rfl rfl b_lss ?_
   refine o_move rfl rfl ?_
   refine l_split (t := 34) rfl (fun h3 => ?_) (fun h3 => ?_)
   · -- h3T
    have h3b := h3
    try simp only [decide_eq_true_eq] at h3
    refine o_yes rfl rfl rfl ?_
    refine o_move rfl rfl ?_
    refine o_yes rfl rfl rfl ?_
    refine o_nil rfl rfl ?_
    refine o_yes rfl rfl rfl ?_
    refine o_fieldAddr (q := ⟨b, 1, none⟩) rfl rfl Try.underlying61 rfl ti59 rfl ?_
    refine o_yes rfl rfl rfl ?_
    refine o_load1 rfl rfl Try.underlying59 rfl (rd_mem 0 rfl rfl) ?_
    refine o_yes rfl rfl rfl ?_
    refine o_move rfl rfl ?_
    refine o_yes rfl rfl rfl ?_
    refine o_index eN57_ok rfl rfl rfl Try.underlying59 (by omega) (by omega) (rds_own eN57_ok 2 rfl) fun ad40 ead40 => ?_
    obtain ⟨x40, hx40⟩ : ∃ x, ((q.kids.map Prod.fst))[((i : Int)).toNat]? = some x := ⟨_, List.getElem?_eq_getElem (by omega)⟩
    refine o_yes rfl rfl rfl ?_
    refine o_load1 rfl rfl Try.underlying57 rfl (rd_sl0 eN57_ok ead40 (rds_own eN57_ok 2 rfl) hx40 rfl) ?_
    obtain ⟨⟨kb2, ys⟩, hkid⟩ : ∃ z, q.kids[i]? = some z := ⟨_, List.getElem?_eq_getElem (by omega)⟩
    have hxk : x40 = kb2 := by have h9 := hx40; rw [show ((i : Int)).toNat = i from rfl, List.getElem?_map, hkid] at h9; exact (Option.some.inj h9).symm
    have hd0 : d ≠ 0 := by rcases hsh with ⟨_, h9⟩ | ⟨h9, _, _⟩; exact absurd (List.getElem?_eq_some_iff.1 hkid).1 (by rw [h9]; simp); exact h9
    obtain ⟨d', hd'⟩ : ∃ d', d = d' + 1 := ⟨d - 1, by omega⟩
    have hsy : Srt ItA.f_key strlt ys := by have h9 := srt; rw [hxs] at h9; exact srt_kid hor (show (q.kids.map Prod.snd)[i]? = some ys by rw [List.getElem?_map, hkid]; rfl) h9
    have hat : atK (q.kids.map Prod.snd) i = ys := by unfold atK; rw [List.getElem?_map, hkid]; rfl
    refine l_f3 ?_
    refine l_conv (L' := nodeR e_ItA eN57 61 d' 2 kb2 ys :: kidsR e_ItA eN57 61 d (q.kids.eraseIdx i) :: _) (fun w S => by have h9 := Sat.kid_take hkid S; rw [hd'] at h9 ⊢; exact h9) ?_
    refine l_eq (t := 41) (v' := .pointer (some ⟨kb2, 0, none⟩)) rfl (by rw [hxk]) ?_
    refine o_yes rfl rfl rfl ?_
    refine o_move rfl rfl ?_
    refine o_yes rfl rfl rfl ?_
    refine o_move rfl rfl ?_
    refine o_yes rfl rfl rfl ?_
    refine o_call rfl cal27 rfl (ih d' hd' (G := [kidsR e_ItA eN57 61 d (q.kids.eraseIdx i), blk b (.cells #[.slice q.a (q.items).length q.c, .slice q.ak ((q.kids.map Prod.fst)).length q.ck] 61 (0, 0)), row e_ItA.T e_ItA.sz q.a (q.items).length q.c (flat e_ItA q.items), row eN57.T eN57.sz q.ak ((q.kids.map Prod.fst)).length q.ck (flat eN57 (q.kids.map Prod.fst))] ++ G) (L0 := Lc) (pre := pre2) (full := full) hsy (hfo.more _) hI (by rw [← hat]; exact (List.IsPrefix.trans (by rw [← hpre]; unfold restW; rw [← List.append_assoc]; exact List.prefix_append _ _) hfull)) hy) ?_
    rintro _ _ ⟨bb44, L44, rfl, hbb44, rfl⟩
    refine l_conv (L' := nodeR e_ItA eN57 61 d' 2 kb2 ys :: kidsR e_ItA eN57 61 d (q.kids.eraseIdx i) :: blk b (.cells #[.slice q.a (q.items).length q.c, .slice q.ak ((q.kids.map Prod.fst)).length q.ck] 61 (0, 0)) :: row e_ItA.T e_ItA.sz q.a (q.items).length q.c (flat e_ItA q.items) :: row eN57.T eN57.sz q.ak ((q.kids.map Prod.fst)).length q.ck (flat eN57 (q.kids.map Prod.fst)) :: (G ++ L44)) (fun w S => S) ?_
    refine l_conv (L' := kidsR e_ItA eN57 61 d q.kids :: _) (fun w S => Sat.kid_back hkid (by rw [hd'] at S ⊢; exact S)) ?_
    refine o_yes rfl rfl rfl ?_
    refine o_not rfl rfl ?_
    refine o_pick_true rfl rfl rfl ?_
    refine l_nil ?_
    refine q_then ?_
    refine c_cond rfl (fun h4 => ?_) (fun h4 => ?_)
    · -- h4T
     have h4b := h4
     try simp only [decide_eq_true_eq, decide_eq_false_iff_not, Bool.not_eq_eq_eq_not, Bool.not_true, Bool.not_false, Bool.not_eq_true', Bool.not_eq_false', Int.not_lt, Int.not_le, Bool.or_eq_true, Bool.and_eq_true] at h4
     refine c_seq ?_
     refine c_region ?_
     refine o_assign rfl rfl ?_
     refine l_nil ?_
     refine q_then ?_
     refine c_ret ?_
     refine q_pass_ret ?_
     refine q_block_ret ?_
     refine q_pass_ret ?_
     refine q_pass_ret ?_
     refine q_block_ret ?_
     refine q_pass_ret ?_
     refine q_conv (fun w S => S.perm p3) ?_
     refine q_conv (fun w S => S.perm p3) ?_
     refine q_conv (fun w S => S.perm p3) ?_
     exact f_ret (r_one rfl rfl) (⟨false, L44, rfl, .inr ⟨rfl, or_no hbb44 (by assumption)⟩, rfl⟩) (fun w S => nodeMk q hq S)
    · -- h4F
     have h4b := h4
     try simp only [decide_eq_true_eq, decide_eq_false_iff_not, Bool.not_eq_eq_eq_not, Bool.not_true, Bool.not_false, Bool.not_eq_true', Bool.not_eq_false', Int.not_lt, Int.not_le, Bool.or_eq_true, Bool.and_eq_true] at h4
     refine c_skip ?_
     refine q_then ?_
     refine c_seq ?_
     have hI9 : I (pre2 ++ sel ItA.f_key strlt fo ys) L44 := or_yes hbb44 (by assumption)
     have hpre9 : (pre2 ++ sel ItA.f_key strlt fo ys) ++ post (q.items.drop i) ((q.kids.map Prod.snd).drop (i + 1)) = pre ++ sel ItA.f_key strlt fr xs := by rw [← hpre]; unfold restW; rw [hat, List.append_assoc]
     refine c_region ?_
     refine o_assign rfl rfl ?_
     refine l_nil ?_
     refine q_then ?_
     refine c_seq ?_
     refine (Classical.em (i < q.items.length)).elim (fun hs9 => ?_) (fun hs9 => ?_)
     · -- hs9 True
      refine c_fact (p := ∃ ad, q.a = some ad) (rds_some (e := e_ItA) (xs := q.items) (rds_own e_ItA_ok 2 rfl) (by intro h0; have h00 := congrArg List.length h0; simp only [List.length_nil] at h00; omega)) ?_
      rintro ⟨ad9, ead9⟩
      refine c_held [kidsR e_ItA eN57 61 d q.kids, blk b (.cells #[.slice q.a (q.items).length q.c, .slice q.ak ((q.kids.map Prod.fst)).length q.ck] 61 (0, 0)), row e_ItA.T e_ItA.sz q.a (q.items).length q.c (flat e_ItA q.items), row eN57.T eN57.sz q.ak ((q.kids.map Prod.fst)).length q.ck (flat eN57 (q.kids.map Prod.fst))] (by kernel_rfl) rfl ?_
      refine h_take 0 rfl rfl (by kernel_rfl) (by kernel_rfl) (by kernel_rfl) (fun L0 => v_move rfl rfl) ?_
      refine h_take 1 rfl rfl (by kernel_rfl) (by kernel_rfl) (by kernel_rfl) (fun L0 => v_move rfl rfl) ?_
      refine h_take 2 rfl rfl (by kernel_rfl) (by kernel_rfl) (by kernel_rfl) (fun L0 => v_nil rfl rfl) ?_
      refine h_take 3 rfl rfl (by kernel_rfl) (by kernel_rfl) (by kernel_rfl) (fun L0 => v_fieldAddr (q := ⟨b, 0, none⟩) rfl rfl Try.underlying61 rfl ti58 rfl) ?_
      refine h_take 4 rfl rfl (by kernel_rfl) (by kernel_rfl) (by kernel_rfl) (fun L0 => v_load1 rfl rfl Try.underlying58 rfl (rd_mem 1 rfl rfl)) ?_
      refine h_take 5 rfl rfl (by kernel_rfl) (by kernel_rfl) (by kernel_rfl) (fun L0 => v_len rfl rfl Try.underlying58) ?_
      refine h_take 6 rfl rfl (by kernel_rfl) (by kernel_rfl) (by kernel_rfl) (fun L0 => v_bin rfl rfl rfl b_lss) ?_
      refine h_eq (t := 53) (v' := .bool true) rfl (show _ = Value.bool true from by rw [decide_eq_true (by omega)]) ?_
      refine h_take 7 rfl rfl (by kernel_rfl) (by kernel_rfl) (by kernel_rfl) (fun L0 => v_move rfl rfl) ?_
      refine h_take_yes 8 rfl rfl rfl rfl rfl (by kernel_rfl) (by kernel_rfl) (by kernel_rfl) (fun L0 => v_move rfl rfl) ?_
      refine h_take_yes 9 rfl rfl rfl rfl rfl (by kernel_rfl) (by kernel_rfl) (by kernel_rfl) (fun L0 => v_move rfl rfl) ?_
      refine h_take_yes 10 rfl rfl rfl rfl rfl (by kernel_rfl) (by kernel_rfl) (by kernel_rfl) (fun L0 => v_nil rfl rfl) ?_
      refine h_take_yes 11 rfl rfl rfl rfl rfl (by kernel_rfl) (by kernel_rfl) (by kernel_rfl) (fun L0 => v_fieldAddr (q := ⟨b, 0, none⟩) rfl rfl Try.underlying61 rfl ti58 rfl) ?_
      refine h_take_yes 12 rfl rfl rfl rfl rfl (by kernel_rfl) (by kernel_rfl) (by kernel_rfl) (fun L0 => v_load1 rfl rfl Try.underlying58 rfl (rd_mem 1 rfl rfl)) ?_
      refine h_take_yes 13 rfl rfl rfl rfl rfl (by kernel_rfl) (by kernel_rfl) (by kernel_rfl) (fun L0 => v_move rfl rfl) ?_
      refine h_take_yes 14 rfl rfl rfl rfl rfl (by kernel_rfl) (by kernel_rfl) (by kernel_rfl) (fun L0 => v_indexK e_ItA_ok ead9 rfl rfl rfl Try.underlying58 (by omega) (by omega)) ?_
      obtain ⟨x61, hx61⟩ : ∃ x, (q.items)[((i : Int)).toNat]? = some x := ⟨_, List.getElem?_eq_getElem (by omega)⟩
      have hx61' : q.items[i]? = some x61 := hx61
      refine h_take_yes 15 rfl rfl rfl rfl rfl (by kernel_rfl) (by kernel_rfl) (by kernel_rfl) (fun L0 => v_fieldAddr rfl rfl Try.underlying68 rfl ti9 (Addr.add_add' _ _ _)) ?_
      refine h_take_yes 16 rfl rfl rfl rfl rfl (by kernel_rfl) (by kernel_rfl) (by kernel_rfl) (fun L0 => v_load1 rfl rfl Try.underlying9 rfl (rd_sl e_ItA_ok ead9 (rds_own e_ItA_ok 2 rfl) hx61 rfl)) ?_
      refine h_take_yes 17 rfl rfl rfl rfl rfl (by kernel_rfl) (by kernel_rfl) (by kernel_rfl) (fun L0 => v_move rfl rfl) ?_
      refine h_take_yes 18 rfl rfl rfl rfl rfl (by kernel_rfl) (by kernel_rfl) (by kernel_rfl) (fun L0 => v_nil rfl rfl) ?_
      refine h_take_yes 19 rfl rfl rfl rfl rfl (by kernel_rfl) (by kernel_rfl) (by kernel_rfl) (fun L0 => v_fieldAddr (q := ⟨b, 0, none⟩) rfl rfl Try.underlying61 rfl ti58 rfl) ?_
      refine h_take_yes 20 rfl rfl rfl rfl rfl (by kernel_rfl) (by kernel_rfl) (by kernel_rfl) (fun L0 => v_load1 rfl rfl Try.underlying58 rfl (rd_mem 1 rfl rfl)) ?_
      refine h_take_yes 21 rfl rfl rfl rfl rfl (by kernel_rfl) (by kernel_rfl) (by kernel_rfl) (fun L0 => v_move rfl rfl) ?_
      refine h_take_yes 22 rfl rfl rfl rfl rfl (by kernel_rfl) (by kernel_rfl) (by kernel_rfl) (fun L0 => v_indexK e_ItA_ok ead9 rfl rfl rfl Try.underlying58 (by omega) (by omega)) ?_
      obtain ⟨x69, hx69⟩ : ∃ x, (q.items)[((i : Int)).toNat]? = some x := ⟨_, List.getElem?_eq_getElem (by omega)⟩
      have e69 : x69 = x61 := by rw [hx61] at hx69; exact (Option.some.inj hx69).symm
      refine h_take_yes 23 rfl rfl rfl rfl rfl (by kernel_rfl) (by kernel_rfl) (by kernel_rfl) (fun L0 => v_fieldAddr rfl rfl Try.underlying68 rfl ti3 (Addr.add_add' _ _ _)) ?_
      refine h_take_yes 24 rfl rfl rfl rfl rfl (by kernel_rfl) (by kernel_rfl) (by kernel_rfl) (fun L0 => v_load1 rfl rfl Try.underlying3 rfl (rd_sl e_ItA_ok ead9 (rds_own e_ItA_ok 2 rfl) hx69 rfl)) ?_
      refine h_eq (t := 71) (v' := .int .i64 x61.f_value) rfl (by rw [e69]) ?_
      refine h_one 25 rfl (by kernel_rfl) ?_
      refine o_yes rfl rfl rfl ?_
      refine l_conv (L' := ([kidsR e_ItA eN57 61 d q.kids, blk b (.cells #[.slice q.a (q.items).length q.c, .slice q.ak ((q.kids.map Prod.fst)).length q.ck] 61 (0, 0)), row e_ItA.T e_ItA.sz q.a (q.items).length q.c (flat e_ItA q.items), row eN57.T eN57.sz q.ak ((q.kids.map Prod.fst)).length q.ck (flat eN57 (q.kids.map Prod.fst))] ++ G) ++ L44) (fun w S => S) ?_
      refine o_callV rfl rfl rfl (hy ([kidsR e_ItA eN57 61 d q.kids, blk b (.cells #[.slice q.a (q.items).length q.c, .slice q.ak ((q.kids.map Prod.fst)).length q.ck] 61 (0, 0)), row e_ItA.T e_ItA.sz q.a (q.items).length q.c (flat e_ItA q.items), row eN57.T eN57.sz q.ak ((q.kids.map Prod.fst)).length q.ck (flat eN57 (q.kids.map Prod.fst))] ++ G) (pre2 ++ sel ItA.f_key strlt fo ys) x61 L44 hI9 (List.IsPrefix.trans (by rw [← hpre9]; rw [rest_item (key := ItA.f_key) (lt := strlt) hor hx61']; exact prefix_snoc) hfull)) ?_
      rintro _ _ ⟨bb72, L72, rfl, hbb72, rfl⟩
      refine l_conv (L' := kidsR e_ItA eN57 61 d q.kids :: blk b (.cells #[.slice q.a (q.items).length q.c, .slice q.ak ((q.kids.map Prod.fst)).length q.ck] 61 (0, 0)) :: row e_ItA.T e_ItA.sz q.a (q.items).length q.c (flat e_ItA q.items) :: row eN57.T eN57.sz q.ak ((q.kids.map Prod.fst)).length q.ck (flat eN57 (q.kids.map Prod.fst)) :: (G ++ L72)) (fun w S => S) ?_
      refine l_nil ?_
      refine h_next ?_
      refine h_take_yes 26 rfl rfl rfl rfl rfl (by kernel_rfl) (by kernel_rfl) (by kernel_rfl) (fun L0 => v_not rfl rfl) ?_
      refine h_take 27 rfl rfl (by kernel_rfl) (by kernel_rfl) (by kernel_rfl) (fun L0 => v_pick_true rfl rfl rfl) ?_
      refine h_done (by kernel_rfl) ?_
      refine q_then ?_
      refine c_cond rfl (fun h5 => ?_) (fun h5 => ?_)
      · -- h5T
       have h5b := h5
       try simp only [decide_eq_true_eq, decide_eq_false_iff_not, Bool.not_eq_eq_eq_not, Bool.not_true, Bool.not_false, Bool.not_eq_true', Bool.not_eq_false', Int.not_lt, Int.not_le, Bool.or_eq_true, Bool.and_eq_true] at h5
       refine c_seq ?_
       refine c_region ?_
       refine o_assign rfl rfl ?_
       refine l_nil ?_
       refine q_then ?_
       refine c_ret ?_
       refine q_block_ret ?_
       refine q_pass_ret ?_
       refine q_pass_ret ?_
       refine q_block_ret ?_
       refine q_pass_ret ?_
       refine q_conv (fun w S => S.perm p3) ?_
       refine q_conv (fun w S => S.perm p3) ?_
       refine q_conv (fun w S => S.perm p3) ?_
       exact f_ret (r_one rfl rfl) (⟨false, L72, rfl, .inr ⟨rfl, or_no hbb72 (by assumption)⟩, rfl⟩) (fun w S => nodeMk q hq S)
      · -- h5F
       have h5b := h5
       try simp only [decide_eq_true_eq, decide_eq_false_iff_not, Bool.not_eq_eq_eq_not, Bool.not_true, Bool.not_false, Bool.not_eq_true', Bool.not_eq_false', Int.not_lt, Int.not_le, Bool.or_eq_true, Bool.and_eq_true] at h5
       refine c_skip ?_
       refine q_block ?_
       refine q_then ?_
       refine c_region ?_
       refine o_move rfl rfl ?_
       refine o_bin rfl rfl rfl (b_add (wrap_i64 (by omega) (by omega))) ?_
       refine o_assign rfl rfl ?_
       refine l_nil ?_
       refine q_conv (fun w S => S.perm p3) ?_
       refine q_conv (fun w S => S.perm p3) ?_
       refine q_conv (fun w S => S.perm p3) ?_
       exact q_round (i + 1, none, none, ((pre2 ++ sel ItA.f_key strlt fo ys) ++ [x61]), L72) (by exact ⟨by omega, .inl ⟨rfl, rfl⟩, or_yes hbb72 (by assumption), by rw [← hpre9, rest_item (key := ItA.f_key) (lt := strlt) hor hx61', List.append_assoc]; rfl⟩) (by (try dsimp only); omega) ⟨(by first | rfl | exact vint (by omega)), (by first | rfl | exact vint (by omega)), (by first | rfl | exact vint (by omega)), (by first | rfl | exact vint (by omega)), trivial⟩ (fun w S => S)
     · -- hs9 False
      refine c_held [kidsR e_ItA eN57 61 d q.kids, blk b (.cells #[.slice q.a (q.items).length q.c, .slice q.ak ((q.kids.map Prod.fst)).length q.ck] 61 (0, 0)), row e_ItA.T e_ItA.sz q.a (q.items).length q.c (flat e_ItA q.items), row eN57.T eN57.sz q.ak ((q.kids.map Prod.fst)).length q.ck (flat eN57 (q.kids.map Prod.fst))] (by kernel_rfl) rfl ?_
      refine h_take 0 rfl rfl (by kernel_rfl) (by kernel_rfl) (by kernel_rfl) (fun L0 => v_move rfl rfl) ?_
      refine h_take 1 rfl rfl (by kernel_rfl) (by kernel_rfl) (by kernel_rfl) (fun L0 => v_move rfl rfl) ?_
      refine h_take 2 rfl rfl (by kernel_rfl) (by kernel_rfl) (by kernel_rfl) (fun L0 => v_nil rfl rfl) ?_
      refine h_take 3 rfl rfl (by kernel_rfl) (by kernel_rfl) (by kernel_rfl) (fun L0 => v_fieldAddr (q := ⟨b, 0, none⟩) rfl rfl Try.underlying61 rfl ti58 rfl) ?_
      refine h_take 4 rfl rfl (by kernel_rfl) (by kernel_rfl) (by kernel_rfl) (fun L0 => v_load1 rfl rfl Try.underlying58 rfl (rd_mem 1 rfl rfl)) ?_
      refine h_take 5 rfl rfl (by kernel_rfl) (by kernel_rfl) (by kernel_rfl) (fun L0 => v_len rfl rfl Try.underlying58) ?_
      refine h_take 6 rfl rfl (by kernel_rfl) (by kernel_rfl) (by kernel_rfl) (fun L0 => v_bin rfl rfl rfl b_lss) ?_
      refine h_eq (t := 53) (v' := .bool false) rfl (show _ = Value.bool false from by rw [decide_eq_false (by omega)]) ?_
      refine h_take 7 rfl rfl (by kernel_rfl) (by kernel_rfl) (by kernel_rfl) (fun L0 => v_move rfl rfl) ?_
      refine h_take_no 8 rfl rfl rfl rfl rfl (by kernel_rfl) (by kernel_rfl) (by kernel_rfl) ?_
      refine h_take_no 9 rfl rfl rfl rfl rfl (by kernel_rfl) (by kernel_rfl) (by kernel_rfl) ?_
      refine h_take_no 10 rfl rfl rfl rfl rfl (by kernel_rfl) (by kernel_rfl) (by kernel_rfl) ?_
      refine h_take_no 11 rfl rfl rfl rfl rfl (by kernel_rfl) (by kernel_rfl) (by kernel_rfl) ?_
      refine h_take_no 12 rfl rfl rfl rfl rfl (by kernel_rfl) (by kernel_rfl) (by kernel_rfl) ?_
      refine h_take_no 13 rfl rfl rfl rfl rfl (by kernel_rfl) (by kernel_rfl) (by kernel_rfl) ?_
      refine h_take_no 14 rfl rfl rfl rfl rfl (by kernel_rfl) (by kernel_rfl) (by kernel_rfl) ?_
      refine h_take_no 15 rfl rfl rfl rfl rfl (by kernel_rfl) (by kernel_rfl) (by kernel_rfl) ?_
      refine h_take_no 16 rfl rfl rfl rfl rfl (by kernel_rfl) (by kernel_rfl) (by kernel_rfl) ?_
      refine h_take_no 17 rfl rfl rfl rfl rfl (by kernel_rfl) (by kernel_rfl) (by kernel_rfl) ?_
      refine h_take_no 18 rfl rfl rfl rfl rfl (by kernel_rfl) (by kernel_rfl) (by kernel_rfl) ?_
      refine h_take_no 19 rfl rfl rfl rfl rfl (by kernel_rfl) (by kernel_rfl) (by kernel_rfl) ?_
      refine h_take_no 20 rfl rfl rfl rfl rfl (by kernel_rfl) (by kernel_rfl) (by kernel_rfl) ?_
      refine h_take_no 21 rfl rfl rfl rfl rfl (by kernel_rfl) (by kernel_rfl) (by kernel_rfl) ?_
      refine h_take_no 22 rfl rfl rfl rfl rfl (by kernel_rfl) (by kernel_rfl) (by kernel_rfl) ?_
      refine h_take_no 23 rfl rfl rfl rfl rfl (by kernel_rfl) (by kernel_rfl) (by kernel_rfl) ?_
      refine h_take_no 24 rfl rfl rfl rfl rfl (by kernel_rfl) (by kernel_rfl) (by kernel_rfl) ?_
      refine h_take_no 25 rfl rfl rfl rfl rfl (by kernel_rfl) (by kernel_rfl) (by kernel_rfl) ?_
      refine h_take_no 26 rfl rfl rfl rfl rfl (by kernel_rfl) (by kernel_rfl) (by kernel_rfl) ?_
      refine h_take 27 rfl rfl (by kernel_rfl) (by kernel_rfl) (by kernel_rfl) (fun L0 => v_pick_false rfl rfl rfl) ?_
      refine h_done (by kernel_rfl) ?_
      refine q_then ?_
      refine c_false rfl ?_
      refine c_skip ?_
      refine q_block ?_
      refine q_then ?_
      refine c_region ?_
      refine o_move rfl rfl ?_
      refine o_bin rfl rfl rfl (b_add (wrap_i64 (by omega) (by omega))) ?_
      refine o_assign rfl rfl ?_
      refine l_nil ?_
      refine q_conv (fun w S => S.perm p3) ?_
      refine q_conv (fun w S => S.perm p3) ?_
      refine q_conv (fun w S => S.perm p3) ?_
      exact q_round (i + 1, none, none, (pre2 ++ sel ItA.f_key strlt fo ys), L44) (by exact ⟨by omega, .inl ⟨rfl, rfl⟩, hI9, by rw [← hpre9, rest_end (key := ItA.f_key) (lt := strlt) hor (by omega)]⟩) (by (try dsimp only); omega) ⟨(by first | rfl | exact vint (by omega)), (by first | rfl | exact vint (by omega)), (by first | rfl | exact vint (by omega)), (by first | rfl | exact vint (by omega)), trivial⟩ (fun w S => S)
   · -- h3F
    have h3b := h3
    try simp only [decide_eq_false_iff_not, Int.not_lt, Int.not_le] at h3
    refine o_no rfl rfl rfl rfl ?_
    refine o_no rfl rfl rfl rfl ?_
    refine o_no rfl rfl rfl rfl ?_
    refine o_no rfl rfl rfl rfl ?_
    refine o_no rfl rfl rfl rfl ?_
    refine o_no rfl rfl rfl rfl ?_
    refine o_no rfl rfl rfl rfl ?_
    refine o_no rfl rfl rfl rfl ?_
    refine o_no rfl rfl rfl rfl ?_
    refine o_no rfl rfl rfl rfl ?_
    refine o_no rfl rfl rfl rfl ?_
    refine o_pick_false rfl rfl rfl ?_
    refine l_nil ?_
    refine q_then ?_
    refine c_false rfl ?_
    refine c_skip ?_
    refine q_then ?_
    refine c_seq ?_
    have hat : atK (q.kids.map Prod.snd) i = [] := by unfold atK; rw [List.getElem?_eq_none (by rw [List.length_map]; omega)]; rfl
    have hI9 := hI
    have hpre9 : pre2 ++ post (q.items.drop i) ((q.kids.map Prod.snd).drop (i + 1)) = pre ++ sel ItA.f_key strlt fr xs := by rw [← hpre]; unfold restW; rw [hat, sel_nil, List.nil_append]
    refine c_region ?_
    refine o_assign rfl rfl ?_
    refine l_nil ?_
    refine q_then ?_
    refine c_seq ?_
    refine (Classical.em (i < q.items.length)).elim (fun hs9 => ?_) (fun hs9 => ?_)
    · -- hs9 True
     refine c_fact (p := ∃ ad, q.a = some ad) (rds_some (e := e_ItA) (xs := q.items) (rds_own e_ItA_ok 1 rfl) (by intro h0; have h00 := congrArg List.length h0; simp only [List.length_nil] at h00; omega)) ?_
     rintro ⟨ad9, ead9⟩
     refine c_held [blk b (.cells #[.slice q.a (q.items).length q.c, .slice q.ak ((q.kids.map Prod.fst)).length q.ck] 61 (0, 0)), row e_ItA.T e_ItA.sz q.a (q.items).length q.c (flat e_ItA q.items), row eN57.T eN57.sz q.ak ((q.kids.map Prod.fst)).length q.ck (flat eN57 (q.kids.map Prod.fst)), kidsR e_ItA eN57 61 d q.kids] (by kernel_rfl) rfl ?_
     refine h_take 0 rfl rfl (by kernel_rfl) (by kernel_rfl) (by kernel_rfl) (fun L0 => v_move rfl rfl) ?_
     refine h_take 1 rfl rfl (by kernel_rfl) (by kernel_rfl) (by kernel_rfl) (fun L0 => v_move rfl rfl) ?_
     refine h_take 2 rfl rfl (by kernel_rfl) (by kernel_rfl) (by kernel_rfl) (fun L0 => v_nil rfl rfl) ?_
     refine h_take 3 rfl rfl (by kernel_rfl) (by kernel_rfl) (by kernel_rfl) (fun L0 => v_fieldAddr (q := ⟨b, 0, none⟩) rfl rfl Try.underlying61 rfl ti58 rfl) ?_
     refine h_take 4 rfl rfl (by kernel_rfl) (by kernel_rfl) (by kernel_rfl) (fun L0 => v_load1 rfl rfl Try.underlying58 rfl (rd_mem 0 rfl rfl)) ?_
     refine h_take 5 rfl rfl (by kernel_rfl) (by kernel_rfl) (by kernel_rfl) (fun L0 => v_len rfl rfl Try.underlying58) ?_
     refine h_take 6 rfl rfl (by kernel_rfl) (by kernel_rfl) (by kernel_rfl) (fun L0 => v_bin rfl rfl rfl b_lss) ?_
     refine h_eq (t := 53) (v' := .bool true) rfl (show _ = Value.bool true from by rw [decide_eq_true (by omega)]) ?_
     refine h_take 7 rfl rfl (by kernel_rfl) (by kernel_rfl) (by kernel_rfl) (fun L0 => v_move rfl rfl) ?_
     refine h_take_yes 8 rfl rfl rfl rfl rfl (by kernel_rfl) (by kernel_rfl) (by kernel_rfl) (fun L0 => v_move rfl rfl) ?_
     refine h_take_yes 9 rfl rfl rfl rfl rfl (by kernel_rfl) (by kernel_rfl) (by kernel_rfl) (fun L0 => v_move rfl rfl) ?_
     refine h_take_yes 10 rfl rfl rfl rfl rfl (by kernel_rfl) (by kernel_rfl) (by kernel_rfl) (fun L0 => v_nil rfl rfl) ?_
     refine h_take_yes 11 rfl rfl rfl rfl rfl (by kernel_rfl) (by kernel_rfl) (by kernel_rfl) (fun L0 => v_fieldAddr (q := ⟨b, 0, none⟩) rfl rfl Try.underlying61 rfl ti58 rfl) ?_
     refine h_take_yes 12 rfl rfl rfl rfl rfl (by kernel_rfl) (by kernel_rfl) (by kernel_rfl) (fun L0 => v_load1 rfl rfl Try.underlying58 rfl (rd_mem 0 rfl rfl)) ?_
     refine h_take_yes 13 rfl rfl rfl rfl rfl (by kernel_rfl) (by kernel_rfl) (by kernel_rfl) (fun L0 => v_move rfl rfl) ?_
     refine h_take_yes 14 rfl rfl rfl rfl rfl (by kernel_rfl) (by kernel_rfl) (by kernel_rfl) (fun L0 => v_indexK e_ItA_ok ead9 rfl rfl rfl Try.underlying58 (by omega) (by omega)) ?_
     obtain ⟨x61, hx61⟩ : ∃ x, (q.items)[((i : Int)).toNat]? = some x := ⟨_, List.getElem?_eq_getElem (by omega)⟩
     have hx61' : q.items[i]? = some x61 := hx61
     refine h_take_yes 15 rfl rfl rfl rfl rfl (by kernel_rfl) (by kernel_rfl) (by kernel_rfl) (fun L0 => v_fieldAddr rfl rfl Try.underlying68 rfl ti9 (Addr.add_add' _ _ _)) ?_
     refine h_take_yes 16 rfl rfl rfl rfl rfl (by kernel_rfl) (by kernel_rfl) (by kernel_rfl) (fun L0 => v_load1 rfl rfl Try.underlying9 rfl (rd_sl e_ItA_ok ead9 (rds_own e_ItA_ok 1 rfl) hx61 rfl)) ?_
     refine h_take_yes 17 rfl rfl rfl rfl rfl (by kernel_rfl) (by kernel_rfl) (by kernel_rfl) (fun L0 => v_move rfl rfl) ?_
     refine h_take_yes 18 rfl rfl rfl rfl rfl (by kernel_rfl) (by kernel_rfl) (by kernel_rfl) (fun L0 => v_nil rfl rfl) ?_
     refine h_take_yes 19 rfl rfl rfl rfl rfl (by kernel_rfl) (by kernel_rfl) (by kernel_rfl) (fun L0 => v_fieldAddr (q := ⟨b, 0, none⟩) rfl rfl Try.underlying61 rfl ti58 rfl) ?_
     refine h_take_yes 20 rfl rfl rfl rfl rfl (by kernel_rfl) (by kernel_rfl) (by kernel_rfl) (fun L0 => v_load1 rfl rfl Try.underlying58 rfl (rd_mem 0 rfl rfl)) ?_
     refine h_take_yes 21 rfl rfl rfl rfl rfl (by kernel_rfl) (by kernel_rfl) (by kernel_rfl) (fun L0 => v_move rfl rfl) ?_
     refine h_take_yes 22 rfl rfl rfl rfl rfl (by kernel_rfl) (by kernel_rfl) (by kernel_rfl) (fun L0 => v_indexK e_ItA_ok ead9 rfl rfl rfl Try.underlying58 (by omega) (by omega)) ?_
     obtain ⟨x69, hx69⟩ : ∃ x, (q.items)[((i : Int)).toNat]? = some x := ⟨_, List.getElem?_eq_getElem (by omega)⟩
     have e69 : x69 = x61 := by rw [hx61] at hx69; exact (Option.some.inj hx69).symm
     refine h_take_yes 23 rfl rfl rfl rfl rfl (by kernel_rfl) (by kernel_rfl) (by kernel_rfl) (fun L0 => v_fieldAddr rfl rfl Try.underlying68 rfl ti3 (Addr.add_add' _ _ _)) ?_
     refine h_take_yes 24 rfl rfl rfl rfl rfl (by kernel_rfl) (by kernel_rfl) (by kernel_rfl) (fun L0 => v_load1 rfl rfl Try.underlying3 rfl (rd_sl e_ItA_ok ead9 (rds_own e_ItA_ok 1 rfl) hx69 rfl)) ?_
     refine h_eq (t := 71) (v' := .int .i64 x61.f_value) rfl (by rw [e69]) ?_
     refine h_one 25 rfl (by kernel_rfl) ?_
     refine o_yes rfl rfl rfl ?_
     refine l_conv (L' := ([blk b (.cells #[.slice q.a (q.items).length q.c, .slice q.ak ((q.kids.map Prod.fst)).length q.ck] 61 (0, 0)), row e_ItA.T e_ItA.sz q.a (q.items).length q.c (flat e_ItA q.items), row eN57.T eN57.sz q.ak ((q.kids.map Prod.fst)).length q.ck (flat eN57 (q.kids.map Prod.fst)), kidsR e_ItA eN57 61 d q.kids] ++ G) ++ Lc) (fun w S => S) ?_
     refine o_callV rfl rfl rfl (hy ([blk b (.cells #[.slice q.a (q.items).length q.c, .slice q.ak ((q.kids.map Prod.fst)).length q.ck] 61 (0, 0)), row e_ItA.T e_ItA.sz q.a (q.items).length q.c (flat e_ItA q.items), row eN57.T eN57.sz q.ak ((q.kids.map Prod.fst)).length q.ck (flat eN57 (q.kids.map Prod.fst)), kidsR e_ItA eN57 61 d q.kids] ++ G) pre2 x61 Lc hI9 (List.IsPrefix.trans (by rw [← hpre9]; rw [rest_item (key := ItA.f_key) (lt := strlt) hor hx61']; exact prefix_snoc) hfull)) ?_
     rintro _ _ ⟨bb72, L72, rfl, hbb72, rfl⟩
     refine l_conv (L' := blk b (.cells #[.slice q.a (q.items).length q.c, .slice q.ak ((q.kids.map Prod.fst)).length q.ck] 61 (0, 0)) :: row e_ItA.T e_ItA.sz q.a (q.items).length q.c (flat e_ItA q.items) :: row eN57.T eN57.sz q.ak ((q.kids.map Prod.fst)).length q.ck (flat eN57 (q.kids.map Prod.fst)) :: kidsR e_ItA eN57 61 d q.kids :: (G ++ L72)) (fun w S => S) ?_
     refine l_nil ?_
     refine h_next ?_
     refine h_take_yes 26 rfl rfl rfl rfl rfl (by kernel_rfl) (by kernel_rfl) (by kernel_rfl) (fun L0 => v_not rfl rfl) ?_
     refine h_take 27 rfl rfl (by kernel_rfl) (by kernel_rfl) (by kernel_rfl) (fun L0 => v_pick_true rfl rfl rfl) ?_
     refine h_done (by kernel_rfl) ?_
     refine q_then ?_
     refine c_cond rfl (fun h6 => ?_) (fun h6 => ?_)
     · -- h6T
      have h6b := h6
      try simp only [decide_eq_true_eq, decide_eq_false_iff_not, Bool.not_eq_eq_eq_not, Bool.not_true, Bool.not_false, Bool.not_eq_true', Bool.not_eq_false', Int.not_lt, Int.not_le, Bool.or_eq_true, Bool.and_eq_true] at h6
      refine c_seq ?_
      refine c_region ?_
      refine o_assign rfl rfl ?_
      refine l_nil ?_
      refine q_then ?_
      refine c_ret ?_
      refine q_block_ret ?_
      refine q_pass_ret ?_
      refine q_pass_ret ?_
      refine q_block_ret ?_
      refine q_pass_ret ?_
      exact f_ret (r_one rfl rfl) (⟨false, L72, rfl, .inr ⟨rfl, or_no hbb72 (by assumption)⟩, rfl⟩) (fun w S => nodeMk q hq S)
     · -- h6F
      have h6b := h6
      try simp only [decide_eq_true_eq, decide_eq_false_iff_not, Bool.not_eq_eq_eq_not, Bool.not_true, Bool.not_false, Bool.not_eq_true', Bool.not_eq_false', Int.not_lt, Int.not_le, Bool.or_eq_true, Bool.and_eq_true] at h6
      refine c_skip ?_
      refine q_block ?_
      refine q_then ?_
      refine c_region ?_
      refine o_move rfl rfl ?_
      refine o_bin rfl rfl rfl (b_add (wrap_i64 (by omega) (by omega))) ?_
      refine o_assign rfl rfl ?_
      refine l_nil ?_
      exact q_round (i + 1, none, none, (pre2 ++ [x61]), L72) (by exact ⟨by omega, .inl ⟨rfl, rfl⟩, or_yes hbb72 (by assumption), by rw [← hpre9, rest_item (key := ItA.f_key) (lt := strlt) hor hx61', List.append_assoc]; rfl⟩) (by (try dsimp only); omega) ⟨(by first | rfl | exact vint (by omega)), (by first | rfl | exact vint (by omega)), (by first | rfl | exact vint (by omega)), (by first | rfl | exact vint (by omega)), trivial⟩ (fun w S => S)
    · -- hs9 False
     refine c_held [blk b (.cells #[.slice q.a (q.items).length q.c, .slice q.ak ((q.kids.map Prod.fst)).length q.ck] 61 (0, 0)), row e_ItA.T e_ItA.sz q.a (q.items).length q.c (flat e_ItA q.items), row eN57.T eN57.sz q.ak ((q.kids.map Prod.fst)).length q.ck (flat eN57 (q.kids.map Prod.fst)), kidsR e_ItA eN57 61 d q.kids] (by kernel_rfl) rfl ?_
     refine h_take 0 rfl rfl (by kernel_rfl) (by kernel_rfl) (by kernel_rfl) (fun L0 => v_move rfl rfl) ?_
     refine h_take 1 rfl rfl (by kernel_rfl) (by kernel_rfl) (by kernel_rfl) (fun L0 => v_move rfl rfl) ?_
     refine h_take 2 rfl rfl (by kernel_rfl) (by kernel_rfl) (by kernel_rfl) (fun L0 => v_nil rfl rfl) ?_
     refine h_take 3 rfl rfl (by kernel_rfl) (by kernel_rfl) (by kernel_rfl) (fun L0 => v_fieldAddr (q := ⟨b, 0, none⟩) rfl rfl Try.underlying61 rfl ti58 rfl) ?_
     refine h_take 4 rfl rfl (by kernel_rfl) (by kernel_rfl) (by kernel_rfl) (fun L0 => v_load1 rfl rfl Try.underlying58 rfl (rd_mem 0 rfl rfl)) ?_
     refine h_take 5 rfl rfl (by kernel_rfl) (by kernel_rfl) (by kernel_rfl) (fun L0 => v_len rfl rfl Try.underlying58) ?_
     refine h_take 6 rfl rfl (by kernel_rfl) (by kernel_rfl) (by kernel_rfl) (fun L0 => v_bin rfl rfl rfl b_lss) ?_
     refine h_eq (t := 53) (v' := .bool false) rfl (show _ = Value.bool false from by rw [decide_eq_false (by omega)]) ?_
     refine h_take 7 rfl rfl (by kernel_rfl) (by kernel_rfl) (by kernel_rfl) (fun L0 => v_move rfl rfl) ?_
     refine h_take_no 8 rfl rfl rfl rfl rfl (by kernel_rfl) (by kernel_rfl) (by kernel_rfl) ?_
     refine h_take_no 9 rfl rfl rfl rfl rfl (by kernel_rfl) (by kernel_rfl) (by kernel_rfl) ?_
     refine h_take_no 10 rfl rfl rfl rfl rfl (by kernel_rfl) (by kernel_rfl) (by kernel_rfl) ?_
     refine h_take_no 11 rfl rfl rfl rfl rfl (by kernel_rfl) (by kernel_rfl) (by kernel_rfl) ?_
     refine h_take_no 12 rfl rfl rfl rfl rfl (by kernel_rfl) (by kernel_rfl) (by kernel_rfl) ?_
     refine h_take_no 13 rfl rfl rfl rfl rfl (by kernel_rfl) (by kernel_rfl) (by kernel_rfl) ?_
     refine h_take_no 14 rfl rfl rfl rfl rfl (by kernel_rfl) (by kernel_rfl) (by kernel_rfl) ?_
     refine h_take_no 15 rfl rfl rfl rfl rfl (by kernel_rfl) (by kernel_rfl) (by kernel_rfl) ?_
     refine h_take_no 16 rfl rfl rfl rfl rfl (by kernel_rfl) (by kernel_rfl) (by kernel_rfl) ?_
     refine h_take_no 17 rfl rfl rfl rfl rfl (by kernel_rfl) (by kernel_rfl) (by kernel_rfl) ?_
     refine h_take_no 18 rfl rfl rfl rfl rfl (by kernel_rfl) (by kernel_rfl) (by kernel_rfl) ?_
     refine h_take_no 19 rfl rfl rfl rfl rfl (by kernel_rfl) (by kernel_rfl) (by kernel_rfl) ?_
     refine h_take_no 20 rfl rfl rfl rfl rfl (by kernel_rfl) (by kernel_rfl) (by kernel_rfl) ?_
     refine h_take_no 21 rfl rfl rfl rfl rfl (by kernel_rfl) (by kernel_rfl) (by kernel_rfl) ?_
     refine h_take_no 22 rfl rfl rfl rfl rfl (by kernel_rfl) (by kernel_rfl) (by kernel_rfl) ?_
     refine h_take_no 23 rfl rfl rfl rfl rfl (by kernel_rfl) (by kernel_rfl) (by kernel_rfl) ?_
     refine h_take_no 24 rfl rfl rfl rfl rfl (by kernel_rfl) (by kernel_rfl) (by kernel_rfl) ?_
     refine h_take_no 25 rfl rfl rfl rfl rfl (by kernel_rfl) (by kernel_rfl) (by kernel_rfl) ?_
     refine h_take_no 26 rfl rfl rfl rfl rfl (by kernel_rfl) (by kernel_rfl) (by kernel_rfl) ?_
     refine h_take 27 rfl rfl (by kernel_rfl) (by kernel_rfl) (by kernel_rfl) (fun L0 => v_pick_false rfl rfl rfl) ?_
     refine h_done (by kernel_rfl) ?_
     refine q_then ?_
     refine c_false rfl ?_
     refine c_skip ?_
     refine q_block ?_
     refine q_then ?_
     refine c_region ?_
     refine o_move rfl rfl ?_
     refine o_bin rfl rfl rfl (b_add (wrap_i64 (by omega) (by omega))) ?_
     refine o_assign rfl rfl ?_
     refine l_nil ?_
     exact q_round (i + 1, none, none, pre2, Lc) (by exact ⟨by omega, .inl ⟨rfl, rfl⟩, hI9, by rw [← hpre9, rest_end (key := ItA.f_key) (lt := strlt) hor (by omega)]⟩) (by (try dsimp only); omega) ⟨(by first | rfl | exact vint (by omega)), (by first | rfl | exact vint (by omega)), (by first | rfl | exact vint (by omega)), (by first | rfl | exact vint (by omega)), trivial⟩ (fun w S => S)
  · -- h2F
   have h2b := h2
   try simp only [decide_eq_false_iff_not, Int.not_lt, Int.not_le] at h2
   refine c_exit ?_
   refine q_pass_exit ?_
   refine q_pass_exit ?_
   refine q_hit ?_
   refine q_then ?_
   refine c_seq ?_
   refine c_region ?_
   refine o_assign rfl rfl ?_
   refine l_nil ?_
   refine q_then ?_
   refine c_ret ?_
   exact f_ret (r_one rfl rfl) (⟨true, Lc, rfl, .inl ⟨rfl, by rw [← hpre, rest_over hor (by omega), List.append_nil]; exact hI⟩, rfl⟩) (fun w S => nodeMk q hq S)
 · -- h1F
  have h1b := h1
  try simp only [decide_eq_true_eq, decide_eq_false_iff_not, Bool.not_eq_eq_eq_not, Bool.not_true, Bool.not_false, Bool.not_eq_true', Bool.not_eq_false', Int.not_lt, Int.not_le, Bool.or_eq_true, Bool.and_eq_true] at h1
  obtain rfl : fp = none := by cases fp with | none => rfl | some z => simp at h1b
  have hfn := hfr.none rfl
  refine c_skip ?_
  refine q_then ?_
  refine c_seq ?_
  refine c_block ?_
  refine c_loop (α := Nat × (Option ByteArray) × (Option Addr) × (List ItA) × (List Res)) (fun z => [(0, .pointer (some ⟨b, 0, none⟩)), (1, .pointer z.2.2.1), (2, y), (7, .int .i64 (z.1 : Int))]) (fun z => blk b (.cells #[.slice q.a (q.items).length q.c, .slice q.ak ((q.kids.map Prod.fst)).length q.ck] 61 (0, 0)) :: row e_ItA.T e_ItA.sz q.a (q.items).length q.c (flat e_ItA q.items) :: row eN57.T eN57.sz q.ak ((q.kids.map Prod.fst)).length q.ck (flat eN57 (q.kids.map Prod.fst)) :: kidsR e_ItA eN57 61 d q.kids :: (G ++ z.2.2.2.2)) (fun z => z.1 ≤ q.items.length + 1 ∧ FromOk (fun k : ByteArray => Value.string k) 9 G z.2.1 z.2.2.1 ∧ I z.2.2.2.1 z.2.2.2.2 ∧ z.2.2.2.1 ++ restW ItA.f_key strlt (q.kids.map Prod.snd) q.items z.1 z.2.1 = pre ++ sel ItA.f_key strlt fr xs) (fun z => q.items.length + 1 - z.1) (0, none, none, pre, L0) (by exact ⟨Nat.zero_le _, .inl ⟨rfl, rfl⟩, hI0, by rw [hfn, hxs, rest_0]; rfl⟩) ⟨(by first | rfl | exact vint (by omega)), (by first | rfl | exact vint (by omega)), (by first | rfl | exact vint (by omega)), (by first | rfl | exact vint (by omega)), trivial⟩ (fun w S => S) ?_
  rintro ⟨i, fo, fp2, pre2, Lc⟩ ⟨hi, hfo, hI, hpre⟩
  try dsimp only at *
  refine c_seq ?_
  refine c_seq ?_
  refine c_region ?_
  refine o_move rfl rfl ?_
  refine o_move rfl rfl ?_
  refine o_nil rfl rfl ?_
  refine o_fieldAddr (q := ⟨b, 0, none⟩) rfl rfl Try.underlying61 rfl ti58 rfl ?_
  refine o_load1 rfl rfl Try.underlying58 rfl (rd_mem 0 rfl rfl) ?_
  refine o_len rfl rfl Try.underlying58 ?_
  refine o_bin rfl rfl rfl b_leq ?_
  refine l_nil ?_
  refine q_then ?_
  refine c_cond rfl (fun h7 => ?_) (fun h7 => ?_)
  · -- h7T
   have h7b := h7
   try simp only [decide_eq_true_eq] at h7
   refine c_skip ?_
   refine q_then ?_
   refine c_seq ?_
   refine c_block ?_
   refine c_seq ?_
   refine c_seq ?_
   refine c_region ?_
   refine o_move rfl rfl ?_
   refine o_move rfl rfl ?_
   refine o_nil rfl rfl ?_
   refine o_fieldAddr (q := ⟨b, 1, none⟩) rfl rfl Try.underlying61 rfl ti59 rfl ?_
   refine o_load1 rfl rfl Try.underlying59 rfl (rd_mem 0 rfl rfl) ?_
   refine o_len rfl rfl Try.underlying59 ?_
   refine o_bin rfl rfl rfl b_lss ?_
   refine o_move rfl rfl ?_
   refine l_split (t := 34) rfl (fun h8 => ?_) (fun h8 => ?_)
   · -- h8T
    have h8b := h8
    try simp only [decide_eq_true_eq] at h8
    refine o_yes rfl rfl rfl ?_
    refine o_move rfl rfl ?_
    refine o_yes rfl rfl rfl ?_
    refine o_nil rfl rfl ?_
    refine o_yes rfl rfl rfl ?_
    refine o_fieldAddr (q := ⟨b, 1, none⟩) rfl rfl Try.underlying61 rfl ti59 rfl ?_
    refine o_yes rfl rfl rfl ?_
    refine o_load1 rfl rfl Try.underlying59 rfl (rd_mem 0 rfl rfl) ?_
    refine o_yes rfl rfl rfl ?_
    refine o_move rfl rfl ?_
    refine o_yes rfl rfl rfl ?_
    refine o_index eN57_ok rfl rfl rfl Try.underlying59 (by omega) (by omega) (rds_own eN57_ok 2 rfl) fun ad40 ead40 => ?_
    obtain ⟨x40, hx40⟩ : ∃ x, ((q.kids.map Prod.fst))[((i : Int)).toNat]? = some x := ⟨_, List.getElem?_eq_getElem (by omega)⟩
    refine o_yes rfl rfl rfl ?_
    refine o_load1 rfl rfl Try.underlying57 rfl (rd_sl0 eN57_ok ead40 (rds_own eN57_ok 2 rfl) hx40 rfl) ?_
    obtain ⟨⟨kb2, ys⟩, hkid⟩ : ∃ z, q.kids[i]? = some z := ⟨_, List.getElem?_eq_getElem (by omega)⟩
    have hxk : x40 = kb2 := by have h9 := hx40; rw [show ((i : Int)).toNat = i from rfl, List.getElem?_map, hkid] at h9; exact (Option.some.inj h9).symm
    have hd0 : d ≠ 0 := by rcases hsh with ⟨_, h9⟩ | ⟨h9, _, _⟩; exact absurd (List.getElem?_eq_some_iff.1 hkid).1 (by rw [h9]; simp); exact h9
    obtain ⟨d', hd'⟩ : ∃ d', d = d' + 1 := ⟨d - 1, by omega⟩
    have hsy : Srt ItA.f_key strlt ys := by have h9 := srt; rw [hxs] at h9; exact srt_kid hor (show (q.kids.map Prod.snd)[i]? = some ys by rw [List.getElem?_map, hkid]; rfl) h9
    have hat : atK (q.kids.map Prod.snd) i = ys := by unfold atK; rw [List.getElem?_map, hkid]; rfl
    refine l_f3 ?_
    refine l_conv (L' := nodeR e_ItA eN57 61 d' 2 kb2 ys :: kidsR e_ItA eN57 61 d (q.kids.eraseIdx i) :: _) (fun w S => by have h9 := Sat.kid_take hkid S; rw [hd'] at h9 ⊢; exact h9) ?_
    refine l_eq (t := 41) (v' := .pointer (some ⟨kb2, 0, none⟩)) rfl (by rw [hxk]) ?_
    refine o_yes rfl rfl rfl ?_
    refine o_move rfl rfl ?_
    refine o_yes rfl rfl rfl ?_
    refine o_move rfl rfl ?_
    refine o_yes rfl rfl rfl ?_
    refine o_call rfl cal27 rfl (ih d' hd' (G := [kidsR e_ItA eN57 61 d (q.kids.eraseIdx i), blk b (.cells #[.slice q.a (q.items).length q.c, .slice q.ak ((q.kids.map Prod.fst)).length q.ck] 61 (0, 0)), row e_ItA.T e_ItA.sz q.a (q.items).length q.c (flat e_ItA q.items), row eN57.T eN57.sz q.ak ((q.kids.map Prod.fst)).length q.ck (flat eN57 (q.kids.map Prod.fst))] ++ G) (L0 := Lc) (pre := pre2) (full := full) hsy (hfo.more _) hI (by rw [← hat]; exact (List.IsPrefix.trans (by rw [← hpre]; unfold restW; rw [← List.append_assoc]; exact List.prefix_append _ _) hfull)) hy) ?_
    rintro _ _ ⟨bb44, L44, rfl, hbb44, rfl⟩
    refine l_conv (L' := nodeR e_ItA eN57 61 d' 2 kb2 ys :: kidsR e_ItA eN57 61 d (q.kids.eraseIdx i) :: blk b (.cells #[.slice q.a (q.items).length q.c, .slice q.ak ((q.kids.map Prod.fst)).length q.ck] 61 (0, 0)) :: row e_ItA.T e_ItA.sz q.a (q.items).length q.c (flat e_ItA q.items) :: row eN57.T eN57.sz q.ak ((q.kids.map Prod.fst)).length q.ck (flat eN57 (q.kids.map Prod.fst)) :: (G ++ L44)) (fun w S => S) ?_
    refine l_conv (L' := kidsR e_ItA eN57 61 d q.kids :: _) (fun w S => Sat.kid_back hkid (by rw [hd'] at S ⊢; exact S)) ?_
    refine o_yes rfl rfl rfl ?_
    refine o_not rfl rfl ?_
    refine o_pick_true rfl rfl rfl ?_
    refine l_nil ?_
    refine q_then ?_
    refine c_cond rfl (fun h9 => ?_) (fun h9 => ?_)
    · -- h9T
     have h9b := h9
     try simp only [decide_eq_true_eq, decide_eq_false_iff_not, Bool.not_eq_eq_eq_not, Bool.not_true, Bool.not_false, Bool.not_eq_true', Bool.not_eq_false', Int.not_lt, Int.not_le, Bool.or_eq_true, Bool.and_eq_true] at h9
     refine c_seq ?_
     refine c_region ?_
     refine o_assign rfl rfl ?_
     refine l_nil ?_
     refine q_then ?_
     refine c_ret ?_
     refine q_pass_ret ?_
     refine q_block_ret ?_
     refine q_pass_ret ?_
     refine q_pass_ret ?_
     refine q_block_ret ?_
     refine q_pass_ret ?_
     refine q_conv (fun w S => S.perm p3) ?_
     refine q_conv (fun w S => S.perm p3) ?_
     refine q_conv (fun w S => S.perm p3) ?_
     exact f_ret (r_one rfl rfl) (⟨false, L44, rfl, .inr ⟨rfl, or_no hbb44 (by assumption)⟩, rfl⟩) (fun w S => nodeMk q hq S)
    · -- h9F
     have h9b := h9
     try simp only [decide_eq_true_eq, decide_eq_false_iff_not, Bool.not_eq_eq_eq_not, Bool.not_true, Bool.not_false, Bool.not_eq_true', Bool.not_eq_false', Int.not_lt, Int.not_le, Bool.or_eq_true, Bool.and_eq_true] at h9
     refine c_skip ?_
     refine q_then ?_
     refine c_seq ?_
     have hI9 : I (pre2 ++ sel ItA.f_key strlt fo ys) L44 := or_yes hbb44 (by assumption)
     have hpre9 : (pre2 ++ sel ItA.f_key strlt fo ys) ++ post (q.items.drop i) ((q.kids.map Prod.snd).drop (i + 1)) = pre ++ sel ItA.f_key strlt fr xs := by rw [← hpre]; unfold restW; rw [hat, List.append_assoc]
     refine c_region ?_
     refine o_assign rfl rfl ?_
     refine l_nil ?_
     refine q_then ?_
     refine c_seq ?_
     refine (Classical.em (i < q.items.length)).elim (fun hs9 => ?_) (fun hs9 => ?_)
     · -- hs9 True
      refine c_fact (p := ∃ ad, q.a = some ad) (rds_some (e := e_ItA) (xs := q.items) (rds_own e_ItA_ok 2 rfl) (by intro h0; have h00 := congrArg List.length h0; simp only [List.length_nil] at h00; omega)) ?_
      rintro ⟨ad9, ead9⟩
      refine c_held [kidsR e_ItA eN57 61 d q.kids, blk b (.cells #[.slice q.a (q.items).length q.c, .slice q.ak ((q.kids.map Prod.fst)).length q.ck] 61 (0, 0)), row e_ItA.T e_ItA.sz q.a (q.items).length q.c (flat e_ItA q.items), row eN57.T eN57.sz q.ak ((q.kids.map Prod.fst)).length q.ck (flat eN57 (q.kids.map Prod.fst))] (by kernel_rfl) rfl ?_
      refine h_take 0 rfl rfl (by kernel_rfl) (by kernel_rfl) (by kernel_rfl) (fun L0 => v_move rfl rfl) ?_
      refine h_take 1 rfl rfl (by kernel_rfl) (by kernel_rfl) (by kernel_rfl) (fun L0 => v_move rfl rfl) ?_
      refine h_take 2 rfl rfl (by kernel_rfl) (by kernel_rfl) (by kernel_rfl) (fun L0 => v_nil rfl rfl) ?_
      refine h_take 3 rfl rfl (by kernel_rfl) (by kernel_rfl) (by kernel_rfl) (fun L0 => v_fieldAddr (q := ⟨b, 0, none⟩) rfl rfl Try.underlying61 rfl ti58 rfl) ?_
      refine h_take 4 rfl rfl (by kernel_rfl) (by kernel_rfl) (by kernel_rfl) (fun L0 => v_load1 rfl rfl Try.underlying58 rfl (rd_mem 1 rfl rfl)) ?_
      refine h_take 5 rfl rfl (by kernel_rfl) (by kernel_rfl) (by kernel_rfl) (fun L0 => v_len rfl rfl Try.underlying58) ?_
      refine h_take 6 rfl rfl (by kernel_rfl) (by kernel_rfl) (by kernel_rfl) (fun L0 => v_bin rfl rfl rfl b_lss) ?_
      refine h_eq (t := 53) (v' := .bool true) rfl (show _ = Value.bool true from by rw [decide_eq_true (by omega)]) ?_
      refine h_take 7 rfl rfl (by kernel_rfl) (by kernel_rfl) (by kernel_rfl) (fun L0 => v_move rfl rfl) ?_
      refine h_take_yes 8 rfl rfl rfl rfl rfl (by kernel_rfl) (by kernel_rfl) (by kernel_rfl) (fun L0 => v_move rfl rfl) ?_
      refine h_take_yes 9 rfl rfl rfl rfl rfl (by kernel_rfl) (by kernel_rfl) (by kernel_rfl) (fun L0 => v_move rfl rfl) ?_
      refine h_take_yes 10 rfl rfl rfl rfl rfl (by kernel_rfl) (by kernel_rfl) (by kernel_rfl) (fun L0 => v_nil rfl rfl) ?_
      refine h_take_yes 11 rfl rfl rfl rfl rfl (by kernel_rfl) (by kernel_rfl) (by kernel_rfl) (fun L0 => v_fieldAddr (q := ⟨b, 0, none⟩) rfl rfl Try.underlying61 rfl ti58 rfl) ?_
      refine h_take_yes 12 rfl rfl rfl rfl rfl (by kernel_rfl) (by kernel_rfl) (by kernel_rfl) (fun L0 => v_load1 rfl rfl Try.underlying58 rfl (rd_mem 1 rfl rfl)) ?_
      refine h_take_yes 13 rfl rfl rfl rfl rfl (by kernel_rfl) (by kernel_rfl) (by kernel_rfl) (fun L0 => v_move rfl rfl) ?_
      refine h_take_yes 14 rfl rfl rfl rfl rfl (by kernel_rfl) (by kernel_rfl) (by kernel_rfl) (fun L0 => v_indexK e_ItA_ok ead9 rfl rfl rfl Try.underlying58 (by omega) (by omega)) ?_
      obtain ⟨x61, hx61⟩ : ∃ x, (q.items)[((i : Int)).toNat]? = some x := ⟨_, List.getElem?_eq_getElem (by omega)⟩
      have hx61' : q.items[i]? = some x61 := hx61
      refine h_take_yes 15 rfl rfl rfl rfl rfl (by kernel_rfl) (by kernel_rfl) (by kernel_rfl) (fun L0 => v_fieldAddr rfl rfl Try.underlying68 rfl ti9 (Addr.add_add' _ _ _)) ?_
      refine h_take_yes 16 rfl rfl rfl rfl rfl (by kernel_rfl) (by kernel_rfl) (by kernel_rfl) (fun L0 => v_load1 rfl rfl Try.underlying9 rfl (rd_sl e_ItA_ok ead9 (rds_own e_ItA_ok 2 rfl) hx61 rfl)) ?_
      refine h_take_yes 17 rfl rfl rfl rfl rfl (by kernel_rfl) (by kernel_rfl) (by kernel_rfl) (fun L0 => v_move rfl rfl) ?_
      refine h_take_yes 18 rfl rfl rfl rfl rfl (by kernel_rfl) (by kernel_rfl) (by kernel_rfl) (fun L0 => v_nil rfl rfl) ?_
      refine h_take_yes 19 rfl rfl rfl rfl rfl (by kernel_rfl) (by kernel_rfl) (by kernel_rfl) (fun L0 => v_fieldAddr (q := ⟨b, 0, none⟩) rfl rfl Try.underlying61 rfl ti58 rfl) ?_
      refine h_take_yes 20 rfl rfl rfl rfl rfl (by kernel_rfl) (by kernel_rfl) (by kernel_rfl) (fun L0 => v_load1 rfl rfl Try.underlying58 rfl (rd_mem 1 rfl rfl)) ?_
      refine h_take_yes 21 rfl rfl rfl rfl rfl (by kernel_rfl) (by kernel_rfl) (by kernel_rfl) (fun L0 => v_move rfl rfl) ?_
      refine h_take_yes 22 rfl rfl rfl rfl rfl (by kernel_rfl) (by kernel_rfl) (by kernel_rfl) (fun L0 => v_indexK e_ItA_ok ead9 rfl rfl rfl Try.underlying58 (by omega) (by omega)) ?_
      obtain ⟨x69, hx69⟩ : ∃ x, (q.items)[((i : Int)).toNat]? = some x := ⟨_, List.getElem?_eq_getElem (by omega)⟩
      have e69 : x69 = x61 := by rw [hx61] at hx69; exact (Option.some.inj hx69).symm
      refine h_take_yes 23 rfl rfl rfl rfl rfl (by kernel_rfl) (by kernel_rfl) (by kernel_rfl) (fun L0 => v_fieldAddr rfl rfl Try.underlying68 rfl ti3 (Addr.add_add' _ _ _)) ?_
      refine h_take_yes 24 rfl rfl rfl rfl rfl (by kernel_rfl) (by kernel_rfl) (by kernel_rfl) (fun L0 => v_load1 rfl rfl Try.underlying3 rfl (rd_sl e_ItA_ok ead9 (rds_own e_ItA_ok 2 rfl) hx69 rfl)) ?_
      refine h_eq (t := 71) (v' := .int .i64 x61.f_value) rfl (by rw [e69]) ?_
      refine h_one 25 rfl (by kernel_rfl) ?_
      refine o_yes rfl rfl rfl ?_
      refine l_conv (L' := ([kidsR e_ItA eN57 61 d q.kids, blk b (.cells #[.slice q.a (q.items).length q.c, .slice q.ak ((q.kids.map Prod.fst)).length q.ck] 61 (0, 0)), row e_ItA.T e_ItA.sz q.a (q.items).length q.c (flat e_ItA q.items), row eN57.T eN57.sz q.ak ((q.kids.map Prod.fst)).length q.ck (flat eN57 (q.kids.map Prod.fst))] ++ G) ++ L44) (fun w S => S) ?_
      refine o_callV rfl rfl rfl (hy ([kidsR e_ItA eN57 61 d q.kids, blk b (.cells #[.slice q.a (q.items).length q.c, .slice q.ak ((q.kids.map Prod.fst)).length q.ck] 61 (0, 0)), row e_ItA.T e_ItA.sz q.a (q.items).length q.c (flat e_ItA q.items), row eN57.T eN57.sz q.ak ((q.kids.map Prod.fst)).length q.ck (flat eN57 (q.kids.map Prod.fst))] ++ G) (pre2 ++ sel ItA.f_key strlt fo ys) x61 L44 hI9 (List.IsPrefix.trans (by rw [← hpre9]; rw [rest_item (key := ItA.f_key) (lt := strlt) hor hx61']; exact prefix_snoc) hfull)) ?_
      rintro _ _ ⟨bb72, L72, rfl, hbb72, rfl⟩
      refine l_conv (L' := kidsR e_ItA eN57 61 d q.kids :: blk b (.cells #[.slice q.a (q.items).length q.c, .slice q.ak ((q.kids.map Prod.fst)).length q.ck] 61 (0, 0)) :: row e_ItA.T e_ItA.sz q.a (q.items).length q.c (flat e_ItA q.items) :: row eN57.T eN57.sz q.ak ((q.kids.map Prod.fst)).length q.ck (flat eN57 (q.kids.map Prod.fst)) :: (G ++ L72)) (fun w S => S) ?_
      refine l_nil ?_
      refine h_next ?_
      refine h_take_yes 26 rfl rfl rfl rfl rfl (by kernel_rfl) (by kernel_rfl) (by kernel_rfl) (fun L0 => v_not rfl rfl) ?_
      refine h_take 27 rfl rfl (by kernel_rfl) (by kernel_rfl) (by kernel_rfl) (fun L0 => v_pick_true rfl rfl rfl) ?_
      refine h_done (by kernel_rfl) ?_
      refine q_then ?_
      refine c_cond rfl (fun h10 => ?_) (fun h10 => ?_)
      · -- h10T
       have h10b := h10
       try simp only [decide_eq_true_eq, decide_eq_false_iff_not, Bool.not_eq_eq_eq_not, Bool.not_true, Bool.not_false, Bool.not_eq_true', Bool.not_eq_false', Int.not_lt, Int.not_le, Bool.or_eq_true, Bool.and_eq_true] at h10
       refine c_seq ?_
       refine c_region ?_
       refine o_assign rfl rfl ?_
       refine l_nil ?_
       refine q_then ?_
       refine c_ret ?_
       refine q_block_ret ?_
       refine q_pass_ret ?_
       refine q_pass_ret ?_
       refine q_block_ret ?_
       refine q_pass_ret ?_
       refine q_conv (fun w S => S.perm p3) ?_
       refine q_conv (fun w S => S.perm p3) ?_
       refine q_conv (fun w S => S.perm p3) ?_
       exact f_ret (r_one rfl rfl) (⟨false, L72, rfl, .inr ⟨rfl, or_no hbb72 (by assumption)⟩, rfl⟩) (fun w S => nodeMk q hq S)
      · -- h10F
       have h10b := h10
       try simp only [decide_eq_true_eq, decide_eq_false_iff_not, Bool.not_eq_eq_eq_not, Bool.not_true, Bool.not_false, Bool.not_eq_true', Bool.not_eq_false', Int.not_lt, Int.not_le, Bool.or_eq_true, Bool.and_eq_true] at h10
       refine c_skip ?_
       refine q_block ?_
       refine q_then ?_
       refine c_region ?_
       refine o_move rfl rfl ?_
       refine o_bin rfl rfl rfl (b_add (wrap_i64 (by omega) (by omega))) ?_
       refine o_assign rfl rfl ?_
       refine l_nil ?_
       refine q_conv (fun w S => S.perm p3) ?_
       refine q_conv (fun w S => S.perm p3) ?_
       refine q_conv (fun w S => S.perm p3) ?_
       exact q_round (i + 1, none, none, ((pre2 ++ sel ItA.f_key strlt fo ys) ++ [x61]), L72) (by exact ⟨by omega, .inl ⟨rfl, rfl⟩, or_yes hbb72 (by assumption), by rw [← hpre9, rest_item (key := ItA.f_key) (lt := strlt) hor hx61', List.append_assoc]; rfl⟩) (by (try dsimp only); omega) ⟨(by first | rfl | exact vint (by omega)), (by first | rfl | exact vint (by omega)), (by first | rfl | exact vint (by omega)), (by first | rfl | exact vint (by omega)), trivial⟩ (fun w S => S)
     · -- hs9 False
      refine c_held [kidsR e_ItA eN57 61 d q.kids, blk b (.cells #[.slice q.a (q.items).length q.c, .slice q.ak ((q.kids.map Prod.fst)).length q.ck] 61 (0, 0)), row e_ItA.T e_ItA.sz q.a (q.items).length q.c (flat e_ItA q.items), row eN57.T eN57.sz q.ak ((q.kids.map Prod.fst)).length q.ck (flat eN57 (q.kids.map Prod.fst))] (by kernel_rfl) rfl ?_
      refine h_take 0 rfl rfl (by kernel_rfl) (by kernel_rfl) (by kernel_rfl) (fun L0 => v_move rfl rfl) ?_
      refine h_take 1 rfl rfl (by kernel_rfl) (by kernel_rfl) (by kernel_rfl) (fun L0 => v_move rfl rfl) ?_
      refine h_take 2 rfl rfl (by kernel_rfl) (by kernel_rfl) (by kernel_rfl) (fun L0 => v_nil rfl rfl) ?_
      refine h_take 3 rfl rfl (by kernel_rfl) (by kernel_rfl) (by kernel_rfl) (fun L0 => v_fieldAddr (q := ⟨b, 0, none⟩) rfl rfl Try.underlying61 rfl ti58 rfl) ?_
      refine h_take 4 rfl rfl (by kernel_rfl) (by kernel_rfl) (by kernel_rfl) (fun L0 => v_load1 rfl rfl Try.underlying58 rfl (rd_mem 1 rfl rfl)) ?_
      refine h_take 5 rfl rfl (by kernel_rfl) (by kernel_rfl) (by kernel_rfl) (fun L0 => v_len rfl rfl Try.underlying58) ?_
      refine h_take 6 rfl rfl (by kernel_rfl) (by kernel_rfl) (by kernel_rfl) (fun L0 => v_bin rfl rfl rfl b_lss) ?_
      refine h_eq (t := 53) (v' := .bool false) rfl (show _ = Value.bool false from by rw [decide_eq_false (by omega)]) ?_
      refine h_take 7 rfl rfl (by kernel_rfl) (by kernel_rfl) (by kernel_rfl) (fun L0 => v_move rfl rfl) ?_
      refine h_take_no 8 rfl rfl rfl rfl rfl (by kernel_rfl) (by kernel_rfl) (by kernel_rfl) ?_
      refine h_take_no 9 rfl rfl rfl rfl rfl (by kernel_rfl) (by kernel_rfl) (by kernel_rfl) ?_
      refine h_take_no 10 rfl rfl rfl rfl rfl (by kernel_rfl) (by kernel_rfl) (by kernel_rfl) ?_
      refine h_take_no 11 rfl rfl rfl rfl rfl (by kernel_rfl) (by kernel_rfl) (by kernel_rfl) ?_
      refine h_take_no 12 rfl rfl rfl rfl rfl (by kernel_rfl) (by kernel_rfl) (by kernel_rfl) ?_
      refine h_take_no 13 rfl rfl rfl rfl rfl (by kernel_rfl) (by kernel_rfl) (by kernel_rfl) ?_
      refine h_take_no 14 rfl rfl rfl rfl rfl (by kernel_rfl) (by kernel_rfl) (by kernel_rfl) ?_
      refine h_take_no 15 rfl rfl rfl rfl rfl (by kernel_rfl) (by kernel_rfl) (by kernel_rfl) ?_
      refine h_take_no 16 rfl rfl rfl rfl rfl (by kernel_rfl) (by kernel_rfl) (by kernel_rfl) ?_
      refine h_take_no 17 rfl rfl rfl rfl rfl (by kernel_rfl) (by kernel_rfl) (by kernel_rfl) ?_
      refine h_take_no 18 rfl rfl rfl rfl rfl (by kernel_rfl) (by kernel_rfl) (by kernel_rfl) ?_
      refine h_take_no 19 rfl rfl rfl rfl rfl (by kernel_rfl) (by kernel_rfl) (by kernel_rfl) ?_
      refine h_take_no 20 rfl rfl rfl rfl rfl (by kernel_rfl) (by kernel_rfl) (by kernel_rfl) ?_
      refine h_take_no 21 rfl rfl rfl rfl rfl (by kernel_rfl) (by kernel_rfl) (by kernel_rfl) ?_
      refine h_take_no 22 rfl rfl rfl rfl rfl (by kernel_rfl) (by kernel_rfl) (by kernel_rfl) ?_
      refine h_take_no 23 rfl rfl rfl rfl rfl (by kernel_rfl) (by kernel_rfl) (by kernel_rfl) ?_
      refine h_take_no 24 rfl rfl rfl rfl rfl (by kernel_rfl) (by kernel_rfl) (by kernel_rfl) ?_
      refine h_take_no 25 rfl rfl rfl rfl rfl (by kernel_rfl) (by kernel_rfl) (by kernel_rfl) ?_
      refine h_take_no 26 rfl rfl rfl rfl rfl (by kernel_rfl) (by kernel_rfl) (by kernel_rfl) ?_
      refine h_take 27 rfl rfl (by kernel_rfl) (by kernel_rfl) (by kernel_rfl) (fun L0 => v_pick_false rfl rfl rfl) ?_
      refine h_done (by kernel_rfl) ?_
      refine q_then ?_
      refine c_false rfl ?_
      refine c_skip ?_
      refine q_block ?_
      refine q_then ?_
      refine c_region ?_
      refine o_move rfl rfl ?_
      refine o_bin rfl rfl rfl (b_add (wrap_i64 (by omega) (by omega))) ?_
      refine o_assign rfl rfl ?_
      refine l_nil ?_
      refine q_conv (fun w S => S.perm p3) ?_
      refine q_conv (fun w S => S.perm p3) ?_
      refine q_conv (fun w S => S.perm p3) ?_
      exact q_round (i + 1, none, none, (pre2 ++ sel ItA.f_key strlt fo ys), L44) (by exact ⟨by omega, .inl ⟨rfl, rfl⟩, hI9, by rw [← hpre9, rest_end (key := ItA.f_key) (lt := strlt) hor (by omega)]⟩) (by (try dsimp only); omega) ⟨(by first | rfl | exact vint (by omega)), (by first | rfl | exact vint (by omega)), (by first | rfl | exact vint (by omega)), (by first | rfl | exact vint (by omega)), trivial⟩ (fun w S => S)
   · -- h8F
    have h8b := h8
    try simp only [decide_eq_false_iff_not, Int.not_lt, Int.not_le] at h8
    refine o_no rfl rfl rfl rfl ?_
    refine o_no rfl rfl rfl rfl ?_
    refine o_no rfl rfl rfl rfl ?_
    refine o_no rfl rfl rfl rfl ?_
    refine o_no rfl rfl rfl rfl ?_
    refine o_no rfl rfl rfl rfl ?_
    refine o_no rfl rfl rfl rfl ?_
    refine o_no rfl rfl rfl rfl ?_
    refine o_no rfl rfl rfl rfl ?_
    refine o_no rfl rfl rfl rfl ?_
    refine o_no rfl rfl rfl rfl ?_
    refine o_pick_false rfl rfl rfl ?_
    refine l_nil ?_
    refine q_then ?_
    refine c_false rfl ?_
    refine c_skip ?_
    refine q_then ?_
    refine c_seq ?_
    have hat : atK (q.kids.map Prod.snd) i = [] := by unfold atK; rw [List.getElem?_eq_none (by rw [List.length_map]; omega)]; rfl
    have hI9 := hI
    have hpre9 : pre2 ++ post (q.items.drop i) ((q.kids.map Prod.snd).drop (i + 1)) = pre ++ sel ItA.f_key strlt fr xs := by rw [← hpre]; unfold restW; rw [hat, sel_nil, List.nil_append]
    refine c_region ?_
    refine o_assign rfl rfl ?_
    refine l_nil ?_
    refine q_then ?_
    refine c_seq ?_
    refine (Classical.em (i < q.items.length)).elim (fun hs9 => ?_) (fun hs9 => ?_)
    · -- hs9 True
     refine c_fact (p := ∃ ad, q.a = some ad) (rds_some (e := e_ItA) (xs := q.items) (rds_own e_ItA_ok 1 rfl) (by intro h0; have h00 := congrArg List.length h0; simp only [List.length_nil] at h00; omega)) ?_
     rintro ⟨ad9, ead9⟩
     refine c_held [blk b (.cells #[.slice q.a (q.items).length q.c, .slice q.ak ((q.kids.map Prod.fst)).length q.ck] 61 (0, 0)), row e_ItA.T e_ItA.sz q.a (q.items).length q.c (flat e_ItA q.items), row eN57.T eN57.sz q.ak ((q.kids.map Prod.fst)).length q.ck (flat eN57 (q.kids.map Prod.fst)), kidsR e_ItA eN57 61 d q.kids] (by kernel_rfl) rfl ?_
     refine h_take 0 rfl rfl (by kernel_rfl) (by kernel_rfl) (by kernel_rfl) (fun L0 => v_move rfl rfl) ?_
     refine h_take 1 rfl rfl (by kernel_rfl) (by kernel_rfl) (by kernel_rfl) (fun L0 => v_move rfl rfl) ?_
     refine h_take 2 rfl rfl (by kernel_rfl) (by kernel_rfl) (by kernel_rfl) (fun L0 => v_nil rfl rfl) ?_
     refine h_take 3 rfl rfl (by kernel_rfl) (by kernel_rfl) (by kernel_rfl) (fun L0 => v_fieldAddr (q := ⟨b, 0, none⟩) rfl rfl Try.underlying61 rfl ti58 rfl) ?_
     refine h_take 4 rfl rfl (by kernel_rfl) (by kernel_rfl) (by kernel_rfl) (fun L0 => v_load1 rfl rfl Try.underlying58 rfl (rd_mem 0 rfl rfl)) ?_
     refine h_take 5 rfl rfl (by kernel_rfl) (by kernel_rfl) (by kernel_rfl) (fun L0 => v_len rfl rfl Try.underlying58) ?_
     refine h_take 6 rfl rfl (by kernel_rfl) (by kernel_rfl) (by kernel_rfl) (fun L0 => v_bin rfl rfl rfl b_lss) ?_
     refine h_eq (t := 53) (v' := .bool true) rfl (show _ = Value.bool true from by rw [decide_eq_true (by omega)]) ?_
     refine h_take 7 rfl rfl (by kernel_rfl) (by kernel_rfl) (by kernel_rfl) (fun L0 => v_move rfl rfl) ?_
     refine h_take_yes 8 rfl rfl rfl rfl rfl (by kernel_rfl) (by kernel_rfl) (by kernel_rfl) (fun L0 => v_move rfl rfl) ?_
     refine h_take_yes 9 rfl rfl rfl rfl rfl (by kernel_rfl) (by kernel_rfl) (by kernel_rfl) (fun L0 => v_move rfl rfl) ?_
     refine h_take_yes 10 rfl rfl rfl rfl rfl (by kernel_rfl) (by kernel_rfl) (by kernel_rfl) (fun L0 => v_nil rfl rfl) ?_
     refine h_take_yes 11 rfl rfl rfl rfl rfl (by kernel_rfl) (by kernel_rfl) (by kernel_rfl) (fun L0 => v_fieldAddr (q := ⟨b, 0, none⟩) rfl rfl Try.underlying61 rfl ti58 rfl) ?_
     refine h_take_yes 12 rfl rfl rfl rfl rfl (by kernel_rfl) (by kernel_rfl) (by kernel_rfl) (fun L0 => v_load1 rfl rfl Try.underlying58 rfl (rd_mem 0 rfl rfl)) ?_
     refine h_take_yes 13 rfl rfl rfl rfl rfl (by kernel_rfl) (by kernel_rfl) (by kernel_rfl) (fun L0 => v_move rfl rfl) ?_
     refine h_take_yes 14 rfl rfl rfl rfl rfl (by kernel_rfl) (by kernel_rfl) (by kernel_rfl) (fun L0 => v_indexK e_ItA_ok ead9 rfl rfl rfl Try.underlying58 (by omega) (by omega)) ?_
     obtain ⟨x61, hx61⟩ : ∃ x, (q.items)[((i : Int)).toNat]? = some x := ⟨_, List.getElem?_eq_getElem (by omega)⟩
     have hx61' : q.items[i]? = some x61 := hx61
     refine h_take_yes 15 rfl rfl rfl rfl rfl (by kernel_rfl) (by kernel_rfl) (by kernel_rfl) (fun L0 => v_fieldAddr rfl rfl Try.underlying68 rfl ti9 (Addr.add_add' _ _ _)) ?_
     refine h_take_yes 16 rfl rfl rfl rfl rfl (by kernel_rfl) (by kernel_rfl) (by kernel_rfl) (fun L0 => v_load1 rfl rfl Try.underlying9 rfl (rd_sl e_ItA_ok ead9 (rds_own e_ItA_ok 1 rfl) hx61 rfl)) ?_
     refine h_take_yes 17 rfl rfl rfl rfl rfl (by kernel_rfl) (by kernel_rfl) (by kernel_rfl) (fun L0 => v_move rfl rfl) ?_
     refine h_take_yes 18 rfl rfl rfl rfl rfl (by kernel_rfl) (by kernel_rfl) (by kernel_rfl) (fun L0 => v_nil rfl rfl) ?_
     refine h_take_yes 19 rfl rfl rfl rfl rfl (by kernel_rfl) (by kernel_rfl) (by kernel_rfl) (fun L0 => v_fieldAddr (q := ⟨b, 0, none⟩) rfl rfl Try.underlying61 rfl ti58 rfl) ?_
     refine h_take_yes 20 rfl rfl rfl rfl rfl (by kernel_rfl) (by kernel_rfl) (by kernel_rfl) (fun L0 => v_load1 rfl rfl Try.underlying58 rfl (rd_mem 0 rfl rfl)) ?_
     refine h_take_yes 21 rfl rfl rfl rfl rfl (by kernel_rfl) (by kernel_rfl) (by kernel_rfl) (fun L0 => v_move rfl rfl) ?_
     refine h_take_yes 22 rfl rfl rfl rfl rfl (by kernel_rfl) (by kernel_rfl) (by kernel_rfl) (fun L0 => v_indexK e_ItA_ok ead9 rfl rfl rfl Try.underlying58 (by omega) (by omega)) ?_
     obtain ⟨x69, hx69⟩ : ∃ x, (q.items)[((i : Int)).toNat]? = some x := ⟨_, List.getElem?_eq_getElem (by omega)⟩
     have e69 : x69 = x61 := by rw [hx61] at hx69; exact (Option.some.inj hx69).symm
     refine h_take_yes 23 rfl rfl rfl rfl rfl (by kernel_rfl) (by kernel_rfl) (by kernel_rfl) (fun L0 => v_fieldAddr rfl rfl Try.underlying68 rfl ti3 (Addr.add_add' _ _ _)) ?_
     refine h_take_yes 24 rfl rfl rfl rfl rfl (by kernel_rfl) (by kernel_rfl) (by kernel_rfl) (fun L0 => v_load1 rfl rfl Try.underlying3 rfl (rd_sl e_ItA_ok ead9 (rds_own e_ItA_ok 1 rfl) hx69 rfl)) ?_
     refine h_eq (t := 71) (v' := .int .i64 x61.f_value) rfl (by rw [e69]) ?_
     refine h_one 25 rfl (by kernel_rfl) ?_
     refine o_yes rfl rfl rfl ?_
     refine l_conv (L' := ([blk b (.cells #[.slice q.a (q.items).length q.c, .slice q.ak ((q.kids.map Prod.fst)).length q.ck] 61 (0, 0)), row e_ItA.T e_ItA.sz q.a (q.items).length q.c (flat e_ItA q.items), row eN57.T eN57.sz q.ak ((q.kids.map Prod.fst)).length q.ck (flat eN57 (q.kids.map Prod.fst)), kidsR e_ItA eN57 61 d q.kids] ++ G) ++ Lc) (fun w S => S) ?_
     refine o_callV rfl rfl rfl (hy ([blk b (.cells #[.slice q.a (q.items).length q.c, .slice q.ak ((q.kids.map Prod.fst)).length q.ck] 61 (0, 0)), row e_ItA.T e_ItA.sz q.a (q.items).length q.c (flat e_ItA q.items), row eN57.T eN57.sz q.ak ((q.kids.map Prod.fst)).length q.ck (flat eN57 (q.kids.map Prod.fst)), kidsR e_ItA eN57 61 d q.kids] ++ G) pre2 x61 Lc hI9 (List.IsPrefix.trans (by rw [← hpre9]; rw [rest_item (key := ItA.f_key) (lt := strlt) hor hx61']; exact prefix_snoc) hfull)) ?_
     rintro _ _ ⟨bb72, L72, rfl, hbb72, rfl⟩
     refine l_conv (L' := blk b (.cells #[.slice q.a (q.items).length q.c, .slice q.ak ((q.kids.map Prod.fst)).length q.ck] 61 (0, 0)) :: row e_ItA.T e_ItA.sz q.a (q.items).length q.c (flat e_ItA q.items) :: row eN57.T eN57.sz q.ak ((q.kids.map Prod.fst)).length q.ck (flat eN57 (q.kids.map Prod.fst)) :: kidsR e_ItA eN57 61 d q.kids :: (G ++ L72)) (fun w S => S) ?_
     refine l_nil ?_
     refine h_next ?_
     refine h_take_yes 26 rfl rfl rfl rfl rfl (by kernel_rfl) (by kernel_rfl) (by kernel_rfl) (fun L0 => v_not rfl rfl) ?_
     refine h_take 27 rfl rfl (by kernel_rfl) (by kernel_rfl) (by kernel_rfl) (fun L0 => v_pick_true rfl rfl rfl) ?_
     refine h_done (by kernel_rfl) ?_
     refine q_then ?_
     refine c_cond rfl (fun h11 => ?_) (fun h11 => ?_)
     · -- h11T
      have h11b := h11
      try simp only [decide_eq_true_eq, decide_eq_false_iff_not, Bool.not_eq_eq_eq_not, Bool.not_true, Bool.not_false, Bool.not_eq_true', Bool.not_eq_false', Int.not_lt, Int.not_le, Bool.or_eq_true, Bool.and_eq_true] at h11
      refine c_seq ?_
      refine c_region ?_
      refine o_assign rfl rfl ?_
      refine l_nil ?_
      refine q_then ?_
      refine c_ret ?_
      refine q_block_ret ?_
      refine q_pass_ret ?_
      refine q_pass_ret ?_
      refine q_block_ret ?_
      refine q_pass_ret ?_
      exact f_ret (r_one rfl rfl) (⟨false, L72, rfl, .inr ⟨rfl, or_no hbb72 (by assumption)⟩, rfl⟩) (fun w S => nodeMk q hq S)
     · -- h11F
      have h11b := h11
      try simp only [decide_eq_true_eq, decide_eq_false_iff_not, Bool.not_eq_eq_eq_not, Bool.not_true, Bool.not_false, Bool.not_eq_true', Bool.not_eq_false', Int.not_lt, Int.not_le, Bool.or_eq_true, Bool.and_eq_true] at h11
      refine c_skip ?_
      refine q_block ?_
      refine q_then ?_
      refine c_region ?_
      refine o_move rfl rfl ?_
      refine o_bin rfl rfl rfl (b_add (wrap_i64 (by omega) (by omega))) ?_
      refine o_assign rfl rfl ?_
      refine l_nil ?_
      exact q_round (i + 1, none, none, (pre2 ++ [x61]), L72) (by exact ⟨by omega, .inl ⟨rfl, rfl⟩, or_yes hbb72 (by assumption), by rw [← hpre9, rest_item (key := ItA.f_key) (lt := strlt) hor hx61', List.append_assoc]; rfl⟩) (by (try dsimp only); omega) ⟨(by first | rfl | exact vint (by omega)), (by first | rfl | exact vint (by omega)), (by first | rfl | exact vint (by omega)), (by first | rfl | exact vint (by omega)), trivial⟩ (fun w S => S)
    · -- hs9 False
     refine c_held [blk b (.cells #[.slice q.a (q.items).length q.c, .slice q.ak ((q.kids.map Prod.fst)).length q.ck] 61 (0, 0)), row e_ItA.T e_ItA.sz q.a (q.items).length q.c (flat e_ItA q.items), row eN57.T eN57.sz q.ak ((q.kids.map Prod.fst)).length q.ck (flat eN57 (q.kids.map Prod.fst)), kidsR e_ItA eN57 61 d q.kids] (by kernel_rfl) rfl ?_
     refine h_take 0 rfl rfl (by kernel_rfl) (by kernel_rfl) (by kernel_rfl) (fun L0 => v_move rfl rfl) ?_
     refine h_take 1 rfl rfl (by kernel_rfl) (by kernel_rfl) (by kernel_rfl) (fun L0 => v_move rfl rfl) ?_
     refine h_take 2 rfl rfl (by kernel_rfl) (by kernel_rfl) (by kernel_rfl) (fun L0 => v_nil rfl rfl) ?_
     refine h_take 3 rfl rfl (by kernel_rfl) (by kernel_rfl) (by kernel_rfl) (fun L0 => v_fieldAddr (q := ⟨b, 0, none⟩) rfl rfl Try.underlying61 rfl ti58 rfl) ?_
     refine h_take 4 rfl rfl (by kernel_rfl) (by kernel_rfl) (by kernel_rfl) (fun L0 => v_load1 rfl rfl Try.underlying58 rfl (rd_mem 0 rfl rfl)) ?_
     refine h_take 5 rfl rfl (by kernel_rfl) (by kernel_rfl) (by kernel_rfl) (fun L0 => v_len rfl rfl Try.underlying58) ?_
     refine h_take 6 rfl rfl (by kernel_rfl) (by kernel_rfl) (by kernel_rfl) (fun L0 => v_bin rfl rfl rfl b_lss) ?_
     refine h_eq (t := 53) (v' := .bool false) rfl (show _ = Value.bool false from by rw [decide_eq_false (by omega)]) ?_
     refine h_take 7 rfl rfl (by kernel_rfl) (by kernel_rfl) (by kernel_rfl) (fun L0 => v_move rfl rfl) ?_
     refine h_take_no 8 rfl rfl rfl rfl rfl (by kernel_rfl) (by kernel_rfl) (by kernel_rfl) ?_
     refine h_take_no 9 rfl rfl rfl rfl rfl (by kernel_rfl) (by kernel_rfl) (by kernel_rfl) ?_
     refine h_take_no 10 rfl rfl rfl rfl rfl (by kernel_rfl) (by kernel_rfl) (by kernel_rfl) ?_
     refine h_take_no 11 rfl rfl rfl rfl rfl (by kernel_rfl) (by kernel_rfl) (by kernel_rfl) ?_
     refine h_take_no 12 rfl rfl rfl rfl rfl (by kernel_rfl) (by kernel_rfl) (by kernel_rfl) ?_
     refine h_take_no 13 rfl rfl rfl rfl rfl (by kernel_rfl) (by kernel_rfl) (by kernel_rfl) ?_
     refine h_take_no 14 rfl rfl rfl rfl rfl (by kernel_rfl) (by kernel_rfl) (by kernel_rfl) ?_
     refine h_take_no 15 rfl rfl rfl rfl rfl (by kernel_rfl) (by kernel_rfl) (by kernel_rfl) ?_
     refine h_take_no 16 rfl rfl rfl rfl rfl (by kernel_rfl) (by kernel_rfl) (by kernel_rfl) ?_
     refine h_take_no 17 rfl rfl rfl rfl rfl (by kernel_rfl) (by kernel_rfl) (by kernel_rfl) ?_
     refine h_take_no 18 rfl rfl rfl rfl rfl (by kernel_rfl) (by kernel_rfl) (by kernel_rfl) ?_
     refine h_take_no 19 rfl rfl rfl rfl rfl (by kernel_rfl) (by kernel_rfl) (by kernel_rfl) ?_
     refine h_take_no 20 rfl rfl rfl rfl rfl (by kernel_rfl) (by kernel_rfl) (by kernel_rfl) ?_
     refine h_take_no 21 rfl rfl rfl rfl rfl (by kernel_rfl) (by kernel_rfl) (by kernel_rfl) ?_
     refine h_take_no 22 rfl rfl rfl rfl rfl (by kernel_rfl) (by kernel_rfl) (by kernel_rfl) ?_
     refine h_take_no 23 rfl rfl rfl rfl rfl (by kernel_rfl) (by kernel_rfl) (by kernel_rfl) ?_
     refine h_take_no 24 rfl rfl rfl rfl rfl (by kernel_rfl) (by kernel_rfl) (by kernel_rfl) ?_
     refine h_take_no 25 rfl rfl rfl rfl rfl (by kernel_rfl) (by kernel_rfl) (by kernel_rfl) ?_
     refine h_take_no 26 rfl rfl rfl rfl rfl (by kernel_rfl) (by kernel_rfl) (by kernel_rfl) ?_
     refine h_take 27 rfl rfl (by kernel_rfl) (by kernel_rfl) (by kernel_rfl) (fun L0 => v_pick_false rfl rfl rfl) ?_
     refine h_done (by kernel_rfl) ?_
     refine q_then ?_
     refine c_false rfl ?_
     refine c_skip ?_
     refine q_block ?_
     refine q_then ?_
     refine c_region ?_
     refine o_move rfl rfl ?_
     refine o_bin rfl rfl rfl (b_add (wrap_i64 (by omega) (by omega))) ?_
     refine o_assign rfl rfl ?_
     refine l_nil ?_
     exact q_round (i + 1, none, none, pre2, Lc) (by exact ⟨by omega, .inl ⟨rfl, rfl⟩, hI9, by rw [← hpre9, rest_end (key := ItA.f_key) (lt := strlt) hor (by omega)]⟩) (by (try dsimp only); omega) ⟨(by first | rfl | exact vint (by omega)), (by first | rfl | exact vint (by omega)), (by first | rfl | exact vint (by omega)), (by first | rfl | exact vint (by omega)), trivial⟩ (fun w S => S)
  · -- h7F
   have h7b := h7
   try simp only [decide_eq_false_iff_not, Int.not_lt, Int.not_le] at h7
   refine c_exit ?_
   refine q_pass_exit ?_
   refine q_pass_exit ?_
   refine q_hit ?_
   refine q_then ?_
   refine c_seq ?_
   refine c_region ?_
   refine o_assign rfl rfl ?_
   refine l_nil ?_
   refine q_then ?_
   refine c_ret ?_
   exact f_ret (r_one rfl rfl) (⟨true, Lc, rfl, .inl ⟨rfl, by rw [← hpre, rest_over hor (by omega), List.append_nil]; exact hI⟩, rfl⟩) (fun w S => nodeMk q hq S)
theorem walk_A : ∀ d, WalkSpec_A d
  | 0 => walk_step_A fun d' h => by omega
  | d + 1 => walk_step_A fun d' h => by obtain rfl : d = d' := (by omega); exact walk_A d
end
section
set_option linter.unusedVariables false
set_option linter.unusedSimpArgs false
set_option maxRecDepth 10000
open Go.RowKit Classical
theorem new_A {W : World} {F : List Res}  : CS Try.prog 8 #[] W (F) (fun r L' => ∃ t : Nat, r = .pointer (some ⟨t, 0, none⟩) ∧ L' = treeR e_ItA eN57 61 63 ItA.f_key strlt t ([] : List ItA) :: F) := by
 refine f_door (l0 := []) Try.func8 Try.ntmps8 rfl rfl rfl ?_
 refine c_seq ?_
 refine c_region ?_
 refine o_assign rfl rfl ?_
 refine l_nil ?_
 refine q_then ?_
 refine c_seq ?_
 refine c_region ?_
 refine o_build rfl sp61 ti61 rfl rfl ?_
 refine o_box rfl rfl fun b2 => ?_
 refine o_build rfl sp63 ti63 rfl ((fill_cons (cells' := [.pointer (some ⟨b2, 0, none⟩), .int .i64 0]) rfl rfl rfl rfl fill_nil)) ?_
 refine o_box rfl rfl fun b4 => ?_
 refine o_assign rfl rfl ?_
 refine l_nil ?_
 refine q_then ?_
 refine c_ret ?_
 exact f_ret (r_one rfl rfl) (⟨b4, rfl, rfl⟩) (fun w S => tree_new S)
set_option maxHeartbeats 1000000 in
theorem tput_A {W : World} {F : List Res} {t : Nat} {xs : List ItA} {k : ByteArray} {v : Int} (hb : (xs.length : Int) < 9223372036854775807) : CS Try.prog 9 #[.pointer (some ⟨t, 0, none⟩), .string k, .int .i64 v] W (treeR e_ItA eN57 61 63 ItA.f_key strlt t xs :: F) (fun r L' => ∃ (old : Int) (had : Bool), (Old ItA.f_key ItA.f_value (0 : Int) (⟨k, v⟩ : ItA) xs old had ∧ Srt ItA.f_key strlt xs) ∧ r = .tuple #[.int .i64 old, .bool had] ∧ L' = treeR e_ItA eN57 61 63 ItA.f_key strlt t (ins ItA.f_key strlt (⟨k, v⟩ : ItA) xs) :: F) := by
 refine f_door (l0 := [(0, .pointer (some ⟨t, 0, none⟩)), (1, .string k), (2, .int .i64 v)]) Try.func9 Try.ntmps9 rfl rfl rfl ?_
 refine c_seq ?_
 refine c_region ?_
 refine o_assign rfl rfl ?_
 refine o_assign rfl rfl ?_
 refine l_nil ?_
 refine q_then ?_
 refine c_seq ?_
 refine c_tree ?_
 rintro d rb srt
 refine c_conv (L' := blk t (.cells #[.pointer (some ⟨rb, 0, none⟩), .int .i64 ((xs).length : Int)] 63 (0, 0)) :: nodeR e_ItA eN57 61 d 0 rb xs :: F) (fun w S => S) ?_
 refine c_region ?_
 refine o_move rfl rfl ?_
 refine o_nil rfl rfl ?_
 refine o_fieldAddr (q := ⟨t, 0, none⟩) rfl rfl Try.underlying63 rfl ti57 rfl ?_
 refine o_load1 rfl rfl Try.underlying57 rfl (rd_mem 0 rfl rfl) ?_
 refine o_move rfl rfl ?_
 refine o_move rfl rfl ?_
 refine o_build rfl sp68 ti68 rfl ((fill_cons (cells' := [.string k, .int .i64 0]) rfl rfl rfl rfl (fill_cons (cells' := [.string k, .int .i64 v]) rfl rfl rfl rfl fill_nil))) ?_
 refine l_f1 ?_
 refine o_call rfl cal25 rfl (put_A d (mn := 0) (x := (⟨k, v⟩ : ItA)) (by omega) srt) ?_
 rintro _ _ ⟨old20, had20, ls20, s20, ⟨his20, hol20⟩, rfl, rfl⟩
 refine o_move rfl rfl ?_
 refine o_extract rfl rfl rfl ?_
 refine o_extract rfl rfl rfl ?_
 refine o_extract rfl rfl rfl ?_
 refine o_extract rfl rfl rfl ?_
 refine o_assign rfl rfl ?_
 refine o_assign rfl rfl ?_
 refine o_assign rfl rfl ?_
 refine o_assign rfl rfl ?_
 refine l_nil ?_
 refine q_then ?_
 refine c_seq ?_
 refine c_seq ?_
 refine c_region ?_
 refine o_move rfl rfl ?_
 refine o_bin rfl rfl rfl (b_pne Try.underlying64 _) ?_
 refine l_nil ?_
 refine q_then ?_
 refine c_cond rfl (fun h1 => ?_) (fun h1 => ?_)
 · -- h1T
  have h1b := h1
  try simp only [decide_eq_true_eq, decide_eq_false_iff_not, Bool.not_eq_eq_eq_not, Bool.not_true, Bool.not_false, Bool.not_eq_true', Bool.not_eq_false', Int.not_lt, Int.not_le, Bool.or_eq_true, Bool.and_eq_true] at h1
  obtain ⟨⟨bm, m, br, rs⟩, hs20⟩ : ∃ z, s20 = some z := by cases s20 with | none => simp at h1b | some z => exact ⟨z, rfl⟩
  subst hs20
  refine c_mid (α := Nat × (Option Addr) × (Option Addr)) (fun z => [(0, .pointer (some ⟨t, 0, none⟩)), (1, .string k), (2, .int .i64 v), (6, .int .i64 0), (7, .bool false), (8, .int .i64 old20), (9, .bool had20), (10, .pointer (some ⟨bm, 0, none⟩)), (11, .pointer (some ⟨br, 0, none⟩)), (13, .pointer (some ⟨t, 0, none⟩)), (14, .pointer (some ⟨t, 0, none⟩)), (15, .pointer (some ⟨t, 0, none⟩)), (16, .pointer (some ⟨rb, 0, none⟩)), (17, .string k), (18, .int .i64 v), (19, .agg #[.string k, .int .i64 v]), (21, .int .i64 old20), (22, .bool had20), (27, .pointer (some ⟨t, 0, none⟩)), (28, .pointer (some ⟨bm, 0, none⟩)), (29, .pointer (some ⟨bm, 0, none⟩)), (30, .agg #[.string m.f_key, .int .i64 m.f_value]), (31, .slice z.2.1 ([m]).length 1), (32, .pointer (some ⟨t, 0, none⟩)), (33, .pointer (some ⟨t, 0, none⟩)), (34, .pointer (some ⟨t, 0, none⟩)), (35, .pointer (some ⟨rb, 0, none⟩)), (36, .pointer (some ⟨br, 0, none⟩)), (37, .slice z.2.2 ([rb, br]).length 2), (38, .agg #[.slice z.2.1 ([m]).length 1, .slice z.2.2 ([rb, br]).length 2]), (39, .pointer (some ⟨z.1, 0, none⟩)), (40, .pointer (some ⟨t, 0, none⟩)), (41, .pointer (some ⟨t, 0, none⟩))]) (fun z => blk t (.cells #[.pointer (some ⟨z.1, 0, none⟩), .int .i64 ((xs).length : Int)] 63 (0, 0)) :: blk z.1 (.cells #[.slice z.2.1 ([m]).length 1, .slice z.2.2 ([rb, br]).length 2] 61 (0, 0)) :: row eN57.T eN57.sz z.2.2 ([rb, br]).length 2 (flat eN57 [rb, br]) :: row e_ItA.T e_ItA.sz z.2.1 ([m]).length 1 (flat e_ItA [m]) :: blk bm (.cells #[.string m.f_key, .int .i64 m.f_value] 68 (0, 0)) :: nodeR e_ItA eN57 61 d 2 br rs :: nodeR e_ItA eN57 61 d 2 rb ls20 :: F) (fun z => True) ?_ ?_
  · -- cut
   refine c_conv (fun w S => S.perm p1) ?_
   refine c_conv (L' := blk bm (.cells #[.string m.f_key, .int .i64 m.f_value] 68 (0, 0)) :: nodeR e_ItA eN57 61 d 2 br rs :: _) (fun w S => Sat.flat (Ls := [_, _]) S) ?_
   refine c_held [blk bm (.cells #[.string m.f_key, .int .i64 m.f_value] 68 (0, 0)), nodeR e_ItA eN57 61 d 2 br rs, nodeR e_ItA eN57 61 d 2 rb ls20] (by kernel_rfl) rfl ?_
   refine h_take 0 rfl rfl (by kernel_rfl) (by kernel_rfl) (by kernel_rfl) (fun L0 => v_move rfl rfl) ?_
   refine h_take 1 rfl rfl (by kernel_rfl) (by kernel_rfl) (by kernel_rfl) (fun L0 => v_move rfl rfl) ?_
   refine h_take 2 rfl rfl (by kernel_rfl) (by kernel_rfl) (by kernel_rfl) (fun L0 => v_nil rfl rfl) ?_
   refine h_take 3 rfl rfl (by kernel_rfl) (by kernel_rfl) (by kernel_rfl) (fun L0 => v_loadn (vs := [_, _]) rfl rfl Try.underlying68 rfl ti68 (rdn_lit 0 rfl rfl)) ?_
   refine h_take 5 rfl rfl (by kernel_rfl) (by kernel_rfl) (by kernel_rfl) (fun L0 => v_move rfl rfl) ?_
   refine h_take 6 rfl rfl (by kernel_rfl) (by kernel_rfl) (by kernel_rfl) (fun L0 => v_nil rfl rfl) ?_
   refine h_take 7 rfl rfl (by kernel_rfl) (by kernel_rfl) (by kernel_rfl) (fun L0 => v_fieldAddr (q := ⟨t, 0, none⟩) rfl rfl Try.underlying63 rfl ti57 rfl) ?_
   refine h_take 9 rfl rfl (by kernel_rfl) (by kernel_rfl) (by kernel_rfl) (fun L0 => v_move rfl rfl) ?_
   refine h_many (is := [4, 8]) (by kernel_rfl) (by decide) (forall_cons ⟨_, rfl, ?_⟩ (forall_cons ⟨_, rfl, ?_⟩ forall_nil))
   · -- 4 comes first
    refine o_lit e_ItA_ok rfl Try.underlying58 rfl rfl rfl (lit_ok rfl) [m] rfl rfl fun a31 => ?_
    refine l_nil ?_
    refine q_conv (fun w S => S.perm p4) ?_
    refine q_conv (fun w S => S.perm p1) ?_
    refine q_conv (fun w S => S.perm p4) ?_
    refine q_conv (fun w S => S.perm p4) ?_
    refine q_conv (fun w S => S.perm p4) ?_
    refine h_next ?_
    refine h_one 8 rfl (by kernel_rfl) ?_
    refine o_load1 rfl rfl Try.underlying57 rfl (rd_mem 4 rfl rfl) ?_
    refine l_nil ?_
    refine h_next ?_
    refine h_one 10 rfl (by kernel_rfl) ?_
    refine o_lit eN57_ok rfl Try.underlying59 rfl rfl rfl (lit_ok rfl) [rb, br] rfl rfl fun a37 => ?_
    refine l_nil ?_
    refine q_conv (fun w S => S.perm p5) ?_
    refine q_conv (fun w S => S.perm p5) ?_
    refine q_conv (fun w S => S.perm p2) ?_
    refine q_conv (fun w S => S.perm p5) ?_
    refine q_conv (fun w S => S.perm p5) ?_
    refine q_conv (fun w S => S.perm p5) ?_
    refine h_next ?_
    refine h_take 11 rfl rfl (by kernel_rfl) (by kernel_rfl) (by kernel_rfl) (fun L0 => v_build rfl sp61 ti61 rfl ((fill_cons (cells' := [.slice a31 ([m]).length 1, .slice none 0 0]) rfl rfl rfl rfl (fill_cons (cells' := [.slice a31 ([m]).length 1, .slice a37 ([rb, br]).length 2]) rfl rfl rfl rfl fill_nil)))) ?_
    refine h_one 12 rfl (by kernel_rfl) ?_
    refine o_box rfl rfl fun b39 => ?_
    refine l_nil ?_
    refine q_conv (fun w S => S.perm p6) ?_
    refine q_conv (fun w S => S.perm p6) ?_
    refine q_conv (fun w S => S.perm p6) ?_
    refine q_conv (fun w S => S.perm p3) ?_
    refine q_conv (fun w S => S.perm p6) ?_
    refine q_conv (fun w S => S.perm p6) ?_
    refine q_conv (fun w S => S.perm p6) ?_
    refine h_next ?_
    refine h_take 13 rfl rfl (by kernel_rfl) (by kernel_rfl) (by kernel_rfl) (fun L0 => v_nil rfl rfl) ?_
    refine h_take 14 rfl rfl (by kernel_rfl) (by kernel_rfl) (by kernel_rfl) (fun L0 => v_fieldAddr (q := ⟨t, 0, none⟩) rfl rfl Try.underlying63 rfl ti57 rfl) ?_
    refine h_one 15 rfl (by kernel_rfl) ?_
    refine l_f6 ?_
    refine o_store1 rfl rfl rfl ti57 rfl rfl ?_
    refine l_nil ?_
    refine q_conv (fun w S => S.perm p6) ?_
    refine q_conv (fun w S => S.perm p6) ?_
    refine q_conv (fun w S => S.perm p6) ?_
    refine q_conv (fun w S => S.perm p3) ?_
    refine q_conv (fun w S => S.perm p6) ?_
    refine q_conv (fun w S => S.perm p6) ?_
    refine q_conv (fun w S => S.perm p6) ?_
    refine h_next ?_
    refine h_done (by kernel_rfl) ?_
    refine q_conv (fun w S => S.perm p2) ?_
    refine q_conv (fun w S => S.perm p2) ?_
    refine q_conv (fun w S => S.perm p2) ?_
    refine q_conv (fun w S => S.perm p6) ?_
    refine q_conv (fun w S => S.perm p6) ?_
    refine q_conv (fun w S => S.perm p6) ?_
    refine q_conv (fun w S => S.perm p6) ?_
    exact q_mid (b39, a31, a37) (by trivial) ⟨(by first | rfl | exact vint (by omega)), (by first | rfl | exact vint (by omega)), (by first | rfl | exact vint (by omega)), (by first | rfl | exact vint (by omega)), (by first | rfl | exact vint (by omega)), (by first | rfl | exact vint (by omega)), (by first | rfl | exact vint (by omega)), (by first | rfl | exact vint (by omega)), (by first | rfl | exact vint (by omega)), (by first | rfl | exact vint (by omega)), (by first | rfl | exact vint (by omega)), (by first | rfl | exact vint (by omega)), (by first | rfl | exact vint (by omega)), (by first | rfl | exact vint (by omega)), (by first | rfl | exact vint (by omega)), (by first | rfl | exact vint (by omega)), (by first | rfl | exact vint (by omega)), (by first | rfl | exact vint (by omega)), (by first | rfl | exact vint (by omega)), (by first | rfl | exact vint (by omega)), (by first | rfl | exact vint (by omega)), (by first | rfl | exact vint (by omega)), (by first | rfl | exact vint (by omega)), (by first | rfl | exact vint (by omega)), (by first | rfl | exact vint (by omega)), (by first | rfl | exact vint (by omega)), (by first | rfl | exact vint (by omega)), (by first | rfl | exact vint (by omega)), (by first | rfl | exact vint (by omega)), (by first | rfl | exact vint (by omega)), (by first | rfl | exact vint (by omega)), (by first | rfl | exact vint (by omega)), (by first | rfl | exact vint (by omega)), trivial⟩ (fun w S => S)
   · -- 8 comes first
    refine o_load1 rfl rfl Try.underlying57 rfl (rd_mem 3 rfl rfl) ?_
    refine l_nil ?_
    refine h_next ?_
    refine h_many (is := [4, 10]) (by kernel_rfl) (by decide) (forall_cons ⟨_, rfl, ?_⟩ (forall_cons ⟨_, rfl, ?_⟩ forall_nil))
    · -- 4 comes first
     refine o_lit e_ItA_ok rfl Try.underlying58 rfl rfl rfl (lit_ok rfl) [m] rfl rfl fun a31 => ?_
     refine l_nil ?_
     refine q_conv (fun w S => S.perm p4) ?_
     refine q_conv (fun w S => S.perm p1) ?_
     refine q_conv (fun w S => S.perm p4) ?_
     refine q_conv (fun w S => S.perm p4) ?_
     refine q_conv (fun w S => S.perm p4) ?_
     refine h_next ?_
     refine h_one 10 rfl (by kernel_rfl) ?_
     refine o_lit eN57_ok rfl Try.underlying59 rfl rfl rfl (lit_ok rfl) [rb, br] rfl rfl fun a37 => ?_
     refine l_nil ?_
     refine q_conv (fun w S => S.perm p5) ?_
     refine q_conv (fun w S => S.perm p5) ?_
     refine q_conv (fun w S => S.perm p2) ?_
     refine q_conv (fun w S => S.perm p5) ?_
     refine q_conv (fun w S => S.perm p5) ?_
     refine q_conv (fun w S => S.perm p5) ?_
     refine h_next ?_
     refine h_take 11 rfl rfl (by kernel_rfl) (by kernel_rfl) (by kernel_rfl) (fun L0 => v_build rfl sp61 ti61 rfl ((fill_cons (cells' := [.slice a31 ([m]).length 1, .slice none 0 0]) rfl rfl rfl rfl (fill_cons (cells' := [.slice a31 ([m]).length 1, .slice a37 ([rb, br]).length 2]) rfl rfl rfl rfl fill_nil)))) ?_
     refine h_one 12 rfl (by kernel_rfl) ?_
     refine o_box rfl rfl fun b39 => ?_
     refine l_nil ?_
     refine q_conv (fun w S => S.perm p6) ?_
     refine q_conv (fun w S => S.perm p6) ?_
     refine q_conv (fun w S => S.perm p6) ?_
     refine q_conv (fun w S => S.perm p3) ?_
     refine q_conv (fun w S => S.perm p6) ?_
     refine q_conv (fun w S => S.perm p6) ?_
     refine q_conv (fun w S => S.perm p6) ?_
     refine h_next ?_
     refine h_take 13 rfl rfl (by kernel_rfl) (by kernel_rfl) (by kernel_rfl) (fun L0 => v_nil rfl rfl) ?_
     refine h_take 14 rfl rfl (by kernel_rfl) (by kernel_rfl) (by kernel_rfl) (fun L0 => v_fieldAddr (q := ⟨t, 0, none⟩) rfl rfl Try.underlying63 rfl ti57 rfl) ?_
     refine h_one 15 rfl (by kernel_rfl) ?_
     refine l_f6 ?_
     refine o_store1 rfl rfl rfl ti57 rfl rfl ?_
     refine l_nil ?_
     refine q_conv (fun w S => S.perm p6) ?_
     refine q_conv (fun w S => S.perm p6) ?_
     refine q_conv (fun w S => S.perm p6) ?_
     refine q_conv (fun w S => S.perm p3) ?_
     refine q_conv (fun w S => S.perm p6) ?_
     refine q_conv (fun w S => S.perm p6) ?_
     refine q_conv (fun w S => S.perm p6) ?_
     refine h_next ?_
     refine h_done (by kernel_rfl) ?_
     refine q_conv (fun w S => S.perm p2) ?_
     refine q_conv (fun w S => S.perm p2) ?_
     refine q_conv (fun w S => S.perm p2) ?_
     refine q_conv (fun w S => S.perm p6) ?_
     refine q_conv (fun w S => S.perm p6) ?_
     refine q_conv (fun w S => S.perm p6) ?_
     refine q_conv (fun w S => S.perm p6) ?_
     exact q_mid (b39, a31, a37) (by trivial) ⟨(by first | rfl | exact vint (by omega)), (by first | rfl | exact vint (by omega)), (by first | rfl | exact vint (by omega)), (by first | rfl | exact vint (by omega)), (by first | rfl | exact vint (by omega)), (by first | rfl | exact vint (by omega)), (by first | rfl | exact vint (by omega)), (by first | rfl | exact vint (by omega)), (by first | rfl | exact vint (by omega)), (by first | rfl | exact vint (by omega)), (by first | rfl | exact vint (by omega)), (by first | rfl | exact vint (by omega)), (by first | rfl | exact vint (by omega)), (by first | rfl | exact vint (by omega)), (by first | rfl | exact vint (by omega)), (by first | rfl | exact vint (by omega)), (by first | rfl | exact vint (by omega)), (by first | rfl | exact vint (by omega)), (by first | rfl | exact vint (by omega)), (by first | rfl | exact vint (by omega)), (by first | rfl | exact vint (by omega)), (by first | rfl | exact vint (by omega)), (by first | rfl | exact vint (by omega)), (by first | rfl | exact vint (by omega)), (by first | rfl | exact vint (by omega)), (by first | rfl | exact vint (by omega)), (by first | rfl | exact vint (by omega)), (by first | rfl | exact vint (by omega)), (by first | rfl | exact vint (by omega)), (by first | rfl | exact vint (by omega)), (by first | rfl | exact vint (by omega)), (by first | rfl | exact vint (by omega)), (by first | rfl | exact vint (by omega)), trivial⟩ (fun w S => S)
    · -- 10 comes first
     refine o_lit eN57_ok rfl Try.underlying59 rfl rfl rfl (lit_ok rfl) [rb, br] rfl rfl fun a37 => ?_
     refine l_nil ?_
     refine q_conv (fun w S => S.perm p4) ?_
     refine q_conv (fun w S => S.perm p1) ?_
     refine q_conv (fun w S => S.perm p4) ?_
     refine q_conv (fun w S => S.perm p4) ?_
     refine q_conv (fun w S => S.perm p4) ?_
     refine h_next ?_
     refine h_one 4 rfl (by kernel_rfl) ?_
     refine o_lit e_ItA_ok rfl Try.underlying58 rfl rfl rfl (lit_ok rfl) [m] rfl rfl fun a31 => ?_
     refine l_nil ?_
     refine q_conv (fun w S => S.perm p5) ?_
     refine q_conv (fun w S => S.perm p5) ?_
     refine q_conv (fun w S => S.perm p2) ?_
     refine q_conv (fun w S => S.perm p5) ?_
     refine q_conv (fun w S => S.perm p5) ?_
     refine q_conv (fun w S => S.perm p5) ?_
     refine h_next ?_
     refine h_take 11 rfl rfl (by kernel_rfl) (by kernel_rfl) (by kernel_rfl) (fun L0 => v_build rfl sp61 ti61 rfl ((fill_cons (cells' := [.slice a31 ([m]).length 1, .slice none 0 0]) rfl rfl rfl rfl (fill_cons (cells' := [.slice a31 ([m]).length 1, .slice a37 ([rb, br]).length 2]) rfl rfl rfl rfl fill_nil)))) ?_
     refine h_one 12 rfl (by kernel_rfl) ?_
     refine o_box rfl rfl fun b39 => ?_
     refine l_nil ?_
     refine q_conv (fun w S => S.perm p6) ?_
     refine q_conv (fun w S => S.perm p6) ?_
     refine q_conv (fun w S => S.perm p6) ?_
     refine q_conv (fun w S => S.perm p3) ?_
     refine q_conv (fun w S => S.perm p6) ?_
     refine q_conv (fun w S => S.perm p6) ?_
     refine q_conv (fun w S => S.perm p6) ?_
     refine h_next ?_
     refine h_take 13 rfl rfl (by kernel_rfl) (by kernel_rfl) (by kernel_rfl) (fun L0 => v_nil rfl rfl) ?_
     refine h_take 14 rfl rfl (by kernel_rfl) (by kernel_rfl) (by kernel_rfl) (fun L0 => v_fieldAddr (q := ⟨t, 0, none⟩) rfl rfl Try.underlying63 rfl ti57 rfl) ?_
     refine h_one 15 rfl (by kernel_rfl) ?_
     refine l_f6 ?_
     refine o_store1 rfl rfl rfl ti57 rfl rfl ?_
     refine l_nil ?_
     refine q_conv (fun w S => S.perm p6) ?_
     refine q_conv (fun w S => S.perm p6) ?_
     refine q_conv (fun w S => S.perm p6) ?_
     refine q_conv (fun w S => S.perm p3) ?_
     refine q_conv (fun w S => S.perm p6) ?_
     refine q_conv (fun w S => S.perm p6) ?_
     refine q_conv (fun w S => S.perm p6) ?_
     refine h_next ?_
     refine h_done (by kernel_rfl) ?_
     refine q_conv (fun w S => S.perm p2) ?_
     refine q_conv (fun w S => S.perm p2) ?_
     refine q_conv (fun w S => S.perm p2) ?_
     refine q_conv (fun w S => S.perm p5) ?_
     refine q_conv (fun w S => S.perm p6) ?_
     refine q_conv (fun w S => S.perm p6) ?_
     refine q_conv (fun w S => S.perm p6) ?_
     exact q_mid (b39, a31, a37) (by trivial) ⟨(by first | rfl | exact vint (by omega)), (by first | rfl | exact vint (by omega)), (by first | rfl | exact vint (by omega)), (by first | rfl | exact vint (by omega)), (by first | rfl | exact vint (by omega)), (by first | rfl | exact vint (by omega)), (by first | rfl | exact vint (by omega)), (by first | rfl | exact vint (by omega)), (by first | rfl | exact vint (by omega)), (by first | rfl | exact vint (by omega)), (by first | rfl | exact vint (by omega)), (by first | rfl | exact vint (by omega)), (by first | rfl | exact vint (by omega)), (by first | rfl | exact vint (by omega)), (by first | rfl | exact vint (by omega)), (by first | rfl | exact vint (by omega)), (by first | rfl | exact vint (by omega)), (by first | rfl | exact vint (by omega)), (by first | rfl | exact vint (by omega)), (by first | rfl | exact vint (by omega)), (by first | rfl | exact vint (by omega)), (by first | rfl | exact vint (by omega)), (by first | rfl | exact vint (by omega)), (by first | rfl | exact vint (by omega)), (by first | rfl | exact vint (by omega)), (by first | rfl | exact vint (by omega)), (by first | rfl | exact vint (by omega)), (by first | rfl | exact vint (by omega)), (by first | rfl | exact vint (by omega)), (by first | rfl | exact vint (by omega)), (by first | rfl | exact vint (by omega)), (by first | rfl | exact vint (by omega)), (by first | rfl | exact vint (by omega)), trivial⟩ (fun w S => S)
  · -- behind the cut
   rintro ⟨b39, a31, a37⟩ _hp
   try dsimp only at *
   refine c_seq ?_
   refine c_seq ?_
   refine c_region ?_
   refine o_move rfl rfl ?_
   refine o_not rfl rfl ?_
   refine l_nil ?_
   refine q_then ?_
   refine c_cond rfl (fun h2 => ?_) (fun h2 => ?_)
   · -- h2T
    have h2b := h2
    try simp only [decide_eq_true_eq, decide_eq_false_iff_not, Bool.not_eq_eq_eq_not, Bool.not_true, Bool.not_false, Bool.not_eq_true', Bool.not_eq_false', Int.not_lt, Int.not_le, Bool.or_eq_true, Bool.and_eq_true] at h2
    refine c_region ?_
    refine o_move rfl rfl ?_
    refine o_nil rfl rfl ?_
    refine o_fieldAddr (q := ⟨t, 1, none⟩) rfl rfl Try.underlying63 rfl ti3 rfl ?_
    refine o_load1 rfl rfl Try.underlying3 rfl (rd_mem 0 rfl rfl) ?_
    refine o_bin rfl rfl rfl (b_add (wrap_i64 (by omega) (by omega))) ?_
    refine o_nil rfl rfl ?_
    refine o_fieldAddr (q := ⟨t, 1, none⟩) rfl rfl Try.underlying63 rfl ti3 rfl ?_
    refine o_store1 rfl rfl rfl ti3 rfl rfl ?_
    refine l_nil ?_
    refine q_then ?_
    refine c_seq ?_
    refine c_region ?_
    refine o_move rfl rfl ?_
    refine o_move rfl rfl ?_
    refine o_assign rfl rfl ?_
    refine o_assign rfl rfl ?_
    refine l_nil ?_
    refine q_then ?_
    refine c_ret ?_
    have hlen : ((ins ItA.f_key strlt (⟨k, v⟩ : ItA) xs).length : Int) = ((xs).length : Int) + 1 := by have h9 := hol20.len strlt_sto srt; rw [show had20 = false from by assumption] at h9; simpa using h9
    refine q_conv (fun w S => (S.perm p4).tail) ?_
    refine q_conv (fun w S => S.perm p4) ?_
    refine q_conv (fun w S => S.perm p5) ?_
    refine q_conv (fun w S => S.perm p4) ?_
    refine q_conv (fun w S => S.perm p5) ?_
    refine q_conv (fun w S => S.perm p5) ?_
    exact f_ret (r_two rfl rfl rfl) (⟨old20, had20, ⟨hol20, srt⟩, rfl, rfl⟩) (fun w S => treeMk (d + 1) b39 (srt_ins strlt_sto srt) (by rw [hlen, his20]; exact (root_new S).perm (List.Perm.swap _ _ _)))
   · -- h2F
    have h2b := h2
    try simp only [decide_eq_true_eq, decide_eq_false_iff_not, Bool.not_eq_eq_eq_not, Bool.not_true, Bool.not_false, Bool.not_eq_true', Bool.not_eq_false', Int.not_lt, Int.not_le, Bool.or_eq_true, Bool.and_eq_true] at h2
    refine c_skip ?_
    refine q_then ?_
    refine c_seq ?_
    refine c_region ?_
    refine o_move rfl rfl ?_
    refine o_move rfl rfl ?_
    refine o_assign rfl rfl ?_
    refine o_assign rfl rfl ?_
    refine l_nil ?_
    refine q_then ?_
    refine c_ret ?_
    have hlen : ((ins ItA.f_key strlt (⟨k, v⟩ : ItA) xs).length : Int) = ((xs).length : Int) := by have h9 := hol20.len strlt_sto srt; rw [show had20 = true from by assumption] at h9; simpa using h9
    refine q_conv (fun w S => (S.perm p4).tail) ?_
    refine q_conv (fun w S => S.perm p4) ?_
    refine q_conv (fun w S => S.perm p5) ?_
    refine q_conv (fun w S => S.perm p4) ?_
    refine q_conv (fun w S => S.perm p5) ?_
    refine q_conv (fun w S => S.perm p5) ?_
    exact f_ret (r_two rfl rfl rfl) (⟨old20, had20, ⟨hol20, srt⟩, rfl, rfl⟩) (fun w S => treeMk (d + 1) b39 (srt_ins strlt_sto srt) (by rw [hlen, his20]; exact (root_new S).perm (List.Perm.swap _ _ _)))
 · -- h1F
  have h1b := h1
  try simp only [decide_eq_true_eq, decide_eq_false_iff_not, Bool.not_eq_eq_eq_not, Bool.not_true, Bool.not_false, Bool.not_eq_true', Bool.not_eq_false', Int.not_lt, Int.not_le, Bool.or_eq_true, Bool.and_eq_true] at h1
  have hs20 : s20 = none := by cases s20 with | none => rfl | some z => simp at h1b
  subst hs20
  refine c_skip ?_
  refine q_then ?_
  refine c_seq ?_
  refine c_seq ?_
  refine c_region ?_
  refine o_move rfl rfl ?_
  refine o_not rfl rfl ?_
  refine l_nil ?_
  refine q_then ?_
  refine c_cond rfl (fun h3 => ?_) (fun h3 => ?_)
  · -- h3T
   have h3b := h3
   try simp only [decide_eq_true_eq, decide_eq_false_iff_not, Bool.not_eq_eq_eq_not, Bool.not_true, Bool.not_false, Bool.not_eq_true', Bool.not_eq_false', Int.not_lt, Int.not_le, Bool.or_eq_true, Bool.and_eq_true] at h3
   refine c_region ?_
   refine o_move rfl rfl ?_
   refine o_nil rfl rfl ?_
   refine o_fieldAddr (q := ⟨t, 1, none⟩) rfl rfl Try.underlying63 rfl ti3 rfl ?_
   refine o_load1 rfl rfl Try.underlying3 rfl (rd_mem 2 rfl rfl) ?_
   refine o_bin rfl rfl rfl (b_add (wrap_i64 (by omega) (by omega))) ?_
   refine o_nil rfl rfl ?_
   refine o_fieldAddr (q := ⟨t, 1, none⟩) rfl rfl Try.underlying63 rfl ti3 rfl ?_
   refine l_f2 ?_
   refine o_store1 rfl rfl rfl ti3 rfl rfl ?_
   refine l_nil ?_
   refine q_then ?_
   refine c_seq ?_
   refine c_region ?_
   refine o_move rfl rfl ?_
   refine o_move rfl rfl ?_
   refine o_assign rfl rfl ?_
   refine o_assign rfl rfl ?_
   refine l_nil ?_
   refine q_then ?_
   refine c_ret ?_
   have hlen : ((ins ItA.f_key strlt (⟨k, v⟩ : ItA) xs).length : Int) = ((xs).length : Int) + 1 := by have h9 := hol20.len strlt_sto srt; rw [show had20 = false from by assumption] at h9; simpa using h9
   refine q_conv (fun w S => (S.perm p2).tail) ?_
   exact f_ret (r_two rfl rfl rfl) (⟨old20, had20, ⟨hol20, srt⟩, rfl, rfl⟩) (fun w S => treeMk d rb (srt_ins strlt_sto srt) (by rw [hlen, his20]; exact S))
  · -- h3F
   have h3b := h3
   try simp only [decide_eq_true_eq, decide_eq_false_iff_not, Bool.not_eq_eq_eq_not, Bool.not_true, Bool.not_false, Bool.not_eq_true', Bool.not_eq_false', Int.not_lt, Int.not_le, Bool.or_eq_true, Bool.and_eq_true] at h3
   refine c_skip ?_
   refine q_then ?_
   refine c_seq ?_
   refine c_region ?_
   refine o_move rfl rfl ?_
   refine o_move rfl rfl ?_
   refine o_assign rfl rfl ?_
   refine o_assign rfl rfl ?_
   refine l_nil ?_
   refine q_then ?_
   refine c_ret ?_
   have hlen : ((ins ItA.f_key strlt (⟨k, v⟩ : ItA) xs).length : Int) = ((xs).length : Int) := by have h9 := hol20.len strlt_sto srt; rw [show had20 = true from by assumption] at h9; simpa using h9
   refine q_conv (fun w S => (S.perm p1).tail) ?_
   refine q_conv (fun w S => S.perm p1) ?_
   exact f_ret (r_two rfl rfl rfl) (⟨old20, had20, ⟨hol20, srt⟩, rfl, rfl⟩) (fun w S => treeMk d rb (srt_ins strlt_sto srt) (by rw [hlen, his20]; exact S))
theorem tlen_A {W : World} {F : List Res} {t : Nat} {xs : List ItA} : CS Try.prog 24 #[.pointer (some ⟨t, 0, none⟩)] W (treeR e_ItA eN57 61 63 ItA.f_key strlt t xs :: F) (fun r L' => r = .int .i64 (xs.length : Int) ∧ L' = treeR e_ItA eN57 61 63 ItA.f_key strlt t xs :: F) := by
 refine f_door (l0 := [(0, .pointer (some ⟨t, 0, none⟩))]) Try.func24 Try.ntmps24 rfl rfl rfl ?_
 refine c_seq ?_
 refine c_region ?_
 refine o_assign rfl rfl ?_
 refine l_nil ?_
 refine q_then ?_
 refine c_seq ?_
 refine c_tree ?_
 rintro d rb srt
 refine c_conv (L' := blk t (.cells #[.pointer (some ⟨rb, 0, none⟩), .int .i64 ((xs).length : Int)] 63 (0, 0)) :: nodeR e_ItA eN57 61 d 0 rb xs :: F) (fun w S => S) ?_
 refine c_region ?_
 refine o_move rfl rfl ?_
 refine o_nil rfl rfl ?_
 refine o_fieldAddr (q := ⟨t, 1, none⟩) rfl rfl Try.underlying63 rfl ti3 rfl ?_
 refine o_load1 rfl rfl Try.underlying3 rfl (rd_mem 0 rfl rfl) ?_
 refine o_assign rfl rfl ?_
 refine l_nil ?_
 refine q_then ?_
 refine c_ret ?_
 exact f_ret (r_one rfl rfl) (⟨rfl, rfl⟩) (fun w S => treeMk d rb srt S)
theorem from_A {W : World} {F : List Res} {t : Nat} {k : ByteArray} : CS Try.prog 12 #[.pointer (some ⟨t, 0, none⟩), .string k] W (F) (fun r L' => ∃ kt kk : Nat, r = .func (.func 26) #[] #[.pointer (some ⟨kt, 0, none⟩), .pointer (some ⟨kk, 0, none⟩)] ∧ L' = blk kt (.cells #[.pointer (some ⟨t, 0, none⟩)] 25 (0, 0)) :: blk kk (.cells #[.string k] 9 (0, 0)) :: F) := by
 refine f_door (l0 := [(0, .pointer (some ⟨t, 0, none⟩)), (1, .string k)]) Try.func12 Try.ntmps12 rfl rfl rfl ?_
 refine c_seq ?_
 refine c_region ?_
 refine o_box rfl rfl fun b2 => ?_
 refine o_box rfl rfl fun b3 => ?_
 refine o_assign rfl rfl ?_
 refine l_nil ?_
 refine q_then ?_
 refine c_seq ?_
 refine c_region ?_
 refine o_makeFunc rfl rfl rfl ?_
 refine o_assign rfl rfl ?_
 refine l_nil ?_
 refine q_then ?_
 refine c_ret ?_
 refine q_conv (fun w S => S.perm p1) ?_
 exact f_ret (r_one rfl rfl) (⟨b2, b3, rfl, rfl⟩) (fun w S => S)
theorem fromIter_A {W : World} {t kt kk : Nat} {xs : List ItA} {k : ByteArray} : IterG Try.prog 26 #[.pointer (some ⟨kt, 0, none⟩), .pointer (some ⟨kk, 0, none⟩)] (fun x : ItA => [.string x.f_key, .int .i64 x.f_value]) W [blk kt (.cells #[.pointer (some ⟨t, 0, none⟩)] 25 (0, 0)), blk kk (.cells #[.string k] 9 (0, 0)), treeR e_ItA eN57 61 63 ItA.f_key strlt t xs] (sel ItA.f_key strlt (some k) xs) := by
 intro y I J L0 hI0 hy
 show CS Try.prog 26 #[y, .pointer (some ⟨kt, 0, none⟩), .pointer (some ⟨kk, 0, none⟩)] W (blk kt (.cells #[.pointer (some ⟨t, 0, none⟩)] 25 (0, 0)) :: blk kk (.cells #[.string k] 9 (0, 0)) :: treeR e_ItA eN57 61 63 ItA.f_key strlt t xs :: L0) _
 refine f_door (l0 := [(0, y), (1, .pointer (some ⟨kt, 0, none⟩)), (2, .pointer (some ⟨kk, 0, none⟩))]) Try.func26 Try.ntmps26 rfl rfl rfl ?_
 refine c_conv (fun w S => S.perm p2) ?_
 refine c_tree ?_
 rintro d rb srt
 refine c_conv (L' := blk t (.cells #[.pointer (some ⟨rb, 0, none⟩), .int .i64 ((xs).length : Int)] 63 (0, 0)) :: nodeR e_ItA eN57 61 d 0 rb xs :: blk kt (.cells #[.pointer (some ⟨t, 0, none⟩)] 25 (0, 0)) :: blk kk (.cells #[.string k] 9 (0, 0)) :: L0) (fun w S => S) ?_
 refine c_region ?_
 refine o_load1 rfl rfl Try.underlying25 rfl (rd_mem 2 rfl rfl) ?_
 refine o_nil rfl rfl ?_
 refine o_fieldAddr (q := ⟨t, 0, none⟩) rfl rfl Try.underlying63 rfl ti57 rfl ?_
 refine o_load1 rfl rfl Try.underlying57 rfl (rd_mem 0 rfl rfl) ?_
 refine o_move rfl rfl ?_
 refine l_conv (fun w S => S.perm p3) ?_
 refine l_conv (fun w S => S.perm p3) ?_
 refine l_conv (fun w S => S.perm p2) ?_
 refine l_conv (fun w S => S.perm p3) ?_
 refine l_conv (L' := nodeR e_ItA eN57 61 d 0 rb xs :: ([blk t (.cells #[.pointer (some ⟨rb, 0, none⟩), .int .i64 ((xs).length : Int)] 63 (0, 0)), blk kt (.cells #[.pointer (some ⟨t, 0, none⟩)] 25 (0, 0)), blk kk (.cells #[.string k] 9 (0, 0))] ++ L0)) (fun w S => S) ?_
 refine o_call rfl cal27 rfl (walk_A d (G := [blk t (.cells #[.pointer (some ⟨rb, 0, none⟩), .int .i64 ((xs).length : Int)] 63 (0, 0)), blk kt (.cells #[.pointer (some ⟨t, 0, none⟩)] 25 (0, 0)), blk kk (.cells #[.string k] 9 (0, 0))]) (pre := []) (full := sel ItA.f_key strlt (some k) xs) srt (.inr ⟨k, kk, rfl, rfl, by simp⟩) hI0 (by rw [List.nil_append]; exact List.prefix_refl _) hy) ?_
 rintro _ _ ⟨bb9, L9, rfl, hbb9, rfl⟩
 refine l_conv (L' := nodeR e_ItA eN57 61 d 0 rb xs :: blk t (.cells #[.pointer (some ⟨rb, 0, none⟩), .int .i64 ((xs).length : Int)] 63 (0, 0)) :: blk kt (.cells #[.pointer (some ⟨t, 0, none⟩)] 25 (0, 0)) :: blk kk (.cells #[.string k] 9 (0, 0)) :: L9) (fun w S => S) ?_
 refine l_nil ?_
 refine q_conv (fun w S => S.perm p3) ?_
 refine q_conv (fun w S => S.perm p3) ?_
 refine q_conv (fun w S => S.perm p2) ?_
 refine q_conv (fun w S => S.perm p3) ?_
 exact f_end (r_none rfl) (⟨L9, by rcases hbb9 with ⟨_, h9⟩ | ⟨_, h9⟩; exact .inl h9; exact .inr h9, rfl⟩) (fun w S => ((treeMk d rb srt S).perm p2).perm p2)
end
section
set_option linter.unusedVariables false
set_option linter.unusedSimpArgs false
set_option maxRecDepth 10000
open Go.RowKit Classical
def FirstOk_A (ys : List ItA) (nk : ByteArray) (ok : Bool) : Prop := match ys with | [] => ok = false ∧ nk = ByteArray.empty | y :: _ => ok = true ∧ nk = y.f_key
theorem first_A {W : World} {F : List Res} {t : Nat} {xs : List ItA} {k : ByteArray} : CS Try.prog 23 #[.pointer (some ⟨t, 0, none⟩), .string k] W (treeR e_ItA eN57 61 63 ItA.f_key strlt t xs :: F) (fun r L' => ∃ (nk : ByteArray) (ok : Bool), FirstOk_A (sel ItA.f_key strlt (some k) xs) nk ok ∧ r = .tuple #[.string nk, .bool ok] ∧ L' = treeR e_ItA eN57 61 63 ItA.f_key strlt t xs :: F) := by
 refine f_door (l0 := [(0, .pointer (some ⟨t, 0, none⟩)), (1, .string k)]) Try.func23 Try.ntmps23 rfl rfl rfl ?_
 refine c_seq ?_
 refine c_region ?_
 refine o_alloc rfl ti9 fun b4 => ?_
 refine o_alloc rfl ti4 fun b5 => ?_
 refine l_nil ?_
 refine q_then ?_
 refine c_seq ?_
 refine c_seq ?_
 refine c_region ?_
 refine o_move rfl rfl ?_
 refine o_move rfl rfl ?_
 refine o_call rfl cal12 rfl (from_A (t := t) (k := k)) ?_
 rintro _ _ ⟨kt9, kk9, rfl, rfl⟩
 refine l_nil ?_
 refine q_then ?_
 refine c_block ?_
 refine c_conv (fun w S => S.perm p2) ?_
 refine c_conv (fun w S => S.perm p3) ?_
 refine c_conv (fun w S => S.perm p4) ?_
 refine c_conv (fun w S => S.perm p4) ?_
 refine c_conv (fun w S => S.perm p4) ?_
 refine c_rangeG (Li := [blk kt9 (.cells #[.pointer (some ⟨t, 0, none⟩)] 25 (0, 0)), blk kk9 (.cells #[.string k] 9 (0, 0)), treeR e_ItA eN57 61 63 ItA.f_key strlt t xs]) (L0 := blk b4 (.cells #[.string ByteArray.empty] 9 (0, 0)) :: blk b5 (.cells #[.bool false] 4 (0, 0)) :: F) (fun pre L => (pre = []) ∧ L = blk b4 (.cells #[.string ByteArray.empty] 9 (0, 0)) :: blk b5 (.cells #[.bool false] 4 (0, 0)) :: F) (fun c L => (c = .ret ∧ ∃ z : ItA, (∃ zs, sel ItA.f_key strlt (some k) xs = z :: zs) ∧ L = blk b4 (.cells #[.string z.f_key] 9 (0, 0)) :: blk b5 (.cells #[.bool true] 4 (0, 0)) :: F)) rfl rfl cal26 rfl (fun _ => rfl) (fromIter_A) (fun w S => S) ⟨rfl, rfl⟩ ?_ ?_ ?_
 · -- round
  rintro Lxg1 kg1 rg1 Dg1 pre x _ hrg1 ⟨hp0, rfl⟩ hpre
  try dsimp only at *
  refine c_conv (L' := blk kg1 (.loop rg1) :: Dg1 :: blk b4 (.cells #[.string ByteArray.empty] 9 (0, 0)) :: blk b5 (.cells #[.bool false] 4 (0, 0)) :: (Lxg1 ++ F)) (fun w S => S.perm (rgP Lxg1 [blk b4 (.cells #[.string ByteArray.empty] 9 (0, 0)), blk b5 (.cells #[.bool false] 4 (0, 0))] F)) ?_
  refine c_region ?_
  refine o_assign rfl rfl ?_
  refine l_nil ?_
  refine q_begin rfl hrg1 ?_
  refine c_block ?_
  refine c_seq ?_
  refine c_region ?_
  refine o_move rfl rfl ?_
  refine l_f2 ?_
  refine o_store1 rfl rfl rfl ti9 rfl rfl ?_
  refine l_f3 ?_
  refine o_store1 rfl rfl rfl ti4 rfl rfl ?_
  refine l_nil ?_
  refine q_then ?_
  refine c_ret ?_
  refine q_block_ret ?_
  refine q_conv (fun w S => S.perm p1) ?_
  refine q_conv (fun w S => S.perm p3) ?_
  refine q_conv (fun w S => S.perm p3) ?_
  exact q_roundRet (.inr ⟨rfl, _, _, ⟨rfl, x, by (subst hp0; obtain ⟨zs, hzs⟩ := hpre; exact ⟨zs, by rw [← hzs]; rfl⟩), rfl⟩, rfl⟩) (fun w S => S.perm (rgP Lxg1 [blk b4 (.cells #[.string x.f_key] 9 (0, 0)), blk b5 (.cells #[.bool true] 4 (0, 0))] F).symm)
 · -- all have come
  rintro dg1 _ ⟨hp0, rfl⟩
  try dsimp only at *
  refine q_block ?_
  refine q_then ?_
  refine c_seq ?_
  refine c_region ?_
  refine o_load1 rfl rfl Try.underlying9 rfl (rd_mem 4 rfl rfl) ?_
  refine l_f4 ?_
  refine o_store1 rfl rfl rfl ti9 rfl rfl ?_
  refine l_f5 ?_
  refine o_store1 rfl rfl rfl ti4 rfl rfl ?_
  refine l_nil ?_
  refine q_then ?_
  refine c_ret ?_
  refine q_conv (fun w S => S.perm p5) ?_
  refine q_conv (fun w S => S.perm p5) ?_
  refine q_conv (fun w S => S.perm p5) ?_
  refine q_conv (fun w S => S.perm p4) ?_
  refine q_conv (fun w S => S.perm p4) ?_
  refine q_conv (fun w S => S.perm p5) ?_
  refine f_retMq [dg1] (.inl rfl) rfl (fun w S => S) (rs_2 rfl (rs_cell rfl Try.underlying9 rfl (rd_mem 1 rfl rfl)) (rs_cell rfl Try.underlying4 rfl (rd_mem 0 rfl rfl))) (fun w S => ?_)
  replace S := S.tail
  replace S := S.tail
  replace S := S.tail
  replace S := S.tail
  exact ⟨_, ⟨ByteArray.empty, false, by rw [hp0]; exact ⟨rfl, rfl⟩, rfl, rfl⟩, (fun w S => S) w S⟩
 · -- a round has left
  rintro dg1 cg1 _ (⟨rfl, z, ⟨zs, hzs⟩, rfl⟩)
  · -- ret
   try dsimp only at *
   refine c_ret ?_
   refine q_block_ret ?_
   refine q_pass_ret ?_
   refine f_retMq [dg1] (.inl rfl) rfl (fun w S => S) (rs_2 rfl (rs_cell rfl Try.underlying9 rfl (rd_mem 3 rfl rfl)) (rs_cell rfl Try.underlying4 rfl (rd_mem 4 rfl rfl))) (fun w S => ?_)
   replace S := S.tail
   replace S := S.tail
   replace S := (S.perm p1).tail
   replace S := (S.perm p1).tail
   exact ⟨_, ⟨z.f_key, true, by rw [hzs]; exact ⟨rfl, rfl⟩, rfl, rfl⟩, (fun w S => S) w S⟩
end
section
set_option linter.unusedVariables false
set_option linter.unusedSimpArgs false
open Go.RowKit Classical
abbrev s97 : ByteArray := ⟨#[97]⟩
abbrev s98 : ByteArray := ⟨#[98]⟩
abbrev s9797 : ByteArray := ⟨#[97, 97]⟩
theorem lab : strlt s97 s98 := rfl
theorem nba : ¬ strlt s98 s97 := fun h => by cases (show slt s98 s97 = true from h)
theorem laaa : strlt s97 s9797 := rfl
theorem nbaa : ¬ strlt s98 s9797 := fun h => by cases (show slt s98 s9797 = true from h)
theorem sp1 : ins ItA.f_key strlt (⟨s98, 1⟩ : ItA) [] = [⟨s98, 1⟩] := rfl
theorem sp2 : ins ItA.f_key strlt (⟨s97, 2⟩ : ItA) (ins ItA.f_key strlt (⟨s98, 1⟩ : ItA) []) = [⟨s97, 2⟩, ⟨s98, 1⟩] := if_pos lab
theorem sp3 : ins ItA.f_key strlt (⟨s98, 3⟩ : ItA) (ins ItA.f_key strlt (⟨s97, 2⟩ : ItA) (ins ItA.f_key strlt (⟨s98, 1⟩ : ItA) [])) = [⟨s97, 2⟩, ⟨s98, 3⟩] := by
  rw [sp2]
  rw [ins, if_neg nba, if_pos lab, ins, if_neg (strlt_sto.irr _), if_neg (strlt_sto.irr _)]
theorem spSel : sel ItA.f_key strlt (some s9797) [⟨s97, 2⟩, ⟨s98, 3⟩] = [⟨s98, 3⟩] := by
  simp only [sel]
  rw [List.filter_cons_of_neg (by simp only [decide_eq_true_eq, Classical.not_not]; exact laaa), List.filter_cons_of_pos (by simp only [decide_eq_true_eq]; exact nbaa), List.filter_nil]
theorem spOld {old : Int} {had : Bool} (h : Old ItA.f_key ItA.f_value (0 : Int) (⟨s98, 3⟩ : ItA) (ins ItA.f_key strlt (⟨s97, 2⟩ : ItA) (ins ItA.f_key strlt (⟨s98, 1⟩ : ItA) [])) old had) : old = 1 ∧ had = true := by
  rw [sp2] at h
  exact ⟨h.old1 ⟨s98, 1⟩ (by simp) rfl, h.hadI.2 ⟨⟨s98, 1⟩, by simp, rfl⟩⟩
theorem spFst {nk : ByteArray} {ok : Bool} (h : FirstOk_A (sel ItA.f_key strlt (some s9797) (ins ItA.f_key strlt (⟨s98, 3⟩ : ItA) (ins ItA.f_key strlt (⟨s97, 2⟩ : ItA) (ins ItA.f_key strlt (⟨s98, 1⟩ : ItA) [])))) nk ok) : nk = s98 ∧ ok = true := by
  rw [sp3, spSel] at h
  exact ⟨h.2, h.1⟩
/-- From key to key. -/
structure NextOk (ks : List ItB) (j : Nat) (at_ : Int) : Prop where
  lo : ∀ c ∈ ks.take j, c.f_key < at_
  hi : ∀ d ∈ ks.drop j, ¬ d.f_key < at_
  bd : 0 ≤ at_ ∧ at_ ≤ 65536
theorem NextOk.start {ks : List ItB} (h : ∀ y ∈ ks, 0 ≤ y.f_key ∧ y.f_key ≤ 65535) : NextOk ks 0 0 := ⟨fun c hc => (by simp at hc), fun d hd => (by have := h d (by simpa using hd); omega), by omega⟩
theorem NextOk.on {ks : List ItB} {j : Nat} {at_ : Int} {y : ItB} (hs : Srt ItB.f_key ilt ks) (hb : ∀ y ∈ ks, 0 ≤ y.f_key ∧ y.f_key ≤ 65535) (h : NextOk ks j at_) (hy : ks[j]? = some y) : NextOk ks (j + 1) (y.f_key + 1) := by
  have hyb := hb y (List.mem_of_getElem? hy)
  refine ⟨fun c hc => ?_, fun d hd => ?_, by omega⟩
  · have h1 := lo_on ilt_sto (k := y.f_key + 1) hs hy (by show y.f_key < y.f_key + 1; omega) c hc
    exact h1
  · obtain ⟨hj, rfl⟩ := List.getElem?_eq_some_iff.1 hy
    obtain ⟨m, hm, rfl⟩ := List.mem_iff_getElem.1 hd
    rw [List.length_drop] at hm
    rw [List.getElem_drop]
    have := (List.pairwise_iff_getElem.1 hs) j (j + 1 + m) hj (by omega) (by omega)
    have h2 : ks[j].f_key < ks[j + 1 + m].f_key := this
    omega
end
section
set_option linter.unusedVariables false
set_option linter.unusedSimpArgs false
set_option maxRecDepth 10000
open Go.RowKit Classical
theorem speaks_ {W : World} {F : List Res} : CS Try.prog 6 #[] W (F) (fun r L' => r = .bool true ∧ F = L') := by
 refine f_door (l0 := []) Try.func6 Try.ntmps6 rfl rfl rfl ?_
 refine c_seq ?_
 refine c_region ?_
 refine o_assign rfl rfl ?_
 refine l_nil ?_
 refine q_then ?_
 refine c_seq ?_
 refine c_region ?_
 refine o_call rfl cal8 rfl (new_A) ?_
 rintro _ _ ⟨t6, rfl, rfl⟩
 refine o_assign rfl rfl ?_
 refine l_nil ?_
 refine q_then ?_
 refine c_seq ?_
 refine c_seq ?_
 refine c_region ?_
 refine o_move rfl rfl ?_
 refine o_bin rfl rfl rfl (b_peq Try.underlying25 _) ?_
 refine l_nil ?_
 refine q_then ?_
 refine c_false rfl ?_
 refine c_skip ?_
 refine q_then ?_
 refine c_seq ?_
 refine c_region ?_
 refine o_move rfl rfl ?_
 refine o_call rfl cal9 rfl (tput_A (k := ⟨#[98]⟩) (v := 1) (by decide)) ?_
 rintro _ _ ⟨old10, had10, ⟨hol10, hsr10⟩, rfl, rfl⟩
 refine l_nil ?_
 refine q_then ?_
 refine c_seq ?_
 refine c_region ?_
 refine o_move rfl rfl ?_
 refine o_call rfl cal9 rfl (tput_A (k := ⟨#[97]⟩) (v := 2) (by rw [show (⟨#[98]⟩ : ByteArray) = s98 from rfl, sp1]; decide)) ?_
 rintro _ _ ⟨old12, had12, ⟨hol12, hsr12⟩, rfl, rfl⟩
 refine l_nil ?_
 refine q_then ?_
 refine c_seq ?_
 refine c_region ?_
 refine o_move rfl rfl ?_
 refine o_call rfl cal9 rfl (tput_A (k := ⟨#[98]⟩) (v := 3) (by have h9 := sp2; rw [show (ins ItA.f_key strlt (⟨⟨#[97]⟩, 2⟩ : ItA) (ins ItA.f_key strlt (⟨⟨#[98]⟩, 1⟩ : ItA) [])) = [⟨s97, 2⟩, ⟨s98, 1⟩] from sp2]; decide)) ?_
 rintro _ _ ⟨old15, had15, ⟨hol15, hsr15⟩, rfl, rfl⟩
 obtain ⟨ho15, hh15⟩ := spOld hol15
 refine o_move rfl rfl ?_
 refine o_extract rfl rfl rfl ?_
 refine o_extract rfl rfl rfl ?_
 refine o_assign rfl rfl ?_
 refine o_assign rfl rfl ?_
 refine l_nil ?_
 refine q_then ?_
 refine c_seq ?_
 refine c_region ?_
 refine o_move rfl rfl ?_
 refine o_call rfl cal23 rfl (first_A (k := ⟨#[97, 97]⟩)) ?_
 rintro _ _ ⟨nk20, ok20, hfk20, rfl, rfl⟩
 obtain ⟨hn20, hk20⟩ := spFst hfk20
 refine o_move rfl rfl ?_
 refine o_extract rfl rfl rfl ?_
 refine o_extract rfl rfl rfl ?_
 refine o_assign rfl rfl ?_
 refine o_assign rfl rfl ?_
 refine l_nil ?_
 refine q_then ?_
 refine c_seq ?_
 refine c_region ?_
 refine o_move rfl rfl ?_
 refine o_bin rfl rfl rfl b_eql ?_
 refine l_eq (t := 24) (v' := .bool true) rfl (show _ = Value.bool true from by rw [ho15]; first | done | rfl) ?_
 refine o_move rfl rfl ?_
 refine o_yes rfl rfl rfl ?_
 refine o_move rfl rfl ?_
 refine l_eq (t := 26) (v' := .bool true) rfl (show _ = Value.bool true from by rw [hh15]; first | done | rfl) ?_
 refine o_pick_true rfl rfl rfl ?_
 refine o_move rfl rfl ?_
 refine o_yes rfl rfl rfl ?_
 refine o_move rfl rfl ?_
 refine o_yes rfl rfl rfl ?_
 refine o_bin rfl rfl rfl b_seql ?_
 refine l_eq (t := 30) (v' := .bool true) rfl (show _ = Value.bool true from by rw [hn20]; simp) ?_
 refine o_pick_true rfl rfl rfl ?_
 refine o_move rfl rfl ?_
 refine o_yes rfl rfl rfl ?_
 refine o_move rfl rfl ?_
 refine l_eq (t := 33) (v' := .bool true) rfl (show _ = Value.bool true from by rw [hk20]; first | done | rfl) ?_
 refine o_pick_true rfl rfl rfl ?_
 refine o_move rfl rfl ?_
 refine o_yes rfl rfl rfl ?_
 refine o_move rfl rfl ?_
 refine o_yes rfl rfl rfl ?_
 refine o_call rfl cal24 rfl (tlen_A) ?_
 rintro _ _ ⟨rfl, rfl⟩
 refine o_yes rfl rfl rfl ?_
 refine o_bin rfl rfl rfl b_eql ?_
 refine l_eq (t := 38) (v' := .bool true) rfl (show _ = Value.bool true from by rw [show (ins ItA.f_key strlt (⟨⟨#[98]⟩, 3⟩ : ItA) (ins ItA.f_key strlt (⟨⟨#[97]⟩, 2⟩ : ItA) (ins ItA.f_key strlt (⟨⟨#[98]⟩, 1⟩ : ItA) []))) = [⟨s97, 2⟩, ⟨s98, 3⟩] from sp3]; rfl) ?_
 refine o_pick_true rfl rfl rfl ?_
 refine o_assign rfl rfl ?_
 refine l_nil ?_
 refine q_then ?_
 refine c_ret ?_
 refine q_conv (fun w S => S.tail) ?_
 exact f_ret (r_one rfl rfl) (⟨rfl, rfl⟩) (fun w S => S)
end
section
set_option linter.unusedVariables false
set_option linter.unusedSimpArgs false
set_option maxRecDepth 10000
open Go.RowKit Classical
set_option maxHeartbeats 2000000 in
theorem numbers_ {W : World} {F : List Res} {xs : List Int} {a : Option Addr} {c : Nat} (hs : SlR W e_I a xs) : CS Try.prog 5 #[.slice a xs.length c] W (F) (fun r L' => r = .bool true ∧ F = L') := by
 refine f_door (l0 := [(0, .slice a xs.length c)]) Try.func5 Try.ntmps5 rfl rfl rfl ?_
 refine c_seq ?_
 refine c_region ?_
 refine o_assign rfl rfl ?_
 refine l_nil ?_
 refine q_then ?_
 refine c_seq ?_
 refine c_seq ?_
 refine c_region ?_
 refine o_call rfl cal6 rfl (speaks_) ?_
 rintro _ _ ⟨rfl, rfl⟩
 refine o_not rfl rfl ?_
 refine l_nil ?_
 refine q_then ?_
 refine c_false rfl ?_
 refine c_skip ?_
 refine q_then ?_
 refine c_seq ?_
 refine c_seq ?_
 refine c_region ?_
 refine o_move rfl rfl ?_
 refine o_len rfl rfl Try.underlying42 ?_
 refine o_bin rfl rfl rfl b_gtr ?_
 refine l_nil ?_
 refine q_then ?_
 refine c_cond rfl (fun h1 => ?_) (fun h1 => ?_)
 · -- h1T
  have h1b := h1
  try simp only [decide_eq_true_eq] at h1
  refine c_seq ?_
  refine c_region ?_
  refine o_assign rfl rfl ?_
  refine l_nil ?_
  refine q_then ?_
  refine c_ret ?_
  refine q_pass_ret ?_
  exact f_ret (r_one rfl rfl) (⟨rfl, rfl⟩) (fun w S => S)
 · -- h1F
  have h1b := h1
  try simp only [decide_eq_false_iff_not, Int.not_lt, Int.not_le] at h1
  refine c_skip ?_
  refine q_then ?_
  refine c_seq ?_
  refine c_region ?_
  refine o_call rfl cal17 rfl (new_C) ?_
  rintro _ _ ⟨t19, rfl, rfl⟩
  refine o_assign rfl rfl ?_
  refine l_nil ?_
  refine q_then ?_
  refine c_seq ?_
  refine c_seq ?_
  refine c_region ?_
  refine o_move rfl rfl ?_
  refine o_bin rfl rfl rfl (b_peq Try.underlying49 _) ?_
  refine l_nil ?_
  refine q_then ?_
  refine c_false rfl ?_
  refine c_skip ?_
  refine q_then ?_
  refine c_seq ?_
  refine c_seq ?_
  refine c_region ?_
  refine o_move rfl rfl ?_
  refine o_len rfl rfl Try.underlying42 ?_
  refine o_move rfl rfl ?_
  refine l_nil ?_
  refine q_then ?_
  refine c_block ?_
  refine c_loop (α := Nat × (List ItC)) (fun z => [(0, .slice a (xs).length c), (3, .pointer (some ⟨t19, 0, none⟩)), (22, .slice a (xs).length c), (23, .int .i64 ((xs).length : Int)), (24, .int .i64 (z.1 : Int))]) (fun z => treeR e_ItC eN88 92 94 ItC.f_key ilt t19 z.2 :: F) (fun z => z.1 ≤ xs.length ∧ NumO (xs.take z.1) z.2) (fun z => xs.length - z.1) (0, []) (by exact ⟨Nat.zero_le _, NumO.nil⟩) ⟨(by first | rfl | exact vint (by omega)), (by first | rfl | exact vint (by omega)), (by first | rfl | exact vint (by omega)), (by first | rfl | exact vint (by omega)), (by first | rfl | exact vint (by omega)), trivial⟩ (fun w S => S) ?_
  rintro ⟨i, ks⟩ ⟨hi, hno⟩
  try dsimp only at *
  refine c_seq ?_
  refine c_region ?_
  refine o_bin rfl rfl rfl b_lss ?_
  refine l_nil ?_
  refine q_then ?_
  refine c_seq ?_
  refine c_cond rfl (fun h2 => ?_) (fun h2 => ?_)
  · -- h2T
   have h2b := h2
   try simp only [decide_eq_true_eq] at h2
   refine c_skip ?_
   refine q_then ?_
   refine c_seq ?_
   refine c_block ?_
   refine c_seq ?_
   refine c_region ?_
   refine o_index e_I_ok rfl rfl rfl Try.underlying42 (by omega) (by omega) (rds_c (rds_old hs)) fun ad26 ead26 => ?_
   obtain ⟨x26, hx26⟩ : ∃ x, (xs)[((i : Int)).toNat]? = some x := ⟨_, List.getElem?_eq_getElem (by omega)⟩
   refine o_load1 rfl rfl Try.underlying3 rfl (rd_sl0 e_I_ok ead26 (rds_c (rds_old hs)) hx26 rfl) ?_
   refine o_assign rfl rfl ?_
   refine l_nil ?_
   refine q_then ?_
   refine c_region ?_
   refine o_move rfl rfl ?_
   refine o_move rfl rfl ?_
   refine o_call rfl cal18 rfl (tput_C (k := x26) (v := true) (by have h8 := hno.len; have h9 := List.length_take_le i xs; omega)) ?_
   rintro _ _ ⟨old30, had30, ⟨hol30, hsr30⟩, rfl, rfl⟩
   refine l_nil ?_
   refine q_block ?_
   refine q_then ?_
   refine c_region ?_
   refine o_bin rfl rfl rfl (b_add (wrap_i64 (by omega) (by omega))) ?_
   refine o_move rfl rfl ?_
   refine l_nil ?_
   exact q_round (i + 1, (ins ItC.f_key ilt (⟨x26, true⟩ : ItC) ks)) (by exact ⟨by omega, by rw [take_snoc' (show xs[i]? = some x26 from hx26)]; exact hno.on hol30⟩) (by (try dsimp only); omega) ⟨(by first | rfl | exact vint (by omega)), (by first | rfl | exact vint (by omega)), (by first | rfl | exact vint (by omega)), (by first | rfl | exact vint (by omega)), (by first | rfl | exact vint (by omega)), trivial⟩ (fun w S => S)
  · -- h2F
   have h2b := h2
   try simp only [decide_eq_false_iff_not, Int.not_lt, Int.not_le] at h2
   refine c_exit ?_
   refine q_pass_exit ?_
   refine q_pass_exit ?_
   refine q_hit ?_
   refine q_then ?_
   refine c_seq ?_
   have hnx : NumO xs ks := by rw [List.take_of_length_le (by omega)] at hno; exact hno
   refine c_region ?_
   refine o_move rfl rfl ?_
   refine o_call rfl cal19 rfl (keys_C (by have h8 := hnx.len; omega)) ?_
   rintro _ _ ⟨a33, c33, rfl, rfl⟩
   have hml : (ks.map ItC.f_key).length = ks.length := List.length_map ..
   refine o_assign rfl rfl ?_
   refine l_nil ?_
   refine q_then ?_
   refine c_seq ?_
   refine c_seq ?_
   refine c_region ?_
   refine o_move rfl rfl ?_
   refine o_len rfl rfl Try.underlying42 ?_
   refine o_move rfl rfl ?_
   refine l_nil ?_
   refine q_then ?_
   refine c_block ?_
   refine c_loop (α := Nat) (fun z => [(0, .slice a (xs).length c), (3, .pointer (some ⟨t19, 0, none⟩)), (6, .slice a33 ((ks.map ItC.f_key)).length c33), (35, .int .i64 (((ks.map ItC.f_key)).length : Int)), (36, .int .i64 (z : Int))]) (fun z => row e_I.T e_I.sz a33 ((ks.map ItC.f_key)).length c33 (flat e_I (ks.map ItC.f_key)) :: treeR e_ItC eN88 92 94 ItC.f_key ilt t19 ks :: F) (fun z => z ≤ ks.length) (fun z => ks.length - z) (0) (by exact Nat.zero_le _) ⟨(by first | rfl | exact vint (by omega)), (by first | rfl | exact vint (by omega)), (by first | rfl | exact vint (by omega)), (by first | rfl | exact vint (by omega)), (by first | rfl | exact vint (by omega)), trivial⟩ (fun w S => S) ?_
   rintro j hj
   try dsimp only at *
   refine c_seq ?_
   refine c_region ?_
   refine o_bin rfl rfl rfl b_lss ?_
   refine l_nil ?_
   refine q_then ?_
   refine c_seq ?_
   refine c_cond rfl (fun h3 => ?_) (fun h3 => ?_)
   · -- h3T
    have h3b := h3
    try simp only [decide_eq_true_eq] at h3
    refine c_skip ?_
    refine q_then ?_
    refine c_seq ?_
    refine c_block ?_
    refine c_seq ?_
    have hkl := hnx.len
    refine c_region ?_
    refine o_move rfl rfl ?_
    refine o_assign rfl rfl ?_
    refine l_nil ?_
    refine q_then ?_
    refine c_seq ?_
    refine c_fact (p := ∃ ad, a33 = some ad) (rds_some (e := e_I) (xs := (ks.map ItC.f_key)) (rds_own e_I_ok 0 rfl) (by intro h0; have h8 := congrArg List.length h0; simp only [List.length_nil] at h8; omega)) ?_
    rintro ⟨adk, eadk⟩
    refine c_quiet (by kernel_rfl) (by kernel_rfl) ?_
    refine Qt.o_val rfl (v_move rfl rfl) ?_
    refine Qt.o_val rfl (v_bin rfl rfl rfl b_gtr) ?_
    refine Qt.o_val rfl (v_move rfl rfl) ?_
    refine Qt.l_split (t := 41) rfl (fun h4 => ?_) (fun h4 => ?_)
    · -- h4T
     have h4b := h4
     try simp only [decide_eq_true_eq] at h4
     refine Qt.o_yes rfl rfl rfl ?_
     refine Qt.o_val rfl (v_move rfl rfl) ?_
     refine Qt.o_yes rfl rfl rfl ?_
     refine Qt.o_val rfl (v_move rfl rfl) ?_
     refine Qt.o_yes rfl rfl rfl ?_
     refine Qt.o_val rfl (v_bin rfl rfl rfl (b_sub (show IntKind.i64.wrap ((j : Int) - 1) = ((j - 1 : Nat) : Int) from by rw [wrap_i64 (by omega) (by omega)]; omega))) ?_
     refine Qt.o_yes rfl rfl rfl ?_
     refine Qt.o_val rfl (v_indexK e_I_ok eadk rfl rfl rfl Try.underlying42 (by omega) (by omega)) ?_
     obtain ⟨x45, hx45⟩ : ∃ x, ((ks.map ItC.f_key))[(((j - 1 : Nat) : Int)).toNat]? = some x := ⟨_, List.getElem?_eq_getElem (by omega)⟩
     refine Qt.o_yes rfl rfl rfl ?_
     refine Qt.o_val rfl (v_load1 rfl rfl Try.underlying3 rfl (rd_sl0 e_I_ok eadk (rds_own e_I_ok 0 rfl) hx45 rfl)) ?_
     refine Qt.o_yes rfl rfl rfl ?_
     refine Qt.o_val rfl (v_move rfl rfl) ?_
     refine Qt.o_yes rfl rfl rfl ?_
     refine Qt.o_val rfl (v_move rfl rfl) ?_
     refine Qt.o_yes rfl rfl rfl ?_
     refine Qt.o_val rfl (v_indexK e_I_ok eadk rfl rfl rfl Try.underlying42 (by omega) (by omega)) ?_
     obtain ⟨x49, hx49⟩ : ∃ x, ((ks.map ItC.f_key))[((j : Int)).toNat]? = some x := ⟨_, List.getElem?_eq_getElem (by omega)⟩
     refine Qt.o_yes rfl rfl rfl ?_
     refine Qt.o_val rfl (v_load1 rfl rfl Try.underlying3 rfl (rd_sl0 e_I_ok eadk (rds_own e_I_ok 0 rfl) hx49 rfl)) ?_
     refine Qt.o_yes rfl rfl rfl ?_
     refine Qt.o_val rfl (v_bin rfl rfl rfl b_geq) ?_
     refine Qt.l_eq (t := 51) (v' := .bool false) rfl (show _ = Value.bool false from by rw [decide_eq_false (by have h9 := keys_lt hnx.srt (by omega) (show (ks.map ItC.f_key)[j - 1]? = some x45 from hx45) (show (ks.map ItC.f_key)[j]? = some x49 from hx49); omega)]) ?_
     refine Qt.o_val rfl (v_pick_true rfl rfl rfl) ?_
     refine Qt.l_nil ?_
     refine q_then ?_
     refine c_false rfl ?_
     refine c_skip ?_
     refine q_block ?_
     refine q_then ?_
     refine c_region ?_
     refine o_bin rfl rfl rfl (b_add (wrap_i64 (by omega) (by omega))) ?_
     refine o_move rfl rfl ?_
     refine l_nil ?_
     exact q_round (j + 1) (by omega) (by (try dsimp only); omega) ⟨(by first | rfl | exact vint (by omega)), (by first | rfl | exact vint (by omega)), (by first | rfl | exact vint (by omega)), (by first | rfl | exact vint (by omega)), (by first | rfl | exact vint (by omega)), trivial⟩ (fun w S => S)
    · -- h4F
     have h4b := h4
     try simp only [decide_eq_false_iff_not, Int.not_lt, Int.not_le] at h4
     refine Qt.o_no rfl rfl rfl rfl ?_
     refine Qt.o_no rfl rfl rfl rfl ?_
     refine Qt.o_no rfl rfl rfl rfl ?_
     refine Qt.o_no rfl rfl rfl rfl ?_
     refine Qt.o_no rfl rfl rfl rfl ?_
     refine Qt.o_no rfl rfl rfl rfl ?_
     refine Qt.o_no rfl rfl rfl rfl ?_
     refine Qt.o_no rfl rfl rfl rfl ?_
     refine Qt.o_no rfl rfl rfl rfl ?_
     refine Qt.o_no rfl rfl rfl rfl ?_
     refine Qt.o_val rfl (v_pick_false rfl rfl rfl) ?_
     refine Qt.l_nil ?_
     refine q_then ?_
     refine c_false rfl ?_
     refine c_skip ?_
     refine q_block ?_
     refine q_then ?_
     refine c_region ?_
     refine o_bin rfl rfl rfl (b_add (wrap_i64 (by omega) (by omega))) ?_
     refine o_move rfl rfl ?_
     refine l_nil ?_
     exact q_round (j + 1) (by omega) (by (try dsimp only); omega) ⟨(by first | rfl | exact vint (by omega)), (by first | rfl | exact vint (by omega)), (by first | rfl | exact vint (by omega)), (by first | rfl | exact vint (by omega)), (by first | rfl | exact vint (by omega)), trivial⟩ (fun w S => S)
   · -- h3F
    have h3b := h3
    try simp only [decide_eq_false_iff_not, Int.not_lt, Int.not_le] at h3
    refine c_exit ?_
    refine q_pass_exit ?_
    refine q_pass_exit ?_
    refine q_hit ?_
    refine q_then ?_
    refine c_seq ?_
    refine c_seq ?_
    refine c_region ?_
    refine o_move rfl rfl ?_
    refine o_len rfl rfl Try.underlying42 ?_
    refine o_move rfl rfl ?_
    refine l_nil ?_
    refine q_then ?_
    refine c_block ?_
    refine c_loop (α := Nat) (fun z => [(0, .slice a (xs).length c), (3, .pointer (some ⟨t19, 0, none⟩)), (6, .slice a33 ((ks.map ItC.f_key)).length c33), (54, .slice a (xs).length c), (55, .int .i64 ((xs).length : Int)), (56, .int .i64 (z : Int))]) (fun z => row e_I.T e_I.sz a33 ((ks.map ItC.f_key)).length c33 (flat e_I (ks.map ItC.f_key)) :: treeR e_ItC eN88 92 94 ItC.f_key ilt t19 ks :: F) (fun z => z ≤ xs.length) (fun z => xs.length - z) (0) (by exact Nat.zero_le _) ⟨(by first | rfl | exact vint (by omega)), (by first | rfl | exact vint (by omega)), (by first | rfl | exact vint (by omega)), (by first | rfl | exact vint (by omega)), (by first | rfl | exact vint (by omega)), (by first | rfl | exact vint (by omega)), trivial⟩ (fun w S => S) ?_
    rintro k hk
    try dsimp only at *
    refine c_seq ?_
    refine c_region ?_
    refine o_bin rfl rfl rfl b_lss ?_
    refine l_nil ?_
    refine q_then ?_
    refine c_seq ?_
    refine c_cond rfl (fun h5 => ?_) (fun h5 => ?_)
    · -- h5T
     have h5b := h5
     try simp only [decide_eq_true_eq] at h5
     refine c_skip ?_
     refine q_then ?_
     refine c_seq ?_
     refine c_block ?_
     refine c_seq ?_
     refine c_region ?_
     refine o_index e_I_ok rfl rfl rfl Try.underlying42 (by omega) (by omega) (rds_c (rds_c (rds_old hs))) fun ad58 ead58 => ?_
     obtain ⟨x58, hx58⟩ : ∃ x, (xs)[((k : Int)).toNat]? = some x := ⟨_, List.getElem?_eq_getElem (by omega)⟩
     refine o_load1 rfl rfl Try.underlying3 rfl (rd_sl0 e_I_ok ead58 (rds_c (rds_c (rds_old hs))) hx58 rfl) ?_
     refine o_assign rfl rfl ?_
     refine l_nil ?_
     refine q_then ?_
     refine c_seq ?_
     refine c_region ?_
     refine o_move rfl rfl ?_
     refine o_move rfl rfl ?_
     refine l_f1 ?_
     refine o_call rfl cal20 rfl (tget_C (k := x58)) ?_
     rintro _ _ ⟨v63, ok63, hg63, rfl, rfl⟩
     obtain ⟨hok63, hv63⟩ := hnx.get (List.mem_of_getElem? hx58) hg63
     refine o_move rfl rfl ?_
     refine o_extract rfl rfl rfl ?_
     refine o_extract rfl rfl rfl ?_
     refine o_assign rfl rfl ?_
     refine o_assign rfl rfl ?_
     refine l_nil ?_
     refine q_then ?_
     refine c_seq ?_
     refine c_region ?_
     refine o_move rfl rfl ?_
     refine o_not rfl rfl ?_
     refine l_eq (t := 67) (v' := .bool false) rfl (show _ = Value.bool false from by rw [hok63]; first | done | rfl) ?_
     refine o_move rfl rfl ?_
     refine o_yes rfl rfl rfl ?_
     refine o_move rfl rfl ?_
     refine o_yes rfl rfl rfl ?_
     refine o_not rfl rfl ?_
     refine l_eq (t := 70) (v' := .bool false) rfl (show _ = Value.bool false from by rw [hv63]; first | done | rfl) ?_
     refine o_pick_false rfl rfl rfl ?_
     refine l_nil ?_
     refine q_then ?_
     refine c_false rfl ?_
     refine c_skip ?_
     refine q_block ?_
     refine q_then ?_
     refine c_region ?_
     refine o_bin rfl rfl rfl (b_add (wrap_i64 (by omega) (by omega))) ?_
     refine o_move rfl rfl ?_
     refine l_nil ?_
     refine q_conv (fun w S => S.perm p1) ?_
     exact q_round (k + 1) (by omega) (by (try dsimp only); omega) ⟨(by first | rfl | exact vint (by omega)), (by first | rfl | exact vint (by omega)), (by first | rfl | exact vint (by omega)), (by first | rfl | exact vint (by omega)), (by first | rfl | exact vint (by omega)), (by first | rfl | exact vint (by omega)), trivial⟩ (fun w S => S)
    · -- h5F
     have h5b := h5
     try simp only [decide_eq_false_iff_not, Int.not_lt, Int.not_le] at h5
     refine c_exit ?_
     refine q_pass_exit ?_
     refine q_pass_exit ?_
     refine q_hit ?_
     refine q_then ?_
     refine c_seq ?_
     refine c_seq ?_
     refine c_region ?_
     refine o_move rfl rfl ?_
     refine o_len rfl rfl Try.underlying42 ?_
     refine o_move rfl rfl ?_
     refine l_nil ?_
     refine q_then ?_
     refine c_block ?_
     refine c_loop (α := Nat × (List ItC)) (fun z => [(0, .slice a (xs).length c), (3, .pointer (some ⟨t19, 0, none⟩)), (6, .slice a33 ((ks.map ItC.f_key)).length c33), (73, .slice a (xs).length c), (74, .int .i64 ((xs).length : Int)), (75, .int .i64 (z.1 : Int))]) (fun z => row e_I.T e_I.sz a33 ((ks.map ItC.f_key)).length c33 (flat e_I (ks.map ItC.f_key)) :: treeR e_ItC eN88 92 94 ItC.f_key ilt t19 z.2 :: F) (fun z => z.1 ≤ xs.length ∧ NumD xs (xs.take z.1) z.2) (fun z => xs.length - z.1) (0, ks) (by exact ⟨Nat.zero_le _, NumD.start hnx⟩) ⟨(by first | rfl | exact vint (by omega)), (by first | rfl | exact vint (by omega)), (by first | rfl | exact vint (by omega)), (by first | rfl | exact vint (by omega)), (by first | rfl | exact vint (by omega)), (by first | rfl | exact vint (by omega)), trivial⟩ (fun w S => S) ?_
     rintro ⟨l, ds⟩ ⟨hl, hnd⟩
     try dsimp only at *
     refine c_seq ?_
     refine c_region ?_
     refine o_bin rfl rfl rfl b_lss ?_
     refine l_nil ?_
     refine q_then ?_
     refine c_seq ?_
     refine c_cond rfl (fun h6 => ?_) (fun h6 => ?_)
     · -- h6T
      have h6b := h6
      try simp only [decide_eq_true_eq] at h6
      refine c_skip ?_
      refine q_then ?_
      refine c_seq ?_
      refine c_block ?_
      refine c_seq ?_
      refine c_region ?_
      refine o_index e_I_ok rfl rfl rfl Try.underlying42 (by omega) (by omega) (rds_c (rds_c (rds_old hs))) fun ad77 ead77 => ?_
      obtain ⟨x77, hx77⟩ : ∃ x, (xs)[((l : Int)).toNat]? = some x := ⟨_, List.getElem?_eq_getElem (by omega)⟩
      refine o_load1 rfl rfl Try.underlying3 rfl (rd_sl0 e_I_ok ead77 (rds_c (rds_c (rds_old hs))) hx77 rfl) ?_
      refine o_assign rfl rfl ?_
      refine l_nil ?_
      refine q_then ?_
      refine c_region ?_
      refine o_move rfl rfl ?_
      refine o_move rfl rfl ?_
      refine l_f1 ?_
      refine o_call rfl cal21 rfl (tdel_C (k := x77) (by have h8 := hnd.len; omega)) ?_
      rintro _ _ ⟨v81, ok81, hg81, rfl, rfl⟩
      refine l_nil ?_
      refine q_block ?_
      refine q_then ?_
      refine c_region ?_
      refine o_bin rfl rfl rfl (b_add (wrap_i64 (by omega) (by omega))) ?_
      refine o_move rfl rfl ?_
      refine l_nil ?_
      refine q_conv (fun w S => S.perm p1) ?_
      exact q_round (l + 1, (del ItC.f_key x77 ds)) (by exact ⟨by omega, by rw [take_snoc' (show xs[l]? = some x77 from hx77)]; exact hnd.on⟩) (by (try dsimp only); omega) ⟨(by first | rfl | exact vint (by omega)), (by first | rfl | exact vint (by omega)), (by first | rfl | exact vint (by omega)), (by first | rfl | exact vint (by omega)), (by first | rfl | exact vint (by omega)), (by first | rfl | exact vint (by omega)), trivial⟩ (fun w S => S)
     · -- h6F
      have h6b := h6
      try simp only [decide_eq_false_iff_not, Int.not_lt, Int.not_le] at h6
      refine c_exit ?_
      refine q_pass_exit ?_
      refine q_pass_exit ?_
      refine q_hit ?_
      refine q_then ?_
      refine c_seq ?_
      have hd0 : ds = [] := by rw [List.take_of_length_le (by omega)] at hnd; exact hnd.fin
      refine c_region ?_
      refine o_move rfl rfl ?_
      refine l_f1 ?_
      refine o_call rfl cal22 rfl (tlen_C) ?_
      rintro _ _ ⟨rfl, rfl⟩
      refine o_bin rfl rfl rfl b_eql ?_
      refine l_eq (t := 85) (v' := .bool true) rfl (show _ = Value.bool true from by rw [hd0]; first | done | rfl) ?_
      refine o_move rfl rfl ?_
      refine o_yes rfl rfl rfl ?_
      refine o_move rfl rfl ?_
      refine o_yes rfl rfl rfl ?_
      refine o_call rfl cal19 rfl (keys_C (by rw [hd0]; simp)) ?_
      rintro _ _ ⟨a88, c88, rfl, rfl⟩
      refine o_yes rfl rfl rfl ?_
      refine o_len rfl rfl Try.underlying42 ?_
      refine o_yes rfl rfl rfl ?_
      refine o_bin rfl rfl rfl b_eql ?_
      refine l_eq (t := 90) (v' := .bool true) rfl (show _ = Value.bool true from by rw [hd0]; first | done | rfl) ?_
      refine o_pick_true rfl rfl rfl ?_
      refine o_move rfl rfl ?_
      refine o_yes rfl rfl rfl ?_
      refine o_move rfl rfl ?_
      refine o_yes rfl rfl rfl ?_
      refine o_len rfl rfl Try.underlying42 ?_
      refine o_yes rfl rfl rfl ?_
      refine o_move rfl rfl ?_
      refine o_yes rfl rfl rfl ?_
      refine o_len rfl rfl Try.underlying42 ?_
      refine o_yes rfl rfl rfl ?_
      refine o_bin rfl rfl rfl b_leq ?_
      refine l_eq (t := 97) (v' := .bool true) rfl (show _ = Value.bool true from by rw [decide_eq_true (by have h8 := hnx.len; omega)]) ?_
      refine o_pick_true rfl rfl rfl ?_
      refine o_move rfl rfl ?_
      refine o_yes rfl rfl rfl ?_
      refine o_move rfl rfl ?_
      refine o_yes rfl rfl rfl ?_
      refine o_len rfl rfl Try.underlying42 ?_
      refine o_yes rfl rfl rfl ?_
      refine o_bin rfl rfl rfl b_gtr ?_
      refine o_yes rfl rfl rfl ?_
      refine o_move rfl rfl ?_
      refine o_yes rfl rfl rfl ?_
      refine o_len rfl rfl Try.underlying42 ?_
      refine o_yes rfl rfl rfl ?_
      refine o_bin rfl rfl rfl b_gtr ?_
      refine o_yes rfl rfl rfl ?_
      refine o_bin rfl rfl rfl (b_beq Try.underlying4 _ _) ?_
      refine l_eq (t := 106) (v' := .bool true) rfl (show _ = Value.bool true from by rw [hml, hnx.some]; simp) ?_
      refine o_pick_true rfl rfl rfl ?_
      refine o_assign rfl rfl ?_
      refine l_nil ?_
      refine q_then ?_
      refine c_ret ?_
      refine q_conv (fun w S => S.tail) ?_
      refine q_conv (fun w S => S.tail) ?_
      refine q_conv (fun w S => S.tail) ?_
      exact f_ret (r_one rfl rfl) (⟨rfl, rfl⟩) (fun w S => S)
end
end Go.Proofs.Ytlbggbjekpfokaa
