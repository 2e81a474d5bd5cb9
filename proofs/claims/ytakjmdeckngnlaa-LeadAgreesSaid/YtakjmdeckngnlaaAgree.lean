/- Printed by eng2.py out of 12/spec2.py. -/
import Derived.Test.YtakjmdeckngnlaaSpeaks
import Derived.Test.YtakjmdeckngnlaaAgrees
set_option linter.unusedVariables false
set_option linter.unusedSimpArgs false
set_option maxRecDepth 10000
namespace Go.Proofs.Ytakjmdeckngnlaa
open Go.RowKit Classical
set_option maxHeartbeats 4000000 in
theorem agrees_ {W : World} {F : List Res} {vo : Int} {os : List Step} {a : Option Addr} {c : Nat} (hs : SlR W e_Step a os) : CS Try.prog 6 #[.int .i64 vo, .slice a os.length c] W (F) (fun r L' => r = .bool true ∧ F = L') := by
 refine f_door (l0 := [(0, .int .i64 vo), (1, .slice a os.length c)]) Try.func6 Try.ntmps6 rfl rfl rfl ?_
 refine c_seq ?_
 refine c_region ?_
 refine o_assign rfl rfl ?_
 refine l_nil ?_
 refine q_then ?_
 refine c_seq ?_
 refine c_seq ?_
 refine c_region ?_
 refine o_call rfl cal8 rfl (speaks_) ?_
 rintro _ _ ⟨rfl, rfl⟩
 refine o_not rfl rfl ?_
 refine l_nil ?_
 refine q_then ?_
 refine c_false rfl ?_
 refine c_skip ?_
 refine q_then ?_
 refine c_seq ?_
 refine c_seq ?_
 refine c_region ?_
 refine o_move rfl rfl ?_
 refine o_len rfl rfl Try.underlying59 ?_
 refine o_bin rfl rfl rfl b_gtr ?_
 refine l_nil ?_
 refine q_then ?_
 refine c_cond rfl (fun h1 => ?_) (fun h1 => ?_)
 · -- h1T
  have h1b := h1
  try simp only [decide_eq_true_eq] at h1
  refine c_seq ?_
  refine c_region ?_
  refine o_assign rfl rfl ?_
  refine l_nil ?_
  refine q_then ?_
  refine c_ret ?_
  refine q_pass_ret ?_
  exact f_ret (r_one rfl rfl) (⟨rfl, rfl⟩) (fun w S => S)
 · -- h1F
  have h1b := h1
  try simp only [decide_eq_false_iff_not, Int.not_lt, Int.not_le] at h1
  refine c_skip ?_
  refine q_then ?_
  refine c_seq ?_
  refine c_region ?_
  refine o_move rfl rfl ?_
  refine o_bin rfl rfl rfl (b_and rfl) ?_
  obtain ⟨q35, hq35, eq35⟩ := band64 vo 3 (by omega)
  refine l_eq (t := 35) (v' := .int .i64 (q35 : Int)) rfl (by first | exact congrArg _ eq35) ?_
  refine o_bin rfl rfl rfl (b_add (wrap_i64 (by omega) (by omega))) ?_
  obtain ⟨n, hn1, hn4, en⟩ : ∃ n : Nat, 1 ≤ n ∧ n ≤ 4 ∧ 1 + (q35 : Int) = (n : Int) := ⟨1 + q35, by omega, by omega, by omega⟩
  have hn9 : n ≤ 9 := by omega
  refine l_eq (t := 36) (v' := .int .i64 (n : Int)) rfl (by rw [en]) ?_
  refine o_assign rfl rfl ?_
  refine l_nil ?_
  refine q_then ?_
  refine c_seq ?_
  refine c_region ?_
  refine o_lit eVPI_ok rfl Try.underlying60 rfl rfl rfl (lit_ok rfl) ([] : List Nat) rfl rfl fun a37 => ?_
  refine o_lit eLPI_ok rfl Try.underlying61 rfl rfl rfl (lit_ok rfl) ([] : List Nat) rfl rfl fun a38 => ?_
  refine o_makeMap kvI vvI rfl fun m39 => ?_
  refine o_assign rfl rfl ?_
  refine o_assign rfl rfl ?_
  refine o_assign rfl rfl ?_
  refine l_nil ?_
  refine q_then ?_
  refine c_seq ?_
  refine c_seq ?_
  refine c_conv (L' := vgR ([] : List (Nat × VSB)) :: _) (fun w S => Sat.emp_ S) ?_
  refine c_conv (fun w S => S.perm p2) ?_
  refine c_conv (fun w S => S.perm p2) ?_
  refine c_conv (fun w S => S.perm p2) ?_
  refine c_conv (fun w S => S.perm p3) ?_
  refine c_conv (L' := row eVPI.T eVPI.sz a37 ((([] : List (Nat × VSB)).map Prod.fst)).length 0 (flat eVPI (([] : List (Nat × VSB)).map Prod.fst)) :: _) (fun w S => S) ?_
  refine c_region ?_
  refine o_assign rfl rfl ?_
  refine l_nil ?_
  refine q_then ?_
  refine c_block ?_
  refine c_loop (α := Nat × (List (Nat × VSB)) × (Option Addr) × Nat) (fun z => [(1, .slice a (os).length c), (5, .int .i64 (n : Int)), (6, .slice z.2.2.1 ((z.2.1.map Prod.fst)).length z.2.2.2), (7, .slice a38 (([] : List Nat)).length 0), (8, .map (some m39)), (9, .int .i64 (z.1 : Int))]) (fun z => row eVPI.T eVPI.sz z.2.2.1 ((z.2.1.map Prod.fst)).length z.2.2.2 (flat eVPI (z.2.1.map Prod.fst)) :: vgR z.2.1 :: mapR kvI vvI m39 ([] : List (Int × Int)) :: row eLPI.T eLPI.sz a38 (([] : List Nat)).length 0 (flat eLPI ([] : List Nat)) :: F) (fun z => z.1 ≤ n ∧ GV z.2.1 z.1) (fun z => n - z.1) (0, [], a37, 0) (by exact ⟨by omega, gv_0⟩) ⟨(by first | rfl | exact vint (by omega)), (by first | rfl | exact vint (by omega)), (by first | rfl | exact vint (by omega)), (by first | rfl | exact vint (by omega)), (by first | rfl | exact vint (by omega)), (by first | rfl | exact vint (by omega)), trivial⟩ (fun w S => S) ?_
  rintro ⟨i, gs, ga, gc⟩ ⟨hi, hgv⟩
  try dsimp only at *
  refine c_seq ?_
  refine c_seq ?_
  refine c_region ?_
  refine o_move rfl rfl ?_
  refine o_move rfl rfl ?_
  refine o_bin rfl rfl rfl b_lss ?_
  refine l_nil ?_
  refine q_then ?_
  refine c_cond rfl (fun h2 => ?_) (fun h2 => ?_)
  · -- h2T
   have h2b := h2
   try simp only [decide_eq_true_eq] at h2
   refine c_skip ?_
   refine q_then ?_
   refine c_seq ?_
   refine c_block ?_
   refine c_seq ?_
   have hgl := hgv.len
   have hml : (gs.map Prod.fst).length = gs.length := List.length_map ..
   refine c_region ?_
   refine o_call rfl cal31 rfl (vnewB) ?_
   rintro _ _ ⟨k45, rfl, rfl⟩
   refine o_assign rfl rfl ?_
   refine l_nil ?_
   refine q_then ?_
   refine c_seq ?_
   refine c_seq ?_
   refine c_region ?_
   refine o_move rfl rfl ?_
   refine o_bin rfl rfl rfl (b_peq Try.underlying63 _) ?_
   refine l_nil ?_
   refine q_then ?_
   refine c_false rfl ?_
   refine c_skip ?_
   refine q_then ?_
   refine c_region ?_
   refine o_move rfl rfl ?_
   refine o_move rfl rfl ?_
   refine o_lit eVPI_ok rfl Try.underlying60 rfl rfl rfl (lit_ok rfl) [k45] rfl rfl fun a50 => ?_
   refine l_f2 ?_
   refine o_append eVPI_ok rfl rfl rfl Try.underlying60 (rds_own eVPI_ok 1 rfl) (by show (_ + _) * 8 ≤ _; (try simp only [List.length_append, List.length_cons, List.length_nil]); omega) (by (try simp only [List.length_append, List.length_cons, List.length_nil]); omega) fun a51 c51 => ?_
   refine l_f1 ?_
   refine l_drop ?_
   refine o_assign rfl rfl ?_
   refine l_nil ?_
   refine q_block ?_
   refine q_then ?_
   refine c_conv (fun w S => S.perm p4) ?_
   refine c_conv (fun w S => S.perm p4) ?_
   refine c_conv (fun w S => S.perm p2) ?_
   refine c_conv (fun w S => S.perm p4) ?_
   refine c_conv (fun w S => S.perm p4) ?_
   refine c_conv (L' := vgR (gs ++ [(k45, (⟨0, []⟩ : VSB))]) :: row eVPI.T eVPI.sz a51 (((gs ++ [(k45, (⟨0, []⟩ : VSB))]).map Prod.fst)).length c51 (flat eVPI ((gs ++ [(k45, (⟨0, []⟩ : VSB))]).map Prod.fst)) :: _) (fun w S => by have h9 := Sat.vg_app S; rw [show (gs.map Prod.fst) ++ [k45] = ((gs ++ [(k45, (⟨0, []⟩ : VSB))]).map Prod.fst) from by rw [List.map_append]; rfl] at h9; exact h9) ?_
   refine c_region ?_
   refine o_move rfl rfl ?_
   refine o_bin rfl rfl rfl (b_add (wrap_i64 (by omega) (by omega))) ?_
   refine o_assign rfl rfl ?_
   refine l_nil ?_
   refine q_conv (fun w S => S.perm p3) ?_
   refine q_conv (fun w S => S.perm p3) ?_
   refine q_conv (fun w S => S.perm p2) ?_
   refine q_conv (fun w S => S.perm p3) ?_
   exact q_round (i + 1, (gs ++ [(k45, (⟨0, []⟩ : VSB))]), a51, c51) (by exact ⟨by omega, hgv.app⟩) (by (try dsimp only); omega) ⟨(by first | rfl | exact vint (by omega)), (by first | rfl | exact vint (by omega)), (by rw [List.map_append]; rfl), (by first | rfl | exact vint (by omega)), (by first | rfl | exact vint (by omega)), (by first | rfl | exact vint (by omega)), trivial⟩ (fun w S => S)
  · -- h2F
   have h2b := h2
   try simp only [decide_eq_false_iff_not, Int.not_lt, Int.not_le] at h2
   refine c_exit ?_
   refine q_pass_exit ?_
   refine q_pass_exit ?_
   refine q_hit ?_
   refine q_then ?_
   refine c_seq ?_
   refine c_seq ?_
   have hin : i = n := by omega
   have hgvn : GV gs n := by rw [hin] at hgv; exact hgv
   refine c_conv (L' := lgR ([] : List (Nat × LdS Int)) :: _) (fun w S => Sat.emp_ S) ?_
   refine c_conv (fun w S => S.perm p3) ?_
   refine c_conv (fun w S => S.perm p3) ?_
   refine c_conv (fun w S => S.perm p3) ?_
   refine c_conv (fun w S => S.perm p3) ?_
   refine c_conv (fun w S => S.perm p4) ?_
   refine c_conv (L' := row eLPI.T eLPI.sz a38 ((([] : List (Nat × LdS Int)).map Prod.fst)).length 0 (flat eLPI (([] : List (Nat × LdS Int)).map Prod.fst)) :: _) (fun w S => S) ?_
   refine c_region ?_
   refine o_assign rfl rfl ?_
   refine l_nil ?_
   refine q_then ?_
   refine c_block ?_
   refine c_loop (α := Nat × (List (Nat × LdS Int)) × (Option Addr) × Nat) (fun z => [(1, .slice a (os).length c), (5, .int .i64 (n : Int)), (6, .slice ga ((gs.map Prod.fst)).length gc), (7, .slice z.2.2.1 ((z.2.1.map Prod.fst)).length z.2.2.2), (8, .map (some m39)), (11, .int .i64 (z.1 : Int))]) (fun z => row eLPI.T eLPI.sz z.2.2.1 ((z.2.1.map Prod.fst)).length z.2.2.2 (flat eLPI (z.2.1.map Prod.fst)) :: lgR z.2.1 :: row eVPI.T eVPI.sz ga ((gs.map Prod.fst)).length gc (flat eVPI (gs.map Prod.fst)) :: vgR gs :: mapR kvI vvI m39 ([] : List (Int × Int)) :: F) (fun z => z.1 ≤ 4 ∧ GL n z.2.1 z.1) (fun z => 4 - z.1) (0, [], a38, 0) (by exact ⟨by omega, gl_0⟩) ⟨(by first | rfl | exact vint (by omega)), (by first | rfl | exact vint (by omega)), (by first | rfl | exact vint (by omega)), (by first | rfl | exact vint (by omega)), (by first | rfl | exact vint (by omega)), (by first | rfl | exact vint (by omega)), trivial⟩ (fun w S => S) ?_
   rintro ⟨j, ls, la, lc⟩ ⟨hj, hglv⟩
   try dsimp only at *
   refine c_seq ?_
   refine c_seq ?_
   refine c_region ?_
   refine o_move rfl rfl ?_
   refine o_bin rfl rfl rfl b_lss ?_
   refine l_nil ?_
   refine q_then ?_
   refine c_cond rfl (fun h3 => ?_) (fun h3 => ?_)
   · -- h3T
    have h3b := h3
    try simp only [decide_eq_true_eq] at h3
    refine c_skip ?_
    refine q_then ?_
    refine c_seq ?_
    refine c_block ?_
    refine c_seq ?_
    have hll := hglv.len
    have hml2 : (ls.map Prod.fst).length = ls.length := List.length_map ..
    refine c_region ?_
    refine o_move rfl rfl ?_
    refine o_bin rfl rfl rfl (b_add (wrap_i64 (by omega) (by omega))) ?_
    refine o_int rfl rfl Try.underlying3 Try.underlying29 (wrap_u64 (by omega) (by omega)) ?_
    refine o_move rfl rfl ?_
    refine o_call rfl cal24 rfl (lnewOkI (by omega)) ?_
    rintro _ _ ⟨k61, rfl, rfl⟩
    refine o_move rfl rfl ?_
    refine o_extract rfl rfl rfl ?_
    refine o_extract rfl rfl rfl ?_
    refine o_assign rfl rfl ?_
    refine o_assign rfl rfl ?_
    refine l_nil ?_
    refine q_then ?_
    refine c_seq ?_
    refine c_seq ?_
    refine c_region ?_
    refine o_move rfl rfl ?_
    refine o_bin rfl rfl rfl (b_peq Try.underlying50 _) ?_
    refine l_nil ?_
    refine q_then ?_
    refine c_false rfl ?_
    refine c_skip ?_
    refine q_then ?_
    refine c_region ?_
    refine o_move rfl rfl ?_
    refine o_move rfl rfl ?_
    refine o_lit eLPI_ok rfl Try.underlying61 rfl rfl rfl (lit_ok rfl) [k61] rfl rfl fun a68 => ?_
    refine l_f2 ?_
    refine o_append eLPI_ok rfl rfl rfl Try.underlying61 (rds_own eLPI_ok 1 rfl) (by show (_ + _) * 8 ≤ _; (try simp only [List.length_append, List.length_cons, List.length_nil]); omega) (by (try simp only [List.length_append, List.length_cons, List.length_nil]); omega) fun a69 c69 => ?_
    refine l_f1 ?_
    refine l_drop ?_
    refine o_assign rfl rfl ?_
    refine l_nil ?_
    refine q_block ?_
    refine q_then ?_
    refine c_conv (fun w S => S.perm p5) ?_
    refine c_conv (fun w S => S.perm p5) ?_
    refine c_conv (fun w S => S.perm p5) ?_
    refine c_conv (fun w S => S.perm p3) ?_
    refine c_conv (fun w S => S.perm p5) ?_
    refine c_conv (fun w S => S.perm p5) ?_
    refine c_conv (L' := lgR (ls ++ [(k61, ldNew Int ((j : Int) + 1) (n : Int) 0)]) :: row eLPI.T eLPI.sz a69 (((ls ++ [(k61, ldNew Int ((j : Int) + 1) (n : Int) 0)]).map Prod.fst)).length c69 (flat eLPI ((ls ++ [(k61, ldNew Int ((j : Int) + 1) (n : Int) 0)]).map Prod.fst)) :: _) (fun w S => by have h9 := Sat.lg_app S; rw [show (ls.map Prod.fst) ++ [k61] = ((ls ++ [(k61, ldNew Int ((j : Int) + 1) (n : Int) 0)]).map Prod.fst) from by rw [List.map_append]; rfl] at h9; exact h9) ?_
    refine c_region ?_
    refine o_move rfl rfl ?_
    refine o_bin rfl rfl rfl (b_add (wrap_i64 (by omega) (by omega))) ?_
    refine o_assign rfl rfl ?_
    refine l_nil ?_
    refine q_conv (fun w S => S.perm p4) ?_
    refine q_conv (fun w S => S.perm p4) ?_
    refine q_conv (fun w S => S.perm p4) ?_
    refine q_conv (fun w S => S.perm p3) ?_
    refine q_conv (fun w S => S.perm p4) ?_
    exact q_round (j + 1, (ls ++ [(k61, ldNew Int ((j : Int) + 1) (n : Int) 0)]), a69, c69) (by exact ⟨by omega, hglv.app⟩) (by (try dsimp only); omega) ⟨(by first | rfl | exact vint (by omega)), (by first | rfl | exact vint (by omega)), (by first | rfl | exact vint (by omega)), (by rw [List.map_append]; rfl), (by first | rfl | exact vint (by omega)), (by first | rfl | exact vint (by omega)), trivial⟩ (fun w S => S)
   · -- h3F
    have h3b := h3
    try simp only [decide_eq_false_iff_not, Int.not_lt, Int.not_le] at h3
    refine c_exit ?_
    refine q_pass_exit ?_
    refine q_pass_exit ?_
    refine q_hit ?_
    refine q_then ?_
    refine c_seq ?_
    refine c_seq ?_
    have hj4 : j = 4 := by omega
    have hgl4 : GL n ls 4 := by rw [hj4] at hglv; exact hglv
    have hmv : (gs.map Prod.fst).length = n := by rw [List.length_map]; exact hgvn.len
    have hml2 : (ls.map Prod.fst).length = 4 := by rw [List.length_map]; exact hgl4.len
    refine c_region ?_
    refine o_move rfl rfl ?_
    refine o_len rfl rfl Try.underlying59 ?_
    refine o_move rfl rfl ?_
    refine l_nil ?_
    refine q_then ?_
    refine c_block ?_
    refine c_loop (α := Nat × (List (Nat × VSB)) × (List (Nat × LdS Int)) × (List (Int × Int))) (fun z => [(5, .int .i64 (n : Int)), (6, .slice ga ((gs.map Prod.fst)).length gc), (7, .slice la ((ls.map Prod.fst)).length lc), (8, .map (some m39)), (70, .slice a (os).length c), (71, .int .i64 ((os).length : Int)), (72, .int .i64 (z.1 : Int))]) (fun z => row eLPI.T eLPI.sz la ((ls.map Prod.fst)).length lc (flat eLPI (ls.map Prod.fst)) :: lgR z.2.2.1 :: row eVPI.T eVPI.sz ga ((gs.map Prod.fst)).length gc (flat eVPI (gs.map Prod.fst)) :: vgR z.2.1 :: mapR kvI vvI m39 z.2.2.2 :: F) (fun z => z.1 ≤ os.length ∧ AgR n (gs.map Prod.fst) (ls.map Prod.fst) z.2.1 z.2.2.1 z.2.2.2) (fun z => os.length - z.1) (0, gs, ls, []) (by exact ⟨by omega, agr_0 hgvn hgl4⟩) ⟨(by first | rfl | exact vint (by omega)), (by first | rfl | exact vint (by omega)), (by first | rfl | exact vint (by omega)), (by first | rfl | exact vint (by omega)), (by first | rfl | exact vint (by omega)), (by first | rfl | exact vint (by omega)), (by first | rfl | exact vint (by omega)), trivial⟩ (fun w S => S) ?_
    rintro ⟨k, gs2, ls2, C⟩ ⟨hk, hagr⟩
    try dsimp only at *
    refine c_seq ?_
    refine c_region ?_
    refine o_bin rfl rfl rfl b_lss ?_
    refine l_nil ?_
    refine q_then ?_
    refine c_seq ?_
    refine c_cond rfl (fun h4 => ?_) (fun h4 => ?_)
    · -- h4T
     have h4b := h4
     try simp only [decide_eq_true_eq] at h4
     refine c_skip ?_
     refine q_then ?_
     refine c_seq ?_
     refine c_block ?_
     refine c_seq ?_
     refine c_region ?_
     refine o_move rfl rfl ?_
     refine o_index e_Step_ok rfl rfl rfl Try.underlying59 (by omega) (by omega) (rds_c (rds_c (rds_c (rds_c (rds_c (rds_old hs)))))) fun ad75 ead75 => ?_
     obtain ⟨x75, hx75⟩ : ∃ x, (os)[((k : Int)).toNat]? = some x := ⟨_, List.getElem?_eq_getElem (by omega)⟩
     refine o_loadn (vs := e_Step.cells x75) rfl rfl Try.underlying66 rfl ti66 (rdn_sl e_Step_ok ead75 (rds_c (rds_c (rds_c (rds_c (rds_c (rds_old hs)))))) hx75) ?_
     refine o_alloc rfl ti66 fun b15 => ?_
     refine o_assign rfl rfl ?_
     refine o_storen rfl rfl ti66 rfl rfl rfl rfl ?_
     refine l_nil ?_
     refine q_then ?_
     refine c_seq ?_
     refine c_quiet (by kernel_rfl) (by kernel_rfl) ?_
     refine Qt.o_val rfl (v_fieldAddr (q := ⟨b15, 1, none⟩) rfl rfl Try.underlying66 rfl ti3 rfl) ?_
     refine Qt.o_val rfl (v_load1 rfl rfl Try.underlying3 rfl (rd_mem 0 rfl rfl)) ?_
     refine Qt.o_val rfl (v_bin rfl rfl rfl (b_and rfl)) ?_
     obtain ⟨q79, hq79, eq79⟩ := band64 x75.f_Leader 3 (by omega)
     refine Qt.l_eq (t := 79) (v' := .int .i64 (q79 : Int)) rfl (by first | exact congrArg _ eq79) ?_
     refine Qt.o_val rfl (v_fieldAddr (q := ⟨b15, 2, none⟩) rfl rfl Try.underlying66 rfl ti3 rfl) ?_
     refine Qt.o_val rfl (v_load1 rfl rfl Try.underlying3 rfl (rd_mem 0 rfl rfl)) ?_
     refine Qt.o_val rfl (v_bin rfl rfl rfl (b_and rfl)) ?_
     obtain ⟨q82, hq82, eq82⟩ := band64 x75.f_Voter 1023 (by omega)
     refine Qt.l_eq (t := 82) (v' := .int .i64 (q82 : Int)) rfl (by first | exact congrArg _ eq82) ?_
     refine Qt.o_val rfl (v_move rfl rfl) ?_
     refine Qt.o_val rfl (v_bin rfl rfl rfl (b_rem (by omega) rfl)) ?_
     obtain ⟨wv, hwv, ew⟩ : ∃ wv : Nat, wv < n ∧ (q82 : Int).tmod (n : Int) = (wv : Int) := ⟨q82 % n, Nat.mod_lt _ (by omega), tmodI⟩
     refine Qt.l_eq (t := 84) (v' := .int .i64 (wv : Int)) rfl (by rw [ew]) ?_
     refine Qt.o_val rfl (v_assign rfl rfl) ?_
     refine Qt.o_val rfl (v_assign rfl rfl) ?_
     refine Qt.l_nil ?_
     refine q_then ?_
     refine c_seq ?_
     refine c_fact (p := ∃ ad, la = some ad) (rds_some (e := eLPI) (xs := (ls.map Prod.fst)) (rds_own eLPI_ok 1 rfl) (by intro h0; have h00 := congrArg List.length h0; simp only [List.length_nil] at h00; omega)) ?_
     rintro ⟨adx, eadx⟩
     refine c_fact (p := ∃ ad, ga = some ad) (rds_some (e := eVPI) (xs := (gs.map Prod.fst)) (rds_own eVPI_ok 3 rfl) (by intro h0; have h00 := congrArg List.length h0; simp only [List.length_nil] at h00; omega)) ?_
     rintro ⟨ady, eady⟩
     refine c_quiet (by kernel_rfl) (by kernel_rfl) ?_
     refine Qt.o_val rfl (v_move rfl rfl) ?_
     refine Qt.o_val rfl (v_move rfl rfl) ?_
     refine Qt.o_val rfl (v_indexK eLPI_ok eadx rfl rfl rfl Try.underlying61 (by omega) (by omega)) ?_
     obtain ⟨x87, hx87⟩ : ∃ x, ((ls.map Prod.fst))[((q79 : Int)).toNat]? = some x := ⟨_, List.getElem?_eq_getElem (by omega)⟩
     refine Qt.o_val rfl (v_load1 rfl rfl Try.underlying50 rfl (rd_sl0 eLPI_ok eadx (rds_own eLPI_ok 1 rfl) hx87 rfl)) ?_
     refine Qt.o_val rfl (v_move rfl rfl) ?_
     refine Qt.o_val rfl (v_move rfl rfl) ?_
     refine Qt.o_val rfl (v_indexK eVPI_ok eady rfl rfl rfl Try.underlying60 (by omega) (by omega)) ?_
     obtain ⟨x91, hx91⟩ : ∃ x, ((gs.map Prod.fst))[((wv : Int)).toNat]? = some x := ⟨_, List.getElem?_eq_getElem (by omega)⟩
     refine Qt.o_val rfl (v_load1 rfl rfl Try.underlying63 rfl (rd_sl0 eVPI_ok eady (rds_own eVPI_ok 3 rfl) hx91 rfl)) ?_
     refine Qt.o_val rfl (v_assign rfl rfl) ?_
     refine Qt.o_val rfl (v_assign rfl rfl) ?_
     refine Qt.l_nil ?_
     refine q_then ?_
     refine c_seq ?_
     obtain ⟨⟨pl, lq⟩, hzl⟩ : ∃ z, ls2[q79]? = some z := ⟨_, List.getElem?_eq_getElem (by have := hagr.ll; omega)⟩
     have hpl : pl = x87 := by have h9 := hx87; rw [← hagr.lf] at h9; rw [show ((q79 : Int)).toNat = q79 from rfl, List.getElem?_map, hzl] at h9; exact Option.some.inj h9
     rw [hpl] at hzl
     refine c_conv (fun w S => S.perm p5) ?_
     refine c_conv (fun w S => S.perm p5) ?_
     refine c_conv (fun w S => S.perm p5) ?_
     refine c_conv (fun w S => S.perm p4) ?_
     refine c_conv (fun w S => S.perm p4) ?_
     refine c_conv (fun w S => S.perm p5) ?_
     refine c_conv (L' := LdRI x87 lq :: lgR (ls2.eraseIdx q79) :: _) (fun w S => Sat.lg_take hzl S) ?_
     obtain ⟨⟨pv, vq⟩, hzw⟩ : ∃ z, gs2[wv]? = some z := ⟨_, List.getElem?_eq_getElem (by have := hagr.gl; omega)⟩
     have hpv : pv = x91 := by have h9 := hx91; rw [← hagr.gf] at h9; rw [show ((wv : Int)).toNat = wv from rfl, List.getElem?_map, hzw] at h9; exact Option.some.inj h9
     rw [hpv] at hzw
     refine c_conv (fun w S => S.perm p6) ?_
     refine c_conv (fun w S => S.perm p5) ?_
     refine c_conv (fun w S => S.perm p5) ?_
     refine c_conv (fun w S => S.perm p5) ?_
     refine c_conv (fun w S => S.perm p5) ?_
     refine c_conv (fun w S => S.perm p5) ?_
     refine c_conv (fun w S => S.perm p6) ?_
     refine c_conv (L' := VtB x91 vq :: vgR (gs2.eraseIdx wv) :: _) (fun w S => Sat.vg_take hzw S) ?_
     refine c_region ?_
     refine o_fieldAddr (q := ⟨b15, 0, none⟩) rfl rfl Try.underlying66 rfl ti3 rfl ?_
     refine o_load1 rfl rfl Try.underlying3 rfl (rd_mem 4 rfl rfl) ?_
     refine o_bin rfl rfl rfl (b_and rfl) ?_
     refine l_nil ?_
     refine q_then ?_
     refine c_block ?_
     refine c_seq ?_
     refine c_region ?_
     refine o_bin rfl rfl rfl b_eql ?_
     refine o_assign rfl rfl ?_
     refine l_nil ?_
     refine q_then ?_
     refine c_cond rfl (fun h5 => ?_) (fun h5 => ?_)
     · -- h5T
      have h5b := h5
      try simp only [decide_eq_true_eq] at h5
      refine c_seq ?_
      refine c_region ?_
      refine o_move rfl rfl ?_
      refine o_move rfl rfl ?_
      refine o_bin rfl rfl rfl (b_add (wrap_i64 (by omega) (by omega))) ?_
      refine o_int rfl rfl Try.underlying3 Try.underlying29 (wrap_u64 (by omega) (by omega)) ?_
      refine o_call rfl cal32 rfl (vpromB (b := ((q79 : Int) + 1)) (fr := 0)) ?_
      rintro _ _ ⟨a152, c152, rfl, rfl⟩
      refine o_move rfl rfl ?_
      refine o_extract rfl rfl rfl ?_
      refine o_extract rfl rfl rfl ?_
      refine o_assign rfl rfl ?_
      refine o_assign rfl rfl ?_
      refine l_nil ?_
      refine q_then ?_
      refine c_seq ?_
      refine c_region ?_
      refine o_move rfl rfl ?_
      refine l_nil ?_
      refine q_then ?_
      refine c_cond rfl (fun h6 => ?_) (fun h6 => ?_)
      · -- h6T
       have h6b := h6
       try simp only [decide_eq_true_eq] at h6
       refine c_region ?_
       refine o_move rfl rfl ?_
       refine o_move rfl rfl ?_
       refine o_move rfl rfl ?_
       refine l_f3 ?_
       refine o_call rfl cal26 rfl (promisedI (vs := (promLB vq ((q79 : Int) + 1) 0)) (a := a152) (c := c152) (rds_own eVI_ok 0 rfl) (by have h9 := promL_lenB (β := (q79 : Int) + 1) (fr := 0) (hagr.vok hzw); omega)) ?_
       rintro _ _ ⟨rfl, rfl⟩
       refine l_nil ?_
       refine q_block ?_
       refine q_block ?_
       refine q_then ?_
       refine c_conv (fun w S => S.perm p8) ?_
       refine c_conv (fun w S => S.perm p8) ?_
       refine c_conv (fun w S => S.perm p8) ?_
       refine c_conv (fun w S => S.perm p8) ?_
       refine c_conv (fun w S => S.perm p7) ?_
       refine c_conv (fun w S => S.perm p7) ?_
       refine c_conv (fun w S => S.perm p7) ?_
       refine c_conv (fun w S => S.perm p8) ?_
       refine c_conv (fun w S => S.perm p8) ?_
       refine c_conv (L' := lgR (ls2.set q79 (x87, (lq.promised z0I (wv : Int) (promLB vq ((q79 : Int) + 1) 0)))) :: _) (fun w S => Sat.lg_set (by have := hagr.ll; omega) S) ?_
       refine c_conv (fun w S => S.perm p7) ?_
       refine c_conv (fun w S => S.perm p7) ?_
       refine c_conv (fun w S => S.perm p7) ?_
       refine c_conv (fun w S => S.perm p7) ?_
       refine c_conv (fun w S => S.perm p5) ?_
       refine c_conv (fun w S => S.perm p5) ?_
       refine c_conv (fun w S => S.perm p7) ?_
       refine c_conv (fun w S => S.perm p7) ?_
       refine c_conv (L' := vgR (gs2.set wv (x91, (promSB vq ((q79 : Int) + 1)))) :: _) (fun w S => Sat.vg_set (by have := hagr.gl; omega) S) ?_
       refine c_region ?_
       refine o_bin rfl rfl rfl (b_add (wrap_i64 (by omega) (by omega))) ?_
       refine o_move rfl rfl ?_
       refine l_nil ?_
       refine q_conv (fun w S => (S.perm p2).tail) ?_
       refine q_conv (fun w S => (S.perm p2).tail) ?_
       refine q_conv (fun w S => S.perm p4) ?_
       refine q_conv (fun w S => S.perm p1) ?_
       refine q_conv (fun w S => S.perm p4) ?_
       refine q_conv (fun w S => S.perm p3) ?_
       refine q_conv (fun w S => S.perm p4) ?_
       exact q_round (k + 1, (gs2.set wv (x91, (promSB vq ((q79 : Int) + 1)))), (ls2.set q79 (x87, (lq.promised z0I (wv : Int) (promLB vq ((q79 : Int) + 1) 0)))), C) (by exact ⟨by omega, by have h8 : vq.pr ≤ (q79 : Int) + 1 := of_decide_eq_true (by first | assumption | simp_all); have h9 := hagr.hear hzw hzl h8 z0I; rw [← promL_all (hagr.vok hzw) h8] at h9; exact h9⟩) (by (try dsimp only); omega) ⟨(by first | rfl | exact vint (by omega)), (by first | rfl | exact vint (by omega)), (by first | rfl | exact vint (by omega)), (by first | rfl | exact vint (by omega)), (by first | rfl | exact vint (by omega)), (by first | rfl | exact vint (by omega)), (by first | rfl | exact vint (by omega)), trivial⟩ (fun w S => S)
      · -- h6F
       have h6b := h6
       try simp only [decide_eq_false_iff_not, Int.not_lt, Int.not_le] at h6
       refine c_skip ?_
       refine q_block ?_
       refine q_block ?_
       refine q_then ?_
       refine c_conv (fun w S => S.perm p8) ?_
       refine c_conv (fun w S => S.perm p8) ?_
       refine c_conv (fun w S => S.perm p8) ?_
       refine c_conv (fun w S => S.perm p8) ?_
       refine c_conv (fun w S => S.perm p6) ?_
       refine c_conv (fun w S => S.perm p6) ?_
       refine c_conv (fun w S => S.perm p6) ?_
       refine c_conv (fun w S => S.perm p8) ?_
       refine c_conv (fun w S => S.perm p8) ?_
       refine c_conv (L' := lgR (ls2.set q79 (x87, lq)) :: _) (fun w S => Sat.lg_set (by have := hagr.ll; omega) S) ?_
       refine c_conv (fun w S => S.perm p7) ?_
       refine c_conv (fun w S => S.perm p7) ?_
       refine c_conv (fun w S => S.perm p7) ?_
       refine c_conv (fun w S => S.perm p7) ?_
       refine c_conv (fun w S => S.perm p5) ?_
       refine c_conv (fun w S => S.perm p5) ?_
       refine c_conv (fun w S => S.perm p7) ?_
       refine c_conv (fun w S => S.perm p7) ?_
       refine c_conv (L' := vgR (gs2.set wv (x91, (promSB vq ((q79 : Int) + 1)))) :: _) (fun w S => Sat.vg_set (by have := hagr.gl; omega) S) ?_
       refine c_region ?_
       refine o_bin rfl rfl rfl (b_add (wrap_i64 (by omega) (by omega))) ?_
       refine o_move rfl rfl ?_
       refine l_nil ?_
       refine q_conv (fun w S => (S.perm p2).tail) ?_
       refine q_conv (fun w S => (S.perm p2).tail) ?_
       refine q_conv (fun w S => S.perm p4) ?_
       refine q_conv (fun w S => S.perm p1) ?_
       refine q_conv (fun w S => S.perm p4) ?_
       refine q_conv (fun w S => S.perm p3) ?_
       refine q_conv (fun w S => S.perm p4) ?_
       exact q_round (k + 1, (gs2.set wv (x91, (promSB vq ((q79 : Int) + 1)))), (ls2.set q79 (x87, lq)), C) (by exact ⟨by omega, hagr.rise hzw hzl _⟩) (by (try dsimp only); omega) ⟨(by first | rfl | exact vint (by omega)), (by first | rfl | exact vint (by omega)), (by first | rfl | exact vint (by omega)), (by first | rfl | exact vint (by omega)), (by first | rfl | exact vint (by omega)), (by first | rfl | exact vint (by omega)), (by first | rfl | exact vint (by omega)), trivial⟩ (fun w S => S)
     · -- h5F
      have h5b := h5
      try simp only [decide_eq_false_iff_not, Int.not_lt, Int.not_le] at h5
      refine c_seq ?_
      refine c_region ?_
      refine o_bin rfl rfl rfl b_eql ?_
      refine o_assign rfl rfl ?_
      refine l_nil ?_
      refine q_then ?_
      refine c_cond rfl (fun h7 => ?_) (fun h7 => ?_)
      · -- h7T
       have h7b := h7
       try simp only [decide_eq_true_eq] at h7
       refine c_region ?_
       refine o_move rfl rfl ?_
       refine o_move rfl rfl ?_
       refine o_bin rfl rfl rfl (b_mul (wrap_i64 (by omega) (by omega))) ?_
       refine o_move rfl rfl ?_
       refine o_bin rfl rfl rfl (b_add (wrap_i64 (by omega) (by omega))) ?_
       refine l_f2 ?_
       refine o_call rfl cal25 rfl (offerI) ?_
       rintro _ _ ⟨rfl, rfl⟩
       refine l_nil ?_
       refine q_block ?_
       refine q_block ?_
       refine q_then ?_
       refine c_conv (fun w S => S.perm p7) ?_
       refine c_conv (fun w S => S.perm p7) ?_
       refine c_conv (fun w S => S.perm p7) ?_
       refine c_conv (fun w S => S.perm p7) ?_
       refine c_conv (fun w S => S.perm p6) ?_
       refine c_conv (fun w S => S.perm p6) ?_
       refine c_conv (fun w S => S.perm p7) ?_
       refine c_conv (fun w S => S.perm p7) ?_
       refine c_conv (L' := lgR (ls2.set q79 (x87, (lq.offer (0 : Int) (((1000 : Int) * (q79 : Int)) + (k : Int))).2)) :: _) (fun w S => Sat.lg_set (by have := hagr.ll; omega) S) ?_
       refine c_conv (fun w S => S.perm p6) ?_
       refine c_conv (fun w S => S.perm p6) ?_
       refine c_conv (fun w S => S.perm p6) ?_
       refine c_conv (fun w S => S.perm p6) ?_
       refine c_conv (fun w S => S.perm p4) ?_
       refine c_conv (fun w S => S.perm p6) ?_
       refine c_conv (fun w S => S.perm p6) ?_
       refine c_conv (L' := vgR (gs2.set wv (x91, vq)) :: _) (fun w S => Sat.vg_set (by have := hagr.gl; omega) S) ?_
       refine c_region ?_
       refine o_bin rfl rfl rfl (b_add (wrap_i64 (by omega) (by omega))) ?_
       refine o_move rfl rfl ?_
       refine l_nil ?_
       refine q_conv (fun w S => (S.perm p2).tail) ?_
       refine q_conv (fun w S => S.perm p4) ?_
       refine q_conv (fun w S => S.perm p1) ?_
       refine q_conv (fun w S => S.perm p4) ?_
       refine q_conv (fun w S => S.perm p3) ?_
       refine q_conv (fun w S => S.perm p4) ?_
       exact q_round (k + 1, (gs2.set wv (x91, vq)), (ls2.set q79 (x87, (lq.offer (0 : Int) (((1000 : Int) * (q79 : Int)) + (k : Int))).2)), C) (by exact ⟨by omega, hagr.offer hzw hzl _⟩) (by (try dsimp only); omega) ⟨(by first | rfl | exact vint (by omega)), (by first | rfl | exact vint (by omega)), (by first | rfl | exact vint (by omega)), (by first | rfl | exact vint (by omega)), (by first | rfl | exact vint (by omega)), (by first | rfl | exact vint (by omega)), (by first | rfl | exact vint (by omega)), trivial⟩ (fun w S => S)
      · -- h7F
       have h7b := h7
       try simp only [decide_eq_false_iff_not, Int.not_lt, Int.not_le] at h7
       refine c_seq ?_
       refine c_region ?_
       refine o_move rfl rfl ?_
       refine l_f2 ?_
       refine o_call rfl cal28 rfl (slotI) ?_
       rintro _ _ ⟨rfl, rfl⟩
       refine o_assign rfl rfl ?_
       refine l_nil ?_
       refine q_then ?_
       refine c_seq ?_
       refine c_region ?_
       refine o_move rfl rfl ?_
       refine o_call rfl cal29 rfl (valueI) ?_
       rintro _ _ ⟨rfl, rfl⟩
       refine o_move rfl rfl ?_
       refine o_extract rfl rfl rfl ?_
       refine o_extract rfl rfl rfl ?_
       refine o_assign rfl rfl ?_
       refine o_assign rfl rfl ?_
       refine l_nil ?_
       refine q_then ?_
       refine c_seq ?_
       refine c_seq ?_
       refine c_region ?_
       refine o_move rfl rfl ?_
       refine o_not rfl rfl ?_
       refine o_move rfl rfl ?_
       refine l_split (t := 105) rfl (fun h8 => ?_) (fun h8 => ?_)
       · -- h8T
        have h8b := h8
        try simp only [decide_eq_true_eq, decide_eq_false_iff_not, Bool.not_eq_eq_eq_not, Bool.not_true, Bool.not_false, Bool.not_eq_true', Bool.not_eq_false', Int.not_lt, Int.not_le, Bool.or_eq_true, Bool.and_eq_true] at h8
        refine o_no rfl rfl rfl rfl ?_
        refine o_no rfl rfl rfl rfl ?_
        refine o_no rfl rfl rfl rfl ?_
        refine o_no rfl rfl rfl rfl ?_
        refine o_no rfl rfl rfl rfl ?_
        refine o_no rfl rfl rfl rfl ?_
        refine o_no rfl rfl rfl rfl ?_
        refine o_no rfl rfl rfl rfl ?_
        refine o_no rfl rfl rfl rfl ?_
        refine o_pick_true rfl rfl rfl ?_
        refine l_nil ?_
        refine q_then ?_
        refine c_true rfl ?_
        refine c_exit ?_
        refine q_pass_exit ?_
        refine q_miss rfl ?_
        refine q_hit ?_
        refine q_then ?_
        refine c_conv (fun w S => S.perm p7) ?_
        refine c_conv (fun w S => S.perm p7) ?_
        refine c_conv (fun w S => S.perm p7) ?_
        refine c_conv (fun w S => S.perm p7) ?_
        refine c_conv (fun w S => S.perm p6) ?_
        refine c_conv (fun w S => S.perm p6) ?_
        refine c_conv (fun w S => S.perm p7) ?_
        refine c_conv (fun w S => S.perm p7) ?_
        refine c_conv (L' := lgR (ls2.set q79 (x87, lq)) :: _) (fun w S => Sat.lg_set (by have := hagr.ll; omega) S) ?_
        refine c_conv (fun w S => S.perm p6) ?_
        refine c_conv (fun w S => S.perm p6) ?_
        refine c_conv (fun w S => S.perm p6) ?_
        refine c_conv (fun w S => S.perm p6) ?_
        refine c_conv (fun w S => S.perm p4) ?_
        refine c_conv (fun w S => S.perm p6) ?_
        refine c_conv (fun w S => S.perm p6) ?_
        refine c_conv (L' := vgR (gs2.set wv (x91, vq)) :: _) (fun w S => Sat.vg_set (by have := hagr.gl; omega) S) ?_
        refine c_region ?_
        refine o_bin rfl rfl rfl (b_add (wrap_i64 (by omega) (by omega))) ?_
        refine o_move rfl rfl ?_
        refine l_nil ?_
        refine q_conv (fun w S => (S.perm p2).tail) ?_
        refine q_conv (fun w S => S.perm p4) ?_
        refine q_conv (fun w S => S.perm p1) ?_
        refine q_conv (fun w S => S.perm p4) ?_
        refine q_conv (fun w S => S.perm p3) ?_
        refine q_conv (fun w S => S.perm p4) ?_
        exact q_round (k + 1, (gs2.set wv (x91, vq)), (ls2.set q79 (x87, lq)), C) (by exact ⟨by omega, hagr.same hzw hzl⟩) (by (try dsimp only); omega) ⟨(by first | rfl | exact vint (by omega)), (by first | rfl | exact vint (by omega)), (by first | rfl | exact vint (by omega)), (by first | rfl | exact vint (by omega)), (by first | rfl | exact vint (by omega)), (by first | rfl | exact vint (by omega)), (by first | rfl | exact vint (by omega)), trivial⟩ (fun w S => S)
       · -- h8F
        have h8b := h8
        try simp only [decide_eq_true_eq, decide_eq_false_iff_not, Bool.not_eq_eq_eq_not, Bool.not_true, Bool.not_false, Bool.not_eq_true', Bool.not_eq_false', Int.not_lt, Int.not_le, Bool.or_eq_true, Bool.and_eq_true] at h8
        refine o_yes rfl rfl rfl ?_
        refine o_move rfl rfl ?_
        refine o_yes rfl rfl rfl ?_
        refine o_move rfl rfl ?_
        refine o_yes rfl rfl rfl ?_
        refine o_move rfl rfl ?_
        refine o_yes rfl rfl rfl ?_
        refine o_bin rfl rfl rfl (b_add (wrap_i64 (by omega) (by omega))) ?_
        refine o_yes rfl rfl rfl ?_
        refine o_int rfl rfl Try.underlying3 Try.underlying29 (wrap_u64 (by omega) (by omega)) ?_
        refine o_yes rfl rfl rfl ?_
        refine o_move rfl rfl ?_
        refine o_yes rfl rfl rfl ?_
        refine o_build rfl sp72 ti72 rfl ((fill_cons (cells' := [.int .i64 lq.slot, .int .u64 0, .int .i64 0]) rfl rfl rfl rfl (fill_cons (cells' := [.int .i64 lq.slot, .int .u64 ((q79 : Int) + 1), .int .i64 0]) rfl rfl rfl rfl (fill_cons (cells' := [.int .i64 lq.slot, .int .u64 ((q79 : Int) + 1), .int .i64 ((lq.value (0 : Int)).1)]) rfl rfl rfl rfl fill_nil)))) ?_
        refine o_yes rfl rfl rfl ?_
        refine l_f1 ?_
        refine o_call rfl cal33 rfl (vaccB (v := (⟨lq.slot, (q79 : Int) + 1, (lq.value (0 : Int)).1⟩ : (Vt Int)))) ?_
        rintro _ _ ⟨rfl, rfl⟩
        refine o_yes rfl rfl rfl ?_
        refine o_not rfl rfl ?_
        refine o_pick_false rfl rfl rfl ?_
        refine l_nil ?_
        refine q_then ?_
        refine c_cond rfl (fun h9 => ?_) (fun h9 => ?_)
        · -- h9T
         have h9b := h9
         try simp only [Bool.not_eq_true', decide_eq_false_iff_not, Int.not_lt, Int.not_le] at h9
         refine c_exit ?_
         refine q_pass_exit ?_
         refine q_miss rfl ?_
         refine q_hit ?_
         refine q_then ?_
         refine c_conv (fun w S => S.perm p7) ?_
         refine c_conv (fun w S => S.perm p7) ?_
         refine c_conv (fun w S => S.perm p7) ?_
         refine c_conv (fun w S => S.perm p7) ?_
         refine c_conv (fun w S => S.perm p6) ?_
         refine c_conv (fun w S => S.perm p5) ?_
         refine c_conv (fun w S => S.perm p7) ?_
         refine c_conv (fun w S => S.perm p7) ?_
         refine c_conv (L' := lgR (ls2.set q79 (x87, lq)) :: _) (fun w S => Sat.lg_set (by have := hagr.ll; omega) S) ?_
         refine c_conv (fun w S => S.perm p6) ?_
         refine c_conv (fun w S => S.perm p6) ?_
         refine c_conv (fun w S => S.perm p6) ?_
         refine c_conv (fun w S => S.perm p6) ?_
         refine c_conv (fun w S => S.perm p4) ?_
         refine c_conv (fun w S => S.perm p6) ?_
         refine c_conv (fun w S => S.perm p6) ?_
         refine c_conv (L' := vgR (gs2.set wv (x91, (accSB vq (⟨lq.slot, (q79 : Int) + 1, (lq.value (0 : Int)).1⟩ : (Vt Int))))) :: _) (fun w S => Sat.vg_set (by have := hagr.gl; omega) S) ?_
         refine c_region ?_
         refine o_bin rfl rfl rfl (b_add (wrap_i64 (by omega) (by omega))) ?_
         refine o_move rfl rfl ?_
         refine l_nil ?_
         refine q_conv (fun w S => (S.perm p2).tail) ?_
         refine q_conv (fun w S => S.perm p4) ?_
         refine q_conv (fun w S => S.perm p1) ?_
         refine q_conv (fun w S => S.perm p4) ?_
         refine q_conv (fun w S => S.perm p3) ?_
         refine q_conv (fun w S => S.perm p4) ?_
         exact q_round (k + 1, (gs2.set wv (x91, (accSB vq (⟨lq.slot, (q79 : Int) + 1, (lq.value (0 : Int)).1⟩ : (Vt Int))))), (ls2.set q79 (x87, lq)), C) (by exact ⟨by omega, by rw [show accSB vq (⟨lq.slot, (q79 : Int) + 1, (lq.value 0).1⟩ : Vt Int) = vq from if_neg (by first | assumption | simp_all)]; exact hagr.same hzw hzl⟩) (by (try dsimp only); omega) ⟨(by first | rfl | exact vint (by omega)), (by first | rfl | exact vint (by omega)), (by first | rfl | exact vint (by omega)), (by first | rfl | exact vint (by omega)), (by first | rfl | exact vint (by omega)), (by first | rfl | exact vint (by omega)), (by first | rfl | exact vint (by omega)), trivial⟩ (fun w S => S)
        · -- h9F
         have h9b := h9
         try simp only [Bool.not_eq_false', decide_eq_true_eq] at h9
         refine c_skip ?_
         refine q_then ?_
         refine c_seq ?_
         have hval : lq.value 0 = ((lq.value 0).1, true) := val_pair (by simpa using ‹(!(lq.value 0).2) = false›)
         have hacc : accOkB vq (⟨lq.slot, (q79 : Int) + 1, (lq.value 0).1⟩ : Vt Int) := by have h9 := ‹(!decide (accOkB vq (⟨lq.slot, (q79 : Int) + 1, (lq.value 0).1⟩ : Vt Int))) = false›; simpa using h9
         have htk := hagr.take hn9 hzw hzl hval hacc
         refine c_region ?_
         refine o_move rfl rfl ?_
         refine o_move rfl rfl ?_
         refine o_move rfl rfl ?_
         refine l_f1 ?_
         refine o_call rfl cal27 rfl (takenI) ?_
         rintro _ _ ⟨rfl, rfl⟩
         refine o_move rfl rfl ?_
         refine o_extract rfl rfl rfl ?_
         refine o_extract rfl rfl rfl ?_
         refine o_assign rfl rfl ?_
         refine o_assign rfl rfl ?_
         refine l_nil ?_
         refine q_then ?_
         refine c_seq ?_
         refine c_seq ?_
         refine c_region ?_
         refine o_move rfl rfl ?_
         refine o_not rfl rfl ?_
         refine l_nil ?_
         refine q_then ?_
         refine c_cond rfl (fun h10 => ?_) (fun h10 => ?_)
         · -- h10T
          have h10b := h10
          try simp only [decide_eq_true_eq, decide_eq_false_iff_not, Bool.not_eq_eq_eq_not, Bool.not_true, Bool.not_false, Bool.not_eq_true', Bool.not_eq_false', Int.not_lt, Int.not_le, Bool.or_eq_true, Bool.and_eq_true] at h10
          refine c_exit ?_
          refine q_pass_exit ?_
          refine q_miss rfl ?_
          refine q_hit ?_
          refine q_then ?_
          refine c_conv (fun w S => S.perm p7) ?_
          refine c_conv (fun w S => S.perm p7) ?_
          refine c_conv (fun w S => S.perm p7) ?_
          refine c_conv (fun w S => S.perm p7) ?_
          refine c_conv (fun w S => S.perm p6) ?_
          refine c_conv (fun w S => S.perm p6) ?_
          refine c_conv (fun w S => S.perm p7) ?_
          refine c_conv (fun w S => S.perm p7) ?_
          refine c_conv (L' := lgR (ls2.set q79 (x87, (lq.taken (0 : Int) (wv : Int) lq.slot).2)) :: _) (fun w S => Sat.lg_set (by have := hagr.ll; omega) S) ?_
          refine c_conv (fun w S => S.perm p6) ?_
          refine c_conv (fun w S => S.perm p6) ?_
          refine c_conv (fun w S => S.perm p6) ?_
          refine c_conv (fun w S => S.perm p6) ?_
          refine c_conv (fun w S => S.perm p4) ?_
          refine c_conv (fun w S => S.perm p6) ?_
          refine c_conv (fun w S => S.perm p6) ?_
          refine c_conv (L' := vgR (gs2.set wv (x91, (accSB vq (⟨lq.slot, (q79 : Int) + 1, (lq.value (0 : Int)).1⟩ : (Vt Int))))) :: _) (fun w S => Sat.vg_set (by have := hagr.gl; omega) S) ?_
          refine c_region ?_
          refine o_bin rfl rfl rfl (b_add (wrap_i64 (by omega) (by omega))) ?_
          refine o_move rfl rfl ?_
          refine l_nil ?_
          refine q_conv (fun w S => (S.perm p2).tail) ?_
          refine q_conv (fun w S => S.perm p4) ?_
          refine q_conv (fun w S => S.perm p1) ?_
          refine q_conv (fun w S => S.perm p4) ?_
          refine q_conv (fun w S => S.perm p3) ?_
          refine q_conv (fun w S => S.perm p4) ?_
          exact q_round (k + 1, (gs2.set wv (x91, (accSB vq (⟨lq.slot, (q79 : Int) + 1, (lq.value (0 : Int)).1⟩ : (Vt Int))))), (ls2.set q79 (x87, (lq.taken (0 : Int) (wv : Int) lq.slot).2)), C) (by exact ⟨by omega, (hagr.take hn9 hzw hzl hval hacc).1⟩) (by (try dsimp only); omega) ⟨(by first | rfl | exact vint (by omega)), (by first | rfl | exact vint (by omega)), (by first | rfl | exact vint (by omega)), (by first | rfl | exact vint (by omega)), (by first | rfl | exact vint (by omega)), (by first | rfl | exact vint (by omega)), (by first | rfl | exact vint (by omega)), trivial⟩ (fun w S => S)
         · -- h10F
          have h10b := h10
          try simp only [decide_eq_true_eq, decide_eq_false_iff_not, Bool.not_eq_eq_eq_not, Bool.not_true, Bool.not_false, Bool.not_eq_true', Bool.not_eq_false', Int.not_lt, Int.not_le, Bool.or_eq_true, Bool.and_eq_true] at h10
          refine c_skip ?_
          refine q_then ?_
          refine c_seq ?_
          have hd : (lq.taken 0 (wv : Int) lq.slot).1.2 = true := by simpa using ‹(!(lq.taken 0 (wv : Int) lq.slot).1.2) = false›
          obtain ⟨hyx, hold, hyr⟩ := htk.2 hd
          refine c_region ?_
          refine o_move rfl rfl ?_
          refine o_move rfl rfl ?_
          refine o_lookupDOk (kv := kvI) (vv := vvI) (b0 := 0) 7 rfl koI rfl rfl rfl Try.underlying62 ti3 ?_
          refine o_move rfl rfl ?_
          refine o_extract rfl rfl rfl ?_
          refine o_extract rfl rfl rfl ?_
          refine o_assign rfl rfl ?_
          refine o_assign rfl rfl ?_
          refine l_nil ?_
          refine q_then ?_
          refine c_seq ?_
          refine c_seq ?_
          refine c_region ?_
          refine o_move rfl rfl ?_
          refine o_move rfl rfl ?_
          refine o_bin rfl rfl rfl b_neq ?_
          refine l_eq (t := 133) (v' := .bool false) rfl (show _ = Value.bool false from by rw [hyx]; simp) ?_
          refine o_move rfl rfl ?_
          refine o_yes rfl rfl rfl ?_
          refine o_move rfl rfl ?_
          refine o_yes rfl rfl rfl ?_
          refine o_move rfl rfl ?_
          refine l_split (t := 136) rfl (fun h11 => ?_) (fun h11 => ?_)
          · -- h11T
           have h11b := h11
           try simp only [decide_eq_true_eq, decide_eq_false_iff_not, Bool.not_eq_eq_eq_not, Bool.not_true, Bool.not_false, Bool.not_eq_true', Bool.not_eq_false', Int.not_lt, Int.not_le, Bool.or_eq_true, Bool.and_eq_true] at h11
           refine o_yes rfl rfl rfl ?_
           refine o_move rfl rfl ?_
           refine o_yes rfl rfl rfl ?_
           refine o_move rfl rfl ?_
           refine o_yes rfl rfl rfl ?_
           refine o_bin rfl rfl rfl b_neq ?_
           refine l_eq (t := 139) (v' := .bool false) rfl (show _ = Value.bool false from by obtain ⟨u, hu⟩ := Option.isSome_iff_exists.1 (show (mget C lq.slot).isSome = true by first | assumption | simp_all); rw [hyx, hu, hold u hu]; simp) ?_
           refine o_yes rfl rfl rfl ?_
           refine o_pick_true rfl rfl rfl ?_
           refine o_pick_false rfl rfl rfl ?_
           refine l_nil ?_
           refine q_then ?_
           refine c_false rfl ?_
           refine c_skip ?_
           refine q_then ?_
           refine c_region ?_
           refine o_move rfl rfl ?_
           refine o_move rfl rfl ?_
           refine o_move rfl rfl ?_
           refine l_f7 ?_
           refine o_mapUpdate (q := lq.slot) (b := ((lq.taken (0 : Int) (wv : Int) lq.slot).1.1)) koI rfl rfl rfl Try.underlying62 ?_
           refine l_nil ?_
           refine q_block ?_
           refine q_block ?_
           refine q_then ?_
           refine c_conv (fun w S => S.perm p7) ?_
           refine c_conv (fun w S => S.perm p7) ?_
           refine c_conv (fun w S => S.perm p7) ?_
           refine c_conv (fun w S => S.perm p6) ?_
           refine c_conv (fun w S => S.perm p6) ?_
           refine c_conv (fun w S => S.perm p5) ?_
           refine c_conv (fun w S => S.perm p7) ?_
           refine c_conv (fun w S => S.perm p7) ?_
           refine c_conv (L' := lgR (ls2.set q79 (x87, (lq.taken (0 : Int) (wv : Int) lq.slot).2)) :: _) (fun w S => Sat.lg_set (by have := hagr.ll; omega) S) ?_
           refine c_conv (fun w S => S.perm p6) ?_
           refine c_conv (fun w S => S.perm p6) ?_
           refine c_conv (fun w S => S.perm p6) ?_
           refine c_conv (fun w S => S.perm p4) ?_
           refine c_conv (fun w S => S.perm p4) ?_
           refine c_conv (fun w S => S.perm p6) ?_
           refine c_conv (fun w S => S.perm p6) ?_
           refine c_conv (L' := vgR (gs2.set wv (x91, (accSB vq (⟨lq.slot, (q79 : Int) + 1, (lq.value (0 : Int)).1⟩ : (Vt Int))))) :: _) (fun w S => Sat.vg_set (by have := hagr.gl; omega) S) ?_
           refine c_region ?_
           refine o_bin rfl rfl rfl (b_add (wrap_i64 (by omega) (by omega))) ?_
           refine o_move rfl rfl ?_
           refine l_nil ?_
           refine q_conv (fun w S => (S.perm p3).tail) ?_
           refine q_conv (fun w S => S.perm p2) ?_
           refine q_conv (fun w S => S.perm p1) ?_
           refine q_conv (fun w S => S.perm p4) ?_
           refine q_conv (fun w S => S.perm p3) ?_
           refine q_conv (fun w S => S.perm p4) ?_
           exact q_round (k + 1, (gs2.set wv (x91, (accSB vq (⟨lq.slot, (q79 : Int) + 1, (lq.value (0 : Int)).1⟩ : (Vt Int))))), (ls2.set q79 (x87, (lq.taken (0 : Int) (wv : Int) lq.slot).2)), mset C lq.slot ((lq.taken (0 : Int) (wv : Int) lq.slot).1.1)) (by exact ⟨by omega, by rw [hyx]; exact hyr⟩) (by (try dsimp only); omega) ⟨(by first | rfl | exact vint (by omega)), (by first | rfl | exact vint (by omega)), (by first | rfl | exact vint (by omega)), (by first | rfl | exact vint (by omega)), (by first | rfl | exact vint (by omega)), (by first | rfl | exact vint (by omega)), (by first | rfl | exact vint (by omega)), trivial⟩ (fun w S => S)
          · -- h11F
           have h11b := h11
           try simp only [decide_eq_true_eq, decide_eq_false_iff_not, Bool.not_eq_eq_eq_not, Bool.not_true, Bool.not_false, Bool.not_eq_true', Bool.not_eq_false', Int.not_lt, Int.not_le, Bool.or_eq_true, Bool.and_eq_true] at h11
           refine o_no rfl rfl rfl rfl ?_
           refine o_no rfl rfl rfl rfl ?_
           refine o_no rfl rfl rfl rfl ?_
           refine o_yes rfl rfl rfl ?_
           refine o_pick_false rfl rfl rfl ?_
           refine o_pick_false rfl rfl rfl ?_
           refine l_nil ?_
           refine q_then ?_
           refine c_false rfl ?_
           refine c_skip ?_
           refine q_then ?_
           refine c_region ?_
           refine o_move rfl rfl ?_
           refine o_move rfl rfl ?_
           refine o_move rfl rfl ?_
           refine l_f7 ?_
           refine o_mapUpdate (q := lq.slot) (b := ((lq.taken (0 : Int) (wv : Int) lq.slot).1.1)) koI rfl rfl rfl Try.underlying62 ?_
           refine l_nil ?_
           refine q_block ?_
           refine q_block ?_
           refine q_then ?_
           refine c_conv (fun w S => S.perm p7) ?_
           refine c_conv (fun w S => S.perm p7) ?_
           refine c_conv (fun w S => S.perm p7) ?_
           refine c_conv (fun w S => S.perm p6) ?_
           refine c_conv (fun w S => S.perm p6) ?_
           refine c_conv (fun w S => S.perm p5) ?_
           refine c_conv (fun w S => S.perm p7) ?_
           refine c_conv (fun w S => S.perm p7) ?_
           refine c_conv (L' := lgR (ls2.set q79 (x87, (lq.taken (0 : Int) (wv : Int) lq.slot).2)) :: _) (fun w S => Sat.lg_set (by have := hagr.ll; omega) S) ?_
           refine c_conv (fun w S => S.perm p6) ?_
           refine c_conv (fun w S => S.perm p6) ?_
           refine c_conv (fun w S => S.perm p6) ?_
           refine c_conv (fun w S => S.perm p4) ?_
           refine c_conv (fun w S => S.perm p4) ?_
           refine c_conv (fun w S => S.perm p6) ?_
           refine c_conv (fun w S => S.perm p6) ?_
           refine c_conv (L' := vgR (gs2.set wv (x91, (accSB vq (⟨lq.slot, (q79 : Int) + 1, (lq.value (0 : Int)).1⟩ : (Vt Int))))) :: _) (fun w S => Sat.vg_set (by have := hagr.gl; omega) S) ?_
           refine c_region ?_
           refine o_bin rfl rfl rfl (b_add (wrap_i64 (by omega) (by omega))) ?_
           refine o_move rfl rfl ?_
           refine l_nil ?_
           refine q_conv (fun w S => (S.perm p3).tail) ?_
           refine q_conv (fun w S => S.perm p2) ?_
           refine q_conv (fun w S => S.perm p1) ?_
           refine q_conv (fun w S => S.perm p4) ?_
           refine q_conv (fun w S => S.perm p3) ?_
           refine q_conv (fun w S => S.perm p4) ?_
           exact q_round (k + 1, (gs2.set wv (x91, (accSB vq (⟨lq.slot, (q79 : Int) + 1, (lq.value (0 : Int)).1⟩ : (Vt Int))))), (ls2.set q79 (x87, (lq.taken (0 : Int) (wv : Int) lq.slot).2)), mset C lq.slot ((lq.taken (0 : Int) (wv : Int) lq.slot).1.1)) (by exact ⟨by omega, by rw [hyx]; exact hyr⟩) (by (try dsimp only); omega) ⟨(by first | rfl | exact vint (by omega)), (by first | rfl | exact vint (by omega)), (by first | rfl | exact vint (by omega)), (by first | rfl | exact vint (by omega)), (by first | rfl | exact vint (by omega)), (by first | rfl | exact vint (by omega)), (by first | rfl | exact vint (by omega)), trivial⟩ (fun w S => S)
    · -- h4F
     have h4b := h4
     try simp only [decide_eq_false_iff_not, Int.not_lt, Int.not_le] at h4
     refine c_exit ?_
     refine q_pass_exit ?_
     refine q_pass_exit ?_
     refine q_hit ?_
     refine q_then ?_
     refine c_seq ?_
     refine c_region ?_
     refine o_assign rfl rfl ?_
     refine l_nil ?_
     refine q_then ?_
     refine c_ret ?_
     refine q_conv (fun w S => S.tail) ?_
     refine q_conv (fun w S => S.tail) ?_
     refine q_conv (fun w S => S.tail) ?_
     refine q_conv (fun w S => S.tail) ?_
     refine q_conv (fun w S => S.tail) ?_
     exact f_ret (r_one rfl rfl) (⟨rfl, rfl⟩) (fun w S => S)

end Go.Proofs.Ytakjmdeckngnlaa
