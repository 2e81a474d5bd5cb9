/- Printed by eng2.py out of 02/spec.py. -/
import Derived.Test.YtlbggbjekpfokaaPutB
import Derived.Test.YtlbggbjekpfokaaWalkB
set_option linter.unusedVariables false
set_option linter.unusedSimpArgs false
set_option maxRecDepth 10000
namespace Go.Proofs.Ytlbggbjekpfokaa
open Go.RowKit Classical
theorem new_B {W : World} {F : List Res}  : CS Try.prog 13 #[] W (F) (fun r L' => ∃ t : Nat, r = .pointer (some ⟨t, 0, none⟩) ∧ L' = treeR e_ItB eN72 76 78 ItB.f_key ilt t ([] : List ItB) :: F) := by
 refine f_door (l0 := []) Try.func13 Try.ntmps13 rfl rfl rfl ?_
 refine c_seq ?_
 refine c_region ?_
 refine o_assign rfl rfl ?_
 refine l_nil ?_
 refine q_then ?_
 refine c_seq ?_
 refine c_region ?_
 refine o_build rfl sp76 ti76 rfl rfl ?_
 refine o_box rfl rfl fun b2 => ?_
 refine o_build rfl sp78 ti78 rfl ((fill_cons (cells' := [.pointer (some ⟨b2, 0, none⟩), .int .i64 0]) rfl rfl rfl rfl fill_nil)) ?_
 refine o_box rfl rfl fun b4 => ?_
 refine o_assign rfl rfl ?_
 refine l_nil ?_
 refine q_then ?_
 refine c_ret ?_
 exact f_ret (r_one rfl rfl) (⟨b4, rfl, rfl⟩) (fun w S => tree_new S)

set_option maxHeartbeats 1000000 in
theorem tput_B {W : World} {F : List Res} {t : Nat} {xs : List ItB} {k : Int} {v : Int} (hb : (xs.length : Int) < 9223372036854775807) : CS Try.prog 14 #[.pointer (some ⟨t, 0, none⟩), .int .i64 k, .int .i64 v] W (treeR e_ItB eN72 76 78 ItB.f_key ilt t xs :: F) (fun r L' => ∃ (old : Int) (had : Bool), (Old ItB.f_key ItB.f_value (0 : Int) (⟨k, v⟩ : ItB) xs old had ∧ Srt ItB.f_key ilt xs) ∧ r = .tuple #[.int .i64 old, .bool had] ∧ L' = treeR e_ItB eN72 76 78 ItB.f_key ilt t (ins ItB.f_key ilt (⟨k, v⟩ : ItB) xs) :: F) := by
 refine f_door (l0 := [(0, .pointer (some ⟨t, 0, none⟩)), (1, .int .i64 k), (2, .int .i64 v)]) Try.func14 Try.ntmps14 rfl rfl rfl ?_
 refine c_seq ?_
 refine c_region ?_
 refine o_assign rfl rfl ?_
 refine o_assign rfl rfl ?_
 refine l_nil ?_
 refine q_then ?_
 refine c_seq ?_
 refine c_tree ?_
 rintro d rb srt
 refine c_conv (L' := blk t (.cells #[.pointer (some ⟨rb, 0, none⟩), .int .i64 ((xs).length : Int)] 78 (0, 0)) :: nodeR e_ItB eN72 76 d 0 rb xs :: F) (fun w S => S) ?_
 refine c_region ?_
 refine o_move rfl rfl ?_
 refine o_nil rfl rfl ?_
 refine o_fieldAddr (q := ⟨t, 0, none⟩) rfl rfl Try.underlying78 rfl ti72 rfl ?_
 refine o_load1 rfl rfl Try.underlying72 rfl (rd_mem 0 rfl rfl) ?_
 refine o_move rfl rfl ?_
 refine o_move rfl rfl ?_
 refine o_build rfl sp83 ti83 rfl ((fill_cons (cells' := [.int .i64 k, .int .i64 0]) rfl rfl rfl rfl (fill_cons (cells' := [.int .i64 k, .int .i64 v]) rfl rfl rfl rfl fill_nil))) ?_
 refine l_f1 ?_
 refine o_call rfl cal28 rfl (put_B d (mn := 0) (x := (⟨k, v⟩ : ItB)) (by omega) srt) ?_
 rintro _ _ ⟨old20, had20, ls20, s20, ⟨his20, hol20⟩, rfl, rfl⟩
 refine o_move rfl rfl ?_
 refine o_extract rfl rfl rfl ?_
 refine o_extract rfl rfl rfl ?_
 refine o_extract rfl rfl rfl ?_
 refine o_extract rfl rfl rfl ?_
 refine o_assign rfl rfl ?_
 refine o_assign rfl rfl ?_
 refine o_assign rfl rfl ?_
 refine o_assign rfl rfl ?_
 refine l_nil ?_
 refine q_then ?_
 refine c_seq ?_
 refine c_seq ?_
 refine c_region ?_
 refine o_move rfl rfl ?_
 refine o_bin rfl rfl rfl (b_pne Try.underlying79 _) ?_
 refine l_nil ?_
 refine q_then ?_
 refine c_cond rfl (fun h1 => ?_) (fun h1 => ?_)
 · -- h1T
  have h1b := h1
  try simp only [decide_eq_true_eq, decide_eq_false_iff_not, Bool.not_eq_eq_eq_not, Bool.not_true, Bool.not_false, Bool.not_eq_true', Bool.not_eq_false', Int.not_lt, Int.not_le, Bool.or_eq_true, Bool.and_eq_true] at h1
  obtain ⟨⟨bm, m, br, rs⟩, hs20⟩ : ∃ z, s20 = some z := by cases s20 with | none => simp at h1b | some z => exact ⟨z, rfl⟩
  subst hs20
  refine c_mid (α := Nat × (Option Addr) × (Option Addr)) (fun z => [(0, .pointer (some ⟨t, 0, none⟩)), (1, .int .i64 k), (2, .int .i64 v), (6, .int .i64 0), (7, .bool false), (8, .int .i64 old20), (9, .bool had20), (10, .pointer (some ⟨bm, 0, none⟩)), (11, .pointer (some ⟨br, 0, none⟩)), (13, .pointer (some ⟨t, 0, none⟩)), (14, .pointer (some ⟨t, 0, none⟩)), (15, .pointer (some ⟨t, 0, none⟩)), (16, .pointer (some ⟨rb, 0, none⟩)), (17, .int .i64 k), (18, .int .i64 v), (19, .agg #[.int .i64 k, .int .i64 v]), (21, .int .i64 old20), (22, .bool had20), (27, .pointer (some ⟨t, 0, none⟩)), (28, .pointer (some ⟨bm, 0, none⟩)), (29, .pointer (some ⟨bm, 0, none⟩)), (30, .agg #[.int .i64 m.f_key, .int .i64 m.f_value]), (31, .slice z.2.1 ([m]).length 1), (32, .pointer (some ⟨t, 0, none⟩)), (33, .pointer (some ⟨t, 0, none⟩)), (34, .pointer (some ⟨t, 0, none⟩)), (35, .pointer (some ⟨rb, 0, none⟩)), (36, .pointer (some ⟨br, 0, none⟩)), (37, .slice z.2.2 ([rb, br]).length 2), (38, .agg #[.slice z.2.1 ([m]).length 1, .slice z.2.2 ([rb, br]).length 2]), (39, .pointer (some ⟨z.1, 0, none⟩)), (40, .pointer (some ⟨t, 0, none⟩)), (41, .pointer (some ⟨t, 0, none⟩))]) (fun z => blk t (.cells #[.pointer (some ⟨z.1, 0, none⟩), .int .i64 ((xs).length : Int)] 78 (0, 0)) :: blk z.1 (.cells #[.slice z.2.1 ([m]).length 1, .slice z.2.2 ([rb, br]).length 2] 76 (0, 0)) :: row eN72.T eN72.sz z.2.2 ([rb, br]).length 2 (flat eN72 [rb, br]) :: row e_ItB.T e_ItB.sz z.2.1 ([m]).length 1 (flat e_ItB [m]) :: blk bm (.cells #[.int .i64 m.f_key, .int .i64 m.f_value] 83 (0, 0)) :: nodeR e_ItB eN72 76 d 2 br rs :: nodeR e_ItB eN72 76 d 2 rb ls20 :: F) (fun z => True) ?_ ?_
  · -- cut
   refine c_conv (fun w S => S.perm p1) ?_
   refine c_conv (L' := blk bm (.cells #[.int .i64 m.f_key, .int .i64 m.f_value] 83 (0, 0)) :: nodeR e_ItB eN72 76 d 2 br rs :: _) (fun w S => Sat.flat (Ls := [_, _]) S) ?_
   refine c_held [blk bm (.cells #[.int .i64 m.f_key, .int .i64 m.f_value] 83 (0, 0)), nodeR e_ItB eN72 76 d 2 br rs, nodeR e_ItB eN72 76 d 2 rb ls20] (by kernel_rfl) rfl ?_
   refine h_take 0 rfl rfl (by kernel_rfl) (by kernel_rfl) (by kernel_rfl) (fun L0 => v_move rfl rfl) ?_
   refine h_take 1 rfl rfl (by kernel_rfl) (by kernel_rfl) (by kernel_rfl) (fun L0 => v_move rfl rfl) ?_
   refine h_take 2 rfl rfl (by kernel_rfl) (by kernel_rfl) (by kernel_rfl) (fun L0 => v_nil rfl rfl) ?_
   refine h_take 3 rfl rfl (by kernel_rfl) (by kernel_rfl) (by kernel_rfl) (fun L0 => v_loadn (vs := [_, _]) rfl rfl Try.underlying83 rfl ti83 (rdn_lit 0 rfl rfl)) ?_
   refine h_take 5 rfl rfl (by kernel_rfl) (by kernel_rfl) (by kernel_rfl) (fun L0 => v_move rfl rfl) ?_
   refine h_take 6 rfl rfl (by kernel_rfl) (by kernel_rfl) (by kernel_rfl) (fun L0 => v_nil rfl rfl) ?_
   refine h_take 7 rfl rfl (by kernel_rfl) (by kernel_rfl) (by kernel_rfl) (fun L0 => v_fieldAddr (q := ⟨t, 0, none⟩) rfl rfl Try.underlying78 rfl ti72 rfl) ?_
   refine h_take 9 rfl rfl (by kernel_rfl) (by kernel_rfl) (by kernel_rfl) (fun L0 => v_move rfl rfl) ?_
   refine h_many (is := [4, 8]) (by kernel_rfl) (by decide) (forall_cons ⟨_, rfl, ?_⟩ (forall_cons ⟨_, rfl, ?_⟩ forall_nil))
   · -- 4 comes first
    refine o_lit e_ItB_ok rfl Try.underlying73 rfl rfl rfl (lit_ok rfl) [m] rfl rfl fun a31 => ?_
    refine l_nil ?_
    refine q_conv (fun w S => S.perm p4) ?_
    refine q_conv (fun w S => S.perm p1) ?_
    refine q_conv (fun w S => S.perm p4) ?_
    refine q_conv (fun w S => S.perm p4) ?_
    refine q_conv (fun w S => S.perm p4) ?_
    refine h_next ?_
    refine h_one 8 rfl (by kernel_rfl) ?_
    refine o_load1 rfl rfl Try.underlying72 rfl (rd_mem 4 rfl rfl) ?_
    refine l_nil ?_
    refine h_next ?_
    refine h_one 10 rfl (by kernel_rfl) ?_
    refine o_lit eN72_ok rfl Try.underlying74 rfl rfl rfl (lit_ok rfl) [rb, br] rfl rfl fun a37 => ?_
    refine l_nil ?_
    refine q_conv (fun w S => S.perm p5) ?_
    refine q_conv (fun w S => S.perm p5) ?_
    refine q_conv (fun w S => S.perm p2) ?_
    refine q_conv (fun w S => S.perm p5) ?_
    refine q_conv (fun w S => S.perm p5) ?_
    refine q_conv (fun w S => S.perm p5) ?_
    refine h_next ?_
    refine h_take 11 rfl rfl (by kernel_rfl) (by kernel_rfl) (by kernel_rfl) (fun L0 => v_build rfl sp76 ti76 rfl ((fill_cons (cells' := [.slice a31 ([m]).length 1, .slice none 0 0]) rfl rfl rfl rfl (fill_cons (cells' := [.slice a31 ([m]).length 1, .slice a37 ([rb, br]).length 2]) rfl rfl rfl rfl fill_nil)))) ?_
    refine h_one 12 rfl (by kernel_rfl) ?_
    refine o_box rfl rfl fun b39 => ?_
    refine l_nil ?_
    refine q_conv (fun w S => S.perm p6) ?_
    refine q_conv (fun w S => S.perm p6) ?_
    refine q_conv (fun w S => S.perm p6) ?_
    refine q_conv (fun w S => S.perm p3) ?_
    refine q_conv (fun w S => S.perm p6) ?_
    refine q_conv (fun w S => S.perm p6) ?_
    refine q_conv (fun w S => S.perm p6) ?_
    refine h_next ?_
    refine h_take 13 rfl rfl (by kernel_rfl) (by kernel_rfl) (by kernel_rfl) (fun L0 => v_nil rfl rfl) ?_
    refine h_take 14 rfl rfl (by kernel_rfl) (by kernel_rfl) (by kernel_rfl) (fun L0 => v_fieldAddr (q := ⟨t, 0, none⟩) rfl rfl Try.underlying78 rfl ti72 rfl) ?_
    refine h_one 15 rfl (by kernel_rfl) ?_
    refine l_f6 ?_
    refine o_store1 rfl rfl rfl ti72 rfl rfl ?_
    refine l_nil ?_
    refine q_conv (fun w S => S.perm p6) ?_
    refine q_conv (fun w S => S.perm p6) ?_
    refine q_conv (fun w S => S.perm p6) ?_
    refine q_conv (fun w S => S.perm p3) ?_
    refine q_conv (fun w S => S.perm p6) ?_
    refine q_conv (fun w S => S.perm p6) ?_
    refine q_conv (fun w S => S.perm p6) ?_
    refine h_next ?_
    refine h_done (by kernel_rfl) ?_
    refine q_conv (fun w S => S.perm p2) ?_
    refine q_conv (fun w S => S.perm p2) ?_
    refine q_conv (fun w S => S.perm p2) ?_
    refine q_conv (fun w S => S.perm p6) ?_
    refine q_conv (fun w S => S.perm p6) ?_
    refine q_conv (fun w S => S.perm p6) ?_
    refine q_conv (fun w S => S.perm p6) ?_
    exact q_mid (b39, a31, a37) (by trivial) ⟨(by first | rfl | exact vint (by omega)), (by first | rfl | exact vint (by omega)), (by first | rfl | exact vint (by omega)), (by first | rfl | exact vint (by omega)), (by first | rfl | exact vint (by omega)), (by first | rfl | exact vint (by omega)), (by first | rfl | exact vint (by omega)), (by first | rfl | exact vint (by omega)), (by first | rfl | exact vint (by omega)), (by first | rfl | exact vint (by omega)), (by first | rfl | exact vint (by omega)), (by first | rfl | exact vint (by omega)), (by first | rfl | exact vint (by omega)), (by first | rfl | exact vint (by omega)), (by first | rfl | exact vint (by omega)), (by first | rfl | exact vint (by omega)), (by first | rfl | exact vint (by omega)), (by first | rfl | exact vint (by omega)), (by first | rfl | exact vint (by omega)), (by first | rfl | exact vint (by omega)), (by first | rfl | exact vint (by omega)), (by first | rfl | exact vint (by omega)), (by first | rfl | exact vint (by omega)), (by first | rfl | exact vint (by omega)), (by first | rfl | exact vint (by omega)), (by first | rfl | exact vint (by omega)), (by first | rfl | exact vint (by omega)), (by first | rfl | exact vint (by omega)), (by first | rfl | exact vint (by omega)), (by first | rfl | exact vint (by omega)), (by first | rfl | exact vint (by omega)), (by first | rfl | exact vint (by omega)), (by first | rfl | exact vint (by omega)), trivial⟩ (fun w S => S)
   · -- 8 comes first
    refine o_load1 rfl rfl Try.underlying72 rfl (rd_mem 3 rfl rfl) ?_
    refine l_nil ?_
    refine h_next ?_
    refine h_many (is := [4, 10]) (by kernel_rfl) (by decide) (forall_cons ⟨_, rfl, ?_⟩ (forall_cons ⟨_, rfl, ?_⟩ forall_nil))
    · -- 4 comes first
     refine o_lit e_ItB_ok rfl Try.underlying73 rfl rfl rfl (lit_ok rfl) [m] rfl rfl fun a31 => ?_
     refine l_nil ?_
     refine q_conv (fun w S => S.perm p4) ?_
     refine q_conv (fun w S => S.perm p1) ?_
     refine q_conv (fun w S => S.perm p4) ?_
     refine q_conv (fun w S => S.perm p4) ?_
     refine q_conv (fun w S => S.perm p4) ?_
     refine h_next ?_
     refine h_one 10 rfl (by kernel_rfl) ?_
     refine o_lit eN72_ok rfl Try.underlying74 rfl rfl rfl (lit_ok rfl) [rb, br] rfl rfl fun a37 => ?_
     refine l_nil ?_
     refine q_conv (fun w S => S.perm p5) ?_
     refine q_conv (fun w S => S.perm p5) ?_
     refine q_conv (fun w S => S.perm p2) ?_
     refine q_conv (fun w S => S.perm p5) ?_
     refine q_conv (fun w S => S.perm p5) ?_
     refine q_conv (fun w S => S.perm p5) ?_
     refine h_next ?_
     refine h_take 11 rfl rfl (by kernel_rfl) (by kernel_rfl) (by kernel_rfl) (fun L0 => v_build rfl sp76 ti76 rfl ((fill_cons (cells' := [.slice a31 ([m]).length 1, .slice none 0 0]) rfl rfl rfl rfl (fill_cons (cells' := [.slice a31 ([m]).length 1, .slice a37 ([rb, br]).length 2]) rfl rfl rfl rfl fill_nil)))) ?_
     refine h_one 12 rfl (by kernel_rfl) ?_
     refine o_box rfl rfl fun b39 => ?_
     refine l_nil ?_
     refine q_conv (fun w S => S.perm p6) ?_
     refine q_conv (fun w S => S.perm p6) ?_
     refine q_conv (fun w S => S.perm p6) ?_
     refine q_conv (fun w S => S.perm p3) ?_
     refine q_conv (fun w S => S.perm p6) ?_
     refine q_conv (fun w S => S.perm p6) ?_
     refine q_conv (fun w S => S.perm p6) ?_
     refine h_next ?_
     refine h_take 13 rfl rfl (by kernel_rfl) (by kernel_rfl) (by kernel_rfl) (fun L0 => v_nil rfl rfl) ?_
     refine h_take 14 rfl rfl (by kernel_rfl) (by kernel_rfl) (by kernel_rfl) (fun L0 => v_fieldAddr (q := ⟨t, 0, none⟩) rfl rfl Try.underlying78 rfl ti72 rfl) ?_
     refine h_one 15 rfl (by kernel_rfl) ?_
     refine l_f6 ?_
     refine o_store1 rfl rfl rfl ti72 rfl rfl ?_
     refine l_nil ?_
     refine q_conv (fun w S => S.perm p6) ?_
     refine q_conv (fun w S => S.perm p6) ?_
     refine q_conv (fun w S => S.perm p6) ?_
     refine q_conv (fun w S => S.perm p3) ?_
     refine q_conv (fun w S => S.perm p6) ?_
     refine q_conv (fun w S => S.perm p6) ?_
     refine q_conv (fun w S => S.perm p6) ?_
     refine h_next ?_
     refine h_done (by kernel_rfl) ?_
     refine q_conv (fun w S => S.perm p2) ?_
     refine q_conv (fun w S => S.perm p2) ?_
     refine q_conv (fun w S => S.perm p2) ?_
     refine q_conv (fun w S => S.perm p6) ?_
     refine q_conv (fun w S => S.perm p6) ?_
     refine q_conv (fun w S => S.perm p6) ?_
     refine q_conv (fun w S => S.perm p6) ?_
     exact q_mid (b39, a31, a37) (by trivial) ⟨(by first | rfl | exact vint (by omega)), (by first | rfl | exact vint (by omega)), (by first | rfl | exact vint (by omega)), (by first | rfl | exact vint (by omega)), (by first | rfl | exact vint (by omega)), (by first | rfl | exact vint (by omega)), (by first | rfl | exact vint (by omega)), (by first | rfl | exact vint (by omega)), (by first | rfl | exact vint (by omega)), (by first | rfl | exact vint (by omega)), (by first | rfl | exact vint (by omega)), (by first | rfl | exact vint (by omega)), (by first | rfl | exact vint (by omega)), (by first | rfl | exact vint (by omega)), (by first | rfl | exact vint (by omega)), (by first | rfl | exact vint (by omega)), (by first | rfl | exact vint (by omega)), (by first | rfl | exact vint (by omega)), (by first | rfl | exact vint (by omega)), (by first | rfl | exact vint (by omega)), (by first | rfl | exact vint (by omega)), (by first | rfl | exact vint (by omega)), (by first | rfl | exact vint (by omega)), (by first | rfl | exact vint (by omega)), (by first | rfl | exact vint (by omega)), (by first | rfl | exact vint (by omega)), (by first | rfl | exact vint (by omega)), (by first | rfl | exact vint (by omega)), (by first | rfl | exact vint (by omega)), (by first | rfl | exact vint (by omega)), (by first | rfl | exact vint (by omega)), (by first | rfl | exact vint (by omega)), (by first | rfl | exact vint (by omega)), trivial⟩ (fun w S => S)
    · -- 10 comes first
     refine o_lit eN72_ok rfl Try.underlying74 rfl rfl rfl (lit_ok rfl) [rb, br] rfl rfl fun a37 => ?_
     refine l_nil ?_
     refine q_conv (fun w S => S.perm p4) ?_
     refine q_conv (fun w S => S.perm p1) ?_
     refine q_conv (fun w S => S.perm p4) ?_
     refine q_conv (fun w S => S.perm p4) ?_
     refine q_conv (fun w S => S.perm p4) ?_
     refine h_next ?_
     refine h_one 4 rfl (by kernel_rfl) ?_
     refine o_lit e_ItB_ok rfl Try.underlying73 rfl rfl rfl (lit_ok rfl) [m] rfl rfl fun a31 => ?_
     refine l_nil ?_
     refine q_conv (fun w S => S.perm p5) ?_
     refine q_conv (fun w S => S.perm p5) ?_
     refine q_conv (fun w S => S.perm p2) ?_
     refine q_conv (fun w S => S.perm p5) ?_
     refine q_conv (fun w S => S.perm p5) ?_
     refine q_conv (fun w S => S.perm p5) ?_
     refine h_next ?_
     refine h_take 11 rfl rfl (by kernel_rfl) (by kernel_rfl) (by kernel_rfl) (fun L0 => v_build rfl sp76 ti76 rfl ((fill_cons (cells' := [.slice a31 ([m]).length 1, .slice none 0 0]) rfl rfl rfl rfl (fill_cons (cells' := [.slice a31 ([m]).length 1, .slice a37 ([rb, br]).length 2]) rfl rfl rfl rfl fill_nil)))) ?_
     refine h_one 12 rfl (by kernel_rfl) ?_
     refine o_box rfl rfl fun b39 => ?_
     refine l_nil ?_
     refine q_conv (fun w S => S.perm p6) ?_
     refine q_conv (fun w S => S.perm p6) ?_
     refine q_conv (fun w S => S.perm p6) ?_
     refine q_conv (fun w S => S.perm p3) ?_
     refine q_conv (fun w S => S.perm p6) ?_
     refine q_conv (fun w S => S.perm p6) ?_
     refine q_conv (fun w S => S.perm p6) ?_
     refine h_next ?_
     refine h_take 13 rfl rfl (by kernel_rfl) (by kernel_rfl) (by kernel_rfl) (fun L0 => v_nil rfl rfl) ?_
     refine h_take 14 rfl rfl (by kernel_rfl) (by kernel_rfl) (by kernel_rfl) (fun L0 => v_fieldAddr (q := ⟨t, 0, none⟩) rfl rfl Try.underlying78 rfl ti72 rfl) ?_
     refine h_one 15 rfl (by kernel_rfl) ?_
     refine l_f6 ?_
     refine o_store1 rfl rfl rfl ti72 rfl rfl ?_
     refine l_nil ?_
     refine q_conv (fun w S => S.perm p6) ?_
     refine q_conv (fun w S => S.perm p6) ?_
     refine q_conv (fun w S => S.perm p6) ?_
     refine q_conv (fun w S => S.perm p3) ?_
     refine q_conv (fun w S => S.perm p6) ?_
     refine q_conv (fun w S => S.perm p6) ?_
     refine q_conv (fun w S => S.perm p6) ?_
     refine h_next ?_
     refine h_done (by kernel_rfl) ?_
     refine q_conv (fun w S => S.perm p2) ?_
     refine q_conv (fun w S => S.perm p2) ?_
     refine q_conv (fun w S => S.perm p2) ?_
     refine q_conv (fun w S => S.perm p5) ?_
     refine q_conv (fun w S => S.perm p6) ?_
     refine q_conv (fun w S => S.perm p6) ?_
     refine q_conv (fun w S => S.perm p6) ?_
     exact q_mid (b39, a31, a37) (by trivial) ⟨(by first | rfl | exact vint (by omega)), (by first | rfl | exact vint (by omega)), (by first | rfl | exact vint (by omega)), (by first | rfl | exact vint (by omega)), (by first | rfl | exact vint (by omega)), (by first | rfl | exact vint (by omega)), (by first | rfl | exact vint (by omega)), (by first | rfl | exact vint (by omega)), (by first | rfl | exact vint (by omega)), (by first | rfl | exact vint (by omega)), (by first | rfl | exact vint (by omega)), (by first | rfl | exact vint (by omega)), (by first | rfl | exact vint (by omega)), (by first | rfl | exact vint (by omega)), (by first | rfl | exact vint (by omega)), (by first | rfl | exact vint (by omega)), (by first | rfl | exact vint (by omega)), (by first | rfl | exact vint (by omega)), (by first | rfl | exact vint (by omega)), (by first | rfl | exact vint (by omega)), (by first | rfl | exact vint (by omega)), (by first | rfl | exact vint (by omega)), (by first | rfl | exact vint (by omega)), (by first | rfl | exact vint (by omega)), (by first | rfl | exact vint (by omega)), (by first | rfl | exact vint (by omega)), (by first | rfl | exact vint (by omega)), (by first | rfl | exact vint (by omega)), (by first | rfl | exact vint (by omega)), (by first | rfl | exact vint (by omega)), (by first | rfl | exact vint (by omega)), (by first | rfl | exact vint (by omega)), (by first | rfl | exact vint (by omega)), trivial⟩ (fun w S => S)
  · -- behind the cut
   rintro ⟨b39, a31, a37⟩ _hp
   try dsimp only at *
   refine c_seq ?_
   refine c_seq ?_
   refine c_region ?_
   refine o_move rfl rfl ?_
   refine o_not rfl rfl ?_
   refine l_nil ?_
   refine q_then ?_
   refine c_cond rfl (fun h2 => ?_) (fun h2 => ?_)
   · -- h2T
    have h2b := h2
    try simp only [decide_eq_true_eq, decide_eq_false_iff_not, Bool.not_eq_eq_eq_not, Bool.not_true, Bool.not_false, Bool.not_eq_true', Bool.not_eq_false', Int.not_lt, Int.not_le, Bool.or_eq_true, Bool.and_eq_true] at h2
    refine c_region ?_
    refine o_move rfl rfl ?_
    refine o_nil rfl rfl ?_
    refine o_fieldAddr (q := ⟨t, 1, none⟩) rfl rfl Try.underlying78 rfl ti3 rfl ?_
    refine o_load1 rfl rfl Try.underlying3 rfl (rd_mem 0 rfl rfl) ?_
    refine o_bin rfl rfl rfl (b_add (wrap_i64 (by omega) (by omega))) ?_
    refine o_nil rfl rfl ?_
    refine o_fieldAddr (q := ⟨t, 1, none⟩) rfl rfl Try.underlying78 rfl ti3 rfl ?_
    refine o_store1 rfl rfl rfl ti3 rfl rfl ?_
    refine l_nil ?_
    refine q_then ?_
    refine c_seq ?_
    refine c_region ?_
    refine o_move rfl rfl ?_
    refine o_move rfl rfl ?_
    refine o_assign rfl rfl ?_
    refine o_assign rfl rfl ?_
    refine l_nil ?_
    refine q_then ?_
    refine c_ret ?_
    have hlen : ((ins ItB.f_key ilt (⟨k, v⟩ : ItB) xs).length : Int) = ((xs).length : Int) + 1 := by have h9 := hol20.len ilt_sto srt; rw [show had20 = false from by assumption] at h9; simpa using h9
    refine q_conv (fun w S => (S.perm p4).tail) ?_
    refine q_conv (fun w S => S.perm p4) ?_
    refine q_conv (fun w S => S.perm p5) ?_
    refine q_conv (fun w S => S.perm p4) ?_
    refine q_conv (fun w S => S.perm p5) ?_
    refine q_conv (fun w S => S.perm p5) ?_
    exact f_ret (r_two rfl rfl rfl) (⟨old20, had20, ⟨hol20, srt⟩, rfl, rfl⟩) (fun w S => treeMk (d + 1) b39 (srt_ins ilt_sto srt) (by rw [hlen, his20]; exact (root_new S).perm (List.Perm.swap _ _ _)))
   · -- h2F
    have h2b := h2
    try simp only [decide_eq_true_eq, decide_eq_false_iff_not, Bool.not_eq_eq_eq_not, Bool.not_true, Bool.not_false, Bool.not_eq_true', Bool.not_eq_false', Int.not_lt, Int.not_le, Bool.or_eq_true, Bool.and_eq_true] at h2
    refine c_skip ?_
    refine q_then ?_
    refine c_seq ?_
    refine c_region ?_
    refine o_move rfl rfl ?_
    refine o_move rfl rfl ?_
    refine o_assign rfl rfl ?_
    refine o_assign rfl rfl ?_
    refine l_nil ?_
    refine q_then ?_
    refine c_ret ?_
    have hlen : ((ins ItB.f_key ilt (⟨k, v⟩ : ItB) xs).length : Int) = ((xs).length : Int) := by have h9 := hol20.len ilt_sto srt; rw [show had20 = true from by assumption] at h9; simpa using h9
    refine q_conv (fun w S => (S.perm p4).tail) ?_
    refine q_conv (fun w S => S.perm p4) ?_
    refine q_conv (fun w S => S.perm p5) ?_
    refine q_conv (fun w S => S.perm p4) ?_
    refine q_conv (fun w S => S.perm p5) ?_
    refine q_conv (fun w S => S.perm p5) ?_
    exact f_ret (r_two rfl rfl rfl) (⟨old20, had20, ⟨hol20, srt⟩, rfl, rfl⟩) (fun w S => treeMk (d + 1) b39 (srt_ins ilt_sto srt) (by rw [hlen, his20]; exact (root_new S).perm (List.Perm.swap _ _ _)))
 · -- h1F
  have h1b := h1
  try simp only [decide_eq_true_eq, decide_eq_false_iff_not, Bool.not_eq_eq_eq_not, Bool.not_true, Bool.not_false, Bool.not_eq_true', Bool.not_eq_false', Int.not_lt, Int.not_le, Bool.or_eq_true, Bool.and_eq_true] at h1
  have hs20 : s20 = none := by cases s20 with | none => rfl | some z => simp at h1b
  subst hs20
  refine c_skip ?_
  refine q_then ?_
  refine c_seq ?_
  refine c_seq ?_
  refine c_region ?_
  refine o_move rfl rfl ?_
  refine o_not rfl rfl ?_
  refine l_nil ?_
  refine q_then ?_
  refine c_cond rfl (fun h3 => ?_) (fun h3 => ?_)
  · -- h3T
   have h3b := h3
   try simp only [decide_eq_true_eq, decide_eq_false_iff_not, Bool.not_eq_eq_eq_not, Bool.not_true, Bool.not_false, Bool.not_eq_true', Bool.not_eq_false', Int.not_lt, Int.not_le, Bool.or_eq_true, Bool.and_eq_true] at h3
   refine c_region ?_
   refine o_move rfl rfl ?_
   refine o_nil rfl rfl ?_
   refine o_fieldAddr (q := ⟨t, 1, none⟩) rfl rfl Try.underlying78 rfl ti3 rfl ?_
   refine o_load1 rfl rfl Try.underlying3 rfl (rd_mem 2 rfl rfl) ?_
   refine o_bin rfl rfl rfl (b_add (wrap_i64 (by omega) (by omega))) ?_
   refine o_nil rfl rfl ?_
   refine o_fieldAddr (q := ⟨t, 1, none⟩) rfl rfl Try.underlying78 rfl ti3 rfl ?_
   refine l_f2 ?_
   refine o_store1 rfl rfl rfl ti3 rfl rfl ?_
   refine l_nil ?_
   refine q_then ?_
   refine c_seq ?_
   refine c_region ?_
   refine o_move rfl rfl ?_
   refine o_move rfl rfl ?_
   refine o_assign rfl rfl ?_
   refine o_assign rfl rfl ?_
   refine l_nil ?_
   refine q_then ?_
   refine c_ret ?_
   have hlen : ((ins ItB.f_key ilt (⟨k, v⟩ : ItB) xs).length : Int) = ((xs).length : Int) + 1 := by have h9 := hol20.len ilt_sto srt; rw [show had20 = false from by assumption] at h9; simpa using h9
   refine q_conv (fun w S => (S.perm p2).tail) ?_
   exact f_ret (r_two rfl rfl rfl) (⟨old20, had20, ⟨hol20, srt⟩, rfl, rfl⟩) (fun w S => treeMk d rb (srt_ins ilt_sto srt) (by rw [hlen, his20]; exact S))
  · -- h3F
   have h3b := h3
   try simp only [decide_eq_true_eq, decide_eq_false_iff_not, Bool.not_eq_eq_eq_not, Bool.not_true, Bool.not_false, Bool.not_eq_true', Bool.not_eq_false', Int.not_lt, Int.not_le, Bool.or_eq_true, Bool.and_eq_true] at h3
   refine c_skip ?_
   refine q_then ?_
   refine c_seq ?_
   refine c_region ?_
   refine o_move rfl rfl ?_
   refine o_move rfl rfl ?_
   refine o_assign rfl rfl ?_
   refine o_assign rfl rfl ?_
   refine l_nil ?_
   refine q_then ?_
   refine c_ret ?_
   have hlen : ((ins ItB.f_key ilt (⟨k, v⟩ : ItB) xs).length : Int) = ((xs).length : Int) := by have h9 := hol20.len ilt_sto srt; rw [show had20 = true from by assumption] at h9; simpa using h9
   refine q_conv (fun w S => (S.perm p1).tail) ?_
   refine q_conv (fun w S => S.perm p1) ?_
   exact f_ret (r_two rfl rfl rfl) (⟨old20, had20, ⟨hol20, srt⟩, rfl, rfl⟩) (fun w S => treeMk d rb (srt_ins ilt_sto srt) (by rw [hlen, his20]; exact S))

theorem from_B {W : World} {F : List Res} {t : Nat} {k : Int} : CS Try.prog 30 #[.pointer (some ⟨t, 0, none⟩), .int .i64 k] W (F) (fun r L' => ∃ kt kk : Nat, r = .func (.func 47) #[] #[.pointer (some ⟨kt, 0, none⟩), .pointer (some ⟨kk, 0, none⟩)] ∧ L' = blk kt (.cells #[.pointer (some ⟨t, 0, none⟩)] 43 (0, 0)) :: blk kk (.cells #[.int .i64 k] 3 (0, 0)) :: F) := by
 refine f_door (l0 := [(0, .pointer (some ⟨t, 0, none⟩)), (1, .int .i64 k)]) Try.func30 Try.ntmps30 rfl rfl rfl ?_
 refine c_seq ?_
 refine c_region ?_
 refine o_box rfl rfl fun b2 => ?_
 refine o_box rfl rfl fun b3 => ?_
 refine o_assign rfl rfl ?_
 refine l_nil ?_
 refine q_then ?_
 refine c_seq ?_
 refine c_region ?_
 refine o_makeFunc rfl rfl rfl ?_
 refine o_assign rfl rfl ?_
 refine l_nil ?_
 refine q_then ?_
 refine c_ret ?_
 refine q_conv (fun w S => S.perm p1) ?_
 exact f_ret (r_one rfl rfl) (⟨b2, b3, rfl, rfl⟩) (fun w S => S)

theorem fromIter_B {W : World} {t kt kk : Nat} {xs : List ItB} {k : Int} : IterG Try.prog 47 #[.pointer (some ⟨kt, 0, none⟩), .pointer (some ⟨kk, 0, none⟩)] (fun x : ItB => [.int .i64 x.f_key, .int .i64 x.f_value]) W [blk kt (.cells #[.pointer (some ⟨t, 0, none⟩)] 43 (0, 0)), blk kk (.cells #[.int .i64 k] 3 (0, 0)), treeR e_ItB eN72 76 78 ItB.f_key ilt t xs] (sel ItB.f_key ilt (some k) xs) := by
 intro y I J L0 hI0 hy
 show CS Try.prog 47 #[y, .pointer (some ⟨kt, 0, none⟩), .pointer (some ⟨kk, 0, none⟩)] W (blk kt (.cells #[.pointer (some ⟨t, 0, none⟩)] 43 (0, 0)) :: blk kk (.cells #[.int .i64 k] 3 (0, 0)) :: treeR e_ItB eN72 76 78 ItB.f_key ilt t xs :: L0) _
 refine f_door (l0 := [(0, y), (1, .pointer (some ⟨kt, 0, none⟩)), (2, .pointer (some ⟨kk, 0, none⟩))]) Try.func47 Try.ntmps47 rfl rfl rfl ?_
 refine c_conv (fun w S => S.perm p2) ?_
 refine c_tree ?_
 rintro d rb srt
 refine c_conv (L' := blk t (.cells #[.pointer (some ⟨rb, 0, none⟩), .int .i64 ((xs).length : Int)] 78 (0, 0)) :: nodeR e_ItB eN72 76 d 0 rb xs :: blk kt (.cells #[.pointer (some ⟨t, 0, none⟩)] 43 (0, 0)) :: blk kk (.cells #[.int .i64 k] 3 (0, 0)) :: L0) (fun w S => S) ?_
 refine c_region ?_
 refine o_load1 rfl rfl Try.underlying43 rfl (rd_mem 2 rfl rfl) ?_
 refine o_nil rfl rfl ?_
 refine o_fieldAddr (q := ⟨t, 0, none⟩) rfl rfl Try.underlying78 rfl ti72 rfl ?_
 refine o_load1 rfl rfl Try.underlying72 rfl (rd_mem 0 rfl rfl) ?_
 refine o_move rfl rfl ?_
 refine l_conv (fun w S => S.perm p3) ?_
 refine l_conv (fun w S => S.perm p3) ?_
 refine l_conv (fun w S => S.perm p2) ?_
 refine l_conv (fun w S => S.perm p3) ?_
 refine l_conv (L' := nodeR e_ItB eN72 76 d 0 rb xs :: ([blk t (.cells #[.pointer (some ⟨rb, 0, none⟩), .int .i64 ((xs).length : Int)] 78 (0, 0)), blk kt (.cells #[.pointer (some ⟨t, 0, none⟩)] 43 (0, 0)), blk kk (.cells #[.int .i64 k] 3 (0, 0))] ++ L0)) (fun w S => S) ?_
 refine o_call rfl cal46 rfl (walk_B d (G := [blk t (.cells #[.pointer (some ⟨rb, 0, none⟩), .int .i64 ((xs).length : Int)] 78 (0, 0)), blk kt (.cells #[.pointer (some ⟨t, 0, none⟩)] 43 (0, 0)), blk kk (.cells #[.int .i64 k] 3 (0, 0))]) (pre := []) (full := sel ItB.f_key ilt (some k) xs) srt (.inr ⟨k, kk, rfl, rfl, by simp⟩) hI0 (by rw [List.nil_append]; exact List.prefix_refl _) hy) ?_
 rintro _ _ ⟨bb9, L9, rfl, hbb9, rfl⟩
 refine l_conv (L' := nodeR e_ItB eN72 76 d 0 rb xs :: blk t (.cells #[.pointer (some ⟨rb, 0, none⟩), .int .i64 ((xs).length : Int)] 78 (0, 0)) :: blk kt (.cells #[.pointer (some ⟨t, 0, none⟩)] 43 (0, 0)) :: blk kk (.cells #[.int .i64 k] 3 (0, 0)) :: L9) (fun w S => S) ?_
 refine l_nil ?_
 refine q_conv (fun w S => S.perm p3) ?_
 refine q_conv (fun w S => S.perm p3) ?_
 refine q_conv (fun w S => S.perm p2) ?_
 refine q_conv (fun w S => S.perm p3) ?_
 exact f_end (r_none rfl) (⟨L9, by rcases hbb9 with ⟨_, h9⟩ | ⟨_, h9⟩; exact .inl h9; exact .inr h9, rfl⟩) (fun w S => ((treeMk d rb srt S).perm p2).perm p2)

theorem all_B {W : World} {F : List Res} {t : Nat} : CS Try.prog 29 #[.pointer (some ⟨t, 0, none⟩)] W (F) (fun r L' => ∃ kt : Nat, r = .func (.func 45) #[] #[.pointer (some ⟨kt, 0, none⟩)] ∧ L' = blk kt (.cells #[.pointer (some ⟨t, 0, none⟩)] 43 (0, 0)) :: F) := by
 refine f_door (l0 := [(0, .pointer (some ⟨t, 0, none⟩))]) Try.func29 Try.ntmps29 rfl rfl rfl ?_
 refine c_seq ?_
 refine c_region ?_
 refine o_box rfl rfl fun b1 => ?_
 refine o_assign rfl rfl ?_
 refine l_nil ?_
 refine q_then ?_
 refine c_seq ?_
 refine c_region ?_
 refine o_makeFunc rfl rfl rfl ?_
 refine o_assign rfl rfl ?_
 refine l_nil ?_
 refine q_then ?_
 refine c_ret ?_
 exact f_ret (r_one rfl rfl) (⟨b1, rfl, rfl⟩) (fun w S => S)

theorem allIter_B {W : World} {t kt : Nat} {xs : List ItB} : IterG Try.prog 45 #[.pointer (some ⟨kt, 0, none⟩)] (fun x : ItB => [.int .i64 x.f_key, .int .i64 x.f_value]) W [blk kt (.cells #[.pointer (some ⟨t, 0, none⟩)] 43 (0, 0)), treeR e_ItB eN72 76 78 ItB.f_key ilt t xs] xs := by
 intro y I J L0 hI0 hy
 show CS Try.prog 45 #[y, .pointer (some ⟨kt, 0, none⟩)] W (blk kt (.cells #[.pointer (some ⟨t, 0, none⟩)] 43 (0, 0)) :: treeR e_ItB eN72 76 78 ItB.f_key ilt t xs :: L0) _
 refine f_door (l0 := [(0, y), (1, .pointer (some ⟨kt, 0, none⟩))]) Try.func45 Try.ntmps45 rfl rfl rfl ?_
 refine c_conv (fun w S => S.perm p1) ?_
 refine c_tree ?_
 rintro d rb srt
 refine c_conv (L' := blk t (.cells #[.pointer (some ⟨rb, 0, none⟩), .int .i64 ((xs).length : Int)] 78 (0, 0)) :: nodeR e_ItB eN72 76 d 0 rb xs :: blk kt (.cells #[.pointer (some ⟨t, 0, none⟩)] 43 (0, 0)) :: L0) (fun w S => S) ?_
 refine c_region ?_
 refine o_load1 rfl rfl Try.underlying43 rfl (rd_mem 2 rfl rfl) ?_
 refine o_nil rfl rfl ?_
 refine o_fieldAddr (q := ⟨t, 0, none⟩) rfl rfl Try.underlying78 rfl ti72 rfl ?_
 refine o_load1 rfl rfl Try.underlying72 rfl (rd_mem 0 rfl rfl) ?_
 refine o_move rfl rfl ?_
 refine l_conv (fun w S => S.perm p2) ?_
 refine l_conv (fun w S => S.perm p1) ?_
 refine l_conv (fun w S => S.perm p2) ?_
 refine l_conv (L' := nodeR e_ItB eN72 76 d 0 rb xs :: ([blk t (.cells #[.pointer (some ⟨rb, 0, none⟩), .int .i64 ((xs).length : Int)] 78 (0, 0)), blk kt (.cells #[.pointer (some ⟨t, 0, none⟩)] 43 (0, 0))] ++ L0)) (fun w S => S) ?_
 refine o_call rfl cal46 rfl (walk_B d (G := [blk t (.cells #[.pointer (some ⟨rb, 0, none⟩), .int .i64 ((xs).length : Int)] 78 (0, 0)), blk kt (.cells #[.pointer (some ⟨t, 0, none⟩)] 43 (0, 0))]) (pre := []) (full := xs) (fr := none) srt (.inl ⟨rfl, rfl⟩) hI0 (by rw [List.nil_append]; exact List.prefix_refl _) hy) ?_
 rintro _ _ ⟨bb8, L8, rfl, hbb8, rfl⟩
 refine l_conv (L' := nodeR e_ItB eN72 76 d 0 rb xs :: blk t (.cells #[.pointer (some ⟨rb, 0, none⟩), .int .i64 ((xs).length : Int)] 78 (0, 0)) :: blk kt (.cells #[.pointer (some ⟨t, 0, none⟩)] 43 (0, 0)) :: L8) (fun w S => S) ?_
 refine l_nil ?_
 refine q_conv (fun w S => S.perm p2) ?_
 refine q_conv (fun w S => S.perm p1) ?_
 refine q_conv (fun w S => S.perm p2) ?_
 exact f_end (r_none rfl) (⟨L8, by rcases hbb8 with ⟨_, h9⟩ | ⟨_, h9⟩; exact .inl h9; exact .inr h9, rfl⟩) (fun w S => (treeMk d rb srt S).perm p1)

end Go.Proofs.Ytlbggbjekpfokaa
