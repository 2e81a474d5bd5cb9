/- Texts of the proof: MendA2. -/
import Derived.Test.YtnfbjidpiglabaaSYB
namespace Go.Proofs.Ytnfbjidpiglabaa
section
set_option linter.unusedVariables false
set_option linter.unusedSimpArgs false
set_option maxRecDepth 10000
open Go.RowKit Classical
set_option maxHeartbeats 4000000 in
theorem mendC0_A {W : World} {F : List Res} {b kb : Nat} {its ki : List ItA} {nk kk : List Nat} {na nka ka kka : Option Addr} {nc nkc kc kkc : Nat} {rb : Nat} {ri : List ItA} {rk : List Nat} {ra rka : Option Addr} {rc rkc : Nat} {j : Nat} (hk : nk[j]? = some kb) (hrb : nk[j + 1]? = some rb) (hk1 : ki.length < 2) (hr3 : 3 ≤ ri.length) (hr5 : ri.length ≤ 5) (hrk0 : 0 < rk.length → rk.length = ri.length + 1) (hj : j = 0) (h1 : its.length ≤ 5) (h2 : nk.length = its.length + 1) (h3 : ki.length ≤ 5) (h4 : kk.length ≤ 6) : CS Try.prog 73 #[.pointer (some ⟨b, 0, none⟩), .int .i64 (j : Int)] W (blk b (.cells #[.slice na (its).length nc, .slice nka (nk).length nkc] 103 (0, 0)) :: row e_ItA.T e_ItA.sz na (its).length nc (flat e_ItA its) :: row eN99.T eN99.sz nka (nk).length nkc (flat eN99 nk) :: blk kb (.cells #[.slice ka (ki).length kc, .slice kka (kk).length kkc] 103 (0, 0)) :: row e_ItA.T e_ItA.sz ka (ki).length kc (flat e_ItA ki) :: row eN99.T eN99.sz kka (kk).length kkc (flat eN99 kk) :: blk rb (.cells #[.slice ra (ri).length rc, .slice rka (rk).length rkc] 103 (0, 0)) :: row e_ItA.T e_ItA.sz ra (ri).length rc (flat e_ItA ri) :: row eN99.T eN99.sz rka (rk).length rkc (flat eN99 rk) :: F) (fun _ L' => ∃ (x y : ItA) (a1 : Option Addr) (c1 : Nat), its[j]? = some x ∧ ri[0]? = some y ∧ ((rk.length = 0 ∧ L' = blk b (.cells #[.slice na its.length nc, .slice nka nk.length nkc] 103 (0, 0)) :: row e_ItA.T e_ItA.sz na its.length nc (flat e_ItA (its.set j y)) :: row eN99.T eN99.sz nka (nk).length nkc (flat eN99 nk) :: blk kb (.cells #[.slice a1 (ki ++ [x]).length c1, .slice kka kk.length kkc] 103 (0, 0)) :: row e_ItA.T e_ItA.sz a1 ((ki ++ [x])).length c1 (flat e_ItA (ki ++ [x])) :: row eN99.T eN99.sz kka (kk).length kkc (flat eN99 kk) :: blk rb (.cells #[.slice ra (ri.drop 1).length rc, .slice rka rk.length rkc] 103 (0, 0)) :: row e_ItA.T e_ItA.sz ra ((ri.drop 1)).length rc (flat e_ItA (ri.drop 1)) :: row eN99.T eN99.sz rka (rk).length rkc (flat eN99 rk) :: F) ∨ (∃ (a2 : Option Addr) (c2 g : Nat), rk[0]? = some g ∧ L' = blk b (.cells #[.slice na its.length nc, .slice nka nk.length nkc] 103 (0, 0)) :: row e_ItA.T e_ItA.sz na its.length nc (flat e_ItA (its.set j y)) :: row eN99.T eN99.sz nka (nk).length nkc (flat eN99 nk) :: blk kb (.cells #[.slice a1 (ki ++ [x]).length c1, .slice a2 (kk ++ [g]).length c2] 103 (0, 0)) :: row e_ItA.T e_ItA.sz a1 ((ki ++ [x])).length c1 (flat e_ItA (ki ++ [x])) :: row eN99.T eN99.sz a2 ((kk ++ [g])).length c2 (flat eN99 (kk ++ [g])) :: blk rb (.cells #[.slice ra (ri.drop 1).length rc, .slice rka (rk.drop 1).length rkc] 103 (0, 0)) :: row e_ItA.T e_ItA.sz ra ((ri.drop 1)).length rc (flat e_ItA (ri.drop 1)) :: row eN99.T eN99.sz rka ((rk.drop 1)).length rkc (flat eN99 (rk.drop 1)) :: F))) := by
 refine f_door (l0 := [(0, .pointer (some ⟨b, 0, none⟩)), (1, .int .i64 (j : Int))]) Try.func73 Try.ntmps73 rfl rfl rfl ?_
 refine c_seq ?_
 have hil := (List.getElem?_eq_some_iff.1 hk).1
 have hir := (List.getElem?_eq_some_iff.1 hrb).1
 refine c_region ?_
 refine o_move rfl rfl ?_
 refine o_nil rfl rfl ?_
 refine o_fieldAddr (q := ⟨b, 1, none⟩) rfl rfl Try.underlying103 rfl ti101 rfl ?_
 refine o_load1 rfl rfl Try.underlying101 rfl (rd_mem 0 rfl rfl) ?_
 refine o_move rfl rfl ?_
 refine o_index eN99_ok rfl rfl rfl Try.underlying101 (by omega) (by omega) (rds_own eN99_ok 2 rfl) fun ad15 ead15 => ?_
 obtain ⟨x15, hx15⟩ : ∃ x, (nk)[((j : Int)).toNat]? = some x := ⟨_, List.getElem?_eq_getElem (by omega)⟩
 have hxk15 : x15 = kb := by have h9 := hx15; rw [show ((j : Int)).toNat = j from by omega, hk] at h9; exact (Option.some.inj h9).symm
 refine o_load1 rfl rfl Try.underlying99 rfl (rd_sl0 eN99_ok ead15 (rds_own eN99_ok 2 rfl) hx15 rfl) ?_
 refine l_eq (t := 16) (v' := .pointer (some ⟨kb, 0, none⟩)) rfl (by rw [hxk15]) ?_
 refine o_assign rfl rfl ?_
 refine l_nil ?_
 refine q_then ?_
 refine c_block ?_
 refine c_seq ?_
 refine c_region ?_
 refine o_move rfl rfl ?_
 refine o_nil rfl rfl ?_
 refine o_fieldAddr (q := ⟨kb, 0, none⟩) rfl rfl Try.underlying103 rfl ti100 rfl ?_
 refine o_load1 rfl rfl Try.underlying100 rfl (rd_mem 3 rfl rfl) ?_
 refine o_len rfl rfl Try.underlying100 ?_
 refine o_bin rfl rfl rfl b_geq ?_
 refine l_eq (t := 96) (v' := .bool false) rfl (show _ = Value.bool false from by rw [decide_eq_false (by omega)]) ?_
 refine o_assign rfl rfl ?_
 refine l_nil ?_
 refine q_then ?_
 refine c_false rfl ?_
 refine c_seq ?_
 refine c_region ?_
 refine o_move rfl rfl ?_
 refine o_bin rfl rfl rfl b_gtr ?_
 refine l_eq (t := 99) (v' := .bool false) rfl (show _ = Value.bool false from by rw [decide_eq_false (by omega)]) ?_
 refine o_move rfl rfl ?_
 refine o_no rfl rfl rfl rfl ?_
 refine o_no rfl rfl rfl rfl ?_
 refine o_no rfl rfl rfl rfl ?_
 refine o_no rfl rfl rfl rfl ?_
 refine o_no rfl rfl rfl rfl ?_
 refine o_no rfl rfl rfl rfl ?_
 refine o_no rfl rfl rfl rfl ?_
 refine o_no rfl rfl rfl rfl ?_
 refine o_no rfl rfl rfl rfl ?_
 refine o_no rfl rfl rfl rfl ?_
 refine o_no rfl rfl rfl rfl ?_
 refine o_no rfl rfl rfl rfl ?_
 refine o_no rfl rfl rfl rfl ?_
 refine o_pick_false rfl rfl rfl ?_
 refine o_assign rfl rfl ?_
 refine l_nil ?_
 refine q_then ?_
 refine c_false rfl ?_
 refine c_seq ?_
 refine c_region ?_
 refine o_move rfl rfl ?_
 refine o_bin rfl rfl rfl (b_add (show IntKind.i64.wrap ((j : Int) + 1) = ((j + 1 : Nat) : Int) from by rw [wrap_i64 (by omega) (by omega)]; omega)) ?_
 refine o_move rfl rfl ?_
 refine o_nil rfl rfl ?_
 refine o_fieldAddr (q := ⟨b, 1, none⟩) rfl rfl Try.underlying103 rfl ti101 rfl ?_
 refine o_load1 rfl rfl Try.underlying101 rfl (rd_mem 0 rfl rfl) ?_
 refine o_len rfl rfl Try.underlying101 ?_
 refine o_bin rfl rfl rfl b_lss ?_
 refine l_eq (t := 210) (v' := .bool true) rfl (show _ = Value.bool true from by rw [decide_eq_true (by omega)]) ?_
 refine o_move rfl rfl ?_
 refine o_yes rfl rfl rfl ?_
 refine o_move rfl rfl ?_
 refine o_yes rfl rfl rfl ?_
 refine o_nil rfl rfl ?_
 refine o_yes rfl rfl rfl ?_
 refine o_fieldAddr (q := ⟨b, 1, none⟩) rfl rfl Try.underlying103 rfl ti101 rfl ?_
 refine o_yes rfl rfl rfl ?_
 refine o_load1 rfl rfl Try.underlying101 rfl (rd_mem 0 rfl rfl) ?_
 refine o_yes rfl rfl rfl ?_
 refine o_move rfl rfl ?_
 refine o_yes rfl rfl rfl ?_
 refine o_bin rfl rfl rfl (b_add (show IntKind.i64.wrap ((j : Int) + 1) = ((j + 1 : Nat) : Int) from by rw [wrap_i64 (by omega) (by omega)]; omega)) ?_
 refine o_yes rfl rfl rfl ?_
 refine o_indexK eN99_ok ead15 rfl rfl rfl Try.underlying101 (by omega) (by omega) ?_
 obtain ⟨x218, hx218⟩ : ∃ x, (nk)[(((j + 1 : Nat) : Int)).toNat]? = some x := ⟨_, List.getElem?_eq_getElem (by omega)⟩
 have hxk218 : x218 = rb := by have h9 := hx218; rw [show (((j + 1 : Nat) : Int)).toNat = j + 1 from by omega, hrb] at h9; exact (Option.some.inj h9).symm
 refine o_yes rfl rfl rfl ?_
 refine o_load1 rfl rfl Try.underlying99 rfl (rd_sl0 eN99_ok ead15 (rds_own eN99_ok 2 rfl) hx218 rfl) ?_
 refine l_eq (t := 219) (v' := .pointer (some ⟨rb, 0, none⟩)) rfl (by rw [hxk218]) ?_
 refine o_yes rfl rfl rfl ?_
 refine o_nil rfl rfl ?_
 refine o_yes rfl rfl rfl ?_
 refine o_fieldAddr (q := ⟨rb, 0, none⟩) rfl rfl Try.underlying103 rfl ti100 rfl ?_
 refine o_yes rfl rfl rfl ?_
 refine o_load1 rfl rfl Try.underlying100 rfl (rd_mem 6 rfl rfl) ?_
 refine o_yes rfl rfl rfl ?_
 refine o_len rfl rfl Try.underlying100 ?_
 refine o_yes rfl rfl rfl ?_
 refine o_bin rfl rfl rfl b_gtr ?_
 refine l_eq (t := 224) (v' := .bool true) rfl (show _ = Value.bool true from by rw [decide_eq_true (by omega)]) ?_
 refine o_pick_true rfl rfl rfl ?_
 refine o_assign rfl rfl ?_
 refine l_nil ?_
 refine q_then ?_
 refine c_true rfl ?_
 refine c_seq ?_
 refine c_region ?_
 refine o_move rfl rfl ?_
 refine o_nil rfl rfl ?_
 refine o_fieldAddr (q := ⟨b, 1, none⟩) rfl rfl Try.underlying103 rfl ti101 rfl ?_
 refine o_load1 rfl rfl Try.underlying101 rfl (rd_mem 0 rfl rfl) ?_
 refine o_move rfl rfl ?_
 refine o_bin rfl rfl rfl (b_add (show IntKind.i64.wrap ((j : Int) + 1) = ((j + 1 : Nat) : Int) from by rw [wrap_i64 (by omega) (by omega)]; omega)) ?_
 refine o_indexK eN99_ok ead15 rfl rfl rfl Try.underlying101 (by omega) (by omega) ?_
 obtain ⟨x232, hx232⟩ : ∃ x, (nk)[(((j + 1 : Nat) : Int)).toNat]? = some x := ⟨_, List.getElem?_eq_getElem (by omega)⟩
 have hxk232 : x232 = rb := by have h9 := hx232; rw [show (((j + 1 : Nat) : Int)).toNat = j + 1 from by omega, hrb] at h9; exact (Option.some.inj h9).symm
 refine o_load1 rfl rfl Try.underlying99 rfl (rd_sl0 eN99_ok ead15 (rds_own eN99_ok 2 rfl) hx232 rfl) ?_
 refine l_eq (t := 233) (v' := .pointer (some ⟨rb, 0, none⟩)) rfl (by rw [hxk232]) ?_
 refine o_assign rfl rfl ?_
 refine l_nil ?_
 refine q_then ?_
 refine c_seq ?_
 refine c_mid (α := (Option Addr) × Nat × (Option Addr) × ItA) (fun z => [(0, .pointer (some ⟨b, 0, none⟩)), (1, .int .i64 (j : Int)), (4, .pointer (some ⟨kb, 0, none⟩)), (7, .pointer (some ⟨rb, 0, none⟩)), (10, .pointer (some ⟨b, 0, none⟩)), (11, .pointer (some ⟨b, 0, none⟩)), (12, .pointer (some ⟨b, 1, none⟩)), (13, .slice nka (nk).length nkc), (14, .int .i64 (j : Int)), (16, .pointer (some ⟨kb, 0, none⟩)), (90, .bool false), (91, .pointer (some ⟨kb, 0, none⟩)), (92, .pointer (some ⟨kb, 0, none⟩)), (93, .pointer (some ⟨kb, 0, none⟩)), (94, .slice ka (ki).length kc), (95, .int .i64 ((ki).length : Int)), (96, .bool false), (97, .bool false), (98, .int .i64 (j : Int)), (99, .bool false), (100, .bool false), (114, .bool false), (202, .bool true), (203, .int .i64 (j : Int)), (204, .int .i64 ((j + 1 : Nat) : Int)), (205, .pointer (some ⟨b, 0, none⟩)), (206, .pointer (some ⟨b, 0, none⟩)), (207, .pointer (some ⟨b, 1, none⟩)), (208, .slice nka (nk).length nkc), (209, .int .i64 ((nk).length : Int)), (210, .bool true), (211, .bool true), (212, .pointer (some ⟨b, 0, none⟩)), (213, .pointer (some ⟨b, 0, none⟩)), (214, .pointer (some ⟨b, 1, none⟩)), (215, .slice nka (nk).length nkc), (216, .int .i64 (j : Int)), (217, .int .i64 ((j + 1 : Nat) : Int)), (219, .pointer (some ⟨rb, 0, none⟩)), (220, .pointer (some ⟨rb, 0, none⟩)), (221, .pointer (some ⟨rb, 0, none⟩)), (222, .slice ra (ri).length rc), (223, .int .i64 ((ri).length : Int)), (224, .bool true), (225, .bool true), (226, .pointer (some ⟨b, 0, none⟩)), (227, .pointer (some ⟨b, 0, none⟩)), (228, .pointer (some ⟨b, 1, none⟩)), (229, .slice nka (nk).length nkc), (230, .int .i64 (j : Int)), (231, .int .i64 ((j + 1 : Nat) : Int)), (233, .pointer (some ⟨rb, 0, none⟩)), (234, .pointer (some ⟨kb, 0, none⟩)), (235, .pointer (some ⟨kb, 0, none⟩)), (236, .pointer (some ⟨kb, 0, none⟩)), (237, .pointer (some ⟨kb, 0, none⟩)), (238, .slice ka (ki).length kc), (239, .pointer (some ⟨b, 0, none⟩)), (240, .pointer (some ⟨b, 0, none⟩)), (241, .pointer (some ⟨b, 0, none⟩)), (242, .slice na (its).length nc), (243, .int .i64 (j : Int)), (245, .agg #[.string z.2.2.2.f_key, .bool z.2.2.2.f_value.f_Has, .slice z.2.2.2.f_value.f_Value.a (z.2.2.2.f_value.f_Value.xs).length z.2.2.2.f_value.f_Value.c, .int .i64 z.2.2.2.f_value.f_Home, .int .u64 z.2.2.2.f_value.f_Count]), (246, .slice z.2.2.1 ([z.2.2.2]).length 1), (247, .slice z.1 (ki ++ [z.2.2.2]).length z.2.1), (248, .pointer (some ⟨kb, 0, none⟩)), (249, .pointer (some ⟨kb, 0, none⟩))]) (fun z => blk kb (.cells #[.slice z.1 (ki ++ [z.2.2.2]).length z.2.1, .slice kka (kk).length kkc] 103 (0, 0)) :: row e_ItA.T e_ItA.sz z.1 (ki ++ [z.2.2.2]).length z.2.1 (flat e_ItA (ki ++ [z.2.2.2])) :: blk b (.cells #[.slice na (its).length nc, .slice nka (nk).length nkc] 103 (0, 0)) :: row e_ItA.T e_ItA.sz na (its).length nc (flat e_ItA its) :: row eN99.T eN99.sz nka (nk).length nkc (flat eN99 nk) :: row eN99.T eN99.sz kka (kk).length kkc (flat eN99 kk) :: blk rb (.cells #[.slice ra (ri).length rc, .slice rka (rk).length rkc] 103 (0, 0)) :: row e_ItA.T e_ItA.sz ra (ri).length rc (flat e_ItA ri) :: row eN99.T eN99.sz rka (rk).length rkc (flat eN99 rk) :: F) (fun z => its[((j : Int)).toNat]? = some z.2.2.2) ?_ ?_
 · -- cut
  refine c_fact (p := ∃ ad, na = some ad) (rds_some (e := e_ItA) (xs := its) (rds_own e_ItA_ok 1 rfl) (by intro h0; rw [h0] at h2; simp at h2; omega)) ?_
  rintro ⟨adx, eadx⟩
  refine c_conv (fun w S => S.perm p4) ?_
  refine c_conv (fun w S => S.perm p4) ?_
  refine c_conv (fun w S => S.perm p8) ?_
  refine c_conv (fun w S => S.perm p8) ?_
  refine c_conv (fun w S => S.perm p8) ?_
  refine c_conv (fun w S => S.perm p8) ?_
  refine c_conv (fun w S => S.perm p8) ?_
  refine c_conv (fun w S => S.perm p8) ?_
  refine c_conv (fun w S => S.perm p8) ?_
  refine c_held [blk b (.cells #[.slice na (its).length nc, .slice nka (nk).length nkc] 103 (0, 0)), row e_ItA.T e_ItA.sz na (its).length nc (flat e_ItA its), row eN99.T eN99.sz nka (nk).length nkc (flat eN99 nk), row eN99.T eN99.sz kka (kk).length kkc (flat eN99 kk), blk rb (.cells #[.slice ra (ri).length rc, .slice rka (rk).length rkc] 103 (0, 0)), row e_ItA.T e_ItA.sz ra (ri).length rc (flat e_ItA ri), row eN99.T eN99.sz rka (rk).length rkc (flat eN99 rk)] (by kernel_rfl) rfl ?_
  refine h_take 0 rfl rfl (by kernel_rfl) (by kernel_rfl) (by kernel_rfl) (fun L0 => v_move rfl rfl) ?_
  refine h_take 1 rfl rfl (by kernel_rfl) (by kernel_rfl) (by kernel_rfl) (fun L0 => v_move rfl rfl) ?_
  refine h_take 2 rfl rfl (by kernel_rfl) (by kernel_rfl) (by kernel_rfl) (fun L0 => v_nil rfl rfl) ?_
  refine h_take 3 rfl rfl (by kernel_rfl) (by kernel_rfl) (by kernel_rfl) (fun L0 => v_fieldAddr (q := ⟨kb, 0, none⟩) rfl rfl Try.underlying103 rfl ti100 rfl) ?_
  refine h_take 5 rfl rfl (by kernel_rfl) (by kernel_rfl) (by kernel_rfl) (fun L0 => v_move rfl rfl) ?_
  refine h_take 6 rfl rfl (by kernel_rfl) (by kernel_rfl) (by kernel_rfl) (fun L0 => v_nil rfl rfl) ?_
  refine h_take 7 rfl rfl (by kernel_rfl) (by kernel_rfl) (by kernel_rfl) (fun L0 => v_fieldAddr (q := ⟨b, 0, none⟩) rfl rfl Try.underlying103 rfl ti100 rfl) ?_
  refine h_take 8 rfl rfl (by kernel_rfl) (by kernel_rfl) (by kernel_rfl) (fun L0 => v_load1 rfl rfl Try.underlying100 rfl (rd_mem 0 rfl rfl)) ?_
  refine h_take 9 rfl rfl (by kernel_rfl) (by kernel_rfl) (by kernel_rfl) (fun L0 => v_move rfl rfl) ?_
  refine h_take 10 rfl rfl (by kernel_rfl) (by kernel_rfl) (by kernel_rfl) (fun L0 => v_indexK e_ItA_ok eadx rfl rfl rfl Try.underlying100 (by omega) (by omega)) ?_
  obtain ⟨x244, hx244⟩ : ∃ x, (its)[((j : Int)).toNat]? = some x := ⟨_, List.getElem?_eq_getElem (by omega)⟩
  refine h_take 11 rfl rfl (by kernel_rfl) (by kernel_rfl) (by kernel_rfl) (fun L0 => v_loadn (vs := e_ItA.cells x244) rfl rfl Try.underlying110 rfl ti110 (rdn_sl e_ItA_ok eadx (rds_own e_ItA_ok 1 rfl) hx244)) ?_
  refine h_many (is := [4, 12]) (by kernel_rfl) (by decide) (forall_cons ⟨_, rfl, ?_⟩ (forall_cons ⟨_, rfl, ?_⟩ forall_nil))
  · -- 4 comes first
   refine o_load1 rfl rfl Try.underlying100 rfl (rd_mem 7 rfl rfl) ?_
   refine l_nil ?_
   refine h_next ?_
   refine h_one 12 rfl (by kernel_rfl) ?_
   refine o_lit e_ItA_ok rfl Try.underlying100 rfl rfl rfl (lit_ok rfl) [x244] rfl rfl fun a246 => ?_
   refine l_nil ?_
   refine q_conv (fun w S => S.perm p9) ?_
   refine q_conv (fun w S => S.perm p9) ?_
   refine q_conv (fun w S => S.perm p2) ?_
   refine q_conv (fun w S => S.perm p9) ?_
   refine q_conv (fun w S => S.perm p9) ?_
   refine q_conv (fun w S => S.perm p9) ?_
   refine q_conv (fun w S => S.perm p9) ?_
   refine q_conv (fun w S => S.perm p9) ?_
   refine q_conv (fun w S => S.perm p9) ?_
   refine q_conv (fun w S => S.perm p9) ?_
   refine h_next ?_
   refine h_one 13 rfl (by kernel_rfl) ?_
   refine l_f9 ?_
   refine o_append e_ItA_ok rfl rfl rfl Try.underlying100 (rds_own e_ItA_ok 8 rfl) (by show (_ + _) * 64 ≤ _; (try simp only [List.length_append, List.length_cons, List.length_nil]); omega) (by (try simp only [List.length_append, List.length_cons, List.length_nil]); omega) fun a247 c247 => ?_
   refine l_f8 ?_
   refine l_drop ?_
   refine l_nil ?_
   refine q_conv (fun w S => S.perm p8) ?_
   refine q_conv (fun w S => S.perm p1) ?_
   refine q_conv (fun w S => S.perm p8) ?_
   refine q_conv (fun w S => S.perm p8) ?_
   refine q_conv (fun w S => S.perm p8) ?_
   refine q_conv (fun w S => S.perm p8) ?_
   refine q_conv (fun w S => S.perm p8) ?_
   refine q_conv (fun w S => S.perm p8) ?_
   refine q_conv (fun w S => S.perm p8) ?_
   refine h_next ?_
   refine h_take 14 rfl rfl (by kernel_rfl) (by kernel_rfl) (by kernel_rfl) (fun L0 => v_nil rfl rfl) ?_
   refine h_take 15 rfl rfl (by kernel_rfl) (by kernel_rfl) (by kernel_rfl) (fun L0 => v_fieldAddr (q := ⟨kb, 0, none⟩) rfl rfl Try.underlying103 rfl ti100 rfl) ?_
   refine h_one 16 rfl (by kernel_rfl) ?_
   refine l_f8 ?_
   refine o_store1 rfl rfl rfl ti100 rfl rfl ?_
   refine l_nil ?_
   refine q_conv (fun w S => S.perm p8) ?_
   refine q_conv (fun w S => S.perm p1) ?_
   refine q_conv (fun w S => S.perm p8) ?_
   refine q_conv (fun w S => S.perm p8) ?_
   refine q_conv (fun w S => S.perm p8) ?_
   refine q_conv (fun w S => S.perm p8) ?_
   refine q_conv (fun w S => S.perm p8) ?_
   refine q_conv (fun w S => S.perm p8) ?_
   refine q_conv (fun w S => S.perm p8) ?_
   refine h_next ?_
   refine h_done (by kernel_rfl) ?_
   refine q_conv (fun w S => S.perm p6) ?_
   refine q_conv (fun w S => S.perm p6) ?_
   refine q_conv (fun w S => S.perm p6) ?_
   refine q_conv (fun w S => S.perm p6) ?_
   refine q_conv (fun w S => S.perm p6) ?_
   refine q_conv (fun w S => S.perm p6) ?_
   refine q_conv (fun w S => S.perm p6) ?_
   refine q_conv (fun w S => S.perm p8) ?_
   refine q_conv (fun w S => S.perm p8) ?_
   exact q_mid (a247, c247, a246, x244) (by exact hx244) ⟨(by first | rfl | exact vint (by omega)), (by first | rfl | exact vint (by omega)), (by first | rfl | exact vint (by omega)), (by first | rfl | exact vint (by omega)), (by first | rfl | exact vint (by omega)), (by first | rfl | exact vint (by omega)), (by first | rfl | exact vint (by omega)), (by first | rfl | exact vint (by omega)), (by first | rfl | exact vint (by omega)), (by first | rfl | exact vint (by omega)), (by first | rfl | exact vint (by omega)), (by first | rfl | exact vint (by omega)), (by first | rfl | exact vint (by omega)), (by first | rfl | exact vint (by omega)), (by first | rfl | exact vint (by omega)), (by first | rfl | exact vint (by omega)), (by first | rfl | exact vint (by omega)), (by first | rfl | exact vint (by omega)), (by first | rfl | exact vint (by omega)), (by first | rfl | exact vint (by omega)), (by first | rfl | exact vint (by omega)), (by first | rfl | exact vint (by omega)), (by first | rfl | exact vint (by omega)), (by first | rfl | exact vint (by omega)), (by first | rfl | exact vint (by omega)), (by first | rfl | exact vint (by omega)), (by first | rfl | exact vint (by omega)), (by first | rfl | exact vint (by omega)), (by first | rfl | exact vint (by omega)), (by first | rfl | exact vint (by omega)), (by first | rfl | exact vint (by omega)), (by first | rfl | exact vint (by omega)), (by first | rfl | exact vint (by omega)), (by first | rfl | exact vint (by omega)), (by first | rfl | exact vint (by omega)), (by first | rfl | exact vint (by omega)), (by first | rfl | exact vint (by omega)), (by first | rfl | exact vint (by omega)), (by first | rfl | exact vint (by omega)), (by first | rfl | exact vint (by omega)), (by first | rfl | exact vint (by omega)), (by first | rfl | exact vint (by omega)), (by first | rfl | exact vint (by omega)), (by first | rfl | exact vint (by omega)), (by first | rfl | exact vint (by omega)), (by first | rfl | exact vint (by omega)), (by first | rfl | exact vint (by omega)), (by first | rfl | exact vint (by omega)), (by first | rfl | exact vint (by omega)), (by first | rfl | exact vint (by omega)), (by first | rfl | exact vint (by omega)), (by first | rfl | exact vint (by omega)), (by first | rfl | exact vint (by omega)), (by first | rfl | exact vint (by omega)), (by first | rfl | exact vint (by omega)), (by first | rfl | exact vint (by omega)), (by first | rfl | exact vint (by omega)), (by first | rfl | exact vint (by omega)), (by first | rfl | exact vint (by omega)), (by first | rfl | exact vint (by omega)), (by first | rfl | exact vint (by omega)), (by first | rfl | exact vint (by omega)), (by first | rfl | exact vint (by omega)), (by first | rfl | exact vint (by omega)), (by first | rfl | exact vint (by omega)), (by first | rfl | exact vint (by omega)), (by first | rfl | exact vint (by omega)), trivial⟩ (fun w S => S)
  · -- 12 comes first
   refine o_lit e_ItA_ok rfl Try.underlying100 rfl rfl rfl (lit_ok rfl) [x244] rfl rfl fun a246 => ?_
   refine l_nil ?_
   refine q_conv (fun w S => S.perm p9) ?_
   refine q_conv (fun w S => S.perm p9) ?_
   refine q_conv (fun w S => S.perm p2) ?_
   refine q_conv (fun w S => S.perm p9) ?_
   refine q_conv (fun w S => S.perm p9) ?_
   refine q_conv (fun w S => S.perm p9) ?_
   refine q_conv (fun w S => S.perm p9) ?_
   refine q_conv (fun w S => S.perm p9) ?_
   refine q_conv (fun w S => S.perm p9) ?_
   refine q_conv (fun w S => S.perm p9) ?_
   refine h_next ?_
   refine h_one 4 rfl (by kernel_rfl) ?_
   refine o_load1 rfl rfl Try.underlying100 rfl (rd_mem 8 rfl rfl) ?_
   refine l_nil ?_
   refine h_next ?_
   refine h_one 13 rfl (by kernel_rfl) ?_
   refine l_f9 ?_
   refine o_append e_ItA_ok rfl rfl rfl Try.underlying100 (rds_own e_ItA_ok 8 rfl) (by show (_ + _) * 64 ≤ _; (try simp only [List.length_append, List.length_cons, List.length_nil]); omega) (by (try simp only [List.length_append, List.length_cons, List.length_nil]); omega) fun a247 c247 => ?_
   refine l_f8 ?_
   refine l_drop ?_
   refine l_nil ?_
   refine q_conv (fun w S => S.perm p8) ?_
   refine q_conv (fun w S => S.perm p1) ?_
   refine q_conv (fun w S => S.perm p8) ?_
   refine q_conv (fun w S => S.perm p8) ?_
   refine q_conv (fun w S => S.perm p8) ?_
   refine q_conv (fun w S => S.perm p8) ?_
   refine q_conv (fun w S => S.perm p8) ?_
   refine q_conv (fun w S => S.perm p8) ?_
   refine q_conv (fun w S => S.perm p8) ?_
   refine h_next ?_
   refine h_take 14 rfl rfl (by kernel_rfl) (by kernel_rfl) (by kernel_rfl) (fun L0 => v_nil rfl rfl) ?_
   refine h_take 15 rfl rfl (by kernel_rfl) (by kernel_rfl) (by kernel_rfl) (fun L0 => v_fieldAddr (q := ⟨kb, 0, none⟩) rfl rfl Try.underlying103 rfl ti100 rfl) ?_
   refine h_one 16 rfl (by kernel_rfl) ?_
   refine l_f8 ?_
   refine o_store1 rfl rfl rfl ti100 rfl rfl ?_
   refine l_nil ?_
   refine q_conv (fun w S => S.perm p8) ?_
   refine q_conv (fun w S => S.perm p1) ?_
   refine q_conv (fun w S => S.perm p8) ?_
   refine q_conv (fun w S => S.perm p8) ?_
   refine q_conv (fun w S => S.perm p8) ?_
   refine q_conv (fun w S => S.perm p8) ?_
   refine q_conv (fun w S => S.perm p8) ?_
   refine q_conv (fun w S => S.perm p8) ?_
   refine q_conv (fun w S => S.perm p8) ?_
   refine h_next ?_
   refine h_done (by kernel_rfl) ?_
   refine q_conv (fun w S => S.perm p6) ?_
   refine q_conv (fun w S => S.perm p6) ?_
   refine q_conv (fun w S => S.perm p6) ?_
   refine q_conv (fun w S => S.perm p6) ?_
   refine q_conv (fun w S => S.perm p6) ?_
   refine q_conv (fun w S => S.perm p6) ?_
   refine q_conv (fun w S => S.perm p6) ?_
   refine q_conv (fun w S => S.perm p8) ?_
   refine q_conv (fun w S => S.perm p8) ?_
   exact q_mid (a247, c247, a246, x244) (by exact hx244) ⟨(by first | rfl | exact vint (by omega)), (by first | rfl | exact vint (by omega)), (by first | rfl | exact vint (by omega)), (by first | rfl | exact vint (by omega)), (by first | rfl | exact vint (by omega)), (by first | rfl | exact vint (by omega)), (by first | rfl | exact vint (by omega)), (by first | rfl | exact vint (by omega)), (by first | rfl | exact vint (by omega)), (by first | rfl | exact vint (by omega)), (by first | rfl | exact vint (by omega)), (by first | rfl | exact vint (by omega)), (by first | rfl | exact vint (by omega)), (by first | rfl | exact vint (by omega)), (by first | rfl | exact vint (by omega)), (by first | rfl | exact vint (by omega)), (by first | rfl | exact vint (by omega)), (by first | rfl | exact vint (by omega)), (by first | rfl | exact vint (by omega)), (by first | rfl | exact vint (by omega)), (by first | rfl | exact vint (by omega)), (by first | rfl | exact vint (by omega)), (by first | rfl | exact vint (by omega)), (by first | rfl | exact vint (by omega)), (by first | rfl | exact vint (by omega)), (by first | rfl | exact vint (by omega)), (by first | rfl | exact vint (by omega)), (by first | rfl | exact vint (by omega)), (by first | rfl | exact vint (by omega)), (by first | rfl | exact vint (by omega)), (by first | rfl | exact vint (by omega)), (by first | rfl | exact vint (by omega)), (by first | rfl | exact vint (by omega)), (by first | rfl | exact vint (by omega)), (by first | rfl | exact vint (by omega)), (by first | rfl | exact vint (by omega)), (by first | rfl | exact vint (by omega)), (by first | rfl | exact vint (by omega)), (by first | rfl | exact vint (by omega)), (by first | rfl | exact vint (by omega)), (by first | rfl | exact vint (by omega)), (by first | rfl | exact vint (by omega)), (by first | rfl | exact vint (by omega)), (by first | rfl | exact vint (by omega)), (by first | rfl | exact vint (by omega)), (by first | rfl | exact vint (by omega)), (by first | rfl | exact vint (by omega)), (by first | rfl | exact vint (by omega)), (by first | rfl | exact vint (by omega)), (by first | rfl | exact vint (by omega)), (by first | rfl | exact vint (by omega)), (by first | rfl | exact vint (by omega)), (by first | rfl | exact vint (by omega)), (by first | rfl | exact vint (by omega)), (by first | rfl | exact vint (by omega)), (by first | rfl | exact vint (by omega)), (by first | rfl | exact vint (by omega)), (by first | rfl | exact vint (by omega)), (by first | rfl | exact vint (by omega)), (by first | rfl | exact vint (by omega)), (by first | rfl | exact vint (by omega)), (by first | rfl | exact vint (by omega)), (by first | rfl | exact vint (by omega)), (by first | rfl | exact vint (by omega)), (by first | rfl | exact vint (by omega)), (by first | rfl | exact vint (by omega)), (by first | rfl | exact vint (by omega)), trivial⟩ (fun w S => S)
 · -- behind the cut
  rintro ⟨a247, c247, a246, x244⟩ hx244
  try dsimp only at *
  refine c_seq ?_
  refine c_fact (p := ∃ ad, ra = some ad) (rds_some (e := e_ItA) (xs := ri) (rds_own e_ItA_ok 7 rfl) (by intro h0; rw [h0] at hr3; simp at hr3)) ?_
  rintro ⟨adr, eadr⟩
  refine c_fact (p := ∃ ad, na = some ad) (rds_some (e := e_ItA) (xs := its) (rds_own e_ItA_ok 3 rfl) (by intro h0; rw [h0] at h2; simp at h2; omega)) ?_
  rintro ⟨adn, eadn⟩
  refine c_conv (fun w S => S.perm p3) ?_
  refine c_conv (fun w S => S.perm p3) ?_
  refine c_conv (fun w S => S.perm p8) ?_
  refine c_conv (fun w S => S.perm p8) ?_
  refine c_conv (fun w S => S.perm p8) ?_
  refine c_conv (fun w S => S.perm p8) ?_
  refine c_conv (fun w S => S.perm p8) ?_
  refine c_conv (fun w S => S.perm p8) ?_
  refine c_conv (fun w S => S.perm p8) ?_
  refine c_held [blk kb (.cells #[.slice a247 (ki ++ [x244]).length c247, .slice kka (kk).length kkc] 103 (0, 0)), row e_ItA.T e_ItA.sz a247 (ki ++ [x244]).length c247 (flat e_ItA (ki ++ [x244])), row eN99.T eN99.sz nka (nk).length nkc (flat eN99 nk), row eN99.T eN99.sz kka (kk).length kkc (flat eN99 kk), blk rb (.cells #[.slice ra (ri).length rc, .slice rka (rk).length rkc] 103 (0, 0)), row e_ItA.T e_ItA.sz ra (ri).length rc (flat e_ItA ri), row eN99.T eN99.sz rka (rk).length rkc (flat eN99 rk)] (by kernel_rfl) rfl ?_
  refine h_take 0 rfl rfl (by kernel_rfl) (by kernel_rfl) (by kernel_rfl) (fun L0 => v_move rfl rfl) ?_
  refine h_take 1 rfl rfl (by kernel_rfl) (by kernel_rfl) (by kernel_rfl) (fun L0 => v_nil rfl rfl) ?_
  refine h_take 2 rfl rfl (by kernel_rfl) (by kernel_rfl) (by kernel_rfl) (fun L0 => v_fieldAddr (q := ⟨b, 0, none⟩) rfl rfl Try.underlying103 rfl ti100 rfl) ?_
  refine h_take 4 rfl rfl (by kernel_rfl) (by kernel_rfl) (by kernel_rfl) (fun L0 => v_move rfl rfl) ?_
  refine h_take 5 rfl rfl (by kernel_rfl) (by kernel_rfl) (by kernel_rfl) (fun L0 => v_move rfl rfl) ?_
  refine h_take 6 rfl rfl (by kernel_rfl) (by kernel_rfl) (by kernel_rfl) (fun L0 => v_nil rfl rfl) ?_
  refine h_take 7 rfl rfl (by kernel_rfl) (by kernel_rfl) (by kernel_rfl) (fun L0 => v_fieldAddr (q := ⟨rb, 0, none⟩) rfl rfl Try.underlying103 rfl ti100 rfl) ?_
  refine h_take 8 rfl rfl (by kernel_rfl) (by kernel_rfl) (by kernel_rfl) (fun L0 => v_load1 rfl rfl Try.underlying100 rfl (rd_mem 4 rfl rfl)) ?_
  refine h_take 9 rfl rfl (by kernel_rfl) (by kernel_rfl) (by kernel_rfl) (fun L0 => v_indexK e_ItA_ok eadr rfl rfl rfl Try.underlying100 (by omega) (by omega)) ?_
  obtain ⟨x259, hx259⟩ : ∃ x, (ri)[((0 : Int)).toNat]? = some x := ⟨_, List.getElem?_eq_getElem (by omega)⟩
  refine h_take 10 rfl rfl (by kernel_rfl) (by kernel_rfl) (by kernel_rfl) (fun L0 => v_loadn (vs := e_ItA.cells x259) rfl rfl Try.underlying110 rfl ti110 (rdn_sl e_ItA_ok eadr (rds_own e_ItA_ok 5 rfl) hx259)) ?_
  refine h_one 3 rfl (by kernel_rfl) ?_
  refine o_load1 rfl rfl Try.underlying100 rfl (rd_mem 7 rfl rfl) ?_
  refine l_nil ?_
  refine h_next ?_
  refine h_take 11 rfl rfl (by kernel_rfl) (by kernel_rfl) (by kernel_rfl) (fun L0 => v_indexK e_ItA_ok eadn rfl rfl rfl Try.underlying100 (by omega) (by omega)) ?_
  obtain ⟨x261, hx261⟩ : ∃ x, (its)[((j : Int)).toNat]? = some x := ⟨_, List.getElem?_eq_getElem (by omega)⟩
  refine h_one 12 rfl (by kernel_rfl) ?_
  refine l_f8 ?_
  refine o_storeRowAll e_ItA_ok eadn rfl rfl ti110 x259 rfl (by have := List.getElem?_eq_some_iff.1 hx261; exact this.1) ?_
  refine l_f8 ?_
  refine l_conv (L' := blk b (.cells #[.slice na (its).length nc, .slice nka (nk).length nkc] 103 (0, 0)) :: _) (fun w S => S) ?_
  refine l_conv (L' := blk b (.cells #[.slice na ((its).set ((j : Int)).toNat x259).length nc, .slice nka (nk).length nkc] 103 (0, 0)) :: row e_ItA.T e_ItA.sz na ((its).set ((j : Int)).toNat x259).length nc (flat e_ItA ((its).set ((j : Int)).toNat x259)) :: blk kb (.cells #[.slice a247 (ki ++ [x244]).length c247, .slice kka (kk).length kkc] 103 (0, 0)) :: row e_ItA.T e_ItA.sz a247 (ki ++ [x244]).length c247 (flat e_ItA (ki ++ [x244])) :: row eN99.T eN99.sz nka (nk).length nkc (flat eN99 nk) :: row eN99.T eN99.sz kka (kk).length kkc (flat eN99 kk) :: blk rb (.cells #[.slice ra (ri).length rc, .slice rka (rk).length rkc] 103 (0, 0)) :: row e_ItA.T e_ItA.sz ra (ri).length rc (flat e_ItA ri) :: row eN99.T eN99.sz rka (rk).length rkc (flat eN99 rk) :: F) (fun w S => by first | exact S | simpa only [List.length_set] using S | (simp only [List.length_set] at S ⊢; exact S)) ?_
  refine l_nil ?_
  refine q_conv (fun w S => S.perm p1) ?_
  refine q_conv (fun w S => S.perm p1) ?_
  refine q_conv (fun w S => S.perm p8) ?_
  refine q_conv (fun w S => S.perm p8) ?_
  refine q_conv (fun w S => S.perm p8) ?_
  refine q_conv (fun w S => S.perm p8) ?_
  refine q_conv (fun w S => S.perm p8) ?_
  refine q_conv (fun w S => S.perm p8) ?_
  refine q_conv (fun w S => S.perm p8) ?_
  refine h_next ?_
  refine h_done (by kernel_rfl) ?_
  refine q_then ?_
  refine c_seq ?_
  refine c_region ?_
  refine o_move rfl rfl ?_
  refine o_move rfl rfl ?_
  refine o_nil rfl rfl ?_
  refine o_fieldAddr (q := ⟨rb, 0, none⟩) rfl rfl Try.underlying103 rfl ti100 rfl ?_
  refine o_load1 rfl rfl Try.underlying100 rfl (rd_mem 4 rfl rfl) ?_
  refine l_f5 ?_
  refine o_call rfl cal71 rfl (delI_A (xs := ri) (i := 0) (j := 1) (by omega) (by omega) (by omega)) ?_
  rintro _ _ ⟨rfl, rfl⟩
  refine o_nil rfl rfl ?_
  refine o_fieldAddr (q := ⟨rb, 0, none⟩) rfl rfl Try.underlying103 rfl ti100 rfl ?_
  refine l_f5 ?_
  refine o_store1 rfl rfl rfl ti100 rfl rfl ?_
  refine l_nil ?_
  refine q_then ?_
  refine c_seq ?_
  refine c_region ?_
  refine o_move rfl rfl ?_
  refine o_nil rfl rfl ?_
  refine o_fieldAddr (q := ⟨rb, 1, none⟩) rfl rfl Try.underlying103 rfl ti101 rfl ?_
  refine o_load1 rfl rfl Try.underlying101 rfl (rd_mem 0 rfl rfl) ?_
  refine o_len rfl rfl Try.underlying101 ?_
  refine o_bin rfl rfl rfl b_gtr ?_
  refine l_nil ?_
  refine q_then ?_
  refine c_cond rfl (fun h1 => ?_) (fun h1 => ?_)
  · -- h1T
   have h1b := h1
   try simp only [decide_eq_true_eq] at h1
   refine c_seq ?_
   refine c_mid (α := (Option Addr) × Nat × (Option Addr) × Nat) (fun z => [(0, .pointer (some ⟨b, 0, none⟩)), (1, .int .i64 (j : Int)), (4, .pointer (some ⟨kb, 0, none⟩)), (7, .pointer (some ⟨rb, 0, none⟩)), (10, .pointer (some ⟨b, 0, none⟩)), (11, .pointer (some ⟨b, 0, none⟩)), (12, .pointer (some ⟨b, 1, none⟩)), (13, .slice nka (nk).length nkc), (14, .int .i64 (j : Int)), (16, .pointer (some ⟨kb, 0, none⟩)), (90, .bool false), (91, .pointer (some ⟨kb, 0, none⟩)), (92, .pointer (some ⟨kb, 0, none⟩)), (93, .pointer (some ⟨kb, 0, none⟩)), (94, .slice ka (ki).length kc), (95, .int .i64 ((ki).length : Int)), (96, .bool false), (97, .bool false), (98, .int .i64 (j : Int)), (99, .bool false), (100, .bool false), (114, .bool false), (202, .bool true), (203, .int .i64 (j : Int)), (204, .int .i64 ((j + 1 : Nat) : Int)), (205, .pointer (some ⟨b, 0, none⟩)), (206, .pointer (some ⟨b, 0, none⟩)), (207, .pointer (some ⟨b, 1, none⟩)), (208, .slice nka (nk).length nkc), (209, .int .i64 ((nk).length : Int)), (210, .bool true), (211, .bool true), (212, .pointer (some ⟨b, 0, none⟩)), (213, .pointer (some ⟨b, 0, none⟩)), (214, .pointer (some ⟨b, 1, none⟩)), (215, .slice nka (nk).length nkc), (216, .int .i64 (j : Int)), (217, .int .i64 ((j + 1 : Nat) : Int)), (219, .pointer (some ⟨rb, 0, none⟩)), (220, .pointer (some ⟨rb, 0, none⟩)), (221, .pointer (some ⟨rb, 0, none⟩)), (222, .slice ra (ri).length rc), (223, .int .i64 ((ri).length : Int)), (224, .bool true), (225, .bool true), (226, .pointer (some ⟨b, 0, none⟩)), (227, .pointer (some ⟨b, 0, none⟩)), (228, .pointer (some ⟨b, 1, none⟩)), (229, .slice nka (nk).length nkc), (230, .int .i64 (j : Int)), (231, .int .i64 ((j + 1 : Nat) : Int)), (233, .pointer (some ⟨rb, 0, none⟩)), (234, .pointer (some ⟨kb, 0, none⟩)), (235, .pointer (some ⟨kb, 0, none⟩)), (236, .pointer (some ⟨kb, 0, none⟩)), (237, .pointer (some ⟨kb, 0, none⟩)), (238, .slice ka (ki).length kc), (239, .pointer (some ⟨b, 0, none⟩)), (240, .pointer (some ⟨b, 0, none⟩)), (241, .pointer (some ⟨b, 0, none⟩)), (242, .slice na ((its).set ((j : Int)).toNat x259).length nc), (243, .int .i64 (j : Int)), (245, .agg #[.string x244.f_key, .bool x244.f_value.f_Has, .slice x244.f_value.f_Value.a (x244.f_value.f_Value.xs).length x244.f_value.f_Value.c, .int .i64 x244.f_value.f_Home, .int .u64 x244.f_value.f_Count]), (246, .slice a246 ([x244]).length 1), (247, .slice a247 (ki ++ [x244]).length c247), (248, .pointer (some ⟨kb, 0, none⟩)), (249, .pointer (some ⟨kb, 0, none⟩)), (250, .pointer (some ⟨b, 0, none⟩)), (251, .pointer (some ⟨b, 0, none⟩)), (252, .pointer (some ⟨b, 0, none⟩)), (253, .slice na ((its).set ((j : Int)).toNat x259).length nc), (254, .int .i64 (j : Int)), (255, .pointer (some ⟨rb, 0, none⟩)), (256, .pointer (some ⟨rb, 0, none⟩)), (257, .pointer (some ⟨rb, 0, none⟩)), (258, .slice ra (ri).length rc), (260, .agg #[.string x259.f_key, .bool x259.f_value.f_Has, .slice x259.f_value.f_Value.a (x259.f_value.f_Value.xs).length x259.f_value.f_Value.c, .int .i64 x259.f_value.f_Home, .int .u64 x259.f_value.f_Count]), (262, .pointer (some ⟨rb, 0, none⟩)), (263, .pointer (some ⟨rb, 0, none⟩)), (264, .pointer (some ⟨rb, 0, none⟩)), (265, .pointer (some ⟨rb, 0, none⟩)), (266, .slice ra (ri).length rc), (267, .slice ra ((ri.take 0 ++ ri.drop 1)).length rc), (268, .pointer (some ⟨rb, 0, none⟩)), (269, .pointer (some ⟨rb, 0, none⟩)), (270, .pointer (some ⟨rb, 0, none⟩)), (271, .pointer (some ⟨rb, 0, none⟩)), (272, .pointer (some ⟨rb, 1, none⟩)), (273, .slice rka (rk).length rkc), (274, .int .i64 ((rk).length : Int)), (275, .bool (decide (0 < ((rk).length : Int)))), (276, .pointer (some ⟨kb, 0, none⟩)), (277, .pointer (some ⟨kb, 0, none⟩)), (278, .pointer (some ⟨kb, 0, none⟩)), (279, .pointer (some ⟨kb, 1, none⟩)), (280, .slice kka (kk).length kkc), (281, .pointer (some ⟨rb, 0, none⟩)), (282, .pointer (some ⟨rb, 0, none⟩)), (283, .pointer (some ⟨rb, 1, none⟩)), (284, .slice rka (rk).length rkc), (286, .pointer (some ⟨z.2.2.2, 0, none⟩)), (287, .slice z.2.2.1 ([z.2.2.2]).length 1), (288, .slice z.1 (kk ++ [z.2.2.2]).length z.2.1), (289, .pointer (some ⟨kb, 0, none⟩)), (290, .pointer (some ⟨kb, 1, none⟩))]) (fun z => blk kb (.cells #[.slice a247 (ki ++ [x244]).length c247, .slice z.1 (kk ++ [z.2.2.2]).length z.2.1] 103 (0, 0)) :: row eN99.T eN99.sz z.1 (kk ++ [z.2.2.2]).length z.2.1 (flat eN99 (kk ++ [z.2.2.2])) :: blk rb (.cells #[.slice ra ((ri.take 0 ++ ri.drop 1)).length rc, .slice rka (rk).length rkc] 103 (0, 0)) :: row e_ItA.T e_ItA.sz ra ((ri.take 0 ++ ri.drop 1)).length rc (flat e_ItA (ri.take 0 ++ ri.drop 1)) :: row e_ItA.T e_ItA.sz a247 (ki ++ [x244]).length c247 (flat e_ItA (ki ++ [x244])) :: row eN99.T eN99.sz nka (nk).length nkc (flat eN99 nk) :: row eN99.T eN99.sz rka (rk).length rkc (flat eN99 rk) :: blk b (.cells #[.slice na ((its).set ((j : Int)).toNat x259).length nc, .slice nka (nk).length nkc] 103 (0, 0)) :: row e_ItA.T e_ItA.sz na ((its).set ((j : Int)).toNat x259).length nc (flat e_ItA ((its).set ((j : Int)).toNat x259)) :: F) (fun z => rk[((0 : Int)).toNat]? = some z.2.2.2) ?_ ?_
   · -- cut
    have hrk := hrk0 (by omega)
    refine c_fact (p := ∃ ad, rka = some ad) (rds_some (e := eN99) (xs := rk) (rds_own eN99_ok 6 rfl) (by intro h0; rw [h0] at hrk; simp at hrk)) ?_
    rintro ⟨adk, eadk⟩
    refine c_conv (fun w S => S.perm p5) ?_
    refine c_conv (fun w S => S.perm p3) ?_
    refine c_conv (fun w S => S.perm p8) ?_
    refine c_conv (fun w S => S.perm p8) ?_
    refine c_conv (fun w S => S.perm p8) ?_
    refine c_conv (fun w S => S.perm p8) ?_
    refine c_conv (fun w S => S.perm p8) ?_
    refine c_conv (fun w S => S.perm p8) ?_
    refine c_conv (fun w S => S.perm p8) ?_
    refine c_held [blk rb (.cells #[.slice ra ((ri.take 0 ++ ri.drop 1)).length rc, .slice rka (rk).length rkc] 103 (0, 0)), row e_ItA.T e_ItA.sz ra ((ri.take 0 ++ ri.drop 1)).length rc (flat e_ItA (ri.take 0 ++ ri.drop 1)), row e_ItA.T e_ItA.sz a247 (ki ++ [x244]).length c247 (flat e_ItA (ki ++ [x244])), row eN99.T eN99.sz nka (nk).length nkc (flat eN99 nk), row eN99.T eN99.sz rka (rk).length rkc (flat eN99 rk), blk b (.cells #[.slice na ((its).set ((j : Int)).toNat x259).length nc, .slice nka (nk).length nkc] 103 (0, 0)), row e_ItA.T e_ItA.sz na ((its).set ((j : Int)).toNat x259).length nc (flat e_ItA ((its).set ((j : Int)).toNat x259))] (by kernel_rfl) rfl ?_
    refine h_take 0 rfl rfl (by kernel_rfl) (by kernel_rfl) (by kernel_rfl) (fun L0 => v_move rfl rfl) ?_
    refine h_take 1 rfl rfl (by kernel_rfl) (by kernel_rfl) (by kernel_rfl) (fun L0 => v_move rfl rfl) ?_
    refine h_take 2 rfl rfl (by kernel_rfl) (by kernel_rfl) (by kernel_rfl) (fun L0 => v_nil rfl rfl) ?_
    refine h_take 3 rfl rfl (by kernel_rfl) (by kernel_rfl) (by kernel_rfl) (fun L0 => v_fieldAddr (q := ⟨kb, 1, none⟩) rfl rfl Try.underlying103 rfl ti101 rfl) ?_
    refine h_take 5 rfl rfl (by kernel_rfl) (by kernel_rfl) (by kernel_rfl) (fun L0 => v_move rfl rfl) ?_
    refine h_take 6 rfl rfl (by kernel_rfl) (by kernel_rfl) (by kernel_rfl) (fun L0 => v_nil rfl rfl) ?_
    refine h_take 7 rfl rfl (by kernel_rfl) (by kernel_rfl) (by kernel_rfl) (fun L0 => v_fieldAddr (q := ⟨rb, 1, none⟩) rfl rfl Try.underlying103 rfl ti101 rfl) ?_
    refine h_take 8 rfl rfl (by kernel_rfl) (by kernel_rfl) (by kernel_rfl) (fun L0 => v_load1 rfl rfl Try.underlying101 rfl (rd_mem 0 rfl rfl)) ?_
    refine h_take 9 rfl rfl (by kernel_rfl) (by kernel_rfl) (by kernel_rfl) (fun L0 => v_indexK eN99_ok eadk rfl rfl rfl Try.underlying101 (by omega) (by omega)) ?_
    obtain ⟨x285, hx285⟩ : ∃ x, (rk)[((0 : Int)).toNat]? = some x := ⟨_, List.getElem?_eq_getElem (by omega)⟩
    refine h_take 10 rfl rfl (by kernel_rfl) (by kernel_rfl) (by kernel_rfl) (fun L0 => v_load1 rfl rfl Try.underlying99 rfl (rd_sl0 eN99_ok eadk (rds_own eN99_ok 4 rfl) hx285 rfl)) ?_
    refine h_many (is := [4, 11]) (by kernel_rfl) (by decide) (forall_cons ⟨_, rfl, ?_⟩ (forall_cons ⟨_, rfl, ?_⟩ forall_nil))
    · -- 4 comes first
     refine o_load1 rfl rfl Try.underlying101 rfl (rd_mem 7 rfl rfl) ?_
     refine l_nil ?_
     refine h_next ?_
     refine h_one 11 rfl (by kernel_rfl) ?_
     refine o_lit eN99_ok rfl Try.underlying101 rfl rfl rfl (lit_ok rfl) [x285] rfl rfl fun a287 => ?_
     refine l_nil ?_
     refine q_conv (fun w S => S.perm p9) ?_
     refine q_conv (fun w S => S.perm p9) ?_
     refine q_conv (fun w S => S.perm p2) ?_
     refine q_conv (fun w S => S.perm p9) ?_
     refine q_conv (fun w S => S.perm p9) ?_
     refine q_conv (fun w S => S.perm p9) ?_
     refine q_conv (fun w S => S.perm p9) ?_
     refine q_conv (fun w S => S.perm p9) ?_
     refine q_conv (fun w S => S.perm p9) ?_
     refine q_conv (fun w S => S.perm p9) ?_
     refine h_next ?_
     refine h_one 12 rfl (by kernel_rfl) ?_
     refine l_f9 ?_
     refine o_append eN99_ok rfl rfl rfl Try.underlying101 (rds_own eN99_ok 8 rfl) (by show (_ + _) * 8 ≤ _; (try simp only [List.length_append, List.length_cons, List.length_nil]); omega) (by (try simp only [List.length_append, List.length_cons, List.length_nil]); omega) fun a288 c288 => ?_
     refine l_f8 ?_
     refine l_drop ?_
     refine l_nil ?_
     refine q_conv (fun w S => S.perm p8) ?_
     refine q_conv (fun w S => S.perm p1) ?_
     refine q_conv (fun w S => S.perm p8) ?_
     refine q_conv (fun w S => S.perm p8) ?_
     refine q_conv (fun w S => S.perm p8) ?_
     refine q_conv (fun w S => S.perm p8) ?_
     refine q_conv (fun w S => S.perm p8) ?_
     refine q_conv (fun w S => S.perm p8) ?_
     refine q_conv (fun w S => S.perm p8) ?_
     refine h_next ?_
     refine h_take 13 rfl rfl (by kernel_rfl) (by kernel_rfl) (by kernel_rfl) (fun L0 => v_nil rfl rfl) ?_
     refine h_take 14 rfl rfl (by kernel_rfl) (by kernel_rfl) (by kernel_rfl) (fun L0 => v_fieldAddr (q := ⟨kb, 1, none⟩) rfl rfl Try.underlying103 rfl ti101 rfl) ?_
     refine h_one 15 rfl (by kernel_rfl) ?_
     refine l_f8 ?_
     refine o_store1 rfl rfl rfl ti101 rfl rfl ?_
     refine l_nil ?_
     refine q_conv (fun w S => S.perm p8) ?_
     refine q_conv (fun w S => S.perm p1) ?_
     refine q_conv (fun w S => S.perm p8) ?_
     refine q_conv (fun w S => S.perm p8) ?_
     refine q_conv (fun w S => S.perm p8) ?_
     refine q_conv (fun w S => S.perm p8) ?_
     refine q_conv (fun w S => S.perm p8) ?_
     refine q_conv (fun w S => S.perm p8) ?_
     refine q_conv (fun w S => S.perm p8) ?_
     refine h_next ?_
     refine h_done (by kernel_rfl) ?_
     refine q_conv (fun w S => S.perm p6) ?_
     refine q_conv (fun w S => S.perm p6) ?_
     refine q_conv (fun w S => S.perm p6) ?_
     refine q_conv (fun w S => S.perm p6) ?_
     refine q_conv (fun w S => S.perm p6) ?_
     refine q_conv (fun w S => S.perm p6) ?_
     refine q_conv (fun w S => S.perm p6) ?_
     refine q_conv (fun w S => S.perm p8) ?_
     refine q_conv (fun w S => S.perm p8) ?_
     exact q_mid (a288, c288, a287, x285) (by exact hx285) ⟨(by first | rfl | exact vint (by omega)), (by first | rfl | exact vint (by omega)), (by first | rfl | exact vint (by omega)), (by first | rfl | exact vint (by omega)), (by first | rfl | exact vint (by omega)), (by first | rfl | exact vint (by omega)), (by first | rfl | exact vint (by omega)), (by first | rfl | exact vint (by omega)), (by first | rfl | exact vint (by omega)), (by first | rfl | exact vint (by omega)), (by first | rfl | exact vint (by omega)), (by first | rfl | exact vint (by omega)), (by first | rfl | exact vint (by omega)), (by first | rfl | exact vint (by omega)), (by first | rfl | exact vint (by omega)), (by first | rfl | exact vint (by omega)), (by first | rfl | exact vint (by omega)), (by first | rfl | exact vint (by omega)), (by first | rfl | exact vint (by omega)), (by first | rfl | exact vint (by omega)), (by first | rfl | exact vint (by omega)), (by first | rfl | exact vint (by omega)), (by first | rfl | exact vint (by omega)), (by first | rfl | exact vint (by omega)), (by first | rfl | exact vint (by omega)), (by first | rfl | exact vint (by omega)), (by first | rfl | exact vint (by omega)), (by first | rfl | exact vint (by omega)), (by first | rfl | exact vint (by omega)), (by first | rfl | exact vint (by omega)), (by first | rfl | exact vint (by omega)), (by first | rfl | exact vint (by omega)), (by first | rfl | exact vint (by omega)), (by first | rfl | exact vint (by omega)), (by first | rfl | exact vint (by omega)), (by first | rfl | exact vint (by omega)), (by first | rfl | exact vint (by omega)), (by first | rfl | exact vint (by omega)), (by first | rfl | exact vint (by omega)), (by first | rfl | exact vint (by omega)), (by first | rfl | exact vint (by omega)), (by first | rfl | exact vint (by omega)), (by first | rfl | exact vint (by omega)), (by first | rfl | exact vint (by omega)), (by first | rfl | exact vint (by omega)), (by first | rfl | exact vint (by omega)), (by first | rfl | exact vint (by omega)), (by first | rfl | exact vint (by omega)), (by first | rfl | exact vint (by omega)), (by first | rfl | exact vint (by omega)), (by first | rfl | exact vint (by omega)), (by first | rfl | exact vint (by omega)), (by first | rfl | exact vint (by omega)), (by first | rfl | exact vint (by omega)), (by first | rfl | exact vint (by omega)), (by first | rfl | exact vint (by omega)), (by first | rfl | exact vint (by omega)), (by first | rfl | exact vint (by omega)), (by first | rfl | exact vint (by omega)), (by first | rfl | exact vint (by omega)), (by first | rfl | (rw [List.length_set]; rfl)), (by first | rfl | exact vint (by omega)), (by first | rfl | exact vint (by omega)), (by first | rfl | exact vint (by omega)), (by first | rfl | exact vint (by omega)), (by first | rfl | exact vint (by omega)), (by first | rfl | exact vint (by omega)), (by first | rfl | exact vint (by omega)), (by first | rfl | exact vint (by omega)), (by first | rfl | exact vint (by omega)), (by first | rfl | (rw [List.length_set]; rfl)), (by first | rfl | exact vint (by omega)), (by first | rfl | exact vint (by omega)), (by first | rfl | exact vint (by omega)), (by first | rfl | exact vint (by omega)), (by first | rfl | exact vint (by omega)), (by first | rfl | exact vint (by omega)), (by first | rfl | exact vint (by omega)), (by first | rfl | exact vint (by omega)), (by first | rfl | exact vint (by omega)), (by first | rfl | exact vint (by omega)), (by first | rfl | exact vint (by omega)), (by first | rfl | exact vint (by omega)), (by first | rfl | exact vint (by omega)), (by first | rfl | exact vint (by omega)), (by first | rfl | exact vint (by omega)), (by first | rfl | exact vint (by omega)), (by first | rfl | exact vint (by omega)), (by first | rfl | exact vint (by omega)), (by first | rfl | exact vint (by omega)), (by first | rfl | exact vint (by omega)), (by first | rfl | exact vint (by omega)), (by first | rfl | exact vint (by omega)), (by first | rfl | exact vint (by omega)), (by first | rfl | exact vint (by omega)), (by first | rfl | exact vint (by omega)), (by first | rfl | exact vint (by omega)), (by first | rfl | exact vint (by omega)), (by first | rfl | exact vint (by omega)), (by first | rfl | exact vint (by omega)), (by first | rfl | exact vint (by omega)), (by first | rfl | exact vint (by omega)), (by first | rfl | exact vint (by omega)), (by first | rfl | exact vint (by omega)), (by first | rfl | exact vint (by omega)), trivial⟩ (fun w S => S)
    · -- 11 comes first
     refine o_lit eN99_ok rfl Try.underlying101 rfl rfl rfl (lit_ok rfl) [x285] rfl rfl fun a287 => ?_
     refine l_nil ?_
     refine q_conv (fun w S => S.perm p9) ?_
     refine q_conv (fun w S => S.perm p9) ?_
     refine q_conv (fun w S => S.perm p2) ?_
     refine q_conv (fun w S => S.perm p9) ?_
     refine q_conv (fun w S => S.perm p9) ?_
     refine q_conv (fun w S => S.perm p9) ?_
     refine q_conv (fun w S => S.perm p9) ?_
     refine q_conv (fun w S => S.perm p9) ?_
     refine q_conv (fun w S => S.perm p9) ?_
     refine q_conv (fun w S => S.perm p9) ?_
     refine h_next ?_
     refine h_one 4 rfl (by kernel_rfl) ?_
     refine o_load1 rfl rfl Try.underlying101 rfl (rd_mem 8 rfl rfl) ?_
     refine l_nil ?_
     refine h_next ?_
     refine h_one 12 rfl (by kernel_rfl) ?_
     refine l_f9 ?_
     refine o_append eN99_ok rfl rfl rfl Try.underlying101 (rds_own eN99_ok 8 rfl) (by show (_ + _) * 8 ≤ _; (try simp only [List.length_append, List.length_cons, List.length_nil]); omega) (by (try simp only [List.length_append, List.length_cons, List.length_nil]); omega) fun a288 c288 => ?_
     refine l_f8 ?_
     refine l_drop ?_
     refine l_nil ?_
     refine q_conv (fun w S => S.perm p8) ?_
     refine q_conv (fun w S => S.perm p1) ?_
     refine q_conv (fun w S => S.perm p8) ?_
     refine q_conv (fun w S => S.perm p8) ?_
     refine q_conv (fun w S => S.perm p8) ?_
     refine q_conv (fun w S => S.perm p8) ?_
     refine q_conv (fun w S => S.perm p8) ?_
     refine q_conv (fun w S => S.perm p8) ?_
     refine q_conv (fun w S => S.perm p8) ?_
     refine h_next ?_
     refine h_take 13 rfl rfl (by kernel_rfl) (by kernel_rfl) (by kernel_rfl) (fun L0 => v_nil rfl rfl) ?_
     refine h_take 14 rfl rfl (by kernel_rfl) (by kernel_rfl) (by kernel_rfl) (fun L0 => v_fieldAddr (q := ⟨kb, 1, none⟩) rfl rfl Try.underlying103 rfl ti101 rfl) ?_
     refine h_one 15 rfl (by kernel_rfl) ?_
     refine l_f8 ?_
     refine o_store1 rfl rfl rfl ti101 rfl rfl ?_
     refine l_nil ?_
     refine q_conv (fun w S => S.perm p8) ?_
     refine q_conv (fun w S => S.perm p1) ?_
     refine q_conv (fun w S => S.perm p8) ?_
     refine q_conv (fun w S => S.perm p8) ?_
     refine q_conv (fun w S => S.perm p8) ?_
     refine q_conv (fun w S => S.perm p8) ?_
     refine q_conv (fun w S => S.perm p8) ?_
     refine q_conv (fun w S => S.perm p8) ?_
     refine q_conv (fun w S => S.perm p8) ?_
     refine h_next ?_
     refine h_done (by kernel_rfl) ?_
     refine q_conv (fun w S => S.perm p6) ?_
     refine q_conv (fun w S => S.perm p6) ?_
     refine q_conv (fun w S => S.perm p6) ?_
     refine q_conv (fun w S => S.perm p6) ?_
     refine q_conv (fun w S => S.perm p6) ?_
     refine q_conv (fun w S => S.perm p6) ?_
     refine q_conv (fun w S => S.perm p6) ?_
     refine q_conv (fun w S => S.perm p8) ?_
     refine q_conv (fun w S => S.perm p8) ?_
     exact q_mid (a288, c288, a287, x285) (by exact hx285) ⟨(by first | rfl | exact vint (by omega)), (by first | rfl | exact vint (by omega)), (by first | rfl | exact vint (by omega)), (by first | rfl | exact vint (by omega)), (by first | rfl | exact vint (by omega)), (by first | rfl | exact vint (by omega)), (by first | rfl | exact vint (by omega)), (by first | rfl | exact vint (by omega)), (by first | rfl | exact vint (by omega)), (by first | rfl | exact vint (by omega)), (by first | rfl | exact vint (by omega)), (by first | rfl | exact vint (by omega)), (by first | rfl | exact vint (by omega)), (by first | rfl | exact vint (by omega)), (by first | rfl | exact vint (by omega)), (by first | rfl | exact vint (by omega)), (by first | rfl | exact vint (by omega)), (by first | rfl | exact vint (by omega)), (by first | rfl | exact vint (by omega)), (by first | rfl | exact vint (by omega)), (by first | rfl | exact vint (by omega)), (by first | rfl | exact vint (by omega)), (by first | rfl | exact vint (by omega)), (by first | rfl | exact vint (by omega)), (by first | rfl | exact vint (by omega)), (by first | rfl | exact vint (by omega)), (by first | rfl | exact vint (by omega)), (by first | rfl | exact vint (by omega)), (by first | rfl | exact vint (by omega)), (by first | rfl | exact vint (by omega)), (by first | rfl | exact vint (by omega)), (by first | rfl | exact vint (by omega)), (by first | rfl | exact vint (by omega)), (by first | rfl | exact vint (by omega)), (by first | rfl | exact vint (by omega)), (by first | rfl | exact vint (by omega)), (by first | rfl | exact vint (by omega)), (by first | rfl | exact vint (by omega)), (by first | rfl | exact vint (by omega)), (by first | rfl | exact vint (by omega)), (by first | rfl | exact vint (by omega)), (by first | rfl | exact vint (by omega)), (by first | rfl | exact vint (by omega)), (by first | rfl | exact vint (by omega)), (by first | rfl | exact vint (by omega)), (by first | rfl | exact vint (by omega)), (by first | rfl | exact vint (by omega)), (by first | rfl | exact vint (by omega)), (by first | rfl | exact vint (by omega)), (by first | rfl | exact vint (by omega)), (by first | rfl | exact vint (by omega)), (by first | rfl | exact vint (by omega)), (by first | rfl | exact vint (by omega)), (by first | rfl | exact vint (by omega)), (by first | rfl | exact vint (by omega)), (by first | rfl | exact vint (by omega)), (by first | rfl | exact vint (by omega)), (by first | rfl | exact vint (by omega)), (by first | rfl | exact vint (by omega)), (by first | rfl | exact vint (by omega)), (by first | rfl | (rw [List.length_set]; rfl)), (by first | rfl | exact vint (by omega)), (by first | rfl | exact vint (by omega)), (by first | rfl | exact vint (by omega)), (by first | rfl | exact vint (by omega)), (by first | rfl | exact vint (by omega)), (by first | rfl | exact vint (by omega)), (by first | rfl | exact vint (by omega)), (by first | rfl | exact vint (by omega)), (by first | rfl | exact vint (by omega)), (by first | rfl | (rw [List.length_set]; rfl)), (by first | rfl | exact vint (by omega)), (by first | rfl | exact vint (by omega)), (by first | rfl | exact vint (by omega)), (by first | rfl | exact vint (by omega)), (by first | rfl | exact vint (by omega)), (by first | rfl | exact vint (by omega)), (by first | rfl | exact vint (by omega)), (by first | rfl | exact vint (by omega)), (by first | rfl | exact vint (by omega)), (by first | rfl | exact vint (by omega)), (by first | rfl | exact vint (by omega)), (by first | rfl | exact vint (by omega)), (by first | rfl | exact vint (by omega)), (by first | rfl | exact vint (by omega)), (by first | rfl | exact vint (by omega)), (by first | rfl | exact vint (by omega)), (by first | rfl | exact vint (by omega)), (by first | rfl | exact vint (by omega)), (by first | rfl | exact vint (by omega)), (by first | rfl | exact vint (by omega)), (by first | rfl | exact vint (by omega)), (by first | rfl | exact vint (by omega)), (by first | rfl | exact vint (by omega)), (by first | rfl | exact vint (by omega)), (by first | rfl | exact vint (by omega)), (by first | rfl | exact vint (by omega)), (by first | rfl | exact vint (by omega)), (by first | rfl | exact vint (by omega)), (by first | rfl | exact vint (by omega)), (by first | rfl | exact vint (by omega)), (by first | rfl | exact vint (by omega)), (by first | rfl | exact vint (by omega)), (by first | rfl | exact vint (by omega)), (by first | rfl | exact vint (by omega)), trivial⟩ (fun w S => S)
   · -- behind the cut
    rintro ⟨a288, c288, a287, x285⟩ hx285
    try dsimp only at *
    refine c_region ?_
    refine o_move rfl rfl ?_
    refine o_move rfl rfl ?_
    refine o_nil rfl rfl ?_
    refine o_fieldAddr (q := ⟨rb, 1, none⟩) rfl rfl Try.underlying103 rfl ti101 rfl ?_
    refine o_load1 rfl rfl Try.underlying101 rfl (rd_mem 2 rfl rfl) ?_
    refine l_f6 ?_
    refine o_call rfl cal79 rfl (delK_A (xs := rk) (i := 0) (j := 1) (by omega) (by omega) (by omega)) ?_
    rintro _ _ ⟨rfl, rfl⟩
    refine o_nil rfl rfl ?_
    refine o_fieldAddr (q := ⟨rb, 1, none⟩) rfl rfl Try.underlying103 rfl ti101 rfl ?_
    refine l_f3 ?_
    refine o_store1 rfl rfl rfl ti101 rfl rfl ?_
    refine l_nil ?_
    refine q_block ?_
    refine q_conv (fun w S => S.perm p1) ?_
    refine q_conv (fun w S => S.perm p4) ?_
    refine q_conv (fun w S => S.perm p2) ?_
    refine q_conv (fun w S => S.perm p4) ?_
    refine q_conv (fun w S => S.perm p5) ?_
    refine q_conv (fun w S => S.perm p5) ?_
    refine q_conv (fun w S => S.perm p6) ?_
    refine q_conv (fun w S => S.perm p8) ?_
    refine q_conv (fun w S => S.perm p8) ?_
    exact f_end (r_none rfl) (⟨x244, x259, a247, c247, (show its[j]? = some x244 from by have h9 := hx244; rw [show ((j : Int)).toNat = j from rfl] at h9; exact h9), (show ri[0]? = some x259 from hx259), .inr ⟨a288, c288, x285, (show rk[0]? = some x285 from hx285), rfl⟩⟩) (fun w S => by (rw [show ((j : Int)).toNat = j from rfl, List.length_set] at S; exact S))
  · -- h1F
   have h1b := h1
   try simp only [decide_eq_false_iff_not, Int.not_lt, Int.not_le] at h1
   refine c_skip ?_
   refine q_block ?_
   refine q_conv (fun w S => S.perm p6) ?_
   refine q_conv (fun w S => S.perm p2) ?_
   refine q_conv (fun w S => S.perm p2) ?_
   refine q_conv (fun w S => S.perm p6) ?_
   refine q_conv (fun w S => S.perm p5) ?_
   refine q_conv (fun w S => S.perm p5) ?_
   refine q_conv (fun w S => S.perm p6) ?_
   refine q_conv (fun w S => S.perm p8) ?_
   refine q_conv (fun w S => S.perm p8) ?_
   exact f_end (r_none rfl) (⟨x244, x259, a247, c247, (show its[j]? = some x244 from by have h9 := hx244; rw [show ((j : Int)).toNat = j from rfl] at h9; exact h9), (show ri[0]? = some x259 from hx259), .inl ⟨by omega, rfl⟩⟩) (fun w S => by (rw [show ((j : Int)).toNat = j from rfl, List.length_set] at S; exact S))
set_option maxHeartbeats 4000000 in
theorem mendC1_A {W : World} {F : List Res} {b kb : Nat} {its ki : List ItA} {nk kk : List Nat} {na nka ka kka : Option Addr} {nc nkc kc kkc : Nat} {lb : Nat} {li : List ItA} {lk : List Nat} {la lka : Option Addr} {lc lkc : Nat} {rb : Nat} {ri : List ItA} {rk : List Nat} {ra rka : Option Addr} {rc rkc : Nat} {j : Nat} (hk : nk[j]? = some kb) (hrb : nk[j + 1]? = some rb) (hk1 : ki.length < 2) (hr3 : 3 ≤ ri.length) (hr5 : ri.length ≤ 5) (hrk0 : 0 < rk.length → rk.length = ri.length + 1) (hj : 0 < j) (hlb : nk[j - 1]? = some lb) (hl2 : li.length ≤ 2) (h1 : its.length ≤ 5) (h2 : nk.length = its.length + 1) (h3 : ki.length ≤ 5) (h4 : kk.length ≤ 6) : CS Try.prog 73 #[.pointer (some ⟨b, 0, none⟩), .int .i64 (j : Int)] W (blk b (.cells #[.slice na (its).length nc, .slice nka (nk).length nkc] 103 (0, 0)) :: row e_ItA.T e_ItA.sz na (its).length nc (flat e_ItA its) :: row eN99.T eN99.sz nka (nk).length nkc (flat eN99 nk) :: blk kb (.cells #[.slice ka (ki).length kc, .slice kka (kk).length kkc] 103 (0, 0)) :: row e_ItA.T e_ItA.sz ka (ki).length kc (flat e_ItA ki) :: row eN99.T eN99.sz kka (kk).length kkc (flat eN99 kk) :: blk rb (.cells #[.slice ra (ri).length rc, .slice rka (rk).length rkc] 103 (0, 0)) :: row e_ItA.T e_ItA.sz ra (ri).length rc (flat e_ItA ri) :: row eN99.T eN99.sz rka (rk).length rkc (flat eN99 rk) :: blk lb (.cells #[.slice la (li).length lc, .slice lka (lk).length lkc] 103 (0, 0)) :: row e_ItA.T e_ItA.sz la (li).length lc (flat e_ItA li) :: row eN99.T eN99.sz lka (lk).length lkc (flat eN99 lk) :: F) (fun _ L' => ∃ (x y : ItA) (a1 : Option Addr) (c1 : Nat), its[j]? = some x ∧ ri[0]? = some y ∧ ((rk.length = 0 ∧ L' = blk b (.cells #[.slice na its.length nc, .slice nka nk.length nkc] 103 (0, 0)) :: row e_ItA.T e_ItA.sz na its.length nc (flat e_ItA (its.set j y)) :: row eN99.T eN99.sz nka (nk).length nkc (flat eN99 nk) :: blk kb (.cells #[.slice a1 (ki ++ [x]).length c1, .slice kka kk.length kkc] 103 (0, 0)) :: row e_ItA.T e_ItA.sz a1 ((ki ++ [x])).length c1 (flat e_ItA (ki ++ [x])) :: row eN99.T eN99.sz kka (kk).length kkc (flat eN99 kk) :: blk rb (.cells #[.slice ra (ri.drop 1).length rc, .slice rka rk.length rkc] 103 (0, 0)) :: row e_ItA.T e_ItA.sz ra ((ri.drop 1)).length rc (flat e_ItA (ri.drop 1)) :: row eN99.T eN99.sz rka (rk).length rkc (flat eN99 rk) :: blk lb (.cells #[.slice la (li).length lc, .slice lka (lk).length lkc] 103 (0, 0)) :: row e_ItA.T e_ItA.sz la (li).length lc (flat e_ItA li) :: row eN99.T eN99.sz lka (lk).length lkc (flat eN99 lk) :: F) ∨ (∃ (a2 : Option Addr) (c2 g : Nat), rk[0]? = some g ∧ L' = blk b (.cells #[.slice na its.length nc, .slice nka nk.length nkc] 103 (0, 0)) :: row e_ItA.T e_ItA.sz na its.length nc (flat e_ItA (its.set j y)) :: row eN99.T eN99.sz nka (nk).length nkc (flat eN99 nk) :: blk kb (.cells #[.slice a1 (ki ++ [x]).length c1, .slice a2 (kk ++ [g]).length c2] 103 (0, 0)) :: row e_ItA.T e_ItA.sz a1 ((ki ++ [x])).length c1 (flat e_ItA (ki ++ [x])) :: row eN99.T eN99.sz a2 ((kk ++ [g])).length c2 (flat eN99 (kk ++ [g])) :: blk rb (.cells #[.slice ra (ri.drop 1).length rc, .slice rka (rk.drop 1).length rkc] 103 (0, 0)) :: row e_ItA.T e_ItA.sz ra ((ri.drop 1)).length rc (flat e_ItA (ri.drop 1)) :: row eN99.T eN99.sz rka ((rk.drop 1)).length rkc (flat eN99 (rk.drop 1)) :: blk lb (.cells #[.slice la (li).length lc, .slice lka (lk).length lkc] 103 (0, 0)) :: row e_ItA.T e_ItA.sz la (li).length lc (flat e_ItA li) :: row eN99.T eN99.sz lka (lk).length lkc (flat eN99 lk) :: F))) := by
 refine f_door (l0 := [(0, .pointer (some ⟨b, 0, none⟩)), (1, .int .i64 (j : Int))]) Try.func73 Try.ntmps73 rfl rfl rfl ?_
 refine c_seq ?_
 have hil := (List.getElem?_eq_some_iff.1 hk).1
 have hir := (List.getElem?_eq_some_iff.1 hrb).1
 refine c_region ?_
 refine o_move rfl rfl ?_
 refine o_nil rfl rfl ?_
 refine o_fieldAddr (q := ⟨b, 1, none⟩) rfl rfl Try.underlying103 rfl ti101 rfl ?_
 refine o_load1 rfl rfl Try.underlying101 rfl (rd_mem 0 rfl rfl) ?_
 refine o_move rfl rfl ?_
 refine o_index eN99_ok rfl rfl rfl Try.underlying101 (by omega) (by omega) (rds_own eN99_ok 2 rfl) fun ad15 ead15 => ?_
 obtain ⟨x15, hx15⟩ : ∃ x, (nk)[((j : Int)).toNat]? = some x := ⟨_, List.getElem?_eq_getElem (by omega)⟩
 have hxk15 : x15 = kb := by have h9 := hx15; rw [show ((j : Int)).toNat = j from by omega, hk] at h9; exact (Option.some.inj h9).symm
 refine o_load1 rfl rfl Try.underlying99 rfl (rd_sl0 eN99_ok ead15 (rds_own eN99_ok 2 rfl) hx15 rfl) ?_
 refine l_eq (t := 16) (v' := .pointer (some ⟨kb, 0, none⟩)) rfl (by rw [hxk15]) ?_
 refine o_assign rfl rfl ?_
 refine l_nil ?_
 refine q_then ?_
 refine c_block ?_
 refine c_seq ?_
 refine c_region ?_
 refine o_move rfl rfl ?_
 refine o_nil rfl rfl ?_
 refine o_fieldAddr (q := ⟨kb, 0, none⟩) rfl rfl Try.underlying103 rfl ti100 rfl ?_
 refine o_load1 rfl rfl Try.underlying100 rfl (rd_mem 3 rfl rfl) ?_
 refine o_len rfl rfl Try.underlying100 ?_
 refine o_bin rfl rfl rfl b_geq ?_
 refine l_eq (t := 96) (v' := .bool false) rfl (show _ = Value.bool false from by rw [decide_eq_false (by omega)]) ?_
 refine o_assign rfl rfl ?_
 refine l_nil ?_
 refine q_then ?_
 refine c_false rfl ?_
 refine c_seq ?_
 refine c_region ?_
 refine o_move rfl rfl ?_
 refine o_bin rfl rfl rfl b_gtr ?_
 refine l_eq (t := 99) (v' := .bool true) rfl (show _ = Value.bool true from by rw [decide_eq_true (by omega)]) ?_
 refine o_move rfl rfl ?_
 refine o_yes rfl rfl rfl ?_
 refine o_move rfl rfl ?_
 refine o_yes rfl rfl rfl ?_
 refine o_nil rfl rfl ?_
 refine o_yes rfl rfl rfl ?_
 refine o_fieldAddr (q := ⟨b, 1, none⟩) rfl rfl Try.underlying103 rfl ti101 rfl ?_
 refine o_yes rfl rfl rfl ?_
 refine o_load1 rfl rfl Try.underlying101 rfl (rd_mem 0 rfl rfl) ?_
 refine o_yes rfl rfl rfl ?_
 refine o_move rfl rfl ?_
 refine o_yes rfl rfl rfl ?_
 refine o_bin rfl rfl rfl (b_sub (show IntKind.i64.wrap ((j : Int) - 1) = ((j - 1 : Nat) : Int) from by rw [wrap_i64 (by omega) (by omega)]; omega)) ?_
 refine o_yes rfl rfl rfl ?_
 refine o_indexK eN99_ok ead15 rfl rfl rfl Try.underlying101 (by omega) (by omega) ?_
 obtain ⟨x107, hx107⟩ : ∃ x, (nk)[(((j - 1 : Nat) : Int)).toNat]? = some x := ⟨_, List.getElem?_eq_getElem (by omega)⟩
 have hxk107 : x107 = lb := by have h9 := hx107; rw [show (((j - 1 : Nat) : Int)).toNat = j - 1 from by omega, hlb] at h9; exact (Option.some.inj h9).symm
 refine o_yes rfl rfl rfl ?_
 refine o_load1 rfl rfl Try.underlying99 rfl (rd_sl0 eN99_ok ead15 (rds_own eN99_ok 2 rfl) hx107 rfl) ?_
 refine l_eq (t := 108) (v' := .pointer (some ⟨lb, 0, none⟩)) rfl (by rw [hxk107]) ?_
 refine o_yes rfl rfl rfl ?_
 refine o_nil rfl rfl ?_
 refine o_yes rfl rfl rfl ?_
 refine o_fieldAddr (q := ⟨lb, 0, none⟩) rfl rfl Try.underlying103 rfl ti100 rfl ?_
 refine o_yes rfl rfl rfl ?_
 refine o_load1 rfl rfl Try.underlying100 rfl (rd_mem 9 rfl rfl) ?_
 refine o_yes rfl rfl rfl ?_
 refine o_len rfl rfl Try.underlying100 ?_
 refine o_yes rfl rfl rfl ?_
 refine o_bin rfl rfl rfl b_gtr ?_
 refine l_eq (t := 113) (v' := .bool false) rfl (show _ = Value.bool false from by rw [decide_eq_false (by omega)]) ?_
 refine o_pick_true rfl rfl rfl ?_
 refine o_assign rfl rfl ?_
 refine l_nil ?_
 refine q_then ?_
 refine c_false rfl ?_
 refine c_seq ?_
 refine c_region ?_
 refine o_move rfl rfl ?_
 refine o_bin rfl rfl rfl (b_add (show IntKind.i64.wrap ((j : Int) + 1) = ((j + 1 : Nat) : Int) from by rw [wrap_i64 (by omega) (by omega)]; omega)) ?_
 refine o_move rfl rfl ?_
 refine o_nil rfl rfl ?_
 refine o_fieldAddr (q := ⟨b, 1, none⟩) rfl rfl Try.underlying103 rfl ti101 rfl ?_
 refine o_load1 rfl rfl Try.underlying101 rfl (rd_mem 0 rfl rfl) ?_
 refine o_len rfl rfl Try.underlying101 ?_
 refine o_bin rfl rfl rfl b_lss ?_
 refine l_eq (t := 210) (v' := .bool true) rfl (show _ = Value.bool true from by rw [decide_eq_true (by omega)]) ?_
 refine o_move rfl rfl ?_
 refine o_yes rfl rfl rfl ?_
 refine o_move rfl rfl ?_
 refine o_yes rfl rfl rfl ?_
 refine o_nil rfl rfl ?_
 refine o_yes rfl rfl rfl ?_
 refine o_fieldAddr (q := ⟨b, 1, none⟩) rfl rfl Try.underlying103 rfl ti101 rfl ?_
 refine o_yes rfl rfl rfl ?_
 refine o_load1 rfl rfl Try.underlying101 rfl (rd_mem 0 rfl rfl) ?_
 refine o_yes rfl rfl rfl ?_
 refine o_move rfl rfl ?_
 refine o_yes rfl rfl rfl ?_
 refine o_bin rfl rfl rfl (b_add (show IntKind.i64.wrap ((j : Int) + 1) = ((j + 1 : Nat) : Int) from by rw [wrap_i64 (by omega) (by omega)]; omega)) ?_
 refine o_yes rfl rfl rfl ?_
 refine o_indexK eN99_ok ead15 rfl rfl rfl Try.underlying101 (by omega) (by omega) ?_
 obtain ⟨x218, hx218⟩ : ∃ x, (nk)[(((j + 1 : Nat) : Int)).toNat]? = some x := ⟨_, List.getElem?_eq_getElem (by omega)⟩
 have hxk218 : x218 = rb := by have h9 := hx218; rw [show (((j + 1 : Nat) : Int)).toNat = j + 1 from by omega, hrb] at h9; exact (Option.some.inj h9).symm
 refine o_yes rfl rfl rfl ?_
 refine o_load1 rfl rfl Try.underlying99 rfl (rd_sl0 eN99_ok ead15 (rds_own eN99_ok 2 rfl) hx218 rfl) ?_
 refine l_eq (t := 219) (v' := .pointer (some ⟨rb, 0, none⟩)) rfl (by rw [hxk218]) ?_
 refine o_yes rfl rfl rfl ?_
 refine o_nil rfl rfl ?_
 refine o_yes rfl rfl rfl ?_
 refine o_fieldAddr (q := ⟨rb, 0, none⟩) rfl rfl Try.underlying103 rfl ti100 rfl ?_
 refine o_yes rfl rfl rfl ?_
 refine o_load1 rfl rfl Try.underlying100 rfl (rd_mem 6 rfl rfl) ?_
 refine o_yes rfl rfl rfl ?_
 refine o_len rfl rfl Try.underlying100 ?_
 refine o_yes rfl rfl rfl ?_
 refine o_bin rfl rfl rfl b_gtr ?_
 refine l_eq (t := 224) (v' := .bool true) rfl (show _ = Value.bool true from by rw [decide_eq_true (by omega)]) ?_
 refine o_pick_true rfl rfl rfl ?_
 refine o_assign rfl rfl ?_
 refine l_nil ?_
 refine q_then ?_
 refine c_true rfl ?_
 refine c_seq ?_
 refine c_region ?_
 refine o_move rfl rfl ?_
 refine o_nil rfl rfl ?_
 refine o_fieldAddr (q := ⟨b, 1, none⟩) rfl rfl Try.underlying103 rfl ti101 rfl ?_
 refine o_load1 rfl rfl Try.underlying101 rfl (rd_mem 0 rfl rfl) ?_
 refine o_move rfl rfl ?_
 refine o_bin rfl rfl rfl (b_add (show IntKind.i64.wrap ((j : Int) + 1) = ((j + 1 : Nat) : Int) from by rw [wrap_i64 (by omega) (by omega)]; omega)) ?_
 refine o_indexK eN99_ok ead15 rfl rfl rfl Try.underlying101 (by omega) (by omega) ?_
 obtain ⟨x232, hx232⟩ : ∃ x, (nk)[(((j + 1 : Nat) : Int)).toNat]? = some x := ⟨_, List.getElem?_eq_getElem (by omega)⟩
 have hxk232 : x232 = rb := by have h9 := hx232; rw [show (((j + 1 : Nat) : Int)).toNat = j + 1 from by omega, hrb] at h9; exact (Option.some.inj h9).symm
 refine o_load1 rfl rfl Try.underlying99 rfl (rd_sl0 eN99_ok ead15 (rds_own eN99_ok 2 rfl) hx232 rfl) ?_
 refine l_eq (t := 233) (v' := .pointer (some ⟨rb, 0, none⟩)) rfl (by rw [hxk232]) ?_
 refine o_assign rfl rfl ?_
 refine l_nil ?_
 refine q_then ?_
 refine c_seq ?_
 refine c_mid (α := (Option Addr) × Nat × (Option Addr) × ItA) (fun z => [(0, .pointer (some ⟨b, 0, none⟩)), (1, .int .i64 (j : Int)), (4, .pointer (some ⟨kb, 0, none⟩)), (7, .pointer (some ⟨rb, 0, none⟩)), (10, .pointer (some ⟨b, 0, none⟩)), (11, .pointer (some ⟨b, 0, none⟩)), (12, .pointer (some ⟨b, 1, none⟩)), (13, .slice nka (nk).length nkc), (14, .int .i64 (j : Int)), (16, .pointer (some ⟨kb, 0, none⟩)), (90, .bool false), (91, .pointer (some ⟨kb, 0, none⟩)), (92, .pointer (some ⟨kb, 0, none⟩)), (93, .pointer (some ⟨kb, 0, none⟩)), (94, .slice ka (ki).length kc), (95, .int .i64 ((ki).length : Int)), (96, .bool false), (97, .bool false), (98, .int .i64 (j : Int)), (99, .bool true), (100, .bool true), (101, .pointer (some ⟨b, 0, none⟩)), (102, .pointer (some ⟨b, 0, none⟩)), (103, .pointer (some ⟨b, 1, none⟩)), (104, .slice nka (nk).length nkc), (105, .int .i64 (j : Int)), (106, .int .i64 ((j - 1 : Nat) : Int)), (108, .pointer (some ⟨lb, 0, none⟩)), (109, .pointer (some ⟨lb, 0, none⟩)), (110, .pointer (some ⟨lb, 0, none⟩)), (111, .slice la (li).length lc), (112, .int .i64 ((li).length : Int)), (113, .bool false), (114, .bool false), (202, .bool true), (203, .int .i64 (j : Int)), (204, .int .i64 ((j + 1 : Nat) : Int)), (205, .pointer (some ⟨b, 0, none⟩)), (206, .pointer (some ⟨b, 0, none⟩)), (207, .pointer (some ⟨b, 1, none⟩)), (208, .slice nka (nk).length nkc), (209, .int .i64 ((nk).length : Int)), (210, .bool true), (211, .bool true), (212, .pointer (some ⟨b, 0, none⟩)), (213, .pointer (some ⟨b, 0, none⟩)), (214, .pointer (some ⟨b, 1, none⟩)), (215, .slice nka (nk).length nkc), (216, .int .i64 (j : Int)), (217, .int .i64 ((j + 1 : Nat) : Int)), (219, .pointer (some ⟨rb, 0, none⟩)), (220, .pointer (some ⟨rb, 0, none⟩)), (221, .pointer (some ⟨rb, 0, none⟩)), (222, .slice ra (ri).length rc), (223, .int .i64 ((ri).length : Int)), (224, .bool true), (225, .bool true), (226, .pointer (some ⟨b, 0, none⟩)), (227, .pointer (some ⟨b, 0, none⟩)), (228, .pointer (some ⟨b, 1, none⟩)), (229, .slice nka (nk).length nkc), (230, .int .i64 (j : Int)), (231, .int .i64 ((j + 1 : Nat) : Int)), (233, .pointer (some ⟨rb, 0, none⟩)), (234, .pointer (some ⟨kb, 0, none⟩)), (235, .pointer (some ⟨kb, 0, none⟩)), (236, .pointer (some ⟨kb, 0, none⟩)), (237, .pointer (some ⟨kb, 0, none⟩)), (238, .slice ka (ki).length kc), (239, .pointer (some ⟨b, 0, none⟩)), (240, .pointer (some ⟨b, 0, none⟩)), (241, .pointer (some ⟨b, 0, none⟩)), (242, .slice na (its).length nc), (243, .int .i64 (j : Int)), (245, .agg #[.string z.2.2.2.f_key, .bool z.2.2.2.f_value.f_Has, .slice z.2.2.2.f_value.f_Value.a (z.2.2.2.f_value.f_Value.xs).length z.2.2.2.f_value.f_Value.c, .int .i64 z.2.2.2.f_value.f_Home, .int .u64 z.2.2.2.f_value.f_Count]), (246, .slice z.2.2.1 ([z.2.2.2]).length 1), (247, .slice z.1 (ki ++ [z.2.2.2]).length z.2.1), (248, .pointer (some ⟨kb, 0, none⟩)), (249, .pointer (some ⟨kb, 0, none⟩))]) (fun z => blk kb (.cells #[.slice z.1 (ki ++ [z.2.2.2]).length z.2.1, .slice kka (kk).length kkc] 103 (0, 0)) :: row e_ItA.T e_ItA.sz z.1 (ki ++ [z.2.2.2]).length z.2.1 (flat e_ItA (ki ++ [z.2.2.2])) :: blk b (.cells #[.slice na (its).length nc, .slice nka (nk).length nkc] 103 (0, 0)) :: row e_ItA.T e_ItA.sz na (its).length nc (flat e_ItA its) :: row eN99.T eN99.sz nka (nk).length nkc (flat eN99 nk) :: row eN99.T eN99.sz kka (kk).length kkc (flat eN99 kk) :: blk rb (.cells #[.slice ra (ri).length rc, .slice rka (rk).length rkc] 103 (0, 0)) :: row e_ItA.T e_ItA.sz ra (ri).length rc (flat e_ItA ri) :: row eN99.T eN99.sz rka (rk).length rkc (flat eN99 rk) :: blk lb (.cells #[.slice la (li).length lc, .slice lka (lk).length lkc] 103 (0, 0)) :: row e_ItA.T e_ItA.sz la (li).length lc (flat e_ItA li) :: row eN99.T eN99.sz lka (lk).length lkc (flat eN99 lk) :: F) (fun z => its[((j : Int)).toNat]? = some z.2.2.2) ?_ ?_
 · -- cut
  refine c_fact (p := ∃ ad, na = some ad) (rds_some (e := e_ItA) (xs := its) (rds_own e_ItA_ok 1 rfl) (by intro h0; rw [h0] at h2; simp at h2; omega)) ?_
  rintro ⟨adx, eadx⟩
  refine c_conv (fun w S => S.perm p4) ?_
  refine c_conv (fun w S => S.perm p4) ?_
  refine c_conv (fun w S => S.perm p11) ?_
  refine c_conv (fun w S => S.perm p11) ?_
  refine c_conv (fun w S => S.perm p11) ?_
  refine c_conv (fun w S => S.perm p11) ?_
  refine c_conv (fun w S => S.perm p11) ?_
  refine c_conv (fun w S => S.perm p11) ?_
  refine c_conv (fun w S => S.perm p11) ?_
  refine c_conv (fun w S => S.perm p11) ?_
  refine c_conv (fun w S => S.perm p11) ?_
  refine c_conv (fun w S => S.perm p11) ?_
  refine c_held [blk b (.cells #[.slice na (its).length nc, .slice nka (nk).length nkc] 103 (0, 0)), row e_ItA.T e_ItA.sz na (its).length nc (flat e_ItA its), row eN99.T eN99.sz nka (nk).length nkc (flat eN99 nk), row eN99.T eN99.sz kka (kk).length kkc (flat eN99 kk), blk rb (.cells #[.slice ra (ri).length rc, .slice rka (rk).length rkc] 103 (0, 0)), row e_ItA.T e_ItA.sz ra (ri).length rc (flat e_ItA ri), row eN99.T eN99.sz rka (rk).length rkc (flat eN99 rk), blk lb (.cells #[.slice la (li).length lc, .slice lka (lk).length lkc] 103 (0, 0)), row e_ItA.T e_ItA.sz la (li).length lc (flat e_ItA li), row eN99.T eN99.sz lka (lk).length lkc (flat eN99 lk)] (by kernel_rfl) rfl ?_
  refine h_take 0 rfl rfl (by kernel_rfl) (by kernel_rfl) (by kernel_rfl) (fun L0 => v_move rfl rfl) ?_
  refine h_take 1 rfl rfl (by kernel_rfl) (by kernel_rfl) (by kernel_rfl) (fun L0 => v_move rfl rfl) ?_
  refine h_take 2 rfl rfl (by kernel_rfl) (by kernel_rfl) (by kernel_rfl) (fun L0 => v_nil rfl rfl) ?_
  refine h_take 3 rfl rfl (by kernel_rfl) (by kernel_rfl) (by kernel_rfl) (fun L0 => v_fieldAddr (q := ⟨kb, 0, none⟩) rfl rfl Try.underlying103 rfl ti100 rfl) ?_
  refine h_take 5 rfl rfl (by kernel_rfl) (by kernel_rfl) (by kernel_rfl) (fun L0 => v_move rfl rfl) ?_
  refine h_take 6 rfl rfl (by kernel_rfl) (by kernel_rfl) (by kernel_rfl) (fun L0 => v_nil rfl rfl) ?_
  refine h_take 7 rfl rfl (by kernel_rfl) (by kernel_rfl) (by kernel_rfl) (fun L0 => v_fieldAddr (q := ⟨b, 0, none⟩) rfl rfl Try.underlying103 rfl ti100 rfl) ?_
  refine h_take 8 rfl rfl (by kernel_rfl) (by kernel_rfl) (by kernel_rfl) (fun L0 => v_load1 rfl rfl Try.underlying100 rfl (rd_mem 0 rfl rfl)) ?_
  refine h_take 9 rfl rfl (by kernel_rfl) (by kernel_rfl) (by kernel_rfl) (fun L0 => v_move rfl rfl) ?_
  refine h_take 10 rfl rfl (by kernel_rfl) (by kernel_rfl) (by kernel_rfl) (fun L0 => v_indexK e_ItA_ok eadx rfl rfl rfl Try.underlying100 (by omega) (by omega)) ?_
  obtain ⟨x244, hx244⟩ : ∃ x, (its)[((j : Int)).toNat]? = some x := ⟨_, List.getElem?_eq_getElem (by omega)⟩
  refine h_take 11 rfl rfl (by kernel_rfl) (by kernel_rfl) (by kernel_rfl) (fun L0 => v_loadn (vs := e_ItA.cells x244) rfl rfl Try.underlying110 rfl ti110 (rdn_sl e_ItA_ok eadx (rds_own e_ItA_ok 1 rfl) hx244)) ?_
  refine h_many (is := [4, 12]) (by kernel_rfl) (by decide) (forall_cons ⟨_, rfl, ?_⟩ (forall_cons ⟨_, rfl, ?_⟩ forall_nil))
  · -- 4 comes first
   refine o_load1 rfl rfl Try.underlying100 rfl (rd_mem 10 rfl rfl) ?_
   refine l_nil ?_
   refine h_next ?_
   refine h_one 12 rfl (by kernel_rfl) ?_
   refine o_lit e_ItA_ok rfl Try.underlying100 rfl rfl rfl (lit_ok rfl) [x244] rfl rfl fun a246 => ?_
   refine l_nil ?_
   refine q_conv (fun w S => S.perm p12) ?_
   refine q_conv (fun w S => S.perm p12) ?_
   refine q_conv (fun w S => S.perm p2) ?_
   refine q_conv (fun w S => S.perm p12) ?_
   refine q_conv (fun w S => S.perm p12) ?_
   refine q_conv (fun w S => S.perm p12) ?_
   refine q_conv (fun w S => S.perm p12) ?_
   refine q_conv (fun w S => S.perm p12) ?_
   refine q_conv (fun w S => S.perm p12) ?_
   refine q_conv (fun w S => S.perm p12) ?_
   refine q_conv (fun w S => S.perm p12) ?_
   refine q_conv (fun w S => S.perm p12) ?_
   refine q_conv (fun w S => S.perm p12) ?_
   refine h_next ?_
   refine h_one 13 rfl (by kernel_rfl) ?_
   refine l_f12 ?_
   refine o_append e_ItA_ok rfl rfl rfl Try.underlying100 (rds_own e_ItA_ok 11 rfl) (by show (_ + _) * 64 ≤ _; (try simp only [List.length_append, List.length_cons, List.length_nil]); omega) (by (try simp only [List.length_append, List.length_cons, List.length_nil]); omega) fun a247 c247 => ?_
   refine l_f11 ?_
   refine l_drop ?_
   refine l_nil ?_
   refine q_conv (fun w S => S.perm p11) ?_
   refine q_conv (fun w S => S.perm p1) ?_
   refine q_conv (fun w S => S.perm p11) ?_
   refine q_conv (fun w S => S.perm p11) ?_
   refine q_conv (fun w S => S.perm p11) ?_
   refine q_conv (fun w S => S.perm p11) ?_
   refine q_conv (fun w S => S.perm p11) ?_
   refine q_conv (fun w S => S.perm p11) ?_
   refine q_conv (fun w S => S.perm p11) ?_
   refine q_conv (fun w S => S.perm p11) ?_
   refine q_conv (fun w S => S.perm p11) ?_
   refine q_conv (fun w S => S.perm p11) ?_
   refine h_next ?_
   refine h_take 14 rfl rfl (by kernel_rfl) (by kernel_rfl) (by kernel_rfl) (fun L0 => v_nil rfl rfl) ?_
   refine h_take 15 rfl rfl (by kernel_rfl) (by kernel_rfl) (by kernel_rfl) (fun L0 => v_fieldAddr (q := ⟨kb, 0, none⟩) rfl rfl Try.underlying103 rfl ti100 rfl) ?_
   refine h_one 16 rfl (by kernel_rfl) ?_
   refine l_f11 ?_
   refine o_store1 rfl rfl rfl ti100 rfl rfl ?_
   refine l_nil ?_
   refine q_conv (fun w S => S.perm p11) ?_
   refine q_conv (fun w S => S.perm p1) ?_
   refine q_conv (fun w S => S.perm p11) ?_
   refine q_conv (fun w S => S.perm p11) ?_
   refine q_conv (fun w S => S.perm p11) ?_
   refine q_conv (fun w S => S.perm p11) ?_
   refine q_conv (fun w S => S.perm p11) ?_
   refine q_conv (fun w S => S.perm p11) ?_
   refine q_conv (fun w S => S.perm p11) ?_
   refine q_conv (fun w S => S.perm p11) ?_
   refine q_conv (fun w S => S.perm p11) ?_
   refine q_conv (fun w S => S.perm p11) ?_
   refine h_next ?_
   refine h_done (by kernel_rfl) ?_
   refine q_conv (fun w S => S.perm p9) ?_
   refine q_conv (fun w S => S.perm p9) ?_
   refine q_conv (fun w S => S.perm p9) ?_
   refine q_conv (fun w S => S.perm p9) ?_
   refine q_conv (fun w S => S.perm p9) ?_
   refine q_conv (fun w S => S.perm p9) ?_
   refine q_conv (fun w S => S.perm p9) ?_
   refine q_conv (fun w S => S.perm p9) ?_
   refine q_conv (fun w S => S.perm p9) ?_
   refine q_conv (fun w S => S.perm p9) ?_
   refine q_conv (fun w S => S.perm p11) ?_
   refine q_conv (fun w S => S.perm p11) ?_
   exact q_mid (a247, c247, a246, x244) (by exact hx244) ⟨(by first | rfl | exact vint (by omega)), (by first | rfl | exact vint (by omega)), (by first | rfl | exact vint (by omega)), (by first | rfl | exact vint (by omega)), (by first | rfl | exact vint (by omega)), (by first | rfl | exact vint (by omega)), (by first | rfl | exact vint (by omega)), (by first | rfl | exact vint (by omega)), (by first | rfl | exact vint (by omega)), (by first | rfl | exact vint (by omega)), (by first | rfl | exact vint (by omega)), (by first | rfl | exact vint (by omega)), (by first | rfl | exact vint (by omega)), (by first | rfl | exact vint (by omega)), (by first | rfl | exact vint (by omega)), (by first | rfl | exact vint (by omega)), (by first | rfl | exact vint (by omega)), (by first | rfl | exact vint (by omega)), (by first | rfl | exact vint (by omega)), (by first | rfl | exact vint (by omega)), (by first | rfl | exact vint (by omega)), (by first | rfl | exact vint (by omega)), (by first | rfl | exact vint (by omega)), (by first | rfl | exact vint (by omega)), (by first | rfl | exact vint (by omega)), (by first | rfl | exact vint (by omega)), (by first | rfl | exact vint (by omega)), (by first | rfl | exact vint (by omega)), (by first | rfl | exact vint (by omega)), (by first | rfl | exact vint (by omega)), (by first | rfl | exact vint (by omega)), (by first | rfl | exact vint (by omega)), (by first | rfl | exact vint (by omega)), (by first | rfl | exact vint (by omega)), (by first | rfl | exact vint (by omega)), (by first | rfl | exact vint (by omega)), (by first | rfl | exact vint (by omega)), (by first | rfl | exact vint (by omega)), (by first | rfl | exact vint (by omega)), (by first | rfl | exact vint (by omega)), (by first | rfl | exact vint (by omega)), (by first | rfl | exact vint (by omega)), (by first | rfl | exact vint (by omega)), (by first | rfl | exact vint (by omega)), (by first | rfl | exact vint (by omega)), (by first | rfl | exact vint (by omega)), (by first | rfl | exact vint (by omega)), (by first | rfl | exact vint (by omega)), (by first | rfl | exact vint (by omega)), (by first | rfl | exact vint (by omega)), (by first | rfl | exact vint (by omega)), (by first | rfl | exact vint (by omega)), (by first | rfl | exact vint (by omega)), (by first | rfl | exact vint (by omega)), (by first | rfl | exact vint (by omega)), (by first | rfl | exact vint (by omega)), (by first | rfl | exact vint (by omega)), (by first | rfl | exact vint (by omega)), (by first | rfl | exact vint (by omega)), (by first | rfl | exact vint (by omega)), (by first | rfl | exact vint (by omega)), (by first | rfl | exact vint (by omega)), (by first | rfl | exact vint (by omega)), (by first | rfl | exact vint (by omega)), (by first | rfl | exact vint (by omega)), (by first | rfl | exact vint (by omega)), (by first | rfl | exact vint (by omega)), (by first | rfl | exact vint (by omega)), (by first | rfl | exact vint (by omega)), (by first | rfl | exact vint (by omega)), (by first | rfl | exact vint (by omega)), (by first | rfl | exact vint (by omega)), (by first | rfl | exact vint (by omega)), (by first | rfl | exact vint (by omega)), (by first | rfl | exact vint (by omega)), (by first | rfl | exact vint (by omega)), (by first | rfl | exact vint (by omega)), (by first | rfl | exact vint (by omega)), (by first | rfl | exact vint (by omega)), trivial⟩ (fun w S => S)
  · -- 12 comes first
   refine o_lit e_ItA_ok rfl Try.underlying100 rfl rfl rfl (lit_ok rfl) [x244] rfl rfl fun a246 => ?_
   refine l_nil ?_
   refine q_conv (fun w S => S.perm p12) ?_
   refine q_conv (fun w S => S.perm p12) ?_
   refine q_conv (fun w S => S.perm p2) ?_
   refine q_conv (fun w S => S.perm p12) ?_
   refine q_conv (fun w S => S.perm p12) ?_
   refine q_conv (fun w S => S.perm p12) ?_
   refine q_conv (fun w S => S.perm p12) ?_
   refine q_conv (fun w S => S.perm p12) ?_
   refine q_conv (fun w S => S.perm p12) ?_
   refine q_conv (fun w S => S.perm p12) ?_
   refine q_conv (fun w S => S.perm p12) ?_
   refine q_conv (fun w S => S.perm p12) ?_
   refine q_conv (fun w S => S.perm p12) ?_
   refine h_next ?_
   refine h_one 4 rfl (by kernel_rfl) ?_
   refine o_load1 rfl rfl Try.underlying100 rfl (rd_mem 11 rfl rfl) ?_
   refine l_nil ?_
   refine h_next ?_
   refine h_one 13 rfl (by kernel_rfl) ?_
   refine l_f12 ?_
   refine o_append e_ItA_ok rfl rfl rfl Try.underlying100 (rds_own e_ItA_ok 11 rfl) (by show (_ + _) * 64 ≤ _; (try simp only [List.length_append, List.length_cons, List.length_nil]); omega) (by (try simp only [List.length_append, List.length_cons, List.length_nil]); omega) fun a247 c247 => ?_
   refine l_f11 ?_
   refine l_drop ?_
   refine l_nil ?_
   refine q_conv (fun w S => S.perm p11) ?_
   refine q_conv (fun w S => S.perm p1) ?_
   refine q_conv (fun w S => S.perm p11) ?_
   refine q_conv (fun w S => S.perm p11) ?_
   refine q_conv (fun w S => S.perm p11) ?_
   refine q_conv (fun w S => S.perm p11) ?_
   refine q_conv (fun w S => S.perm p11) ?_
   refine q_conv (fun w S => S.perm p11) ?_
   refine q_conv (fun w S => S.perm p11) ?_
   refine q_conv (fun w S => S.perm p11) ?_
   refine q_conv (fun w S => S.perm p11) ?_
   refine q_conv (fun w S => S.perm p11) ?_
   refine h_next ?_
   refine h_take 14 rfl rfl (by kernel_rfl) (by kernel_rfl) (by kernel_rfl) (fun L0 => v_nil rfl rfl) ?_
   refine h_take 15 rfl rfl (by kernel_rfl) (by kernel_rfl) (by kernel_rfl) (fun L0 => v_fieldAddr (q := ⟨kb, 0, none⟩) rfl rfl Try.underlying103 rfl ti100 rfl) ?_
   refine h_one 16 rfl (by kernel_rfl) ?_
   refine l_f11 ?_
   refine o_store1 rfl rfl rfl ti100 rfl rfl ?_
   refine l_nil ?_
   refine q_conv (fun w S => S.perm p11) ?_
   refine q_conv (fun w S => S.perm p1) ?_
   refine q_conv (fun w S => S.perm p11) ?_
   refine q_conv (fun w S => S.perm p11) ?_
   refine q_conv (fun w S => S.perm p11) ?_
   refine q_conv (fun w S => S.perm p11) ?_
   refine q_conv (fun w S => S.perm p11) ?_
   refine q_conv (fun w S => S.perm p11) ?_
   refine q_conv (fun w S => S.perm p11) ?_
   refine q_conv (fun w S => S.perm p11) ?_
   refine q_conv (fun w S => S.perm p11) ?_
   refine q_conv (fun w S => S.perm p11) ?_
   refine h_next ?_
   refine h_done (by kernel_rfl) ?_
   refine q_conv (fun w S => S.perm p9) ?_
   refine q_conv (fun w S => S.perm p9) ?_
   refine q_conv (fun w S => S.perm p9) ?_
   refine q_conv (fun w S => S.perm p9) ?_
   refine q_conv (fun w S => S.perm p9) ?_
   refine q_conv (fun w S => S.perm p9) ?_
   refine q_conv (fun w S => S.perm p9) ?_
   refine q_conv (fun w S => S.perm p9) ?_
   refine q_conv (fun w S => S.perm p9) ?_
   refine q_conv (fun w S => S.perm p9) ?_
   refine q_conv (fun w S => S.perm p11) ?_
   refine q_conv (fun w S => S.perm p11) ?_
   exact q_mid (a247, c247, a246, x244) (by exact hx244) ⟨(by first | rfl | exact vint (by omega)), (by first | rfl | exact vint (by omega)), (by first | rfl | exact vint (by omega)), (by first | rfl | exact vint (by omega)), (by first | rfl | exact vint (by omega)), (by first | rfl | exact vint (by omega)), (by first | rfl | exact vint (by omega)), (by first | rfl | exact vint (by omega)), (by first | rfl | exact vint (by omega)), (by first | rfl | exact vint (by omega)), (by first | rfl | exact vint (by omega)), (by first | rfl | exact vint (by omega)), (by first | rfl | exact vint (by omega)), (by first | rfl | exact vint (by omega)), (by first | rfl | exact vint (by omega)), (by first | rfl | exact vint (by omega)), (by first | rfl | exact vint (by omega)), (by first | rfl | exact vint (by omega)), (by first | rfl | exact vint (by omega)), (by first | rfl | exact vint (by omega)), (by first | rfl | exact vint (by omega)), (by first | rfl | exact vint (by omega)), (by first | rfl | exact vint (by omega)), (by first | rfl | exact vint (by omega)), (by first | rfl | exact vint (by omega)), (by first | rfl | exact vint (by omega)), (by first | rfl | exact vint (by omega)), (by first | rfl | exact vint (by omega)), (by first | rfl | exact vint (by omega)), (by first | rfl | exact vint (by omega)), (by first | rfl | exact vint (by omega)), (by first | rfl | exact vint (by omega)), (by first | rfl | exact vint (by omega)), (by first | rfl | exact vint (by omega)), (by first | rfl | exact vint (by omega)), (by first | rfl | exact vint (by omega)), (by first | rfl | exact vint (by omega)), (by first | rfl | exact vint (by omega)), (by first | rfl | exact vint (by omega)), (by first | rfl | exact vint (by omega)), (by first | rfl | exact vint (by omega)), (by first | rfl | exact vint (by omega)), (by first | rfl | exact vint (by omega)), (by first | rfl | exact vint (by omega)), (by first | rfl | exact vint (by omega)), (by first | rfl | exact vint (by omega)), (by first | rfl | exact vint (by omega)), (by first | rfl | exact vint (by omega)), (by first | rfl | exact vint (by omega)), (by first | rfl | exact vint (by omega)), (by first | rfl | exact vint (by omega)), (by first | rfl | exact vint (by omega)), (by first | rfl | exact vint (by omega)), (by first | rfl | exact vint (by omega)), (by first | rfl | exact vint (by omega)), (by first | rfl | exact vint (by omega)), (by first | rfl | exact vint (by omega)), (by first | rfl | exact vint (by omega)), (by first | rfl | exact vint (by omega)), (by first | rfl | exact vint (by omega)), (by first | rfl | exact vint (by omega)), (by first | rfl | exact vint (by omega)), (by first | rfl | exact vint (by omega)), (by first | rfl | exact vint (by omega)), (by first | rfl | exact vint (by omega)), (by first | rfl | exact vint (by omega)), (by first | rfl | exact vint (by omega)), (by first | rfl | exact vint (by omega)), (by first | rfl | exact vint (by omega)), (by first | rfl | exact vint (by omega)), (by first | rfl | exact vint (by omega)), (by first | rfl | exact vint (by omega)), (by first | rfl | exact vint (by omega)), (by first | rfl | exact vint (by omega)), (by first | rfl | exact vint (by omega)), (by first | rfl | exact vint (by omega)), (by first | rfl | exact vint (by omega)), (by first | rfl | exact vint (by omega)), (by first | rfl | exact vint (by omega)), trivial⟩ (fun w S => S)
 · -- behind the cut
  rintro ⟨a247, c247, a246, x244⟩ hx244
  try dsimp only at *
  refine c_seq ?_
  refine c_fact (p := ∃ ad, ra = some ad) (rds_some (e := e_ItA) (xs := ri) (rds_own e_ItA_ok 7 rfl) (by intro h0; rw [h0] at hr3; simp at hr3)) ?_
  rintro ⟨adr, eadr⟩
  refine c_fact (p := ∃ ad, na = some ad) (rds_some (e := e_ItA) (xs := its) (rds_own e_ItA_ok 3 rfl) (by intro h0; rw [h0] at h2; simp at h2; omega)) ?_
  rintro ⟨adn, eadn⟩
  refine c_conv (fun w S => S.perm p3) ?_
  refine c_conv (fun w S => S.perm p3) ?_
  refine c_conv (fun w S => S.perm p11) ?_
  refine c_conv (fun w S => S.perm p11) ?_
  refine c_conv (fun w S => S.perm p11) ?_
  refine c_conv (fun w S => S.perm p11) ?_
  refine c_conv (fun w S => S.perm p11) ?_
  refine c_conv (fun w S => S.perm p11) ?_
  refine c_conv (fun w S => S.perm p11) ?_
  refine c_conv (fun w S => S.perm p11) ?_
  refine c_conv (fun w S => S.perm p11) ?_
  refine c_conv (fun w S => S.perm p11) ?_
  refine c_held [blk kb (.cells #[.slice a247 (ki ++ [x244]).length c247, .slice kka (kk).length kkc] 103 (0, 0)), row e_ItA.T e_ItA.sz a247 (ki ++ [x244]).length c247 (flat e_ItA (ki ++ [x244])), row eN99.T eN99.sz nka (nk).length nkc (flat eN99 nk), row eN99.T eN99.sz kka (kk).length kkc (flat eN99 kk), blk rb (.cells #[.slice ra (ri).length rc, .slice rka (rk).length rkc] 103 (0, 0)), row e_ItA.T e_ItA.sz ra (ri).length rc (flat e_ItA ri), row eN99.T eN99.sz rka (rk).length rkc (flat eN99 rk), blk lb (.cells #[.slice la (li).length lc, .slice lka (lk).length lkc] 103 (0, 0)), row e_ItA.T e_ItA.sz la (li).length lc (flat e_ItA li), row eN99.T eN99.sz lka (lk).length lkc (flat eN99 lk)] (by kernel_rfl) rfl ?_
  refine h_take 0 rfl rfl (by kernel_rfl) (by kernel_rfl) (by kernel_rfl) (fun L0 => v_move rfl rfl) ?_
  refine h_take 1 rfl rfl (by kernel_rfl) (by kernel_rfl) (by kernel_rfl) (fun L0 => v_nil rfl rfl) ?_
  refine h_take 2 rfl rfl (by kernel_rfl) (by kernel_rfl) (by kernel_rfl) (fun L0 => v_fieldAddr (q := ⟨b, 0, none⟩) rfl rfl Try.underlying103 rfl ti100 rfl) ?_
  refine h_take 4 rfl rfl (by kernel_rfl) (by kernel_rfl) (by kernel_rfl) (fun L0 => v_move rfl rfl) ?_
  refine h_take 5 rfl rfl (by kernel_rfl) (by kernel_rfl) (by kernel_rfl) (fun L0 => v_move rfl rfl) ?_
  refine h_take 6 rfl rfl (by kernel_rfl) (by kernel_rfl) (by kernel_rfl) (fun L0 => v_nil rfl rfl) ?_
  refine h_take 7 rfl rfl (by kernel_rfl) (by kernel_rfl) (by kernel_rfl) (fun L0 => v_fieldAddr (q := ⟨rb, 0, none⟩) rfl rfl Try.underlying103 rfl ti100 rfl) ?_
  refine h_take 8 rfl rfl (by kernel_rfl) (by kernel_rfl) (by kernel_rfl) (fun L0 => v_load1 rfl rfl Try.underlying100 rfl (rd_mem 4 rfl rfl)) ?_
  refine h_take 9 rfl rfl (by kernel_rfl) (by kernel_rfl) (by kernel_rfl) (fun L0 => v_indexK e_ItA_ok eadr rfl rfl rfl Try.underlying100 (by omega) (by omega)) ?_
  obtain ⟨x259, hx259⟩ : ∃ x, (ri)[((0 : Int)).toNat]? = some x := ⟨_, List.getElem?_eq_getElem (by omega)⟩
  refine h_take 10 rfl rfl (by kernel_rfl) (by kernel_rfl) (by kernel_rfl) (fun L0 => v_loadn (vs := e_ItA.cells x259) rfl rfl Try.underlying110 rfl ti110 (rdn_sl e_ItA_ok eadr (rds_own e_ItA_ok 5 rfl) hx259)) ?_
  refine h_one 3 rfl (by kernel_rfl) ?_
  refine o_load1 rfl rfl Try.underlying100 rfl (rd_mem 10 rfl rfl) ?_
  refine l_nil ?_
  refine h_next ?_
  refine h_take 11 rfl rfl (by kernel_rfl) (by kernel_rfl) (by kernel_rfl) (fun L0 => v_indexK e_ItA_ok eadn rfl rfl rfl Try.underlying100 (by omega) (by omega)) ?_
  obtain ⟨x261, hx261⟩ : ∃ x, (its)[((j : Int)).toNat]? = some x := ⟨_, List.getElem?_eq_getElem (by omega)⟩
  refine h_one 12 rfl (by kernel_rfl) ?_
  refine l_f11 ?_
  refine o_storeRowAll e_ItA_ok eadn rfl rfl ti110 x259 rfl (by have := List.getElem?_eq_some_iff.1 hx261; exact this.1) ?_
  refine l_f11 ?_
  refine l_conv (L' := blk b (.cells #[.slice na (its).length nc, .slice nka (nk).length nkc] 103 (0, 0)) :: _) (fun w S => S) ?_
  refine l_conv (L' := blk b (.cells #[.slice na ((its).set ((j : Int)).toNat x259).length nc, .slice nka (nk).length nkc] 103 (0, 0)) :: row e_ItA.T e_ItA.sz na ((its).set ((j : Int)).toNat x259).length nc (flat e_ItA ((its).set ((j : Int)).toNat x259)) :: blk kb (.cells #[.slice a247 (ki ++ [x244]).length c247, .slice kka (kk).length kkc] 103 (0, 0)) :: row e_ItA.T e_ItA.sz a247 (ki ++ [x244]).length c247 (flat e_ItA (ki ++ [x244])) :: row eN99.T eN99.sz nka (nk).length nkc (flat eN99 nk) :: row eN99.T eN99.sz kka (kk).length kkc (flat eN99 kk) :: blk rb (.cells #[.slice ra (ri).length rc, .slice rka (rk).length rkc] 103 (0, 0)) :: row e_ItA.T e_ItA.sz ra (ri).length rc (flat e_ItA ri) :: row eN99.T eN99.sz rka (rk).length rkc (flat eN99 rk) :: blk lb (.cells #[.slice la (li).length lc, .slice lka (lk).length lkc] 103 (0, 0)) :: row e_ItA.T e_ItA.sz la (li).length lc (flat e_ItA li) :: row eN99.T eN99.sz lka (lk).length lkc (flat eN99 lk) :: F) (fun w S => by first | exact S | simpa only [List.length_set] using S | (simp only [List.length_set] at S ⊢; exact S)) ?_
  refine l_nil ?_
  refine q_conv (fun w S => S.perm p1) ?_
  refine q_conv (fun w S => S.perm p1) ?_
  refine q_conv (fun w S => S.perm p11) ?_
  refine q_conv (fun w S => S.perm p11) ?_
  refine q_conv (fun w S => S.perm p11) ?_
  refine q_conv (fun w S => S.perm p11) ?_
  refine q_conv (fun w S => S.perm p11) ?_
  refine q_conv (fun w S => S.perm p11) ?_
  refine q_conv (fun w S => S.perm p11) ?_
  refine q_conv (fun w S => S.perm p11) ?_
  refine q_conv (fun w S => S.perm p11) ?_
  refine q_conv (fun w S => S.perm p11) ?_
  refine h_next ?_
  refine h_done (by kernel_rfl) ?_
  refine q_then ?_
  refine c_seq ?_
  refine c_region ?_
  refine o_move rfl rfl ?_
  refine o_move rfl rfl ?_
  refine o_nil rfl rfl ?_
  refine o_fieldAddr (q := ⟨rb, 0, none⟩) rfl rfl Try.underlying103 rfl ti100 rfl ?_
  refine o_load1 rfl rfl Try.underlying100 rfl (rd_mem 4 rfl rfl) ?_
  refine l_f5 ?_
  refine o_call rfl cal71 rfl (delI_A (xs := ri) (i := 0) (j := 1) (by omega) (by omega) (by omega)) ?_
  rintro _ _ ⟨rfl, rfl⟩
  refine o_nil rfl rfl ?_
  refine o_fieldAddr (q := ⟨rb, 0, none⟩) rfl rfl Try.underlying103 rfl ti100 rfl ?_
  refine l_f5 ?_
  refine o_store1 rfl rfl rfl ti100 rfl rfl ?_
  refine l_nil ?_
  refine q_then ?_
  refine c_seq ?_
  refine c_region ?_
  refine o_move rfl rfl ?_
  refine o_nil rfl rfl ?_
  refine o_fieldAddr (q := ⟨rb, 1, none⟩) rfl rfl Try.underlying103 rfl ti101 rfl ?_
  refine o_load1 rfl rfl Try.underlying101 rfl (rd_mem 0 rfl rfl) ?_
  refine o_len rfl rfl Try.underlying101 ?_
  refine o_bin rfl rfl rfl b_gtr ?_
  refine l_nil ?_
  refine q_then ?_
  refine c_cond rfl (fun h1 => ?_) (fun h1 => ?_)
  · -- h1T
   have h1b := h1
   try simp only [decide_eq_true_eq] at h1
   refine c_seq ?_
   refine c_mid (α := (Option Addr) × Nat × (Option Addr) × Nat) (fun z => [(0, .pointer (some ⟨b, 0, none⟩)), (1, .int .i64 (j : Int)), (4, .pointer (some ⟨kb, 0, none⟩)), (7, .pointer (some ⟨rb, 0, none⟩)), (10, .pointer (some ⟨b, 0, none⟩)), (11, .pointer (some ⟨b, 0, none⟩)), (12, .pointer (some ⟨b, 1, none⟩)), (13, .slice nka (nk).length nkc), (14, .int .i64 (j : Int)), (16, .pointer (some ⟨kb, 0, none⟩)), (90, .bool false), (91, .pointer (some ⟨kb, 0, none⟩)), (92, .pointer (some ⟨kb, 0, none⟩)), (93, .pointer (some ⟨kb, 0, none⟩)), (94, .slice ka (ki).length kc), (95, .int .i64 ((ki).length : Int)), (96, .bool false), (97, .bool false), (98, .int .i64 (j : Int)), (99, .bool true), (100, .bool true), (101, .pointer (some ⟨b, 0, none⟩)), (102, .pointer (some ⟨b, 0, none⟩)), (103, .pointer (some ⟨b, 1, none⟩)), (104, .slice nka (nk).length nkc), (105, .int .i64 (j : Int)), (106, .int .i64 ((j - 1 : Nat) : Int)), (108, .pointer (some ⟨lb, 0, none⟩)), (109, .pointer (some ⟨lb, 0, none⟩)), (110, .pointer (some ⟨lb, 0, none⟩)), (111, .slice la (li).length lc), (112, .int .i64 ((li).length : Int)), (113, .bool false), (114, .bool false), (202, .bool true), (203, .int .i64 (j : Int)), (204, .int .i64 ((j + 1 : Nat) : Int)), (205, .pointer (some ⟨b, 0, none⟩)), (206, .pointer (some ⟨b, 0, none⟩)), (207, .pointer (some ⟨b, 1, none⟩)), (208, .slice nka (nk).length nkc), (209, .int .i64 ((nk).length : Int)), (210, .bool true), (211, .bool true), (212, .pointer (some ⟨b, 0, none⟩)), (213, .pointer (some ⟨b, 0, none⟩)), (214, .pointer (some ⟨b, 1, none⟩)), (215, .slice nka (nk).length nkc), (216, .int .i64 (j : Int)), (217, .int .i64 ((j + 1 : Nat) : Int)), (219, .pointer (some ⟨rb, 0, none⟩)), (220, .pointer (some ⟨rb, 0, none⟩)), (221, .pointer (some ⟨rb, 0, none⟩)), (222, .slice ra (ri).length rc), (223, .int .i64 ((ri).length : Int)), (224, .bool true), (225, .bool true), (226, .pointer (some ⟨b, 0, none⟩)), (227, .pointer (some ⟨b, 0, none⟩)), (228, .pointer (some ⟨b, 1, none⟩)), (229, .slice nka (nk).length nkc), (230, .int .i64 (j : Int)), (231, .int .i64 ((j + 1 : Nat) : Int)), (233, .pointer (some ⟨rb, 0, none⟩)), (234, .pointer (some ⟨kb, 0, none⟩)), (235, .pointer (some ⟨kb, 0, none⟩)), (236, .pointer (some ⟨kb, 0, none⟩)), (237, .pointer (some ⟨kb, 0, none⟩)), (238, .slice ka (ki).length kc), (239, .pointer (some ⟨b, 0, none⟩)), (240, .pointer (some ⟨b, 0, none⟩)), (241, .pointer (some ⟨b, 0, none⟩)), (242, .slice na ((its).set ((j : Int)).toNat x259).length nc), (243, .int .i64 (j : Int)), (245, .agg #[.string x244.f_key, .bool x244.f_value.f_Has, .slice x244.f_value.f_Value.a (x244.f_value.f_Value.xs).length x244.f_value.f_Value.c, .int .i64 x244.f_value.f_Home, .int .u64 x244.f_value.f_Count]), (246, .slice a246 ([x244]).length 1), (247, .slice a247 (ki ++ [x244]).length c247), (248, .pointer (some ⟨kb, 0, none⟩)), (249, .pointer (some ⟨kb, 0, none⟩)), (250, .pointer (some ⟨b, 0, none⟩)), (251, .pointer (some ⟨b, 0, none⟩)), (252, .pointer (some ⟨b, 0, none⟩)), (253, .slice na ((its).set ((j : Int)).toNat x259).length nc), (254, .int .i64 (j : Int)), (255, .pointer (some ⟨rb, 0, none⟩)), (256, .pointer (some ⟨rb, 0, none⟩)), (257, .pointer (some ⟨rb, 0, none⟩)), (258, .slice ra (ri).length rc), (260, .agg #[.string x259.f_key, .bool x259.f_value.f_Has, .slice x259.f_value.f_Value.a (x259.f_value.f_Value.xs).length x259.f_value.f_Value.c, .int .i64 x259.f_value.f_Home, .int .u64 x259.f_value.f_Count]), (262, .pointer (some ⟨rb, 0, none⟩)), (263, .pointer (some ⟨rb, 0, none⟩)), (264, .pointer (some ⟨rb, 0, none⟩)), (265, .pointer (some ⟨rb, 0, none⟩)), (266, .slice ra (ri).length rc), (267, .slice ra ((ri.take 0 ++ ri.drop 1)).length rc), (268, .pointer (some ⟨rb, 0, none⟩)), (269, .pointer (some ⟨rb, 0, none⟩)), (270, .pointer (some ⟨rb, 0, none⟩)), (271, .pointer (some ⟨rb, 0, none⟩)), (272, .pointer (some ⟨rb, 1, none⟩)), (273, .slice rka (rk).length rkc), (274, .int .i64 ((rk).length : Int)), (275, .bool (decide (0 < ((rk).length : Int)))), (276, .pointer (some ⟨kb, 0, none⟩)), (277, .pointer (some ⟨kb, 0, none⟩)), (278, .pointer (some ⟨kb, 0, none⟩)), (279, .pointer (some ⟨kb, 1, none⟩)), (280, .slice kka (kk).length kkc), (281, .pointer (some ⟨rb, 0, none⟩)), (282, .pointer (some ⟨rb, 0, none⟩)), (283, .pointer (some ⟨rb, 1, none⟩)), (284, .slice rka (rk).length rkc), (286, .pointer (some ⟨z.2.2.2, 0, none⟩)), (287, .slice z.2.2.1 ([z.2.2.2]).length 1), (288, .slice z.1 (kk ++ [z.2.2.2]).length z.2.1), (289, .pointer (some ⟨kb, 0, none⟩)), (290, .pointer (some ⟨kb, 1, none⟩))]) (fun z => blk kb (.cells #[.slice a247 (ki ++ [x244]).length c247, .slice z.1 (kk ++ [z.2.2.2]).length z.2.1] 103 (0, 0)) :: row eN99.T eN99.sz z.1 (kk ++ [z.2.2.2]).length z.2.1 (flat eN99 (kk ++ [z.2.2.2])) :: blk rb (.cells #[.slice ra ((ri.take 0 ++ ri.drop 1)).length rc, .slice rka (rk).length rkc] 103 (0, 0)) :: row e_ItA.T e_ItA.sz ra ((ri.take 0 ++ ri.drop 1)).length rc (flat e_ItA (ri.take 0 ++ ri.drop 1)) :: row e_ItA.T e_ItA.sz a247 (ki ++ [x244]).length c247 (flat e_ItA (ki ++ [x244])) :: row eN99.T eN99.sz nka (nk).length nkc (flat eN99 nk) :: row eN99.T eN99.sz rka (rk).length rkc (flat eN99 rk) :: blk lb (.cells #[.slice la (li).length lc, .slice lka (lk).length lkc] 103 (0, 0)) :: row e_ItA.T e_ItA.sz la (li).length lc (flat e_ItA li) :: row eN99.T eN99.sz lka (lk).length lkc (flat eN99 lk) :: blk b (.cells #[.slice na ((its).set ((j : Int)).toNat x259).length nc, .slice nka (nk).length nkc] 103 (0, 0)) :: row e_ItA.T e_ItA.sz na ((its).set ((j : Int)).toNat x259).length nc (flat e_ItA ((its).set ((j : Int)).toNat x259)) :: F) (fun z => rk[((0 : Int)).toNat]? = some z.2.2.2) ?_ ?_
   · -- cut
    have hrk := hrk0 (by omega)
    refine c_fact (p := ∃ ad, rka = some ad) (rds_some (e := eN99) (xs := rk) (rds_own eN99_ok 6 rfl) (by intro h0; rw [h0] at hrk; simp at hrk)) ?_
    rintro ⟨adk, eadk⟩
    refine c_conv (fun w S => S.perm p5) ?_
    refine c_conv (fun w S => S.perm p3) ?_
    refine c_conv (fun w S => S.perm p11) ?_
    refine c_conv (fun w S => S.perm p11) ?_
    refine c_conv (fun w S => S.perm p11) ?_
    refine c_conv (fun w S => S.perm p11) ?_
    refine c_conv (fun w S => S.perm p11) ?_
    refine c_conv (fun w S => S.perm p11) ?_
    refine c_conv (fun w S => S.perm p11) ?_
    refine c_conv (fun w S => S.perm p11) ?_
    refine c_conv (fun w S => S.perm p11) ?_
    refine c_conv (fun w S => S.perm p11) ?_
    refine c_held [blk rb (.cells #[.slice ra ((ri.take 0 ++ ri.drop 1)).length rc, .slice rka (rk).length rkc] 103 (0, 0)), row e_ItA.T e_ItA.sz ra ((ri.take 0 ++ ri.drop 1)).length rc (flat e_ItA (ri.take 0 ++ ri.drop 1)), row e_ItA.T e_ItA.sz a247 (ki ++ [x244]).length c247 (flat e_ItA (ki ++ [x244])), row eN99.T eN99.sz nka (nk).length nkc (flat eN99 nk), row eN99.T eN99.sz rka (rk).length rkc (flat eN99 rk), blk lb (.cells #[.slice la (li).length lc, .slice lka (lk).length lkc] 103 (0, 0)), row e_ItA.T e_ItA.sz la (li).length lc (flat e_ItA li), row eN99.T eN99.sz lka (lk).length lkc (flat eN99 lk), blk b (.cells #[.slice na ((its).set ((j : Int)).toNat x259).length nc, .slice nka (nk).length nkc] 103 (0, 0)), row e_ItA.T e_ItA.sz na ((its).set ((j : Int)).toNat x259).length nc (flat e_ItA ((its).set ((j : Int)).toNat x259))] (by kernel_rfl) rfl ?_
    refine h_take 0 rfl rfl (by kernel_rfl) (by kernel_rfl) (by kernel_rfl) (fun L0 => v_move rfl rfl) ?_
    refine h_take 1 rfl rfl (by kernel_rfl) (by kernel_rfl) (by kernel_rfl) (fun L0 => v_move rfl rfl) ?_
    refine h_take 2 rfl rfl (by kernel_rfl) (by kernel_rfl) (by kernel_rfl) (fun L0 => v_nil rfl rfl) ?_
    refine h_take 3 rfl rfl (by kernel_rfl) (by kernel_rfl) (by kernel_rfl) (fun L0 => v_fieldAddr (q := ⟨kb, 1, none⟩) rfl rfl Try.underlying103 rfl ti101 rfl) ?_
    refine h_take 5 rfl rfl (by kernel_rfl) (by kernel_rfl) (by kernel_rfl) (fun L0 => v_move rfl rfl) ?_
    refine h_take 6 rfl rfl (by kernel_rfl) (by kernel_rfl) (by kernel_rfl) (fun L0 => v_nil rfl rfl) ?_
    refine h_take 7 rfl rfl (by kernel_rfl) (by kernel_rfl) (by kernel_rfl) (fun L0 => v_fieldAddr (q := ⟨rb, 1, none⟩) rfl rfl Try.underlying103 rfl ti101 rfl) ?_
    refine h_take 8 rfl rfl (by kernel_rfl) (by kernel_rfl) (by kernel_rfl) (fun L0 => v_load1 rfl rfl Try.underlying101 rfl (rd_mem 0 rfl rfl)) ?_
    refine h_take 9 rfl rfl (by kernel_rfl) (by kernel_rfl) (by kernel_rfl) (fun L0 => v_indexK eN99_ok eadk rfl rfl rfl Try.underlying101 (by omega) (by omega)) ?_
    obtain ⟨x285, hx285⟩ : ∃ x, (rk)[((0 : Int)).toNat]? = some x := ⟨_, List.getElem?_eq_getElem (by omega)⟩
    refine h_take 10 rfl rfl (by kernel_rfl) (by kernel_rfl) (by kernel_rfl) (fun L0 => v_load1 rfl rfl Try.underlying99 rfl (rd_sl0 eN99_ok eadk (rds_own eN99_ok 4 rfl) hx285 rfl)) ?_
    refine h_many (is := [4, 11]) (by kernel_rfl) (by decide) (forall_cons ⟨_, rfl, ?_⟩ (forall_cons ⟨_, rfl, ?_⟩ forall_nil))
    · -- 4 comes first
     refine o_load1 rfl rfl Try.underlying101 rfl (rd_mem 10 rfl rfl) ?_
     refine l_nil ?_
     refine h_next ?_
     refine h_one 11 rfl (by kernel_rfl) ?_
     refine o_lit eN99_ok rfl Try.underlying101 rfl rfl rfl (lit_ok rfl) [x285] rfl rfl fun a287 => ?_
     refine l_nil ?_
     refine q_conv (fun w S => S.perm p12) ?_
     refine q_conv (fun w S => S.perm p12) ?_
     refine q_conv (fun w S => S.perm p2) ?_
     refine q_conv (fun w S => S.perm p12) ?_
     refine q_conv (fun w S => S.perm p12) ?_
     refine q_conv (fun w S => S.perm p12) ?_
     refine q_conv (fun w S => S.perm p12) ?_
     refine q_conv (fun w S => S.perm p12) ?_
     refine q_conv (fun w S => S.perm p12) ?_
     refine q_conv (fun w S => S.perm p12) ?_
     refine q_conv (fun w S => S.perm p12) ?_
     refine q_conv (fun w S => S.perm p12) ?_
     refine q_conv (fun w S => S.perm p12) ?_
     refine h_next ?_
     refine h_one 12 rfl (by kernel_rfl) ?_
     refine l_f12 ?_
     refine o_append eN99_ok rfl rfl rfl Try.underlying101 (rds_own eN99_ok 11 rfl) (by show (_ + _) * 8 ≤ _; (try simp only [List.length_append, List.length_cons, List.length_nil]); omega) (by (try simp only [List.length_append, List.length_cons, List.length_nil]); omega) fun a288 c288 => ?_
     refine l_f11 ?_
     refine l_drop ?_
     refine l_nil ?_
     refine q_conv (fun w S => S.perm p11) ?_
     refine q_conv (fun w S => S.perm p1) ?_
     refine q_conv (fun w S => S.perm p11) ?_
     refine q_conv (fun w S => S.perm p11) ?_
     refine q_conv (fun w S => S.perm p11) ?_
     refine q_conv (fun w S => S.perm p11) ?_
     refine q_conv (fun w S => S.perm p11) ?_
     refine q_conv (fun w S => S.perm p11) ?_
     refine q_conv (fun w S => S.perm p11) ?_
     refine q_conv (fun w S => S.perm p11) ?_
     refine q_conv (fun w S => S.perm p11) ?_
     refine q_conv (fun w S => S.perm p11) ?_
     refine h_next ?_
     refine h_take 13 rfl rfl (by kernel_rfl) (by kernel_rfl) (by kernel_rfl) (fun L0 => v_nil rfl rfl) ?_
     refine h_take 14 rfl rfl (by kernel_rfl) (by kernel_rfl) (by kernel_rfl) (fun L0 => v_fieldAddr (q := ⟨kb, 1, none⟩) rfl rfl Try.underlying103 rfl ti101 rfl) ?_
     refine h_one 15 rfl (by kernel_rfl) ?_
     refine l_f11 ?_
     refine o_store1 rfl rfl rfl ti101 rfl rfl ?_
     refine l_nil ?_
     refine q_conv (fun w S => S.perm p11) ?_
     refine q_conv (fun w S => S.perm p1) ?_
     refine q_conv (fun w S => S.perm p11) ?_
     refine q_conv (fun w S => S.perm p11) ?_
     refine q_conv (fun w S => S.perm p11) ?_
     refine q_conv (fun w S => S.perm p11) ?_
     refine q_conv (fun w S => S.perm p11) ?_
     refine q_conv (fun w S => S.perm p11) ?_
     refine q_conv (fun w S => S.perm p11) ?_
     refine q_conv (fun w S => S.perm p11) ?_
     refine q_conv (fun w S => S.perm p11) ?_
     refine q_conv (fun w S => S.perm p11) ?_
     refine h_next ?_
     refine h_done (by kernel_rfl) ?_
     refine q_conv (fun w S => S.perm p9) ?_
     refine q_conv (fun w S => S.perm p9) ?_
     refine q_conv (fun w S => S.perm p9) ?_
     refine q_conv (fun w S => S.perm p9) ?_
     refine q_conv (fun w S => S.perm p9) ?_
     refine q_conv (fun w S => S.perm p9) ?_
     refine q_conv (fun w S => S.perm p9) ?_
     refine q_conv (fun w S => S.perm p9) ?_
     refine q_conv (fun w S => S.perm p9) ?_
     refine q_conv (fun w S => S.perm p9) ?_
     refine q_conv (fun w S => S.perm p11) ?_
     refine q_conv (fun w S => S.perm p11) ?_
     exact q_mid (a288, c288, a287, x285) (by exact hx285) ⟨(by first | rfl | exact vint (by omega)), (by first | rfl | exact vint (by omega)), (by first | rfl | exact vint (by omega)), (by first | rfl | exact vint (by omega)), (by first | rfl | exact vint (by omega)), (by first | rfl | exact vint (by omega)), (by first | rfl | exact vint (by omega)), (by first | rfl | exact vint (by omega)), (by first | rfl | exact vint (by omega)), (by first | rfl | exact vint (by omega)), (by first | rfl | exact vint (by omega)), (by first | rfl | exact vint (by omega)), (by first | rfl | exact vint (by omega)), (by first | rfl | exact vint (by omega)), (by first | rfl | exact vint (by omega)), (by first | rfl | exact vint (by omega)), (by first | rfl | exact vint (by omega)), (by first | rfl | exact vint (by omega)), (by first | rfl | exact vint (by omega)), (by first | rfl | exact vint (by omega)), (by first | rfl | exact vint (by omega)), (by first | rfl | exact vint (by omega)), (by first | rfl | exact vint (by omega)), (by first | rfl | exact vint (by omega)), (by first | rfl | exact vint (by omega)), (by first | rfl | exact vint (by omega)), (by first | rfl | exact vint (by omega)), (by first | rfl | exact vint (by omega)), (by first | rfl | exact vint (by omega)), (by first | rfl | exact vint (by omega)), (by first | rfl | exact vint (by omega)), (by first | rfl | exact vint (by omega)), (by first | rfl | exact vint (by omega)), (by first | rfl | exact vint (by omega)), (by first | rfl | exact vint (by omega)), (by first | rfl | exact vint (by omega)), (by first | rfl | exact vint (by omega)), (by first | rfl | exact vint (by omega)), (by first | rfl | exact vint (by omega)), (by first | rfl | exact vint (by omega)), (by first | rfl | exact vint (by omega)), (by first | rfl | exact vint (by omega)), (by first | rfl | exact vint (by omega)), (by first | rfl | exact vint (by omega)), (by first | rfl | exact vint (by omega)), (by first | rfl | exact vint (by omega)), (by first | rfl | exact vint (by omega)), (by first | rfl | exact vint (by omega)), (by first | rfl | exact vint (by omega)), (by first | rfl | exact vint (by omega)), (by first | rfl | exact vint (by omega)), (by first | rfl | exact vint (by omega)), (by first | rfl | exact vint (by omega)), (by first | rfl | exact vint (by omega)), (by first | rfl | exact vint (by omega)), (by first | rfl | exact vint (by omega)), (by first | rfl | exact vint (by omega)), (by first | rfl | exact vint (by omega)), (by first | rfl | exact vint (by omega)), (by first | rfl | exact vint (by omega)), (by first | rfl | exact vint (by omega)), (by first | rfl | exact vint (by omega)), (by first | rfl | exact vint (by omega)), (by first | rfl | exact vint (by omega)), (by first | rfl | exact vint (by omega)), (by first | rfl | exact vint (by omega)), (by first | rfl | exact vint (by omega)), (by first | rfl | exact vint (by omega)), (by first | rfl | exact vint (by omega)), (by first | rfl | exact vint (by omega)), (by first | rfl | exact vint (by omega)), (by first | rfl | exact vint (by omega)), (by first | rfl | (rw [List.length_set]; rfl)), (by first | rfl | exact vint (by omega)), (by first | rfl | exact vint (by omega)), (by first | rfl | exact vint (by omega)), (by first | rfl | exact vint (by omega)), (by first | rfl | exact vint (by omega)), (by first | rfl | exact vint (by omega)), (by first | rfl | exact vint (by omega)), (by first | rfl | exact vint (by omega)), (by first | rfl | exact vint (by omega)), (by first | rfl | (rw [List.length_set]; rfl)), (by first | rfl | exact vint (by omega)), (by first | rfl | exact vint (by omega)), (by first | rfl | exact vint (by omega)), (by first | rfl | exact vint (by omega)), (by first | rfl | exact vint (by omega)), (by first | rfl | exact vint (by omega)), (by first | rfl | exact vint (by omega)), (by first | rfl | exact vint (by omega)), (by first | rfl | exact vint (by omega)), (by first | rfl | exact vint (by omega)), (by first | rfl | exact vint (by omega)), (by first | rfl | exact vint (by omega)), (by first | rfl | exact vint (by omega)), (by first | rfl | exact vint (by omega)), (by first | rfl | exact vint (by omega)), (by first | rfl | exact vint (by omega)), (by first | rfl | exact vint (by omega)), (by first | rfl | exact vint (by omega)), (by first | rfl | exact vint (by omega)), (by first | rfl | exact vint (by omega)), (by first | rfl | exact vint (by omega)), (by first | rfl | exact vint (by omega)), (by first | rfl | exact vint (by omega)), (by first | rfl | exact vint (by omega)), (by first | rfl | exact vint (by omega)), (by first | rfl | exact vint (by omega)), (by first | rfl | exact vint (by omega)), (by first | rfl | exact vint (by omega)), (by first | rfl | exact vint (by omega)), (by first | rfl | exact vint (by omega)), (by first | rfl | exact vint (by omega)), (by first | rfl | exact vint (by omega)), (by first | rfl | exact vint (by omega)), (by first | rfl | exact vint (by omega)), trivial⟩ (fun w S => S)
    · -- 11 comes first
     refine o_lit eN99_ok rfl Try.underlying101 rfl rfl rfl (lit_ok rfl) [x285] rfl rfl fun a287 => ?_
     refine l_nil ?_
     refine q_conv (fun w S => S.perm p12) ?_
     refine q_conv (fun w S => S.perm p12) ?_
     refine q_conv (fun w S => S.perm p2) ?_
     refine q_conv (fun w S => S.perm p12) ?_
     refine q_conv (fun w S => S.perm p12) ?_
     refine q_conv (fun w S => S.perm p12) ?_
     refine q_conv (fun w S => S.perm p12) ?_
     refine q_conv (fun w S => S.perm p12) ?_
     refine q_conv (fun w S => S.perm p12) ?_
     refine q_conv (fun w S => S.perm p12) ?_
     refine q_conv (fun w S => S.perm p12) ?_
     refine q_conv (fun w S => S.perm p12) ?_
     refine q_conv (fun w S => S.perm p12) ?_
     refine h_next ?_
     refine h_one 4 rfl (by kernel_rfl) ?_
     refine o_load1 rfl rfl Try.underlying101 rfl (rd_mem 11 rfl rfl) ?_
     refine l_nil ?_
     refine h_next ?_
     refine h_one 12 rfl (by kernel_rfl) ?_
     refine l_f12 ?_
     refine o_append eN99_ok rfl rfl rfl Try.underlying101 (rds_own eN99_ok 11 rfl) (by show (_ + _) * 8 ≤ _; (try simp only [List.length_append, List.length_cons, List.length_nil]); omega) (by (try simp only [List.length_append, List.length_cons, List.length_nil]); omega) fun a288 c288 => ?_
     refine l_f11 ?_
     refine l_drop ?_
     refine l_nil ?_
     refine q_conv (fun w S => S.perm p11) ?_
     refine q_conv (fun w S => S.perm p1) ?_
     refine q_conv (fun w S => S.perm p11) ?_
     refine q_conv (fun w S => S.perm p11) ?_
     refine q_conv (fun w S => S.perm p11) ?_
     refine q_conv (fun w S => S.perm p11) ?_
     refine q_conv (fun w S => S.perm p11) ?_
     refine q_conv (fun w S => S.perm p11) ?_
     refine q_conv (fun w S => S.perm p11) ?_
     refine q_conv (fun w S => S.perm p11) ?_
     refine q_conv (fun w S => S.perm p11) ?_
     refine q_conv (fun w S => S.perm p11) ?_
     refine h_next ?_
     refine h_take 13 rfl rfl (by kernel_rfl) (by kernel_rfl) (by kernel_rfl) (fun L0 => v_nil rfl rfl) ?_
     refine h_take 14 rfl rfl (by kernel_rfl) (by kernel_rfl) (by kernel_rfl) (fun L0 => v_fieldAddr (q := ⟨kb, 1, none⟩) rfl rfl Try.underlying103 rfl ti101 rfl) ?_
     refine h_one 15 rfl (by kernel_rfl) ?_
     refine l_f11 ?_
     refine o_store1 rfl rfl rfl ti101 rfl rfl ?_
     refine l_nil ?_
     refine q_conv (fun w S => S.perm p11) ?_
     refine q_conv (fun w S => S.perm p1) ?_
     refine q_conv (fun w S => S.perm p11) ?_
     refine q_conv (fun w S => S.perm p11) ?_
     refine q_conv (fun w S => S.perm p11) ?_
     refine q_conv (fun w S => S.perm p11) ?_
     refine q_conv (fun w S => S.perm p11) ?_
     refine q_conv (fun w S => S.perm p11) ?_
     refine q_conv (fun w S => S.perm p11) ?_
     refine q_conv (fun w S => S.perm p11) ?_
     refine q_conv (fun w S => S.perm p11) ?_
     refine q_conv (fun w S => S.perm p11) ?_
     refine h_next ?_
     refine h_done (by kernel_rfl) ?_
     refine q_conv (fun w S => S.perm p9) ?_
     refine q_conv (fun w S => S.perm p9) ?_
     refine q_conv (fun w S => S.perm p9) ?_
     refine q_conv (fun w S => S.perm p9) ?_
     refine q_conv (fun w S => S.perm p9) ?_
     refine q_conv (fun w S => S.perm p9) ?_
     refine q_conv (fun w S => S.perm p9) ?_
     refine q_conv (fun w S => S.perm p9) ?_
     refine q_conv (fun w S => S.perm p9) ?_
     refine q_conv (fun w S => S.perm p9) ?_
     refine q_conv (fun w S => S.perm p11) ?_
     refine q_conv (fun w S => S.perm p11) ?_
     exact q_mid (a288, c288, a287, x285) (by exact hx285) ⟨(by first | rfl | exact vint (by omega)), (by first | rfl | exact vint (by omega)), (by first | rfl | exact vint (by omega)), (by first | rfl | exact vint (by omega)), (by first | rfl | exact vint (by omega)), (by first | rfl | exact vint (by omega)), (by first | rfl | exact vint (by omega)), (by first | rfl | exact vint (by omega)), (by first | rfl | exact vint (by omega)), (by first | rfl | exact vint (by omega)), (by first | rfl | exact vint (by omega)), (by first | rfl | exact vint (by omega)), (by first | rfl | exact vint (by omega)), (by first | rfl | exact vint (by omega)), (by first | rfl | exact vint (by omega)), (by first | rfl | exact vint (by omega)), (by first | rfl | exact vint (by omega)), (by first | rfl | exact vint (by omega)), (by first | rfl | exact vint (by omega)), (by first | rfl | exact vint (by omega)), (by first | rfl | exact vint (by omega)), (by first | rfl | exact vint (by omega)), (by first | rfl | exact vint (by omega)), (by first | rfl | exact vint (by omega)), (by first | rfl | exact vint (by omega)), (by first | rfl | exact vint (by omega)), (by first | rfl | exact vint (by omega)), (by first | rfl | exact vint (by omega)), (by first | rfl | exact vint (by omega)), (by first | rfl | exact vint (by omega)), (by first | rfl | exact vint (by omega)), (by first | rfl | exact vint (by omega)), (by first | rfl | exact vint (by omega)), (by first | rfl | exact vint (by omega)), (by first | rfl | exact vint (by omega)), (by first | rfl | exact vint (by omega)), (by first | rfl | exact vint (by omega)), (by first | rfl | exact vint (by omega)), (by first | rfl | exact vint (by omega)), (by first | rfl | exact vint (by omega)), (by first | rfl | exact vint (by omega)), (by first | rfl | exact vint (by omega)), (by first | rfl | exact vint (by omega)), (by first | rfl | exact vint (by omega)), (by first | rfl | exact vint (by omega)), (by first | rfl | exact vint (by omega)), (by first | rfl | exact vint (by omega)), (by first | rfl | exact vint (by omega)), (by first | rfl | exact vint (by omega)), (by first | rfl | exact vint (by omega)), (by first | rfl | exact vint (by omega)), (by first | rfl | exact vint (by omega)), (by first | rfl | exact vint (by omega)), (by first | rfl | exact vint (by omega)), (by first | rfl | exact vint (by omega)), (by first | rfl | exact vint (by omega)), (by first | rfl | exact vint (by omega)), (by first | rfl | exact vint (by omega)), (by first | rfl | exact vint (by omega)), (by first | rfl | exact vint (by omega)), (by first | rfl | exact vint (by omega)), (by first | rfl | exact vint (by omega)), (by first | rfl | exact vint (by omega)), (by first | rfl | exact vint (by omega)), (by first | rfl | exact vint (by omega)), (by first | rfl | exact vint (by omega)), (by first | rfl | exact vint (by omega)), (by first | rfl | exact vint (by omega)), (by first | rfl | exact vint (by omega)), (by first | rfl | exact vint (by omega)), (by first | rfl | exact vint (by omega)), (by first | rfl | exact vint (by omega)), (by first | rfl | (rw [List.length_set]; rfl)), (by first | rfl | exact vint (by omega)), (by first | rfl | exact vint (by omega)), (by first | rfl | exact vint (by omega)), (by first | rfl | exact vint (by omega)), (by first | rfl | exact vint (by omega)), (by first | rfl | exact vint (by omega)), (by first | rfl | exact vint (by omega)), (by first | rfl | exact vint (by omega)), (by first | rfl | exact vint (by omega)), (by first | rfl | (rw [List.length_set]; rfl)), (by first | rfl | exact vint (by omega)), (by first | rfl | exact vint (by omega)), (by first | rfl | exact vint (by omega)), (by first | rfl | exact vint (by omega)), (by first | rfl | exact vint (by omega)), (by first | rfl | exact vint (by omega)), (by first | rfl | exact vint (by omega)), (by first | rfl | exact vint (by omega)), (by first | rfl | exact vint (by omega)), (by first | rfl | exact vint (by omega)), (by first | rfl | exact vint (by omega)), (by first | rfl | exact vint (by omega)), (by first | rfl | exact vint (by omega)), (by first | rfl | exact vint (by omega)), (by first | rfl | exact vint (by omega)), (by first | rfl | exact vint (by omega)), (by first | rfl | exact vint (by omega)), (by first | rfl | exact vint (by omega)), (by first | rfl | exact vint (by omega)), (by first | rfl | exact vint (by omega)), (by first | rfl | exact vint (by omega)), (by first | rfl | exact vint (by omega)), (by first | rfl | exact vint (by omega)), (by first | rfl | exact vint (by omega)), (by first | rfl | exact vint (by omega)), (by first | rfl | exact vint (by omega)), (by first | rfl | exact vint (by omega)), (by first | rfl | exact vint (by omega)), (by first | rfl | exact vint (by omega)), (by first | rfl | exact vint (by omega)), (by first | rfl | exact vint (by omega)), (by first | rfl | exact vint (by omega)), (by first | rfl | exact vint (by omega)), (by first | rfl | exact vint (by omega)), trivial⟩ (fun w S => S)
   · -- behind the cut
    rintro ⟨a288, c288, a287, x285⟩ hx285
    try dsimp only at *
    refine c_region ?_
    refine o_move rfl rfl ?_
    refine o_move rfl rfl ?_
    refine o_nil rfl rfl ?_
    refine o_fieldAddr (q := ⟨rb, 1, none⟩) rfl rfl Try.underlying103 rfl ti101 rfl ?_
    refine o_load1 rfl rfl Try.underlying101 rfl (rd_mem 2 rfl rfl) ?_
    refine l_f6 ?_
    refine o_call rfl cal79 rfl (delK_A (xs := rk) (i := 0) (j := 1) (by omega) (by omega) (by omega)) ?_
    rintro _ _ ⟨rfl, rfl⟩
    refine o_nil rfl rfl ?_
    refine o_fieldAddr (q := ⟨rb, 1, none⟩) rfl rfl Try.underlying103 rfl ti101 rfl ?_
    refine l_f3 ?_
    refine o_store1 rfl rfl rfl ti101 rfl rfl ?_
    refine l_nil ?_
    refine q_block ?_
    refine q_conv (fun w S => S.perm p9) ?_
    refine q_conv (fun w S => S.perm p9) ?_
    refine q_conv (fun w S => S.perm p9) ?_
    refine q_conv (fun w S => S.perm p4) ?_
    refine q_conv (fun w S => S.perm p7) ?_
    refine q_conv (fun w S => S.perm p5) ?_
    refine q_conv (fun w S => S.perm p7) ?_
    refine q_conv (fun w S => S.perm p8) ?_
    refine q_conv (fun w S => S.perm p8) ?_
    refine q_conv (fun w S => S.perm p9) ?_
    refine q_conv (fun w S => S.perm p11) ?_
    refine q_conv (fun w S => S.perm p11) ?_
    exact f_end (r_none rfl) (⟨x244, x259, a247, c247, (show its[j]? = some x244 from by have h9 := hx244; rw [show ((j : Int)).toNat = j from rfl] at h9; exact h9), (show ri[0]? = some x259 from hx259), .inr ⟨a288, c288, x285, (show rk[0]? = some x285 from hx285), rfl⟩⟩) (fun w S => by (rw [show ((j : Int)).toNat = j from rfl, List.length_set] at S; exact S))
  · -- h1F
   have h1b := h1
   try simp only [decide_eq_false_iff_not, Int.not_lt, Int.not_le] at h1
   refine c_skip ?_
   refine q_block ?_
   refine q_conv (fun w S => S.perm p9) ?_
   refine q_conv (fun w S => S.perm p9) ?_
   refine q_conv (fun w S => S.perm p9) ?_
   refine q_conv (fun w S => S.perm p9) ?_
   refine q_conv (fun w S => S.perm p5) ?_
   refine q_conv (fun w S => S.perm p5) ?_
   refine q_conv (fun w S => S.perm p9) ?_
   refine q_conv (fun w S => S.perm p8) ?_
   refine q_conv (fun w S => S.perm p8) ?_
   refine q_conv (fun w S => S.perm p9) ?_
   refine q_conv (fun w S => S.perm p11) ?_
   refine q_conv (fun w S => S.perm p11) ?_
   exact f_end (r_none rfl) (⟨x244, x259, a247, c247, (show its[j]? = some x244 from by have h9 := hx244; rw [show ((j : Int)).toNat = j from rfl] at h9; exact h9), (show ri[0]? = some x259 from hx259), .inl ⟨by omega, rfl⟩⟩) (fun w S => by (rw [show ((j : Int)).toNat = j from rfl, List.length_set] at S; exact S))
end
end Go.Proofs.Ytnfbjidpiglabaa
