/- Texts of the proof: MendA2, MendA3, Mendp, MendO, Takep, MendP. -/
import Derived.Test.YtnfbjidpiglabaaRQB
namespace Go.Proofs.Ytnfbjidpiglabaa
section
set_option linter.unusedVariables false
set_option linter.unusedSimpArgs false
set_option maxRecDepth 10000
open Go.RowKit Classical
set_option maxHeartbeats 4000000 in
theorem mendC0_A {W : World} {F : List Res} {b kb : Nat} {its ki : List ItA} {nk kk : List Nat} {na nka ka kka : Option Addr} {nc nkc kc kkc : Nat} {rb : Nat} {ri : List ItA} {rk : List Nat} {ra rka : Option Addr} {rc rkc : Nat} {j : Nat} (hk : nk[j]? = some kb) (hrb : nk[j + 1]? = some rb) (hk1 : ki.length < 2) (hr3 : 3 ≤ ri.length) (hr5 : ri.length ≤ 5) (hrk0 : 0 < rk.length → rk.length = ri.length + 1) (hj : j = 0) (h1 : its.length ≤ 5) (h2 : nk.length = its.length + 1) (h3 : ki.length ≤ 5) (h4 : kk.length ≤ 6) : CS Try.prog 73 #[.pointer (some ⟨b, 0, none⟩), .int .i64 (j : Int)] W (blk b (.cells #[.slice na (its).length nc, .slice nka (nk).length nkc] 103 (0, 0)) :: row e_ItA.T e_ItA.sz na (its).length nc (flat e_ItA its) :: row eN99.T eN99.sz nka (nk).length nkc (flat eN99 nk) :: blk kb (.cells #[.slice ka (ki).length kc, .slice kka (kk).length kkc] 103 (0, 0)) :: row e_ItA.T e_ItA.sz ka (ki).length kc (flat e_ItA ki) :: row eN99.T eN99.sz kka (kk).length kkc (flat eN99 kk) :: blk rb (.cells #[.slice ra (ri).length rc, .slice rka (rk).length rkc] 103 (0, 0)) :: row e_ItA.T e_ItA.sz ra (ri).length rc (flat e_ItA ri) :: row eN99.T eN99.sz rka (rk).length rkc (flat eN99 rk) :: F) (fun _ L' => ∃ (x y : ItA) (a1 : Option Addr) (c1 : Nat), its[j]? = some x ∧ ri[0]? = some y ∧ ((rk.length = 0 ∧ L' = blk b (.cells #[.slice na its.length nc, .slice nka nk.length nkc] 103 (0, 0)) :: row e_ItA.T e_ItA.sz na its.length nc (flat e_ItA (its.set j y)) :: row eN99.T eN99.sz nka (nk).length nkc (flat eN99 nk) :: blk kb (.cells #[.slice a1 (ki ++ [x]).length c1, .slice kka kk.length kkc] 103 (0, 0)) :: row e_ItA.T e_ItA.sz a1 ((ki ++ [x])).length c1 (flat e_ItA (ki ++ [x])) :: row eN99.T eN99.sz kka (kk).length kkc (flat eN99 kk) :: blk rb (.cells #[.slice ra (ri.drop 1).length rc, .slice rka rk.length rkc] 103 (0, 0)) :: row e_ItA.T e_ItA.sz ra ((ri.drop 1)).length rc (flat e_ItA (ri.drop 1)) :: row eN99.T eN99.sz rka (rk).length rkc (flat eN99 rk) :: F) ∨ (∃ (a2 : Option Addr) (c2 g : Nat), rk[0]? = some g ∧ L' = blk b (.cells #[.slice na its.length nc, .slice nka nk.length nkc] 103 (0, 0)) :: row e_ItA.T e_ItA.sz na its.length nc (flat e_ItA (its.set j y)) :: row eN99.T eN99.sz nka (nk).length nkc (flat eN99 nk) :: blk kb (.cells #[.slice a1 (ki ++ [x]).length c1, .slice a2 (kk ++ [g]).length c2] 103 (0, 0)) :: row e_ItA.T e_ItA.sz a1 ((ki ++ [x])).length c1 (flat e_ItA (ki ++ [x])) :: row eN99.T eN99.sz a2 ((kk ++ [g])).length c2 (flat eN99 (kk ++ [g])) :: blk rb (.cells #[.slice ra (ri.drop 1).length rc, .slice rka (rk.drop 1).length rkc] 103 (0, 0)) :: row e_ItA.T e_ItA.sz ra ((ri.drop 1)).length rc (flat e_ItA (ri.drop 1)) :: row eN99.T eN99.sz rka ((rk.drop 1)).length rkc (flat eN99 (rk.drop 1)) :: F))) := by
 refine f_door (l0 := [(0, .pointer (some ⟨b, 0, none⟩)), (1, .int .i64 (j : Int))]) Try.func73 Try.ntmps73 rfl rfl rfl ?_
 refine c_seq ?_
 have hil := (List.getElem?_eq_some_iff.1 hk).1
 have hir := (List.getElem?_eq_some_iff.1 hrb).1
 refine c_region (o_move rfl rfl (o_nil rfl rfl ?_))
 refine o_fieldAddr (q := ⟨b, 1, none⟩) rfl rfl Try.underlying103 rfl ti101 rfl ?_
 refine o_load1 rfl rfl Try.underlying101 rfl (rd_mem 0 rfl rfl) ?_
 refine o_move rfl rfl ?_
 refine o_index eN99_ok rfl rfl rfl Try.underlying101 (by omega) (by omega) (rds_own eN99_ok 2 rfl) fun ad15 ead15 => ?_
 obtain ⟨x15, hx15⟩ : ∃ x, (nk)[((j : Int)).toNat]? = some x := ⟨_, List.getElem?_eq_getElem (by omega)⟩
 have hxk15 : x15 = kb := by have h9 := hx15; rw [show ((j : Int)).toNat = j from by omega, hk] at h9; exact (Option.some.inj h9).symm
 refine o_load1 rfl rfl Try.underlying99 rfl (rd_sl0 eN99_ok ead15 (rds_own eN99_ok 2 rfl) hx15 rfl) ?_
 refine l_eq (t := 16) (v' := .pointer (some ⟨kb, 0, none⟩)) rfl (by rw [hxk15]) ?_
 refine o_assign rfl rfl (l_nil (q_then (c_block (c_seq (c_region (o_move rfl rfl (o_nil rfl rfl ?_)))))))
 refine o_fieldAddr (q := ⟨kb, 0, none⟩) rfl rfl Try.underlying103 rfl ti100 rfl ?_
 refine o_load1 rfl rfl Try.underlying100 rfl (rd_mem 3 rfl rfl) ?_
 refine o_len rfl rfl Try.underlying100 ?_
 refine o_bin rfl rfl rfl b_geq ?_
 refine l_eq (t := 96) (v' := .bool false) rfl (show _ = Value.bool false from by rw [decide_eq_false (by omega)]) ?_
 refine o_assign rfl rfl (l_nil (q_then (c_false rfl (c_seq (c_region (o_move rfl rfl ?_))))))
 refine o_bin rfl rfl rfl b_gtr ?_
 refine l_eq (t := 99) (v' := .bool false) rfl (show _ = Value.bool false from by rw [decide_eq_false (by omega)]) ?_
 refine o_move rfl rfl (o_no rfl rfl rfl rfl (o_no rfl rfl rfl rfl (o_no rfl rfl rfl rfl (o_no rfl rfl rfl rfl (o_no rfl rfl rfl rfl (o_no rfl rfl rfl rfl (o_no rfl rfl rfl rfl (o_no rfl rfl rfl rfl (o_no rfl rfl rfl rfl ?_)))))))))
 refine o_no rfl rfl rfl rfl (o_no rfl rfl rfl rfl (o_no rfl rfl rfl rfl (o_no rfl rfl rfl rfl (o_pick_false rfl rfl rfl (o_assign rfl rfl (l_nil (q_then (c_false rfl (c_seq ?_)))))))))
 refine c_region (o_move rfl rfl ?_)
 refine o_bin rfl rfl rfl (b_add (show IntKind.i64.wrap ((j : Int) + 1) = ((j + 1 : Nat) : Int) from by rw [wrap_i64 (by omega) (by omega)]; omega)) ?_
 refine o_move rfl rfl (o_nil rfl rfl ?_)
 refine o_fieldAddr (q := ⟨b, 1, none⟩) rfl rfl Try.underlying103 rfl ti101 rfl ?_
 refine o_load1 rfl rfl Try.underlying101 rfl (rd_mem 0 rfl rfl) ?_
 refine o_len rfl rfl Try.underlying101 ?_
 refine o_bin rfl rfl rfl b_lss ?_
 refine l_eq (t := 210) (v' := .bool true) rfl (show _ = Value.bool true from by rw [decide_eq_true (by omega)]) ?_
 refine o_move rfl rfl (o_yes rfl rfl rfl (o_move rfl rfl (o_yes rfl rfl rfl (o_nil rfl rfl (o_yes rfl rfl rfl ?_)))))
 refine o_fieldAddr (q := ⟨b, 1, none⟩) rfl rfl Try.underlying103 rfl ti101 rfl ?_
 refine o_yes rfl rfl rfl ?_
 refine o_load1 rfl rfl Try.underlying101 rfl (rd_mem 0 rfl rfl) ?_
 refine o_yes rfl rfl rfl (o_move rfl rfl (o_yes rfl rfl rfl ?_))
 refine o_bin rfl rfl rfl (b_add (show IntKind.i64.wrap ((j : Int) + 1) = ((j + 1 : Nat) : Int) from by rw [wrap_i64 (by omega) (by omega)]; omega)) ?_
 refine o_yes rfl rfl rfl ?_
 refine o_indexK eN99_ok ead15 rfl rfl rfl Try.underlying101 (by omega) (by omega) ?_
 obtain ⟨x218, hx218⟩ : ∃ x, (nk)[(((j + 1 : Nat) : Int)).toNat]? = some x := ⟨_, List.getElem?_eq_getElem (by omega)⟩
 have hxk218 : x218 = rb := by have h9 := hx218; rw [show (((j + 1 : Nat) : Int)).toNat = j + 1 from by omega, hrb] at h9; exact (Option.some.inj h9).symm
 refine o_yes rfl rfl rfl ?_
 refine o_load1 rfl rfl Try.underlying99 rfl (rd_sl0 eN99_ok ead15 (rds_own eN99_ok 2 rfl) hx218 rfl) ?_
 refine l_eq (t := 219) (v' := .pointer (some ⟨rb, 0, none⟩)) rfl (by rw [hxk218]) ?_
 refine o_yes rfl rfl rfl (o_nil rfl rfl (o_yes rfl rfl rfl ?_))
 refine o_fieldAddr (q := ⟨rb, 0, none⟩) rfl rfl Try.underlying103 rfl ti100 rfl ?_
 refine o_yes rfl rfl rfl ?_
 refine o_load1 rfl rfl Try.underlying100 rfl (rd_mem 6 rfl rfl) ?_
 refine o_yes rfl rfl rfl ?_
 refine o_len rfl rfl Try.underlying100 ?_
 refine o_yes rfl rfl rfl ?_
 refine o_bin rfl rfl rfl b_gtr ?_
 refine l_eq (t := 224) (v' := .bool true) rfl (show _ = Value.bool true from by rw [decide_eq_true (by omega)]) ?_
 refine o_pick_true rfl rfl rfl (o_assign rfl rfl (l_nil (q_then (c_true rfl (c_seq (c_region (o_move rfl rfl (o_nil rfl rfl ?_))))))))
 refine o_fieldAddr (q := ⟨b, 1, none⟩) rfl rfl Try.underlying103 rfl ti101 rfl ?_
 refine o_load1 rfl rfl Try.underlying101 rfl (rd_mem 0 rfl rfl) ?_
 refine o_move rfl rfl ?_
 refine o_bin rfl rfl rfl (b_add (show IntKind.i64.wrap ((j : Int) + 1) = ((j + 1 : Nat) : Int) from by rw [wrap_i64 (by omega) (by omega)]; omega)) ?_
 refine o_indexK eN99_ok ead15 rfl rfl rfl Try.underlying101 (by omega) (by omega) ?_
 obtain ⟨x232, hx232⟩ : ∃ x, (nk)[(((j + 1 : Nat) : Int)).toNat]? = some x := ⟨_, List.getElem?_eq_getElem (by omega)⟩
 have hxk232 : x232 = rb := by have h9 := hx232; rw [show (((j + 1 : Nat) : Int)).toNat = j + 1 from by omega, hrb] at h9; exact (Option.some.inj h9).symm
 refine o_load1 rfl rfl Try.underlying99 rfl (rd_sl0 eN99_ok ead15 (rds_own eN99_ok 2 rfl) hx232 rfl) ?_
 refine l_eq (t := 233) (v' := .pointer (some ⟨rb, 0, none⟩)) rfl (by rw [hxk232]) ?_
 refine o_assign rfl rfl (l_nil (q_then (c_seq ?_)))
 refine c_mid (α := (Option Addr) × Nat × (Option Addr) × ItA) (fun z => [(0, .pointer (some ⟨b, 0, none⟩)), (1, .int .i64 (j : Int)), (4, .pointer (some ⟨kb, 0, none⟩)), (7, .pointer (some ⟨rb, 0, none⟩)), (10, .pointer (some ⟨b, 0, none⟩)), (11, .pointer (some ⟨b, 0, none⟩)), (12, .pointer (some ⟨b, 1, none⟩)), (13, .slice nka (nk).length nkc), (14, .int .i64 (j : Int)), (16, .pointer (some ⟨kb, 0, none⟩)), (90, .bool false), (91, .pointer (some ⟨kb, 0, none⟩)), (92, .pointer (some ⟨kb, 0, none⟩)), (93, .pointer (some ⟨kb, 0, none⟩)), (94, .slice ka (ki).length kc), (95, .int .i64 ((ki).length : Int)), (96, .bool false), (97, .bool false), (98, .int .i64 (j : Int)), (99, .bool false), (100, .bool false), (114, .bool false), (202, .bool true), (203, .int .i64 (j : Int)), (204, .int .i64 ((j + 1 : Nat) : Int)), (205, .pointer (some ⟨b, 0, none⟩)), (206, .pointer (some ⟨b, 0, none⟩)), (207, .pointer (some ⟨b, 1, none⟩)), (208, .slice nka (nk).length nkc), (209, .int .i64 ((nk).length : Int)), (210, .bool true), (211, .bool true), (212, .pointer (some ⟨b, 0, none⟩)), (213, .pointer (some ⟨b, 0, none⟩)), (214, .pointer (some ⟨b, 1, none⟩)), (215, .slice nka (nk).length nkc), (216, .int .i64 (j : Int)), (217, .int .i64 ((j + 1 : Nat) : Int)), (219, .pointer (some ⟨rb, 0, none⟩)), (220, .pointer (some ⟨rb, 0, none⟩)), (221, .pointer (some ⟨rb, 0, none⟩)), (222, .slice ra (ri).length rc), (223, .int .i64 ((ri).length : Int)), (224, .bool true), (225, .bool true), (226, .pointer (some ⟨b, 0, none⟩)), (227, .pointer (some ⟨b, 0, none⟩)), (228, .pointer (some ⟨b, 1, none⟩)), (229, .slice nka (nk).length nkc), (230, .int .i64 (j : Int)), (231, .int .i64 ((j + 1 : Nat) : Int)), (233, .pointer (some ⟨rb, 0, none⟩)), (234, .pointer (some ⟨kb, 0, none⟩)), (235, .pointer (some ⟨kb, 0, none⟩)), (236, .pointer (some ⟨kb, 0, none⟩)), (237, .pointer (some ⟨kb, 0, none⟩)), (238, .slice ka (ki).length kc), (239, .pointer (some ⟨b, 0, none⟩)), (240, .pointer (some ⟨b, 0, none⟩)), (241, .pointer (some ⟨b, 0, none⟩)), (242, .slice na (its).length nc), (243, .int .i64 (j : Int)), (245, .agg #[.string z.2.2.2.f_key, .bool z.2.2.2.f_value.f_Has, .slice z.2.2.2.f_value.f_Value.a (z.2.2.2.f_value.f_Value.xs).length z.2.2.2.f_value.f_Value.c, .int .i64 z.2.2.2.f_value.f_Home, .int .u64 z.2.2.2.f_value.f_Count]), (246, .slice z.2.2.1 ([z.2.2.2]).length 1), (247, .slice z.1 (ki ++ [z.2.2.2]).length z.2.1), (248, .pointer (some ⟨kb, 0, none⟩)), (249, .pointer (some ⟨kb, 0, none⟩))]) (fun z => blk kb (.cells #[.slice z.1 (ki ++ [z.2.2.2]).length z.2.1, .slice kka (kk).length kkc] 103 (0, 0)) :: row e_ItA.T e_ItA.sz z.1 (ki ++ [z.2.2.2]).length z.2.1 (flat e_ItA (ki ++ [z.2.2.2])) :: blk b (.cells #[.slice na (its).length nc, .slice nka (nk).length nkc] 103 (0, 0)) :: row e_ItA.T e_ItA.sz na (its).length nc (flat e_ItA its) :: row eN99.T eN99.sz nka (nk).length nkc (flat eN99 nk) :: row eN99.T eN99.sz kka (kk).length kkc (flat eN99 kk) :: blk rb (.cells #[.slice ra (ri).length rc, .slice rka (rk).length rkc] 103 (0, 0)) :: row e_ItA.T e_ItA.sz ra (ri).length rc (flat e_ItA ri) :: row eN99.T eN99.sz rka (rk).length rkc (flat eN99 rk) :: F) (fun z => its[((j : Int)).toNat]? = some z.2.2.2) ?_ ?_
 · -- cut
  refine c_fact (p := ∃ ad, na = some ad) (rds_some (e := e_ItA) (xs := its) (rds_own e_ItA_ok 1 rfl) (by intro h0; rw [h0] at h2; simp at h2; omega)) ?_
  rintro ⟨adx, eadx⟩
  refine cP p4 (cP p4 (cP p8 (cP p8 (cP p8 (cP p8 (cP p8 (cP p8 (cP p8 ?_))))))))
  refine c_held [blk b (.cells #[.slice na (its).length nc, .slice nka (nk).length nkc] 103 (0, 0)), row e_ItA.T e_ItA.sz na (its).length nc (flat e_ItA its), row eN99.T eN99.sz nka (nk).length nkc (flat eN99 nk), row eN99.T eN99.sz kka (kk).length kkc (flat eN99 kk), blk rb (.cells #[.slice ra (ri).length rc, .slice rka (rk).length rkc] 103 (0, 0)), row e_ItA.T e_ItA.sz ra (ri).length rc (flat e_ItA ri), row eN99.T eN99.sz rka (rk).length rkc (flat eN99 rk)] (by kernel_rfl) rfl ?_
  refine h_take 0 rfl rfl (by kernel_rfl) (by kernel_rfl) (by kernel_rfl) (fun L0 => v_move rfl rfl) ?_
  refine h_take 1 rfl rfl (by kernel_rfl) (by kernel_rfl) (by kernel_rfl) (fun L0 => v_move rfl rfl) ?_
  refine h_take 2 rfl rfl (by kernel_rfl) (by kernel_rfl) (by kernel_rfl) (fun L0 => v_nil rfl rfl) ?_
  refine h_take 3 rfl rfl (by kernel_rfl) (by kernel_rfl) (by kernel_rfl) (fun L0 => v_fieldAddr (q := ⟨kb, 0, none⟩) rfl rfl Try.underlying103 rfl ti100 rfl) ?_
  refine h_take 5 rfl rfl (by kernel_rfl) (by kernel_rfl) (by kernel_rfl) (fun L0 => v_move rfl rfl) ?_
  refine h_take 6 rfl rfl (by kernel_rfl) (by kernel_rfl) (by kernel_rfl) (fun L0 => v_nil rfl rfl) ?_
  refine h_take 7 rfl rfl (by kernel_rfl) (by kernel_rfl) (by kernel_rfl) (fun L0 => v_fieldAddr (q := ⟨b, 0, none⟩) rfl rfl Try.underlying103 rfl ti100 rfl) ?_
  refine h_take 8 rfl rfl (by kernel_rfl) (by kernel_rfl) (by kernel_rfl) (fun L0 => v_load1 rfl rfl Try.underlying100 rfl (rd_mem 0 rfl rfl)) ?_
  refine h_take 9 rfl rfl (by kernel_rfl) (by kernel_rfl) (by kernel_rfl) (fun L0 => v_move rfl rfl) ?_
  refine h_take 10 rfl rfl (by kernel_rfl) (by kernel_rfl) (by kernel_rfl) (fun L0 => v_indexK e_ItA_ok eadx rfl rfl rfl Try.underlying100 (by omega) (by omega)) ?_
  obtain ⟨x244, hx244⟩ : ∃ x, (its)[((j : Int)).toNat]? = some x := ⟨_, List.getElem?_eq_getElem (by omega)⟩
  refine h_take 11 rfl rfl (by kernel_rfl) (by kernel_rfl) (by kernel_rfl) (fun L0 => v_loadn (vs := e_ItA.cells x244) rfl rfl Try.underlying110 rfl ti110 (rdn_sl e_ItA_ok eadx (rds_own e_ItA_ok 1 rfl) hx244)) ?_
  refine h_many (is := [4, 12]) (by kernel_rfl) (by decide) (forall_cons ⟨_, rfl, ?_⟩ (forall_cons ⟨_, rfl, ?_⟩ forall_nil))
  · -- 4 comes first
   refine o_load1 rfl rfl Try.underlying100 rfl (rd_mem 7 rfl rfl) ?_
   refine l_nil (h_next ?_)
   refine h_one 12 rfl (by kernel_rfl) ?_
   refine o_lit e_ItA_ok rfl Try.underlying100 rfl rfl rfl (lit_ok rfl) [x244] rfl rfl fun a246 => ?_
   refine l_nil (qP p9 (qP p9 (qP p2 (qP p9 (qP p9 (qP p9 (qP p9 (qP p9 (qP p9 ?_)))))))))
   refine qP p9 (h_next ?_)
   refine h_one 13 rfl (by kernel_rfl) ?_
   refine l_f9 ?_
   refine o_append e_ItA_ok rfl rfl rfl Try.underlying100 (rds_own e_ItA_ok 8 rfl) (by show (_ + _) * 64 ≤ _; (try simp only [List.length_append, List.length_cons, List.length_nil]); omega) (by (try simp only [List.length_append, List.length_cons, List.length_nil]); omega) fun a247 c247 => ?_
   refine l_f8 ?_
   refine l_drop ?_
   refine l_nil (qP p8 (qP p1 (qP p8 (qP p8 (qP p8 (qP p8 (qP p8 (qP p8 (qP p8 ?_)))))))))
   refine h_next ?_
   refine h_take 14 rfl rfl (by kernel_rfl) (by kernel_rfl) (by kernel_rfl) (fun L0 => v_nil rfl rfl) ?_
   refine h_take 15 rfl rfl (by kernel_rfl) (by kernel_rfl) (by kernel_rfl) (fun L0 => v_fieldAddr (q := ⟨kb, 0, none⟩) rfl rfl Try.underlying103 rfl ti100 rfl) ?_
   refine h_one 16 rfl (by kernel_rfl) ?_
   refine l_f8 ?_
   refine o_store1 rfl rfl rfl ti100 rfl rfl ?_
   refine l_nil (qP p8 (qP p1 (qP p8 (qP p8 (qP p8 (qP p8 (qP p8 (qP p8 (qP p8 ?_)))))))))
   refine h_next ?_
   refine h_done (by kernel_rfl) ?_
   refine qP p6 (qP p6 (qP p6 (qP p6 (qP p6 (qP p6 (qP p6 (qP p8 (qP p8 ?_))))))))
   exact q_mid (a247, c247, a246, x244) (by exact hx244) ⟨vr, vr, vr, vr, vr, vr, vr, vr, vr, vr, vr, vr, vr, vr, vr, vr, vr, vr, vr, vr, vr, vr, vr, vr, vr, vr, vr, vr, vr, vr, vr, vr, vr, vr, vr, vr, vr, vr, vr, vr, vr, vr, vr, vr, vr, vr, vr, vr, vr, vr, vr, vr, vr, vr, vr, vr, vr, vr, vr, vr, vr, vr, vr, vr, vr, vr, vr, trivial⟩ (fun w S => S)
  · -- 12 comes first
   refine o_lit e_ItA_ok rfl Try.underlying100 rfl rfl rfl (lit_ok rfl) [x244] rfl rfl fun a246 => ?_
   refine l_nil (qP p9 (qP p9 (qP p2 (qP p9 (qP p9 (qP p9 (qP p9 (qP p9 (qP p9 ?_)))))))))
   refine qP p9 (h_next ?_)
   refine h_one 4 rfl (by kernel_rfl) ?_
   refine o_load1 rfl rfl Try.underlying100 rfl (rd_mem 8 rfl rfl) ?_
   refine l_nil (h_next ?_)
   refine h_one 13 rfl (by kernel_rfl) ?_
   refine l_f9 ?_
   refine o_append e_ItA_ok rfl rfl rfl Try.underlying100 (rds_own e_ItA_ok 8 rfl) (by show (_ + _) * 64 ≤ _; (try simp only [List.length_append, List.length_cons, List.length_nil]); omega) (by (try simp only [List.length_append, List.length_cons, List.length_nil]); omega) fun a247 c247 => ?_
   refine l_f8 ?_
   refine l_drop ?_
   refine l_nil (qP p8 (qP p1 (qP p8 (qP p8 (qP p8 (qP p8 (qP p8 (qP p8 (qP p8 ?_)))))))))
   refine h_next ?_
   refine h_take 14 rfl rfl (by kernel_rfl) (by kernel_rfl) (by kernel_rfl) (fun L0 => v_nil rfl rfl) ?_
   refine h_take 15 rfl rfl (by kernel_rfl) (by kernel_rfl) (by kernel_rfl) (fun L0 => v_fieldAddr (q := ⟨kb, 0, none⟩) rfl rfl Try.underlying103 rfl ti100 rfl) ?_
   refine h_one 16 rfl (by kernel_rfl) ?_
   refine l_f8 ?_
   refine o_store1 rfl rfl rfl ti100 rfl rfl ?_
   refine l_nil (qP p8 (qP p1 (qP p8 (qP p8 (qP p8 (qP p8 (qP p8 (qP p8 (qP p8 ?_)))))))))
   refine h_next ?_
   refine h_done (by kernel_rfl) ?_
   refine qP p6 (qP p6 (qP p6 (qP p6 (qP p6 (qP p6 (qP p6 (qP p8 (qP p8 ?_))))))))
   exact q_mid (a247, c247, a246, x244) (by exact hx244) ⟨vr, vr, vr, vr, vr, vr, vr, vr, vr, vr, vr, vr, vr, vr, vr, vr, vr, vr, vr, vr, vr, vr, vr, vr, vr, vr, vr, vr, vr, vr, vr, vr, vr, vr, vr, vr, vr, vr, vr, vr, vr, vr, vr, vr, vr, vr, vr, vr, vr, vr, vr, vr, vr, vr, vr, vr, vr, vr, vr, vr, vr, vr, vr, vr, vr, vr, vr, trivial⟩ (fun w S => S)
 · -- behind the cut
  rintro ⟨a247, c247, a246, x244⟩ hx244
  try dsimp only at *
  refine c_seq ?_
  refine c_fact (p := ∃ ad, ra = some ad) (rds_some (e := e_ItA) (xs := ri) (rds_own e_ItA_ok 7 rfl) (by intro h0; rw [h0] at hr3; simp at hr3)) ?_
  rintro ⟨adr, eadr⟩
  refine c_fact (p := ∃ ad, na = some ad) (rds_some (e := e_ItA) (xs := its) (rds_own e_ItA_ok 3 rfl) (by intro h0; rw [h0] at h2; simp at h2; omega)) ?_
  rintro ⟨adn, eadn⟩
  refine cP p3 (cP p3 (cP p8 (cP p8 (cP p8 (cP p8 (cP p8 (cP p8 (cP p8 ?_))))))))
  refine c_held [blk kb (.cells #[.slice a247 (ki ++ [x244]).length c247, .slice kka (kk).length kkc] 103 (0, 0)), row e_ItA.T e_ItA.sz a247 (ki ++ [x244]).length c247 (flat e_ItA (ki ++ [x244])), row eN99.T eN99.sz nka (nk).length nkc (flat eN99 nk), row eN99.T eN99.sz kka (kk).length kkc (flat eN99 kk), blk rb (.cells #[.slice ra (ri).length rc, .slice rka (rk).length rkc] 103 (0, 0)), row e_ItA.T e_ItA.sz ra (ri).length rc (flat e_ItA ri), row eN99.T eN99.sz rka (rk).length rkc (flat eN99 rk)] (by kernel_rfl) rfl ?_
  refine h_take 0 rfl rfl (by kernel_rfl) (by kernel_rfl) (by kernel_rfl) (fun L0 => v_move rfl rfl) ?_
  refine h_take 1 rfl rfl (by kernel_rfl) (by kernel_rfl) (by kernel_rfl) (fun L0 => v_nil rfl rfl) ?_
  refine h_take 2 rfl rfl (by kernel_rfl) (by kernel_rfl) (by kernel_rfl) (fun L0 => v_fieldAddr (q := ⟨b, 0, none⟩) rfl rfl Try.underlying103 rfl ti100 rfl) ?_
  refine h_take 4 rfl rfl (by kernel_rfl) (by kernel_rfl) (by kernel_rfl) (fun L0 => v_move rfl rfl) ?_
  refine h_take 5 rfl rfl (by kernel_rfl) (by kernel_rfl) (by kernel_rfl) (fun L0 => v_move rfl rfl) ?_
  refine h_take 6 rfl rfl (by kernel_rfl) (by kernel_rfl) (by kernel_rfl) (fun L0 => v_nil rfl rfl) ?_
  refine h_take 7 rfl rfl (by kernel_rfl) (by kernel_rfl) (by kernel_rfl) (fun L0 => v_fieldAddr (q := ⟨rb, 0, none⟩) rfl rfl Try.underlying103 rfl ti100 rfl) ?_
  refine h_take 8 rfl rfl (by kernel_rfl) (by kernel_rfl) (by kernel_rfl) (fun L0 => v_load1 rfl rfl Try.underlying100 rfl (rd_mem 4 rfl rfl)) ?_
  refine h_take 9 rfl rfl (by kernel_rfl) (by kernel_rfl) (by kernel_rfl) (fun L0 => v_indexK e_ItA_ok eadr rfl rfl rfl Try.underlying100 (by omega) (by omega)) ?_
  obtain ⟨x259, hx259⟩ : ∃ x, (ri)[((0 : Int)).toNat]? = some x := ⟨_, List.getElem?_eq_getElem (by omega)⟩
  refine h_take 10 rfl rfl (by kernel_rfl) (by kernel_rfl) (by kernel_rfl) (fun L0 => v_loadn (vs := e_ItA.cells x259) rfl rfl Try.underlying110 rfl ti110 (rdn_sl e_ItA_ok eadr (rds_own e_ItA_ok 5 rfl) hx259)) ?_
  refine h_one 3 rfl (by kernel_rfl) ?_
  refine o_load1 rfl rfl Try.underlying100 rfl (rd_mem 7 rfl rfl) ?_
  refine l_nil (h_next ?_)
  refine h_take 11 rfl rfl (by kernel_rfl) (by kernel_rfl) (by kernel_rfl) (fun L0 => v_indexK e_ItA_ok eadn rfl rfl rfl Try.underlying100 (by omega) (by omega)) ?_
  obtain ⟨x261, hx261⟩ : ∃ x, (its)[((j : Int)).toNat]? = some x := ⟨_, List.getElem?_eq_getElem (by omega)⟩
  refine h_one 12 rfl (by kernel_rfl) ?_
  refine l_f8 ?_
  refine o_storeRowAll e_ItA_ok eadn rfl rfl ti110 x259 rfl (by have := List.getElem?_eq_some_iff.1 hx261; exact this.1) ?_
  refine l_f8 ?_
  refine l_conv (L' := blk b (.cells #[.slice na (its).length nc, .slice nka (nk).length nkc] 103 (0, 0)) :: _) (fun w S => S) ?_
  refine l_conv (L' := blk b (.cells #[.slice na ((its).set ((j : Int)).toNat x259).length nc, .slice nka (nk).length nkc] 103 (0, 0)) :: row e_ItA.T e_ItA.sz na ((its).set ((j : Int)).toNat x259).length nc (flat e_ItA ((its).set ((j : Int)).toNat x259)) :: blk kb (.cells #[.slice a247 (ki ++ [x244]).length c247, .slice kka (kk).length kkc] 103 (0, 0)) :: row e_ItA.T e_ItA.sz a247 (ki ++ [x244]).length c247 (flat e_ItA (ki ++ [x244])) :: row eN99.T eN99.sz nka (nk).length nkc (flat eN99 nk) :: row eN99.T eN99.sz kka (kk).length kkc (flat eN99 kk) :: blk rb (.cells #[.slice ra (ri).length rc, .slice rka (rk).length rkc] 103 (0, 0)) :: row e_ItA.T e_ItA.sz ra (ri).length rc (flat e_ItA ri) :: row eN99.T eN99.sz rka (rk).length rkc (flat eN99 rk) :: F) (fun w S => by first | exact S | simpa only [List.length_set] using S | (simp only [List.length_set] at S ⊢; exact S)) ?_
  refine l_nil (qP p1 (qP p1 (qP p8 (qP p8 (qP p8 (qP p8 (qP p8 (qP p8 (qP p8 ?_)))))))))
  refine h_next ?_
  refine h_done (by kernel_rfl) ?_
  refine q_then (c_seq (c_region (o_move rfl rfl (o_move rfl rfl (o_nil rfl rfl ?_)))))
  refine o_fieldAddr (q := ⟨rb, 0, none⟩) rfl rfl Try.underlying103 rfl ti100 rfl ?_
  refine o_load1 rfl rfl Try.underlying100 rfl (rd_mem 4 rfl rfl) ?_
  refine l_f5 ?_
  refine o_call rfl cal71 rfl (delI_A (xs := ri) (i := 0) (j := 1) (by omega) (by omega) (by omega)) ?_
  rintro _ _ ⟨rfl, rfl⟩
  refine o_nil rfl rfl ?_
  refine o_fieldAddr (q := ⟨rb, 0, none⟩) rfl rfl Try.underlying103 rfl ti100 rfl ?_
  refine l_f5 ?_
  refine o_store1 rfl rfl rfl ti100 rfl rfl ?_
  refine l_nil (q_then (c_seq (c_region (o_move rfl rfl (o_nil rfl rfl ?_)))))
  refine o_fieldAddr (q := ⟨rb, 1, none⟩) rfl rfl Try.underlying103 rfl ti101 rfl ?_
  refine o_load1 rfl rfl Try.underlying101 rfl (rd_mem 0 rfl rfl) ?_
  refine o_len rfl rfl Try.underlying101 ?_
  refine o_bin rfl rfl rfl b_gtr ?_
  refine l_nil (q_then ?_)
  refine c_cond rfl (fun h1 => ?_) (fun h1 => ?_)
  · -- h1T
   have h1b := h1
   try simp only [decide_eq_true_eq] at h1
   refine c_seq ?_
   refine c_mid (α := (Option Addr) × Nat × (Option Addr) × Nat) (fun z => [(0, .pointer (some ⟨b, 0, none⟩)), (1, .int .i64 (j : Int)), (4, .pointer (some ⟨kb, 0, none⟩)), (7, .pointer (some ⟨rb, 0, none⟩)), (10, .pointer (some ⟨b, 0, none⟩)), (11, .pointer (some ⟨b, 0, none⟩)), (12, .pointer (some ⟨b, 1, none⟩)), (13, .slice nka (nk).length nkc), (14, .int .i64 (j : Int)), (16, .pointer (some ⟨kb, 0, none⟩)), (90, .bool false), (91, .pointer (some ⟨kb, 0, none⟩)), (92, .pointer (some ⟨kb, 0, none⟩)), (93, .pointer (some ⟨kb, 0, none⟩)), (94, .slice ka (ki).length kc), (95, .int .i64 ((ki).length : Int)), (96, .bool false), (97, .bool false), (98, .int .i64 (j : Int)), (99, .bool false), (100, .bool false), (114, .bool false), (202, .bool true), (203, .int .i64 (j : Int)), (204, .int .i64 ((j + 1 : Nat) : Int)), (205, .pointer (some ⟨b, 0, none⟩)), (206, .pointer (some ⟨b, 0, none⟩)), (207, .pointer (some ⟨b, 1, none⟩)), (208, .slice nka (nk).length nkc), (209, .int .i64 ((nk).length : Int)), (210, .bool true), (211, .bool true), (212, .pointer (some ⟨b, 0, none⟩)), (213, .pointer (some ⟨b, 0, none⟩)), (214, .pointer (some ⟨b, 1, none⟩)), (215, .slice nka (nk).length nkc), (216, .int .i64 (j : Int)), (217, .int .i64 ((j + 1 : Nat) : Int)), (219, .pointer (some ⟨rb, 0, none⟩)), (220, .pointer (some ⟨rb, 0, none⟩)), (221, .pointer (some ⟨rb, 0, none⟩)), (222, .slice ra (ri).length rc), (223, .int .i64 ((ri).length : Int)), (224, .bool true), (225, .bool true), (226, .pointer (some ⟨b, 0, none⟩)), (227, .pointer (some ⟨b, 0, none⟩)), (228, .pointer (some ⟨b, 1, none⟩)), (229, .slice nka (nk).length nkc), (230, .int .i64 (j : Int)), (231, .int .i64 ((j + 1 : Nat) : Int)), (233, .pointer (some ⟨rb, 0, none⟩)), (234, .pointer (some ⟨kb, 0, none⟩)), (235, .pointer (some ⟨kb, 0, none⟩)), (236, .pointer (some ⟨kb, 0, none⟩)), (237, .pointer (some ⟨kb, 0, none⟩)), (238, .slice ka (ki).length kc), (239, .pointer (some ⟨b, 0, none⟩)), (240, .pointer (some ⟨b, 0, none⟩)), (241, .pointer (some ⟨b, 0, none⟩)), (242, .slice na ((its).set ((j : Int)).toNat x259).length nc), (243, .int .i64 (j : Int)), (245, .agg #[.string x244.f_key, .bool x244.f_value.f_Has, .slice x244.f_value.f_Value.a (x244.f_value.f_Value.xs).length x244.f_value.f_Value.c, .int .i64 x244.f_value.f_Home, .int .u64 x244.f_value.f_Count]), (246, .slice a246 ([x244]).length 1), (247, .slice a247 (ki ++ [x244]).length c247), (248, .pointer (some ⟨kb, 0, none⟩)), (249, .pointer (some ⟨kb, 0, none⟩)), (250, .pointer (some ⟨b, 0, none⟩)), (251, .pointer (some ⟨b, 0, none⟩)), (252, .pointer (some ⟨b, 0, none⟩)), (253, .slice na ((its).set ((j : Int)).toNat x259).length nc), (254, .int .i64 (j : Int)), (255, .pointer (some ⟨rb, 0, none⟩)), (256, .pointer (some ⟨rb, 0, none⟩)), (257, .pointer (some ⟨rb, 0, none⟩)), (258, .slice ra (ri).length rc), (260, .agg #[.string x259.f_key, .bool x259.f_value.f_Has, .slice x259.f_value.f_Value.a (x259.f_value.f_Value.xs).length x259.f_value.f_Value.c, .int .i64 x259.f_value.f_Home, .int .u64 x259.f_value.f_Count]), (262, .pointer (some ⟨rb, 0, none⟩)), (263, .pointer (some ⟨rb, 0, none⟩)), (264, .pointer (some ⟨rb, 0, none⟩)), (265, .pointer (some ⟨rb, 0, none⟩)), (266, .slice ra (ri).length rc), (267, .slice ra ((ri.take 0 ++ ri.drop 1)).length rc), (268, .pointer (some ⟨rb, 0, none⟩)), (269, .pointer (some ⟨rb, 0, none⟩)), (270, .pointer (some ⟨rb, 0, none⟩)), (271, .pointer (some ⟨rb, 0, none⟩)), (272, .pointer (some ⟨rb, 1, none⟩)), (273, .slice rka (rk).length rkc), (274, .int .i64 ((rk).length : Int)), (275, .bool (decide (0 < ((rk).length : Int)))), (276, .pointer (some ⟨kb, 0, none⟩)), (277, .pointer (some ⟨kb, 0, none⟩)), (278, .pointer (some ⟨kb, 0, none⟩)), (279, .pointer (some ⟨kb, 1, none⟩)), (280, .slice kka (kk).length kkc), (281, .pointer (some ⟨rb, 0, none⟩)), (282, .pointer (some ⟨rb, 0, none⟩)), (283, .pointer (some ⟨rb, 1, none⟩)), (284, .slice rka (rk).length rkc), (286, .pointer (some ⟨z.2.2.2, 0, none⟩)), (287, .slice z.2.2.1 ([z.2.2.2]).length 1), (288, .slice z.1 (kk ++ [z.2.2.2]).length z.2.1), (289, .pointer (some ⟨kb, 0, none⟩)), (290, .pointer (some ⟨kb, 1, none⟩))]) (fun z => blk kb (.cells #[.slice a247 (ki ++ [x244]).length c247, .slice z.1 (kk ++ [z.2.2.2]).length z.2.1] 103 (0, 0)) :: row eN99.T eN99.sz z.1 (kk ++ [z.2.2.2]).length z.2.1 (flat eN99 (kk ++ [z.2.2.2])) :: blk rb (.cells #[.slice ra ((ri.take 0 ++ ri.drop 1)).length rc, .slice rka (rk).length rkc] 103 (0, 0)) :: row e_ItA.T e_ItA.sz ra ((ri.take 0 ++ ri.drop 1)).length rc (flat e_ItA (ri.take 0 ++ ri.drop 1)) :: row e_ItA.T e_ItA.sz a247 (ki ++ [x244]).length c247 (flat e_ItA (ki ++ [x244])) :: row eN99.T eN99.sz nka (nk).length nkc (flat eN99 nk) :: row eN99.T eN99.sz rka (rk).length rkc (flat eN99 rk) :: blk b (.cells #[.slice na ((its).set ((j : Int)).toNat x259).length nc, .slice nka (nk).length nkc] 103 (0, 0)) :: row e_ItA.T e_ItA.sz na ((its).set ((j : Int)).toNat x259).length nc (flat e_ItA ((its).set ((j : Int)).toNat x259)) :: F) (fun z => rk[((0 : Int)).toNat]? = some z.2.2.2) ?_ ?_
   · -- cut
    have hrk := hrk0 (by omega)
    refine c_fact (p := ∃ ad, rka = some ad) (rds_some (e := eN99) (xs := rk) (rds_own eN99_ok 6 rfl) (by intro h0; rw [h0] at hrk; simp at hrk)) ?_
    rintro ⟨adk, eadk⟩
    refine cP p5 (cP p3 (cP p8 (cP p8 (cP p8 (cP p8 (cP p8 (cP p8 (cP p8 ?_))))))))
    refine c_held [blk rb (.cells #[.slice ra ((ri.take 0 ++ ri.drop 1)).length rc, .slice rka (rk).length rkc] 103 (0, 0)), row e_ItA.T e_ItA.sz ra ((ri.take 0 ++ ri.drop 1)).length rc (flat e_ItA (ri.take 0 ++ ri.drop 1)), row e_ItA.T e_ItA.sz a247 (ki ++ [x244]).length c247 (flat e_ItA (ki ++ [x244])), row eN99.T eN99.sz nka (nk).length nkc (flat eN99 nk), row eN99.T eN99.sz rka (rk).length rkc (flat eN99 rk), blk b (.cells #[.slice na ((its).set ((j : Int)).toNat x259).length nc, .slice nka (nk).length nkc] 103 (0, 0)), row e_ItA.T e_ItA.sz na ((its).set ((j : Int)).toNat x259).length nc (flat e_ItA ((its).set ((j : Int)).toNat x259))] (by kernel_rfl) rfl ?_
    refine h_take 0 rfl rfl (by kernel_rfl) (by kernel_rfl) (by kernel_rfl) (fun L0 => v_move rfl rfl) ?_
    refine h_take 1 rfl rfl (by kernel_rfl) (by kernel_rfl) (by kernel_rfl) (fun L0 => v_move rfl rfl) ?_
    refine h_take 2 rfl rfl (by kernel_rfl) (by kernel_rfl) (by kernel_rfl) (fun L0 => v_nil rfl rfl) ?_
    refine h_take 3 rfl rfl (by kernel_rfl) (by kernel_rfl) (by kernel_rfl) (fun L0 => v_fieldAddr (q := ⟨kb, 1, none⟩) rfl rfl Try.underlying103 rfl ti101 rfl) ?_
    refine h_take 5 rfl rfl (by kernel_rfl) (by kernel_rfl) (by kernel_rfl) (fun L0 => v_move rfl rfl) ?_
    refine h_take 6 rfl rfl (by kernel_rfl) (by kernel_rfl) (by kernel_rfl) (fun L0 => v_nil rfl rfl) ?_
    refine h_take 7 rfl rfl (by kernel_rfl) (by kernel_rfl) (by kernel_rfl) (fun L0 => v_fieldAddr (q := ⟨rb, 1, none⟩) rfl rfl Try.underlying103 rfl ti101 rfl) ?_
    refine h_take 8 rfl rfl (by kernel_rfl) (by kernel_rfl) (by kernel_rfl) (fun L0 => v_load1 rfl rfl Try.underlying101 rfl (rd_mem 0 rfl rfl)) ?_
    refine h_take 9 rfl rfl (by kernel_rfl) (by kernel_rfl) (by kernel_rfl) (fun L0 => v_indexK eN99_ok eadk rfl rfl rfl Try.underlying101 (by omega) (by omega)) ?_
    obtain ⟨x285, hx285⟩ : ∃ x, (rk)[((0 : Int)).toNat]? = some x := ⟨_, List.getElem?_eq_getElem (by omega)⟩
    refine h_take 10 rfl rfl (by kernel_rfl) (by kernel_rfl) (by kernel_rfl) (fun L0 => v_load1 rfl rfl Try.underlying99 rfl (rd_sl0 eN99_ok eadk (rds_own eN99_ok 4 rfl) hx285 rfl)) ?_
    refine h_many (is := [4, 11]) (by kernel_rfl) (by decide) (forall_cons ⟨_, rfl, ?_⟩ (forall_cons ⟨_, rfl, ?_⟩ forall_nil))
    · -- 4 comes first
     refine o_load1 rfl rfl Try.underlying101 rfl (rd_mem 7 rfl rfl) ?_
     refine l_nil (h_next ?_)
     refine h_one 11 rfl (by kernel_rfl) ?_
     refine o_lit eN99_ok rfl Try.underlying101 rfl rfl rfl (lit_ok rfl) [x285] rfl rfl fun a287 => ?_
     refine l_nil (qP p9 (qP p9 (qP p2 (qP p9 (qP p9 (qP p9 (qP p9 (qP p9 (qP p9 ?_)))))))))
     refine qP p9 (h_next ?_)
     refine h_one 12 rfl (by kernel_rfl) ?_
     refine l_f9 ?_
     refine o_append eN99_ok rfl rfl rfl Try.underlying101 (rds_own eN99_ok 8 rfl) (by show (_ + _) * 8 ≤ _; (try simp only [List.length_append, List.length_cons, List.length_nil]); omega) (by (try simp only [List.length_append, List.length_cons, List.length_nil]); omega) fun a288 c288 => ?_
     refine l_f8 ?_
     refine l_drop ?_
     refine l_nil (qP p8 (qP p1 (qP p8 (qP p8 (qP p8 (qP p8 (qP p8 (qP p8 (qP p8 ?_)))))))))
     refine h_next ?_
     refine h_take 13 rfl rfl (by kernel_rfl) (by kernel_rfl) (by kernel_rfl) (fun L0 => v_nil rfl rfl) ?_
     refine h_take 14 rfl rfl (by kernel_rfl) (by kernel_rfl) (by kernel_rfl) (fun L0 => v_fieldAddr (q := ⟨kb, 1, none⟩) rfl rfl Try.underlying103 rfl ti101 rfl) ?_
     refine h_one 15 rfl (by kernel_rfl) ?_
     refine l_f8 ?_
     refine o_store1 rfl rfl rfl ti101 rfl rfl ?_
     refine l_nil (qP p8 (qP p1 (qP p8 (qP p8 (qP p8 (qP p8 (qP p8 (qP p8 (qP p8 ?_)))))))))
     refine h_next ?_
     refine h_done (by kernel_rfl) ?_
     refine qP p6 (qP p6 (qP p6 (qP p6 (qP p6 (qP p6 (qP p6 (qP p8 (qP p8 ?_))))))))
     exact q_mid (a288, c288, a287, x285) (by exact hx285) ⟨vr, vr, vr, vr, vr, vr, vr, vr, vr, vr, vr, vr, vr, vr, vr, vr, vr, vr, vr, vr, vr, vr, vr, vr, vr, vr, vr, vr, vr, vr, vr, vr, vr, vr, vr, vr, vr, vr, vr, vr, vr, vr, vr, vr, vr, vr, vr, vr, vr, vr, vr, vr, vr, vr, vr, vr, vr, vr, vr, vr, (by first | rfl | (rw [List.length_set]; rfl)), vr, vr, vr, vr, vr, vr, vr, vr, vr, (by first | rfl | (rw [List.length_set]; rfl)), vr, vr, vr, vr, vr, vr, vr, vr, vr, vr, vr, vr, vr, vr, vr, vr, vr, vr, vr, vr, vr, vr, vr, vr, vr, vr, vr, vr, vr, vr, vr, vr, vr, vr, trivial⟩ (fun w S => S)
    · -- 11 comes first
     refine o_lit eN99_ok rfl Try.underlying101 rfl rfl rfl (lit_ok rfl) [x285] rfl rfl fun a287 => ?_
     refine l_nil (qP p9 (qP p9 (qP p2 (qP p9 (qP p9 (qP p9 (qP p9 (qP p9 (qP p9 ?_)))))))))
     refine qP p9 (h_next ?_)
     refine h_one 4 rfl (by kernel_rfl) ?_
     refine o_load1 rfl rfl Try.underlying101 rfl (rd_mem 8 rfl rfl) ?_
     refine l_nil (h_next ?_)
     refine h_one 12 rfl (by kernel_rfl) ?_
     refine l_f9 ?_
     refine o_append eN99_ok rfl rfl rfl Try.underlying101 (rds_own eN99_ok 8 rfl) (by show (_ + _) * 8 ≤ _; (try simp only [List.length_append, List.length_cons, List.length_nil]); omega) (by (try simp only [List.length_append, List.length_cons, List.length_nil]); omega) fun a288 c288 => ?_
     refine l_f8 ?_
     refine l_drop ?_
     refine l_nil (qP p8 (qP p1 (qP p8 (qP p8 (qP p8 (qP p8 (qP p8 (qP p8 (qP p8 ?_)))))))))
     refine h_next ?_
     refine h_take 13 rfl rfl (by kernel_rfl) (by kernel_rfl) (by kernel_rfl) (fun L0 => v_nil rfl rfl) ?_
     refine h_take 14 rfl rfl (by kernel_rfl) (by kernel_rfl) (by kernel_rfl) (fun L0 => v_fieldAddr (q := ⟨kb, 1, none⟩) rfl rfl Try.underlying103 rfl ti101 rfl) ?_
     refine h_one 15 rfl (by kernel_rfl) ?_
     refine l_f8 ?_
     refine o_store1 rfl rfl rfl ti101 rfl rfl ?_
     refine l_nil (qP p8 (qP p1 (qP p8 (qP p8 (qP p8 (qP p8 (qP p8 (qP p8 (qP p8 ?_)))))))))
     refine h_next ?_
     refine h_done (by kernel_rfl) ?_
     refine qP p6 (qP p6 (qP p6 (qP p6 (qP p6 (qP p6 (qP p6 (qP p8 (qP p8 ?_))))))))
     exact q_mid (a288, c288, a287, x285) (by exact hx285) ⟨vr, vr, vr, vr, vr, vr, vr, vr, vr, vr, vr, vr, vr, vr, vr, vr, vr, vr, vr, vr, vr, vr, vr, vr, vr, vr, vr, vr, vr, vr, vr, vr, vr, vr, vr, vr, vr, vr, vr, vr, vr, vr, vr, vr, vr, vr, vr, vr, vr, vr, vr, vr, vr, vr, vr, vr, vr, vr, vr, vr, (by first | rfl | (rw [List.length_set]; rfl)), vr, vr, vr, vr, vr, vr, vr, vr, vr, (by first | rfl | (rw [List.length_set]; rfl)), vr, vr, vr, vr, vr, vr, vr, vr, vr, vr, vr, vr, vr, vr, vr, vr, vr, vr, vr, vr, vr, vr, vr, vr, vr, vr, vr, vr, vr, vr, vr, vr, vr, vr, trivial⟩ (fun w S => S)
   · -- behind the cut
    rintro ⟨a288, c288, a287, x285⟩ hx285
    try dsimp only at *
    refine c_region (o_move rfl rfl (o_move rfl rfl (o_nil rfl rfl ?_)))
    refine o_fieldAddr (q := ⟨rb, 1, none⟩) rfl rfl Try.underlying103 rfl ti101 rfl ?_
    refine o_load1 rfl rfl Try.underlying101 rfl (rd_mem 2 rfl rfl) ?_
    refine l_f6 ?_
    refine o_call rfl cal79 rfl (delK_A (xs := rk) (i := 0) (j := 1) (by omega) (by omega) (by omega)) ?_
    rintro _ _ ⟨rfl, rfl⟩
    refine o_nil rfl rfl ?_
    refine o_fieldAddr (q := ⟨rb, 1, none⟩) rfl rfl Try.underlying103 rfl ti101 rfl ?_
    refine l_f3 ?_
    refine o_store1 rfl rfl rfl ti101 rfl rfl ?_
    refine l_nil (q_block (qP p1 (qP p4 (qP p2 (qP p4 (qP p5 (qP p5 (qP p6 (qP p8 ?_)))))))))
    refine qP p8 ?_
    exact f_end (r_none rfl) (⟨x244, x259, a247, c247, (show its[j]? = some x244 from by have h9 := hx244; rw [show ((j : Int)).toNat = j from rfl] at h9; exact h9), (show ri[0]? = some x259 from hx259), .inr ⟨a288, c288, x285, (show rk[0]? = some x285 from hx285), rfl⟩⟩) (fun w S => by (rw [show ((j : Int)).toNat = j from rfl, List.length_set] at S; exact S))
  · -- h1F
   have h1b := h1
   try simp only [decide_eq_false_iff_not, Int.not_lt, Int.not_le] at h1
   refine c_skip (q_block (qP p6 (qP p2 (qP p2 (qP p6 (qP p5 (qP p5 (qP p6 (qP p8 ?_)))))))))
   refine qP p8 ?_
   exact f_end (r_none rfl) (⟨x244, x259, a247, c247, (show its[j]? = some x244 from by have h9 := hx244; rw [show ((j : Int)).toNat = j from rfl] at h9; exact h9), (show ri[0]? = some x259 from hx259), .inl ⟨by omega, rfl⟩⟩) (fun w S => by (rw [show ((j : Int)).toNat = j from rfl, List.length_set] at S; exact S))
set_option maxHeartbeats 4000000 in
theorem mendC1_A {W : World} {F : List Res} {b kb : Nat} {its ki : List ItA} {nk kk : List Nat} {na nka ka kka : Option Addr} {nc nkc kc kkc : Nat} {lb : Nat} {li : List ItA} {lk : List Nat} {la lka : Option Addr} {lc lkc : Nat} {rb : Nat} {ri : List ItA} {rk : List Nat} {ra rka : Option Addr} {rc rkc : Nat} {j : Nat} (hk : nk[j]? = some kb) (hrb : nk[j + 1]? = some rb) (hk1 : ki.length < 2) (hr3 : 3 ≤ ri.length) (hr5 : ri.length ≤ 5) (hrk0 : 0 < rk.length → rk.length = ri.length + 1) (hj : 0 < j) (hlb : nk[j - 1]? = some lb) (hl2 : li.length ≤ 2) (h1 : its.length ≤ 5) (h2 : nk.length = its.length + 1) (h3 : ki.length ≤ 5) (h4 : kk.length ≤ 6) : CS Try.prog 73 #[.pointer (some ⟨b, 0, none⟩), .int .i64 (j : Int)] W (blk b (.cells #[.slice na (its).length nc, .slice nka (nk).length nkc] 103 (0, 0)) :: row e_ItA.T e_ItA.sz na (its).length nc (flat e_ItA its) :: row eN99.T eN99.sz nka (nk).length nkc (flat eN99 nk) :: blk kb (.cells #[.slice ka (ki).length kc, .slice kka (kk).length kkc] 103 (0, 0)) :: row e_ItA.T e_ItA.sz ka (ki).length kc (flat e_ItA ki) :: row eN99.T eN99.sz kka (kk).length kkc (flat eN99 kk) :: blk rb (.cells #[.slice ra (ri).length rc, .slice rka (rk).length rkc] 103 (0, 0)) :: row e_ItA.T e_ItA.sz ra (ri).length rc (flat e_ItA ri) :: row eN99.T eN99.sz rka (rk).length rkc (flat eN99 rk) :: blk lb (.cells #[.slice la (li).length lc, .slice lka (lk).length lkc] 103 (0, 0)) :: row e_ItA.T e_ItA.sz la (li).length lc (flat e_ItA li) :: row eN99.T eN99.sz lka (lk).length lkc (flat eN99 lk) :: F) (fun _ L' => ∃ (x y : ItA) (a1 : Option Addr) (c1 : Nat), its[j]? = some x ∧ ri[0]? = some y ∧ ((rk.length = 0 ∧ L' = blk b (.cells #[.slice na its.length nc, .slice nka nk.length nkc] 103 (0, 0)) :: row e_ItA.T e_ItA.sz na its.length nc (flat e_ItA (its.set j y)) :: row eN99.T eN99.sz nka (nk).length nkc (flat eN99 nk) :: blk kb (.cells #[.slice a1 (ki ++ [x]).length c1, .slice kka kk.length kkc] 103 (0, 0)) :: row e_ItA.T e_ItA.sz a1 ((ki ++ [x])).length c1 (flat e_ItA (ki ++ [x])) :: row eN99.T eN99.sz kka (kk).length kkc (flat eN99 kk) :: blk rb (.cells #[.slice ra (ri.drop 1).length rc, .slice rka rk.length rkc] 103 (0, 0)) :: row e_ItA.T e_ItA.sz ra ((ri.drop 1)).length rc (flat e_ItA (ri.drop 1)) :: row eN99.T eN99.sz rka (rk).length rkc (flat eN99 rk) :: blk lb (.cells #[.slice la (li).length lc, .slice lka (lk).length lkc] 103 (0, 0)) :: row e_ItA.T e_ItA.sz la (li).length lc (flat e_ItA li) :: row eN99.T eN99.sz lka (lk).length lkc (flat eN99 lk) :: F) ∨ (∃ (a2 : Option Addr) (c2 g : Nat), rk[0]? = some g ∧ L' = blk b (.cells #[.slice na its.length nc, .slice nka nk.length nkc] 103 (0, 0)) :: row e_ItA.T e_ItA.sz na its.length nc (flat e_ItA (its.set j y)) :: row eN99.T eN99.sz nka (nk).length nkc (flat eN99 nk) :: blk kb (.cells #[.slice a1 (ki ++ [x]).length c1, .slice a2 (kk ++ [g]).length c2] 103 (0, 0)) :: row e_ItA.T e_ItA.sz a1 ((ki ++ [x])).length c1 (flat e_ItA (ki ++ [x])) :: row eN99.T eN99.sz a2 ((kk ++ [g])).length c2 (flat eN99 (kk ++ [g])) :: blk rb (.cells #[.slice ra (ri.drop 1).length rc, .slice rka (rk.drop 1).length rkc] 103 (0, 0)) :: row e_ItA.T e_ItA.sz ra ((ri.drop 1)).length rc (flat e_ItA (ri.drop 1)) :: row eN99.T eN99.sz rka ((rk.drop 1)).length rkc (flat eN99 (rk.drop 1)) :: blk lb (.cells #[.slice la (li).length lc, .slice lka (lk).length lkc] 103 (0, 0)) :: row e_ItA.T e_ItA.sz la (li).length lc (flat e_ItA li) :: row eN99.T eN99.sz lka (lk).length lkc (flat eN99 lk) :: F))) := by
 refine f_door (l0 := [(0, .pointer (some ⟨b, 0, none⟩)), (1, .int .i64 (j : Int))]) Try.func73 Try.ntmps73 rfl rfl rfl ?_
 refine c_seq ?_
 have hil := (List.getElem?_eq_some_iff.1 hk).1
 have hir := (List.getElem?_eq_some_iff.1 hrb).1
 refine c_region (o_move rfl rfl (o_nil rfl rfl ?_))
 refine o_fieldAddr (q := ⟨b, 1, none⟩) rfl rfl Try.underlying103 rfl ti101 rfl ?_
 refine o_load1 rfl rfl Try.underlying101 rfl (rd_mem 0 rfl rfl) ?_
 refine o_move rfl rfl ?_
 refine o_index eN99_ok rfl rfl rfl Try.underlying101 (by omega) (by omega) (rds_own eN99_ok 2 rfl) fun ad15 ead15 => ?_
 obtain ⟨x15, hx15⟩ : ∃ x, (nk)[((j : Int)).toNat]? = some x := ⟨_, List.getElem?_eq_getElem (by omega)⟩
 have hxk15 : x15 = kb := by have h9 := hx15; rw [show ((j : Int)).toNat = j from by omega, hk] at h9; exact (Option.some.inj h9).symm
 refine o_load1 rfl rfl Try.underlying99 rfl (rd_sl0 eN99_ok ead15 (rds_own eN99_ok 2 rfl) hx15 rfl) ?_
 refine l_eq (t := 16) (v' := .pointer (some ⟨kb, 0, none⟩)) rfl (by rw [hxk15]) ?_
 refine o_assign rfl rfl (l_nil (q_then (c_block (c_seq (c_region (o_move rfl rfl (o_nil rfl rfl ?_)))))))
 refine o_fieldAddr (q := ⟨kb, 0, none⟩) rfl rfl Try.underlying103 rfl ti100 rfl ?_
 refine o_load1 rfl rfl Try.underlying100 rfl (rd_mem 3 rfl rfl) ?_
 refine o_len rfl rfl Try.underlying100 ?_
 refine o_bin rfl rfl rfl b_geq ?_
 refine l_eq (t := 96) (v' := .bool false) rfl (show _ = Value.bool false from by rw [decide_eq_false (by omega)]) ?_
 refine o_assign rfl rfl (l_nil (q_then (c_false rfl (c_seq (c_region (o_move rfl rfl ?_))))))
 refine o_bin rfl rfl rfl b_gtr ?_
 refine l_eq (t := 99) (v' := .bool true) rfl (show _ = Value.bool true from by rw [decide_eq_true (by omega)]) ?_
 refine o_move rfl rfl (o_yes rfl rfl rfl (o_move rfl rfl (o_yes rfl rfl rfl (o_nil rfl rfl (o_yes rfl rfl rfl ?_)))))
 refine o_fieldAddr (q := ⟨b, 1, none⟩) rfl rfl Try.underlying103 rfl ti101 rfl ?_
 refine o_yes rfl rfl rfl ?_
 refine o_load1 rfl rfl Try.underlying101 rfl (rd_mem 0 rfl rfl) ?_
 refine o_yes rfl rfl rfl (o_move rfl rfl (o_yes rfl rfl rfl ?_))
 refine o_bin rfl rfl rfl (b_sub (show IntKind.i64.wrap ((j : Int) - 1) = ((j - 1 : Nat) : Int) from by rw [wrap_i64 (by omega) (by omega)]; omega)) ?_
 refine o_yes rfl rfl rfl ?_
 refine o_indexK eN99_ok ead15 rfl rfl rfl Try.underlying101 (by omega) (by omega) ?_
 obtain ⟨x107, hx107⟩ : ∃ x, (nk)[(((j - 1 : Nat) : Int)).toNat]? = some x := ⟨_, List.getElem?_eq_getElem (by omega)⟩
 have hxk107 : x107 = lb := by have h9 := hx107; rw [show (((j - 1 : Nat) : Int)).toNat = j - 1 from by omega, hlb] at h9; exact (Option.some.inj h9).symm
 refine o_yes rfl rfl rfl ?_
 refine o_load1 rfl rfl Try.underlying99 rfl (rd_sl0 eN99_ok ead15 (rds_own eN99_ok 2 rfl) hx107 rfl) ?_
 refine l_eq (t := 108) (v' := .pointer (some ⟨lb, 0, none⟩)) rfl (by rw [hxk107]) ?_
 refine o_yes rfl rfl rfl (o_nil rfl rfl (o_yes rfl rfl rfl ?_))
 refine o_fieldAddr (q := ⟨lb, 0, none⟩) rfl rfl Try.underlying103 rfl ti100 rfl ?_
 refine o_yes rfl rfl rfl ?_
 refine o_load1 rfl rfl Try.underlying100 rfl (rd_mem 9 rfl rfl) ?_
 refine o_yes rfl rfl rfl ?_
 refine o_len rfl rfl Try.underlying100 ?_
 refine o_yes rfl rfl rfl ?_
 refine o_bin rfl rfl rfl b_gtr ?_
 refine l_eq (t := 113) (v' := .bool false) rfl (show _ = Value.bool false from by rw [decide_eq_false (by omega)]) ?_
 refine o_pick_true rfl rfl rfl (o_assign rfl rfl (l_nil (q_then (c_false rfl (c_seq (c_region (o_move rfl rfl ?_)))))))
 refine o_bin rfl rfl rfl (b_add (show IntKind.i64.wrap ((j : Int) + 1) = ((j + 1 : Nat) : Int) from by rw [wrap_i64 (by omega) (by omega)]; omega)) ?_
 refine o_move rfl rfl (o_nil rfl rfl ?_)
 refine o_fieldAddr (q := ⟨b, 1, none⟩) rfl rfl Try.underlying103 rfl ti101 rfl ?_
 refine o_load1 rfl rfl Try.underlying101 rfl (rd_mem 0 rfl rfl) ?_
 refine o_len rfl rfl Try.underlying101 ?_
 refine o_bin rfl rfl rfl b_lss ?_
 refine l_eq (t := 210) (v' := .bool true) rfl (show _ = Value.bool true from by rw [decide_eq_true (by omega)]) ?_
 refine o_move rfl rfl (o_yes rfl rfl rfl (o_move rfl rfl (o_yes rfl rfl rfl (o_nil rfl rfl (o_yes rfl rfl rfl ?_)))))
 refine o_fieldAddr (q := ⟨b, 1, none⟩) rfl rfl Try.underlying103 rfl ti101 rfl ?_
 refine o_yes rfl rfl rfl ?_
 refine o_load1 rfl rfl Try.underlying101 rfl (rd_mem 0 rfl rfl) ?_
 refine o_yes rfl rfl rfl (o_move rfl rfl (o_yes rfl rfl rfl ?_))
 refine o_bin rfl rfl rfl (b_add (show IntKind.i64.wrap ((j : Int) + 1) = ((j + 1 : Nat) : Int) from by rw [wrap_i64 (by omega) (by omega)]; omega)) ?_
 refine o_yes rfl rfl rfl ?_
 refine o_indexK eN99_ok ead15 rfl rfl rfl Try.underlying101 (by omega) (by omega) ?_
 obtain ⟨x218, hx218⟩ : ∃ x, (nk)[(((j + 1 : Nat) : Int)).toNat]? = some x := ⟨_, List.getElem?_eq_getElem (by omega)⟩
 have hxk218 : x218 = rb := by have h9 := hx218; rw [show (((j + 1 : Nat) : Int)).toNat = j + 1 from by omega, hrb] at h9; exact (Option.some.inj h9).symm
 refine o_yes rfl rfl rfl ?_
 refine o_load1 rfl rfl Try.underlying99 rfl (rd_sl0 eN99_ok ead15 (rds_own eN99_ok 2 rfl) hx218 rfl) ?_
 refine l_eq (t := 219) (v' := .pointer (some ⟨rb, 0, none⟩)) rfl (by rw [hxk218]) ?_
 refine o_yes rfl rfl rfl (o_nil rfl rfl (o_yes rfl rfl rfl ?_))
 refine o_fieldAddr (q := ⟨rb, 0, none⟩) rfl rfl Try.underlying103 rfl ti100 rfl ?_
 refine o_yes rfl rfl rfl ?_
 refine o_load1 rfl rfl Try.underlying100 rfl (rd_mem 6 rfl rfl) ?_
 refine o_yes rfl rfl rfl ?_
 refine o_len rfl rfl Try.underlying100 ?_
 refine o_yes rfl rfl rfl ?_
 refine o_bin rfl rfl rfl b_gtr ?_
 refine l_eq (t := 224) (v' := .bool true) rfl (show _ = Value.bool true from by rw [decide_eq_true (by omega)]) ?_
 refine o_pick_true rfl rfl rfl (o_assign rfl rfl (l_nil (q_then (c_true rfl (c_seq (c_region (o_move rfl rfl (o_nil rfl rfl ?_))))))))
 refine o_fieldAddr (q := ⟨b, 1, none⟩) rfl rfl Try.underlying103 rfl ti101 rfl ?_
 refine o_load1 rfl rfl Try.underlying101 rfl (rd_mem 0 rfl rfl) ?_
 refine o_move rfl rfl ?_
 refine o_bin rfl rfl rfl (b_add (show IntKind.i64.wrap ((j : Int) + 1) = ((j + 1 : Nat) : Int) from by rw [wrap_i64 (by omega) (by omega)]; omega)) ?_
 refine o_indexK eN99_ok ead15 rfl rfl rfl Try.underlying101 (by omega) (by omega) ?_
 obtain ⟨x232, hx232⟩ : ∃ x, (nk)[(((j + 1 : Nat) : Int)).toNat]? = some x := ⟨_, List.getElem?_eq_getElem (by omega)⟩
 have hxk232 : x232 = rb := by have h9 := hx232; rw [show (((j + 1 : Nat) : Int)).toNat = j + 1 from by omega, hrb] at h9; exact (Option.some.inj h9).symm
 refine o_load1 rfl rfl Try.underlying99 rfl (rd_sl0 eN99_ok ead15 (rds_own eN99_ok 2 rfl) hx232 rfl) ?_
 refine l_eq (t := 233) (v' := .pointer (some ⟨rb, 0, none⟩)) rfl (by rw [hxk232]) ?_
 refine o_assign rfl rfl (l_nil (q_then (c_seq ?_)))
 refine c_mid (α := (Option Addr) × Nat × (Option Addr) × ItA) (fun z => [(0, .pointer (some ⟨b, 0, none⟩)), (1, .int .i64 (j : Int)), (4, .pointer (some ⟨kb, 0, none⟩)), (7, .pointer (some ⟨rb, 0, none⟩)), (10, .pointer (some ⟨b, 0, none⟩)), (11, .pointer (some ⟨b, 0, none⟩)), (12, .pointer (some ⟨b, 1, none⟩)), (13, .slice nka (nk).length nkc), (14, .int .i64 (j : Int)), (16, .pointer (some ⟨kb, 0, none⟩)), (90, .bool false), (91, .pointer (some ⟨kb, 0, none⟩)), (92, .pointer (some ⟨kb, 0, none⟩)), (93, .pointer (some ⟨kb, 0, none⟩)), (94, .slice ka (ki).length kc), (95, .int .i64 ((ki).length : Int)), (96, .bool false), (97, .bool false), (98, .int .i64 (j : Int)), (99, .bool true), (100, .bool true), (101, .pointer (some ⟨b, 0, none⟩)), (102, .pointer (some ⟨b, 0, none⟩)), (103, .pointer (some ⟨b, 1, none⟩)), (104, .slice nka (nk).length nkc), (105, .int .i64 (j : Int)), (106, .int .i64 ((j - 1 : Nat) : Int)), (108, .pointer (some ⟨lb, 0, none⟩)), (109, .pointer (some ⟨lb, 0, none⟩)), (110, .pointer (some ⟨lb, 0, none⟩)), (111, .slice la (li).length lc), (112, .int .i64 ((li).length : Int)), (113, .bool false), (114, .bool false), (202, .bool true), (203, .int .i64 (j : Int)), (204, .int .i64 ((j + 1 : Nat) : Int)), (205, .pointer (some ⟨b, 0, none⟩)), (206, .pointer (some ⟨b, 0, none⟩)), (207, .pointer (some ⟨b, 1, none⟩)), (208, .slice nka (nk).length nkc), (209, .int .i64 ((nk).length : Int)), (210, .bool true), (211, .bool true), (212, .pointer (some ⟨b, 0, none⟩)), (213, .pointer (some ⟨b, 0, none⟩)), (214, .pointer (some ⟨b, 1, none⟩)), (215, .slice nka (nk).length nkc), (216, .int .i64 (j : Int)), (217, .int .i64 ((j + 1 : Nat) : Int)), (219, .pointer (some ⟨rb, 0, none⟩)), (220, .pointer (some ⟨rb, 0, none⟩)), (221, .pointer (some ⟨rb, 0, none⟩)), (222, .slice ra (ri).length rc), (223, .int .i64 ((ri).length : Int)), (224, .bool true), (225, .bool true), (226, .pointer (some ⟨b, 0, none⟩)), (227, .pointer (some ⟨b, 0, none⟩)), (228, .pointer (some ⟨b, 1, none⟩)), (229, .slice nka (nk).length nkc), (230, .int .i64 (j : Int)), (231, .int .i64 ((j + 1 : Nat) : Int)), (233, .pointer (some ⟨rb, 0, none⟩)), (234, .pointer (some ⟨kb, 0, none⟩)), (235, .pointer (some ⟨kb, 0, none⟩)), (236, .pointer (some ⟨kb, 0, none⟩)), (237, .pointer (some ⟨kb, 0, none⟩)), (238, .slice ka (ki).length kc), (239, .pointer (some ⟨b, 0, none⟩)), (240, .pointer (some ⟨b, 0, none⟩)), (241, .pointer (some ⟨b, 0, none⟩)), (242, .slice na (its).length nc), (243, .int .i64 (j : Int)), (245, .agg #[.string z.2.2.2.f_key, .bool z.2.2.2.f_value.f_Has, .slice z.2.2.2.f_value.f_Value.a (z.2.2.2.f_value.f_Value.xs).length z.2.2.2.f_value.f_Value.c, .int .i64 z.2.2.2.f_value.f_Home, .int .u64 z.2.2.2.f_value.f_Count]), (246, .slice z.2.2.1 ([z.2.2.2]).length 1), (247, .slice z.1 (ki ++ [z.2.2.2]).length z.2.1), (248, .pointer (some ⟨kb, 0, none⟩)), (249, .pointer (some ⟨kb, 0, none⟩))]) (fun z => blk kb (.cells #[.slice z.1 (ki ++ [z.2.2.2]).length z.2.1, .slice kka (kk).length kkc] 103 (0, 0)) :: row e_ItA.T e_ItA.sz z.1 (ki ++ [z.2.2.2]).length z.2.1 (flat e_ItA (ki ++ [z.2.2.2])) :: blk b (.cells #[.slice na (its).length nc, .slice nka (nk).length nkc] 103 (0, 0)) :: row e_ItA.T e_ItA.sz na (its).length nc (flat e_ItA its) :: row eN99.T eN99.sz nka (nk).length nkc (flat eN99 nk) :: row eN99.T eN99.sz kka (kk).length kkc (flat eN99 kk) :: blk rb (.cells #[.slice ra (ri).length rc, .slice rka (rk).length rkc] 103 (0, 0)) :: row e_ItA.T e_ItA.sz ra (ri).length rc (flat e_ItA ri) :: row eN99.T eN99.sz rka (rk).length rkc (flat eN99 rk) :: blk lb (.cells #[.slice la (li).length lc, .slice lka (lk).length lkc] 103 (0, 0)) :: row e_ItA.T e_ItA.sz la (li).length lc (flat e_ItA li) :: row eN99.T eN99.sz lka (lk).length lkc (flat eN99 lk) :: F) (fun z => its[((j : Int)).toNat]? = some z.2.2.2) ?_ ?_
 · -- cut
  refine c_fact (p := ∃ ad, na = some ad) (rds_some (e := e_ItA) (xs := its) (rds_own e_ItA_ok 1 rfl) (by intro h0; rw [h0] at h2; simp at h2; omega)) ?_
  rintro ⟨adx, eadx⟩
  refine cP p4 (cP p4 (cP p11 (cP p11 (cP p11 (cP p11 (cP p11 (cP p11 (cP p11 (cP p11 ?_)))))))))
  refine cP p11 (cP p11 ?_)
  refine c_held [blk b (.cells #[.slice na (its).length nc, .slice nka (nk).length nkc] 103 (0, 0)), row e_ItA.T e_ItA.sz na (its).length nc (flat e_ItA its), row eN99.T eN99.sz nka (nk).length nkc (flat eN99 nk), row eN99.T eN99.sz kka (kk).length kkc (flat eN99 kk), blk rb (.cells #[.slice ra (ri).length rc, .slice rka (rk).length rkc] 103 (0, 0)), row e_ItA.T e_ItA.sz ra (ri).length rc (flat e_ItA ri), row eN99.T eN99.sz rka (rk).length rkc (flat eN99 rk), blk lb (.cells #[.slice la (li).length lc, .slice lka (lk).length lkc] 103 (0, 0)), row e_ItA.T e_ItA.sz la (li).length lc (flat e_ItA li), row eN99.T eN99.sz lka (lk).length lkc (flat eN99 lk)] (by kernel_rfl) rfl ?_
  refine h_take 0 rfl rfl (by kernel_rfl) (by kernel_rfl) (by kernel_rfl) (fun L0 => v_move rfl rfl) ?_
  refine h_take 1 rfl rfl (by kernel_rfl) (by kernel_rfl) (by kernel_rfl) (fun L0 => v_move rfl rfl) ?_
  refine h_take 2 rfl rfl (by kernel_rfl) (by kernel_rfl) (by kernel_rfl) (fun L0 => v_nil rfl rfl) ?_
  refine h_take 3 rfl rfl (by kernel_rfl) (by kernel_rfl) (by kernel_rfl) (fun L0 => v_fieldAddr (q := ⟨kb, 0, none⟩) rfl rfl Try.underlying103 rfl ti100 rfl) ?_
  refine h_take 5 rfl rfl (by kernel_rfl) (by kernel_rfl) (by kernel_rfl) (fun L0 => v_move rfl rfl) ?_
  refine h_take 6 rfl rfl (by kernel_rfl) (by kernel_rfl) (by kernel_rfl) (fun L0 => v_nil rfl rfl) ?_
  refine h_take 7 rfl rfl (by kernel_rfl) (by kernel_rfl) (by kernel_rfl) (fun L0 => v_fieldAddr (q := ⟨b, 0, none⟩) rfl rfl Try.underlying103 rfl ti100 rfl) ?_
  refine h_take 8 rfl rfl (by kernel_rfl) (by kernel_rfl) (by kernel_rfl) (fun L0 => v_load1 rfl rfl Try.underlying100 rfl (rd_mem 0 rfl rfl)) ?_
  refine h_take 9 rfl rfl (by kernel_rfl) (by kernel_rfl) (by kernel_rfl) (fun L0 => v_move rfl rfl) ?_
  refine h_take 10 rfl rfl (by kernel_rfl) (by kernel_rfl) (by kernel_rfl) (fun L0 => v_indexK e_ItA_ok eadx rfl rfl rfl Try.underlying100 (by omega) (by omega)) ?_
  obtain ⟨x244, hx244⟩ : ∃ x, (its)[((j : Int)).toNat]? = some x := ⟨_, List.getElem?_eq_getElem (by omega)⟩
  refine h_take 11 rfl rfl (by kernel_rfl) (by kernel_rfl) (by kernel_rfl) (fun L0 => v_loadn (vs := e_ItA.cells x244) rfl rfl Try.underlying110 rfl ti110 (rdn_sl e_ItA_ok eadx (rds_own e_ItA_ok 1 rfl) hx244)) ?_
  refine h_many (is := [4, 12]) (by kernel_rfl) (by decide) (forall_cons ⟨_, rfl, ?_⟩ (forall_cons ⟨_, rfl, ?_⟩ forall_nil))
  · -- 4 comes first
   refine o_load1 rfl rfl Try.underlying100 rfl (rd_mem 10 rfl rfl) ?_
   refine l_nil (h_next ?_)
   refine h_one 12 rfl (by kernel_rfl) ?_
   refine o_lit e_ItA_ok rfl Try.underlying100 rfl rfl rfl (lit_ok rfl) [x244] rfl rfl fun a246 => ?_
   refine l_nil (qP p12 (qP p12 (qP p2 (qP p12 (qP p12 (qP p12 (qP p12 (qP p12 (qP p12 ?_)))))))))
   refine qP p12 (qP p12 (qP p12 (qP p12 (h_next ?_))))
   refine h_one 13 rfl (by kernel_rfl) ?_
   refine l_f12 ?_
   refine o_append e_ItA_ok rfl rfl rfl Try.underlying100 (rds_own e_ItA_ok 11 rfl) (by show (_ + _) * 64 ≤ _; (try simp only [List.length_append, List.length_cons, List.length_nil]); omega) (by (try simp only [List.length_append, List.length_cons, List.length_nil]); omega) fun a247 c247 => ?_
   refine l_f11 ?_
   refine l_drop ?_
   refine l_nil (qP p11 (qP p1 (qP p11 (qP p11 (qP p11 (qP p11 (qP p11 (qP p11 (qP p11 ?_)))))))))
   refine qP p11 (qP p11 (qP p11 (h_next ?_)))
   refine h_take 14 rfl rfl (by kernel_rfl) (by kernel_rfl) (by kernel_rfl) (fun L0 => v_nil rfl rfl) ?_
   refine h_take 15 rfl rfl (by kernel_rfl) (by kernel_rfl) (by kernel_rfl) (fun L0 => v_fieldAddr (q := ⟨kb, 0, none⟩) rfl rfl Try.underlying103 rfl ti100 rfl) ?_
   refine h_one 16 rfl (by kernel_rfl) ?_
   refine l_f11 ?_
   refine o_store1 rfl rfl rfl ti100 rfl rfl ?_
   refine l_nil (qP p11 (qP p1 (qP p11 (qP p11 (qP p11 (qP p11 (qP p11 (qP p11 (qP p11 ?_)))))))))
   refine qP p11 (qP p11 (qP p11 (h_next ?_)))
   refine h_done (by kernel_rfl) ?_
   refine qP p9 (qP p9 (qP p9 (qP p9 (qP p9 (qP p9 (qP p9 (qP p9 (qP p9 (qP p9 ?_)))))))))
   refine qP p11 (qP p11 ?_)
   exact q_mid (a247, c247, a246, x244) (by exact hx244) ⟨vr, vr, vr, vr, vr, vr, vr, vr, vr, vr, vr, vr, vr, vr, vr, vr, vr, vr, vr, vr, vr, vr, vr, vr, vr, vr, vr, vr, vr, vr, vr, vr, vr, vr, vr, vr, vr, vr, vr, vr, vr, vr, vr, vr, vr, vr, vr, vr, vr, vr, vr, vr, vr, vr, vr, vr, vr, vr, vr, vr, vr, vr, vr, vr, vr, vr, vr, vr, vr, vr, vr, vr, vr, vr, vr, vr, vr, vr, vr, trivial⟩ (fun w S => S)
  · -- 12 comes first
   refine o_lit e_ItA_ok rfl Try.underlying100 rfl rfl rfl (lit_ok rfl) [x244] rfl rfl fun a246 => ?_
   refine l_nil (qP p12 (qP p12 (qP p2 (qP p12 (qP p12 (qP p12 (qP p12 (qP p12 (qP p12 ?_)))))))))
   refine qP p12 (qP p12 (qP p12 (qP p12 (h_next ?_))))
   refine h_one 4 rfl (by kernel_rfl) ?_
   refine o_load1 rfl rfl Try.underlying100 rfl (rd_mem 11 rfl rfl) ?_
   refine l_nil (h_next ?_)
   refine h_one 13 rfl (by kernel_rfl) ?_
   refine l_f12 ?_
   refine o_append e_ItA_ok rfl rfl rfl Try.underlying100 (rds_own e_ItA_ok 11 rfl) (by show (_ + _) * 64 ≤ _; (try simp only [List.length_append, List.length_cons, List.length_nil]); omega) (by (try simp only [List.length_append, List.length_cons, List.length_nil]); omega) fun a247 c247 => ?_
   refine l_f11 ?_
   refine l_drop ?_
   refine l_nil (qP p11 (qP p1 (qP p11 (qP p11 (qP p11 (qP p11 (qP p11 (qP p11 (qP p11 ?_)))))))))
   refine qP p11 (qP p11 (qP p11 (h_next ?_)))
   refine h_take 14 rfl rfl (by kernel_rfl) (by kernel_rfl) (by kernel_rfl) (fun L0 => v_nil rfl rfl) ?_
   refine h_take 15 rfl rfl (by kernel_rfl) (by kernel_rfl) (by kernel_rfl) (fun L0 => v_fieldAddr (q := ⟨kb, 0, none⟩) rfl rfl Try.underlying103 rfl ti100 rfl) ?_
   refine h_one 16 rfl (by kernel_rfl) ?_
   refine l_f11 ?_
   refine o_store1 rfl rfl rfl ti100 rfl rfl ?_
   refine l_nil (qP p11 (qP p1 (qP p11 (qP p11 (qP p11 (qP p11 (qP p11 (qP p11 (qP p11 ?_)))))))))
   refine qP p11 (qP p11 (qP p11 (h_next ?_)))
   refine h_done (by kernel_rfl) ?_
   refine qP p9 (qP p9 (qP p9 (qP p9 (qP p9 (qP p9 (qP p9 (qP p9 (qP p9 (qP p9 ?_)))))))))
   refine qP p11 (qP p11 ?_)
   exact q_mid (a247, c247, a246, x244) (by exact hx244) ⟨vr, vr, vr, vr, vr, vr, vr, vr, vr, vr, vr, vr, vr, vr, vr, vr, vr, vr, vr, vr, vr, vr, vr, vr, vr, vr, vr, vr, vr, vr, vr, vr, vr, vr, vr, vr, vr, vr, vr, vr, vr, vr, vr, vr, vr, vr, vr, vr, vr, vr, vr, vr, vr, vr, vr, vr, vr, vr, vr, vr, vr, vr, vr, vr, vr, vr, vr, vr, vr, vr, vr, vr, vr, vr, vr, vr, vr, vr, vr, trivial⟩ (fun w S => S)
 · -- behind the cut
  rintro ⟨a247, c247, a246, x244⟩ hx244
  try dsimp only at *
  refine c_seq ?_
  refine c_fact (p := ∃ ad, ra = some ad) (rds_some (e := e_ItA) (xs := ri) (rds_own e_ItA_ok 7 rfl) (by intro h0; rw [h0] at hr3; simp at hr3)) ?_
  rintro ⟨adr, eadr⟩
  refine c_fact (p := ∃ ad, na = some ad) (rds_some (e := e_ItA) (xs := its) (rds_own e_ItA_ok 3 rfl) (by intro h0; rw [h0] at h2; simp at h2; omega)) ?_
  rintro ⟨adn, eadn⟩
  refine cP p3 (cP p3 (cP p11 (cP p11 (cP p11 (cP p11 (cP p11 (cP p11 (cP p11 (cP p11 ?_)))))))))
  refine cP p11 (cP p11 ?_)
  refine c_held [blk kb (.cells #[.slice a247 (ki ++ [x244]).length c247, .slice kka (kk).length kkc] 103 (0, 0)), row e_ItA.T e_ItA.sz a247 (ki ++ [x244]).length c247 (flat e_ItA (ki ++ [x244])), row eN99.T eN99.sz nka (nk).length nkc (flat eN99 nk), row eN99.T eN99.sz kka (kk).length kkc (flat eN99 kk), blk rb (.cells #[.slice ra (ri).length rc, .slice rka (rk).length rkc] 103 (0, 0)), row e_ItA.T e_ItA.sz ra (ri).length rc (flat e_ItA ri), row eN99.T eN99.sz rka (rk).length rkc (flat eN99 rk), blk lb (.cells #[.slice la (li).length lc, .slice lka (lk).length lkc] 103 (0, 0)), row e_ItA.T e_ItA.sz la (li).length lc (flat e_ItA li), row eN99.T eN99.sz lka (lk).length lkc (flat eN99 lk)] (by kernel_rfl) rfl ?_
  refine h_take 0 rfl rfl (by kernel_rfl) (by kernel_rfl) (by kernel_rfl) (fun L0 => v_move rfl rfl) ?_
  refine h_take 1 rfl rfl (by kernel_rfl) (by kernel_rfl) (by kernel_rfl) (fun L0 => v_nil rfl rfl) ?_
  refine h_take 2 rfl rfl (by kernel_rfl) (by kernel_rfl) (by kernel_rfl) (fun L0 => v_fieldAddr (q := ⟨b, 0, none⟩) rfl rfl Try.underlying103 rfl ti100 rfl) ?_
  refine h_take 4 rfl rfl (by kernel_rfl) (by kernel_rfl) (by kernel_rfl) (fun L0 => v_move rfl rfl) ?_
  refine h_take 5 rfl rfl (by kernel_rfl) (by kernel_rfl) (by kernel_rfl) (fun L0 => v_move rfl rfl) ?_
  refine h_take 6 rfl rfl (by kernel_rfl) (by kernel_rfl) (by kernel_rfl) (fun L0 => v_nil rfl rfl) ?_
  refine h_take 7 rfl rfl (by kernel_rfl) (by kernel_rfl) (by kernel_rfl) (fun L0 => v_fieldAddr (q := ⟨rb, 0, none⟩) rfl rfl Try.underlying103 rfl ti100 rfl) ?_
  refine h_take 8 rfl rfl (by kernel_rfl) (by kernel_rfl) (by kernel_rfl) (fun L0 => v_load1 rfl rfl Try.underlying100 rfl (rd_mem 4 rfl rfl)) ?_
  refine h_take 9 rfl rfl (by kernel_rfl) (by kernel_rfl) (by kernel_rfl) (fun L0 => v_indexK e_ItA_ok eadr rfl rfl rfl Try.underlying100 (by omega) (by omega)) ?_
  obtain ⟨x259, hx259⟩ : ∃ x, (ri)[((0 : Int)).toNat]? = some x := ⟨_, List.getElem?_eq_getElem (by omega)⟩
  refine h_take 10 rfl rfl (by kernel_rfl) (by kernel_rfl) (by kernel_rfl) (fun L0 => v_loadn (vs := e_ItA.cells x259) rfl rfl Try.underlying110 rfl ti110 (rdn_sl e_ItA_ok eadr (rds_own e_ItA_ok 5 rfl) hx259)) ?_
  refine h_one 3 rfl (by kernel_rfl) ?_
  refine o_load1 rfl rfl Try.underlying100 rfl (rd_mem 10 rfl rfl) ?_
  refine l_nil (h_next ?_)
  refine h_take 11 rfl rfl (by kernel_rfl) (by kernel_rfl) (by kernel_rfl) (fun L0 => v_indexK e_ItA_ok eadn rfl rfl rfl Try.underlying100 (by omega) (by omega)) ?_
  obtain ⟨x261, hx261⟩ : ∃ x, (its)[((j : Int)).toNat]? = some x := ⟨_, List.getElem?_eq_getElem (by omega)⟩
  refine h_one 12 rfl (by kernel_rfl) ?_
  refine l_f11 ?_
  refine o_storeRowAll e_ItA_ok eadn rfl rfl ti110 x259 rfl (by have := List.getElem?_eq_some_iff.1 hx261; exact this.1) ?_
  refine l_f11 ?_
  refine l_conv (L' := blk b (.cells #[.slice na (its).length nc, .slice nka (nk).length nkc] 103 (0, 0)) :: _) (fun w S => S) ?_
  refine l_conv (L' := blk b (.cells #[.slice na ((its).set ((j : Int)).toNat x259).length nc, .slice nka (nk).length nkc] 103 (0, 0)) :: row e_ItA.T e_ItA.sz na ((its).set ((j : Int)).toNat x259).length nc (flat e_ItA ((its).set ((j : Int)).toNat x259)) :: blk kb (.cells #[.slice a247 (ki ++ [x244]).length c247, .slice kka (kk).length kkc] 103 (0, 0)) :: row e_ItA.T e_ItA.sz a247 (ki ++ [x244]).length c247 (flat e_ItA (ki ++ [x244])) :: row eN99.T eN99.sz nka (nk).length nkc (flat eN99 nk) :: row eN99.T eN99.sz kka (kk).length kkc (flat eN99 kk) :: blk rb (.cells #[.slice ra (ri).length rc, .slice rka (rk).length rkc] 103 (0, 0)) :: row e_ItA.T e_ItA.sz ra (ri).length rc (flat e_ItA ri) :: row eN99.T eN99.sz rka (rk).length rkc (flat eN99 rk) :: blk lb (.cells #[.slice la (li).length lc, .slice lka (lk).length lkc] 103 (0, 0)) :: row e_ItA.T e_ItA.sz la (li).length lc (flat e_ItA li) :: row eN99.T eN99.sz lka (lk).length lkc (flat eN99 lk) :: F) (fun w S => by first | exact S | simpa only [List.length_set] using S | (simp only [List.length_set] at S ⊢; exact S)) ?_
  refine l_nil (qP p1 (qP p1 (qP p11 (qP p11 (qP p11 (qP p11 (qP p11 (qP p11 (qP p11 ?_)))))))))
  refine qP p11 (qP p11 (qP p11 (h_next ?_)))
  refine h_done (by kernel_rfl) ?_
  refine q_then (c_seq (c_region (o_move rfl rfl (o_move rfl rfl (o_nil rfl rfl ?_)))))
  refine o_fieldAddr (q := ⟨rb, 0, none⟩) rfl rfl Try.underlying103 rfl ti100 rfl ?_
  refine o_load1 rfl rfl Try.underlying100 rfl (rd_mem 4 rfl rfl) ?_
  refine l_f5 ?_
  refine o_call rfl cal71 rfl (delI_A (xs := ri) (i := 0) (j := 1) (by omega) (by omega) (by omega)) ?_
  rintro _ _ ⟨rfl, rfl⟩
  refine o_nil rfl rfl ?_
  refine o_fieldAddr (q := ⟨rb, 0, none⟩) rfl rfl Try.underlying103 rfl ti100 rfl ?_
  refine l_f5 ?_
  refine o_store1 rfl rfl rfl ti100 rfl rfl ?_
  refine l_nil (q_then (c_seq (c_region (o_move rfl rfl (o_nil rfl rfl ?_)))))
  refine o_fieldAddr (q := ⟨rb, 1, none⟩) rfl rfl Try.underlying103 rfl ti101 rfl ?_
  refine o_load1 rfl rfl Try.underlying101 rfl (rd_mem 0 rfl rfl) ?_
  refine o_len rfl rfl Try.underlying101 ?_
  refine o_bin rfl rfl rfl b_gtr ?_
  refine l_nil (q_then ?_)
  refine c_cond rfl (fun h1 => ?_) (fun h1 => ?_)
  · -- h1T
   have h1b := h1
   try simp only [decide_eq_true_eq] at h1
   refine c_seq ?_
   refine c_mid (α := (Option Addr) × Nat × (Option Addr) × Nat) (fun z => [(0, .pointer (some ⟨b, 0, none⟩)), (1, .int .i64 (j : Int)), (4, .pointer (some ⟨kb, 0, none⟩)), (7, .pointer (some ⟨rb, 0, none⟩)), (10, .pointer (some ⟨b, 0, none⟩)), (11, .pointer (some ⟨b, 0, none⟩)), (12, .pointer (some ⟨b, 1, none⟩)), (13, .slice nka (nk).length nkc), (14, .int .i64 (j : Int)), (16, .pointer (some ⟨kb, 0, none⟩)), (90, .bool false), (91, .pointer (some ⟨kb, 0, none⟩)), (92, .pointer (some ⟨kb, 0, none⟩)), (93, .pointer (some ⟨kb, 0, none⟩)), (94, .slice ka (ki).length kc), (95, .int .i64 ((ki).length : Int)), (96, .bool false), (97, .bool false), (98, .int .i64 (j : Int)), (99, .bool true), (100, .bool true), (101, .pointer (some ⟨b, 0, none⟩)), (102, .pointer (some ⟨b, 0, none⟩)), (103, .pointer (some ⟨b, 1, none⟩)), (104, .slice nka (nk).length nkc), (105, .int .i64 (j : Int)), (106, .int .i64 ((j - 1 : Nat) : Int)), (108, .pointer (some ⟨lb, 0, none⟩)), (109, .pointer (some ⟨lb, 0, none⟩)), (110, .pointer (some ⟨lb, 0, none⟩)), (111, .slice la (li).length lc), (112, .int .i64 ((li).length : Int)), (113, .bool false), (114, .bool false), (202, .bool true), (203, .int .i64 (j : Int)), (204, .int .i64 ((j + 1 : Nat) : Int)), (205, .pointer (some ⟨b, 0, none⟩)), (206, .pointer (some ⟨b, 0, none⟩)), (207, .pointer (some ⟨b, 1, none⟩)), (208, .slice nka (nk).length nkc), (209, .int .i64 ((nk).length : Int)), (210, .bool true), (211, .bool true), (212, .pointer (some ⟨b, 0, none⟩)), (213, .pointer (some ⟨b, 0, none⟩)), (214, .pointer (some ⟨b, 1, none⟩)), (215, .slice nka (nk).length nkc), (216, .int .i64 (j : Int)), (217, .int .i64 ((j + 1 : Nat) : Int)), (219, .pointer (some ⟨rb, 0, none⟩)), (220, .pointer (some ⟨rb, 0, none⟩)), (221, .pointer (some ⟨rb, 0, none⟩)), (222, .slice ra (ri).length rc), (223, .int .i64 ((ri).length : Int)), (224, .bool true), (225, .bool true), (226, .pointer (some ⟨b, 0, none⟩)), (227, .pointer (some ⟨b, 0, none⟩)), (228, .pointer (some ⟨b, 1, none⟩)), (229, .slice nka (nk).length nkc), (230, .int .i64 (j : Int)), (231, .int .i64 ((j + 1 : Nat) : Int)), (233, .pointer (some ⟨rb, 0, none⟩)), (234, .pointer (some ⟨kb, 0, none⟩)), (235, .pointer (some ⟨kb, 0, none⟩)), (236, .pointer (some ⟨kb, 0, none⟩)), (237, .pointer (some ⟨kb, 0, none⟩)), (238, .slice ka (ki).length kc), (239, .pointer (some ⟨b, 0, none⟩)), (240, .pointer (some ⟨b, 0, none⟩)), (241, .pointer (some ⟨b, 0, none⟩)), (242, .slice na ((its).set ((j : Int)).toNat x259).length nc), (243, .int .i64 (j : Int)), (245, .agg #[.string x244.f_key, .bool x244.f_value.f_Has, .slice x244.f_value.f_Value.a (x244.f_value.f_Value.xs).length x244.f_value.f_Value.c, .int .i64 x244.f_value.f_Home, .int .u64 x244.f_value.f_Count]), (246, .slice a246 ([x244]).length 1), (247, .slice a247 (ki ++ [x244]).length c247), (248, .pointer (some ⟨kb, 0, none⟩)), (249, .pointer (some ⟨kb, 0, none⟩)), (250, .pointer (some ⟨b, 0, none⟩)), (251, .pointer (some ⟨b, 0, none⟩)), (252, .pointer (some ⟨b, 0, none⟩)), (253, .slice na ((its).set ((j : Int)).toNat x259).length nc), (254, .int .i64 (j : Int)), (255, .pointer (some ⟨rb, 0, none⟩)), (256, .pointer (some ⟨rb, 0, none⟩)), (257, .pointer (some ⟨rb, 0, none⟩)), (258, .slice ra (ri).length rc), (260, .agg #[.string x259.f_key, .bool x259.f_value.f_Has, .slice x259.f_value.f_Value.a (x259.f_value.f_Value.xs).length x259.f_value.f_Value.c, .int .i64 x259.f_value.f_Home, .int .u64 x259.f_value.f_Count]), (262, .pointer (some ⟨rb, 0, none⟩)), (263, .pointer (some ⟨rb, 0, none⟩)), (264, .pointer (some ⟨rb, 0, none⟩)), (265, .pointer (some ⟨rb, 0, none⟩)), (266, .slice ra (ri).length rc), (267, .slice ra ((ri.take 0 ++ ri.drop 1)).length rc), (268, .pointer (some ⟨rb, 0, none⟩)), (269, .pointer (some ⟨rb, 0, none⟩)), (270, .pointer (some ⟨rb, 0, none⟩)), (271, .pointer (some ⟨rb, 0, none⟩)), (272, .pointer (some ⟨rb, 1, none⟩)), (273, .slice rka (rk).length rkc), (274, .int .i64 ((rk).length : Int)), (275, .bool (decide (0 < ((rk).length : Int)))), (276, .pointer (some ⟨kb, 0, none⟩)), (277, .pointer (some ⟨kb, 0, none⟩)), (278, .pointer (some ⟨kb, 0, none⟩)), (279, .pointer (some ⟨kb, 1, none⟩)), (280, .slice kka (kk).length kkc), (281, .pointer (some ⟨rb, 0, none⟩)), (282, .pointer (some ⟨rb, 0, none⟩)), (283, .pointer (some ⟨rb, 1, none⟩)), (284, .slice rka (rk).length rkc), (286, .pointer (some ⟨z.2.2.2, 0, none⟩)), (287, .slice z.2.2.1 ([z.2.2.2]).length 1), (288, .slice z.1 (kk ++ [z.2.2.2]).length z.2.1), (289, .pointer (some ⟨kb, 0, none⟩)), (290, .pointer (some ⟨kb, 1, none⟩))]) (fun z => blk kb (.cells #[.slice a247 (ki ++ [x244]).length c247, .slice z.1 (kk ++ [z.2.2.2]).length z.2.1] 103 (0, 0)) :: row eN99.T eN99.sz z.1 (kk ++ [z.2.2.2]).length z.2.1 (flat eN99 (kk ++ [z.2.2.2])) :: blk rb (.cells #[.slice ra ((ri.take 0 ++ ri.drop 1)).length rc, .slice rka (rk).length rkc] 103 (0, 0)) :: row e_ItA.T e_ItA.sz ra ((ri.take 0 ++ ri.drop 1)).length rc (flat e_ItA (ri.take 0 ++ ri.drop 1)) :: row e_ItA.T e_ItA.sz a247 (ki ++ [x244]).length c247 (flat e_ItA (ki ++ [x244])) :: row eN99.T eN99.sz nka (nk).length nkc (flat eN99 nk) :: row eN99.T eN99.sz rka (rk).length rkc (flat eN99 rk) :: blk lb (.cells #[.slice la (li).length lc, .slice lka (lk).length lkc] 103 (0, 0)) :: row e_ItA.T e_ItA.sz la (li).length lc (flat e_ItA li) :: row eN99.T eN99.sz lka (lk).length lkc (flat eN99 lk) :: blk b (.cells #[.slice na ((its).set ((j : Int)).toNat x259).length nc, .slice nka (nk).length nkc] 103 (0, 0)) :: row e_ItA.T e_ItA.sz na ((its).set ((j : Int)).toNat x259).length nc (flat e_ItA ((its).set ((j : Int)).toNat x259)) :: F) (fun z => rk[((0 : Int)).toNat]? = some z.2.2.2) ?_ ?_
   · -- cut
    have hrk := hrk0 (by omega)
    refine c_fact (p := ∃ ad, rka = some ad) (rds_some (e := eN99) (xs := rk) (rds_own eN99_ok 6 rfl) (by intro h0; rw [h0] at hrk; simp at hrk)) ?_
    rintro ⟨adk, eadk⟩
    refine cP p5 (cP p3 (cP p11 (cP p11 (cP p11 (cP p11 (cP p11 (cP p11 (cP p11 (cP p11 ?_)))))))))
    refine cP p11 (cP p11 ?_)
    refine c_held [blk rb (.cells #[.slice ra ((ri.take 0 ++ ri.drop 1)).length rc, .slice rka (rk).length rkc] 103 (0, 0)), row e_ItA.T e_ItA.sz ra ((ri.take 0 ++ ri.drop 1)).length rc (flat e_ItA (ri.take 0 ++ ri.drop 1)), row e_ItA.T e_ItA.sz a247 (ki ++ [x244]).length c247 (flat e_ItA (ki ++ [x244])), row eN99.T eN99.sz nka (nk).length nkc (flat eN99 nk), row eN99.T eN99.sz rka (rk).length rkc (flat eN99 rk), blk lb (.cells #[.slice la (li).length lc, .slice lka (lk).length lkc] 103 (0, 0)), row e_ItA.T e_ItA.sz la (li).length lc (flat e_ItA li), row eN99.T eN99.sz lka (lk).length lkc (flat eN99 lk), blk b (.cells #[.slice na ((its).set ((j : Int)).toNat x259).length nc, .slice nka (nk).length nkc] 103 (0, 0)), row e_ItA.T e_ItA.sz na ((its).set ((j : Int)).toNat x259).length nc (flat e_ItA ((its).set ((j : Int)).toNat x259))] (by kernel_rfl) rfl ?_
    refine h_take 0 rfl rfl (by kernel_rfl) (by kernel_rfl) (by kernel_rfl) (fun L0 => v_move rfl rfl) ?_
    refine h_take 1 rfl rfl (by kernel_rfl) (by kernel_rfl) (by kernel_rfl) (fun L0 => v_move rfl rfl) ?_
    refine h_take 2 rfl rfl (by kernel_rfl) (by kernel_rfl) (by kernel_rfl) (fun L0 => v_nil rfl rfl) ?_
    refine h_take 3 rfl rfl (by kernel_rfl) (by kernel_rfl) (by kernel_rfl) (fun L0 => v_fieldAddr (q := ⟨kb, 1, none⟩) rfl rfl Try.underlying103 rfl ti101 rfl) ?_
    refine h_take 5 rfl rfl (by kernel_rfl) (by kernel_rfl) (by kernel_rfl) (fun L0 => v_move rfl rfl) ?_
    refine h_take 6 rfl rfl (by kernel_rfl) (by kernel_rfl) (by kernel_rfl) (fun L0 => v_nil rfl rfl) ?_
    refine h_take 7 rfl rfl (by kernel_rfl) (by kernel_rfl) (by kernel_rfl) (fun L0 => v_fieldAddr (q := ⟨rb, 1, none⟩) rfl rfl Try.underlying103 rfl ti101 rfl) ?_
    refine h_take 8 rfl rfl (by kernel_rfl) (by kernel_rfl) (by kernel_rfl) (fun L0 => v_load1 rfl rfl Try.underlying101 rfl (rd_mem 0 rfl rfl)) ?_
    refine h_take 9 rfl rfl (by kernel_rfl) (by kernel_rfl) (by kernel_rfl) (fun L0 => v_indexK eN99_ok eadk rfl rfl rfl Try.underlying101 (by omega) (by omega)) ?_
    obtain ⟨x285, hx285⟩ : ∃ x, (rk)[((0 : Int)).toNat]? = some x := ⟨_, List.getElem?_eq_getElem (by omega)⟩
    refine h_take 10 rfl rfl (by kernel_rfl) (by kernel_rfl) (by kernel_rfl) (fun L0 => v_load1 rfl rfl Try.underlying99 rfl (rd_sl0 eN99_ok eadk (rds_own eN99_ok 4 rfl) hx285 rfl)) ?_
    refine h_many (is := [4, 11]) (by kernel_rfl) (by decide) (forall_cons ⟨_, rfl, ?_⟩ (forall_cons ⟨_, rfl, ?_⟩ forall_nil))
    · -- 4 comes first
     refine o_load1 rfl rfl Try.underlying101 rfl (rd_mem 10 rfl rfl) ?_
     refine l_nil (h_next ?_)
     refine h_one 11 rfl (by kernel_rfl) ?_
     refine o_lit eN99_ok rfl Try.underlying101 rfl rfl rfl (lit_ok rfl) [x285] rfl rfl fun a287 => ?_
     refine l_nil (qP p12 (qP p12 (qP p2 (qP p12 (qP p12 (qP p12 (qP p12 (qP p12 (qP p12 ?_)))))))))
     refine qP p12 (qP p12 (qP p12 (qP p12 (h_next ?_))))
     refine h_one 12 rfl (by kernel_rfl) ?_
     refine l_f12 ?_
     refine o_append eN99_ok rfl rfl rfl Try.underlying101 (rds_own eN99_ok 11 rfl) (by show (_ + _) * 8 ≤ _; (try simp only [List.length_append, List.length_cons, List.length_nil]); omega) (by (try simp only [List.length_append, List.length_cons, List.length_nil]); omega) fun a288 c288 => ?_
     refine l_f11 ?_
     refine l_drop ?_
     refine l_nil (qP p11 (qP p1 (qP p11 (qP p11 (qP p11 (qP p11 (qP p11 (qP p11 (qP p11 ?_)))))))))
     refine qP p11 (qP p11 (qP p11 (h_next ?_)))
     refine h_take 13 rfl rfl (by kernel_rfl) (by kernel_rfl) (by kernel_rfl) (fun L0 => v_nil rfl rfl) ?_
     refine h_take 14 rfl rfl (by kernel_rfl) (by kernel_rfl) (by kernel_rfl) (fun L0 => v_fieldAddr (q := ⟨kb, 1, none⟩) rfl rfl Try.underlying103 rfl ti101 rfl) ?_
     refine h_one 15 rfl (by kernel_rfl) ?_
     refine l_f11 ?_
     refine o_store1 rfl rfl rfl ti101 rfl rfl ?_
     refine l_nil (qP p11 (qP p1 (qP p11 (qP p11 (qP p11 (qP p11 (qP p11 (qP p11 (qP p11 ?_)))))))))
     refine qP p11 (qP p11 (qP p11 (h_next ?_)))
     refine h_done (by kernel_rfl) ?_
     refine qP p9 (qP p9 (qP p9 (qP p9 (qP p9 (qP p9 (qP p9 (qP p9 (qP p9 (qP p9 ?_)))))))))
     refine qP p11 (qP p11 ?_)
     exact q_mid (a288, c288, a287, x285) (by exact hx285) ⟨vr, vr, vr, vr, vr, vr, vr, vr, vr, vr, vr, vr, vr, vr, vr, vr, vr, vr, vr, vr, vr, vr, vr, vr, vr, vr, vr, vr, vr, vr, vr, vr, vr, vr, vr, vr, vr, vr, vr, vr, vr, vr, vr, vr, vr, vr, vr, vr, vr, vr, vr, vr, vr, vr, vr, vr, vr, vr, vr, vr, vr, vr, vr, vr, vr, vr, vr, vr, vr, vr, vr, vr, (by first | rfl | (rw [List.length_set]; rfl)), vr, vr, vr, vr, vr, vr, vr, vr, vr, (by first | rfl | (rw [List.length_set]; rfl)), vr, vr, vr, vr, vr, vr, vr, vr, vr, vr, vr, vr, vr, vr, vr, vr, vr, vr, vr, vr, vr, vr, vr, vr, vr, vr, vr, vr, vr, vr, vr, vr, vr, vr, trivial⟩ (fun w S => S)
    · -- 11 comes first
     refine o_lit eN99_ok rfl Try.underlying101 rfl rfl rfl (lit_ok rfl) [x285] rfl rfl fun a287 => ?_
     refine l_nil (qP p12 (qP p12 (qP p2 (qP p12 (qP p12 (qP p12 (qP p12 (qP p12 (qP p12 ?_)))))))))
     refine qP p12 (qP p12 (qP p12 (qP p12 (h_next ?_))))
     refine h_one 4 rfl (by kernel_rfl) ?_
     refine o_load1 rfl rfl Try.underlying101 rfl (rd_mem 11 rfl rfl) ?_
     refine l_nil (h_next ?_)
     refine h_one 12 rfl (by kernel_rfl) ?_
     refine l_f12 ?_
     refine o_append eN99_ok rfl rfl rfl Try.underlying101 (rds_own eN99_ok 11 rfl) (by show (_ + _) * 8 ≤ _; (try simp only [List.length_append, List.length_cons, List.length_nil]); omega) (by (try simp only [List.length_append, List.length_cons, List.length_nil]); omega) fun a288 c288 => ?_
     refine l_f11 ?_
     refine l_drop ?_
     refine l_nil (qP p11 (qP p1 (qP p11 (qP p11 (qP p11 (qP p11 (qP p11 (qP p11 (qP p11 ?_)))))))))
     refine qP p11 (qP p11 (qP p11 (h_next ?_)))
     refine h_take 13 rfl rfl (by kernel_rfl) (by kernel_rfl) (by kernel_rfl) (fun L0 => v_nil rfl rfl) ?_
     refine h_take 14 rfl rfl (by kernel_rfl) (by kernel_rfl) (by kernel_rfl) (fun L0 => v_fieldAddr (q := ⟨kb, 1, none⟩) rfl rfl Try.underlying103 rfl ti101 rfl) ?_
     refine h_one 15 rfl (by kernel_rfl) ?_
     refine l_f11 ?_
     refine o_store1 rfl rfl rfl ti101 rfl rfl ?_
     refine l_nil (qP p11 (qP p1 (qP p11 (qP p11 (qP p11 (qP p11 (qP p11 (qP p11 (qP p11 ?_)))))))))
     refine qP p11 (qP p11 (qP p11 (h_next ?_)))
     refine h_done (by kernel_rfl) ?_
     refine qP p9 (qP p9 (qP p9 (qP p9 (qP p9 (qP p9 (qP p9 (qP p9 (qP p9 (qP p9 ?_)))))))))
     refine qP p11 (qP p11 ?_)
     exact q_mid (a288, c288, a287, x285) (by exact hx285) ⟨vr, vr, vr, vr, vr, vr, vr, vr, vr, vr, vr, vr, vr, vr, vr, vr, vr, vr, vr, vr, vr, vr, vr, vr, vr, vr, vr, vr, vr, vr, vr, vr, vr, vr, vr, vr, vr, vr, vr, vr, vr, vr, vr, vr, vr, vr, vr, vr, vr, vr, vr, vr, vr, vr, vr, vr, vr, vr, vr, vr, vr, vr, vr, vr, vr, vr, vr, vr, vr, vr, vr, vr, (by first | rfl | (rw [List.length_set]; rfl)), vr, vr, vr, vr, vr, vr, vr, vr, vr, (by first | rfl | (rw [List.length_set]; rfl)), vr, vr, vr, vr, vr, vr, vr, vr, vr, vr, vr, vr, vr, vr, vr, vr, vr, vr, vr, vr, vr, vr, vr, vr, vr, vr, vr, vr, vr, vr, vr, vr, vr, vr, trivial⟩ (fun w S => S)
   · -- behind the cut
    rintro ⟨a288, c288, a287, x285⟩ hx285
    try dsimp only at *
    refine c_region (o_move rfl rfl (o_move rfl rfl (o_nil rfl rfl ?_)))
    refine o_fieldAddr (q := ⟨rb, 1, none⟩) rfl rfl Try.underlying103 rfl ti101 rfl ?_
    refine o_load1 rfl rfl Try.underlying101 rfl (rd_mem 2 rfl rfl) ?_
    refine l_f6 ?_
    refine o_call rfl cal79 rfl (delK_A (xs := rk) (i := 0) (j := 1) (by omega) (by omega) (by omega)) ?_
    rintro _ _ ⟨rfl, rfl⟩
    refine o_nil rfl rfl ?_
    refine o_fieldAddr (q := ⟨rb, 1, none⟩) rfl rfl Try.underlying103 rfl ti101 rfl ?_
    refine l_f3 ?_
    refine o_store1 rfl rfl rfl ti101 rfl rfl ?_
    refine l_nil (q_block (qP p9 (qP p9 (qP p9 (qP p4 (qP p7 (qP p5 (qP p7 (qP p8 ?_)))))))))
    refine qP p8 (qP p9 (qP p11 (qP p11 ?_)))
    exact f_end (r_none rfl) (⟨x244, x259, a247, c247, (show its[j]? = some x244 from by have h9 := hx244; rw [show ((j : Int)).toNat = j from rfl] at h9; exact h9), (show ri[0]? = some x259 from hx259), .inr ⟨a288, c288, x285, (show rk[0]? = some x285 from hx285), rfl⟩⟩) (fun w S => by (rw [show ((j : Int)).toNat = j from rfl, List.length_set] at S; exact S))
  · -- h1F
   have h1b := h1
   try simp only [decide_eq_false_iff_not, Int.not_lt, Int.not_le] at h1
   refine c_skip (q_block (qP p9 (qP p9 (qP p9 (qP p9 (qP p5 (qP p5 (qP p9 (qP p8 ?_)))))))))
   refine qP p8 (qP p9 (qP p11 (qP p11 ?_)))
   exact f_end (r_none rfl) (⟨x244, x259, a247, c247, (show its[j]? = some x244 from by have h9 := hx244; rw [show ((j : Int)).toNat = j from rfl] at h9; exact h9), (show ri[0]? = some x259 from hx259), .inl ⟨by omega, rfl⟩⟩) (fun w S => by (rw [show ((j : Int)).toNat = j from rfl, List.length_set] at S; exact S))
end
section
set_option linter.unusedVariables false
set_option linter.unusedSimpArgs false
set_option maxRecDepth 10000
open Go.RowKit Classical
set_option maxHeartbeats 4000000 in
theorem mendD0_A {W : World} {F : List Res} {b kb : Nat} {its ki : List ItA} {nk kk : List Nat} {na nka ka kka : Option Addr} {nc nkc kc kkc : Nat} {rb : Nat} {ri : List ItA} {rk : List Nat} {ra rka : Option Addr} {rc rkc : Nat} {j : Nat} (hA : nk[j]? = some kb) (hB : nk[j + 1]? = some rb) (hk1 : ki.length < 2) (hj : j = 0) (hr2 : ri.length ≤ 2) (hrk : rk.length ≤ 6) (h1 : its.length ≤ 5) (h2 : nk.length = its.length + 1) (h3 : ki.length ≤ 5) (h4 : kk.length ≤ 6) : CS Try.prog 73 #[.pointer (some ⟨b, 0, none⟩), .int .i64 (j : Int)] W (blk b (.cells #[.slice na (its).length nc, .slice nka (nk).length nkc] 103 (0, 0)) :: row e_ItA.T e_ItA.sz na (its).length nc (flat e_ItA its) :: row eN99.T eN99.sz nka (nk).length nkc (flat eN99 nk) :: blk kb (.cells #[.slice ka (ki).length kc, .slice kka (kk).length kkc] 103 (0, 0)) :: row e_ItA.T e_ItA.sz ka (ki).length kc (flat e_ItA ki) :: row eN99.T eN99.sz kka (kk).length kkc (flat eN99 kk) :: blk rb (.cells #[.slice ra (ri).length rc, .slice rka (rk).length rkc] 103 (0, 0)) :: row e_ItA.T e_ItA.sz ra (ri).length rc (flat e_ItA ri) :: row eN99.T eN99.sz rka (rk).length rkc (flat eN99 rk) :: F) (fun _ L' => ∃ (x : ItA) (a1 : Option Addr) (c1 : Nat) (a2 : Option Addr) (c2 : Nat), its[j]? = some x ∧ L' = blk b (.cells #[.slice na (its.take j ++ its.drop (j + 1)).length nc, .slice nka (nk.take (j + 1) ++ nk.drop (j + 2)).length nkc] 103 (0, 0)) :: row e_ItA.T e_ItA.sz na ((its.take j ++ its.drop (j + 1))).length nc (flat e_ItA (its.take j ++ its.drop (j + 1))) :: row eN99.T eN99.sz nka ((nk.take (j + 1) ++ nk.drop (j + 2))).length nkc (flat eN99 (nk.take (j + 1) ++ nk.drop (j + 2))) :: blk kb (.cells #[.slice a1 ((ki ++ [x]) ++ ri).length c1, .slice a2 (kk ++ rk).length c2] 103 (0, 0)) :: row e_ItA.T e_ItA.sz a1 (((ki ++ [x]) ++ ri)).length c1 (flat e_ItA ((ki ++ [x]) ++ ri)) :: row eN99.T eN99.sz a2 ((kk ++ rk)).length c2 (flat eN99 (kk ++ rk)) :: F) := by
 refine f_door (l0 := [(0, .pointer (some ⟨b, 0, none⟩)), (1, .int .i64 (j : Int))]) Try.func73 Try.ntmps73 rfl rfl rfl ?_
 refine c_seq ?_
 have hil := (List.getElem?_eq_some_iff.1 hB).1
 refine c_region (o_move rfl rfl (o_nil rfl rfl ?_))
 refine o_fieldAddr (q := ⟨b, 1, none⟩) rfl rfl Try.underlying103 rfl ti101 rfl ?_
 refine o_load1 rfl rfl Try.underlying101 rfl (rd_mem 0 rfl rfl) ?_
 refine o_move rfl rfl ?_
 refine o_index eN99_ok rfl rfl rfl Try.underlying101 (by omega) (by omega) (rds_own eN99_ok 2 rfl) fun ad15 ead15 => ?_
 obtain ⟨x15, hx15⟩ : ∃ x, (nk)[((j : Int)).toNat]? = some x := ⟨_, List.getElem?_eq_getElem (by omega)⟩
 have hxk15 : x15 = kb := by have h9 := hx15; rw [show ((j : Int)).toNat = j from by omega, hA] at h9; exact (Option.some.inj h9).symm
 refine o_load1 rfl rfl Try.underlying99 rfl (rd_sl0 eN99_ok ead15 (rds_own eN99_ok 2 rfl) hx15 rfl) ?_
 refine l_eq (t := 16) (v' := .pointer (some ⟨kb, 0, none⟩)) rfl (by rw [hxk15]) ?_
 refine o_assign rfl rfl (l_nil (q_then (c_block (c_seq (c_region (o_move rfl rfl (o_nil rfl rfl ?_)))))))
 refine o_fieldAddr (q := ⟨kb, 0, none⟩) rfl rfl Try.underlying103 rfl ti100 rfl ?_
 refine o_load1 rfl rfl Try.underlying100 rfl (rd_mem 3 rfl rfl) ?_
 refine o_len rfl rfl Try.underlying100 ?_
 refine o_bin rfl rfl rfl b_geq ?_
 refine l_eq (t := 96) (v' := .bool false) rfl (show _ = Value.bool false from by rw [decide_eq_false (by omega)]) ?_
 refine o_assign rfl rfl (l_nil (q_then (c_false rfl (c_seq (c_region (o_move rfl rfl ?_))))))
 refine o_bin rfl rfl rfl b_gtr ?_
 refine l_eq (t := 99) (v' := .bool false) rfl (show _ = Value.bool false from by rw [decide_eq_false (by omega)]) ?_
 refine o_move rfl rfl (o_no rfl rfl rfl rfl (o_no rfl rfl rfl rfl (o_no rfl rfl rfl rfl (o_no rfl rfl rfl rfl (o_no rfl rfl rfl rfl (o_no rfl rfl rfl rfl (o_no rfl rfl rfl rfl (o_no rfl rfl rfl rfl (o_no rfl rfl rfl rfl ?_)))))))))
 refine o_no rfl rfl rfl rfl (o_no rfl rfl rfl rfl (o_no rfl rfl rfl rfl (o_no rfl rfl rfl rfl (o_pick_false rfl rfl rfl (o_assign rfl rfl (l_nil (q_then (c_false rfl (c_seq ?_)))))))))
 refine c_region (o_move rfl rfl ?_)
 refine o_bin rfl rfl rfl (b_add (show IntKind.i64.wrap ((j : Int) + 1) = ((j + 1 : Nat) : Int) from by rw [wrap_i64 (by omega) (by omega)]; omega)) ?_
 refine o_move rfl rfl (o_nil rfl rfl ?_)
 refine o_fieldAddr (q := ⟨b, 1, none⟩) rfl rfl Try.underlying103 rfl ti101 rfl ?_
 refine o_load1 rfl rfl Try.underlying101 rfl (rd_mem 0 rfl rfl) ?_
 refine o_len rfl rfl Try.underlying101 ?_
 refine o_bin rfl rfl rfl b_lss ?_
 refine l_eq (t := 210) (v' := .bool true) rfl (show _ = Value.bool true from by rw [decide_eq_true (by omega)]) ?_
 refine o_move rfl rfl (o_yes rfl rfl rfl (o_move rfl rfl (o_yes rfl rfl rfl (o_nil rfl rfl (o_yes rfl rfl rfl ?_)))))
 refine o_fieldAddr (q := ⟨b, 1, none⟩) rfl rfl Try.underlying103 rfl ti101 rfl ?_
 refine o_yes rfl rfl rfl ?_
 refine o_load1 rfl rfl Try.underlying101 rfl (rd_mem 0 rfl rfl) ?_
 refine o_yes rfl rfl rfl (o_move rfl rfl (o_yes rfl rfl rfl ?_))
 refine o_bin rfl rfl rfl (b_add (show IntKind.i64.wrap ((j : Int) + 1) = ((j + 1 : Nat) : Int) from by rw [wrap_i64 (by omega) (by omega)]; omega)) ?_
 refine o_yes rfl rfl rfl ?_
 refine o_indexK eN99_ok ead15 rfl rfl rfl Try.underlying101 (by omega) (by omega) ?_
 obtain ⟨x218, hx218⟩ : ∃ x, (nk)[(((j + 1 : Nat) : Int)).toNat]? = some x := ⟨_, List.getElem?_eq_getElem (by omega)⟩
 have hxk218 : x218 = rb := by have h9 := hx218; rw [show (((j + 1 : Nat) : Int)).toNat = j + 1 from by omega, hB] at h9; exact (Option.some.inj h9).symm
 refine o_yes rfl rfl rfl ?_
 refine o_load1 rfl rfl Try.underlying99 rfl (rd_sl0 eN99_ok ead15 (rds_own eN99_ok 2 rfl) hx218 rfl) ?_
 refine l_eq (t := 219) (v' := .pointer (some ⟨rb, 0, none⟩)) rfl (by rw [hxk218]) ?_
 refine o_yes rfl rfl rfl (o_nil rfl rfl (o_yes rfl rfl rfl ?_))
 refine o_fieldAddr (q := ⟨rb, 0, none⟩) rfl rfl Try.underlying103 rfl ti100 rfl ?_
 refine o_yes rfl rfl rfl ?_
 refine o_load1 rfl rfl Try.underlying100 rfl (rd_mem 6 rfl rfl) ?_
 refine o_yes rfl rfl rfl ?_
 refine o_len rfl rfl Try.underlying100 ?_
 refine o_yes rfl rfl rfl ?_
 refine o_bin rfl rfl rfl b_gtr ?_
 refine l_eq (t := 224) (v' := .bool false) rfl (show _ = Value.bool false from by rw [decide_eq_false (by omega)]) ?_
 refine o_pick_true rfl rfl rfl (o_assign rfl rfl (l_nil (q_then (c_false rfl (c_seq (c_region (o_move rfl rfl ?_)))))))
 refine o_max rfl rfl rfl Try.underlying3 ?_
 refine l_eq (t := 18) (v' := .int .i64 ((j + 1 : Nat) : Int)) rfl (by first | exact vint (by omega) | (congr 1; omega)) ?_
 refine o_assign rfl rfl (l_nil (q_then (c_seq ?_)))
 refine c_quiet (by kernel_rfl) (by kernel_rfl) ?_
 refine Qt.o_val rfl (v_move rfl rfl) (Qt.o_val rfl (v_nil rfl rfl) ?_)
 refine Qt.o_val rfl (v_fieldAddr (q := ⟨b, 1, none⟩) rfl rfl Try.underlying103 rfl ti101 rfl) ?_
 refine Qt.o_val rfl (v_load1 rfl rfl Try.underlying101 rfl (rd_mem 0 rfl rfl)) ?_
 refine Qt.o_val rfl (v_move rfl rfl) ?_
 refine Qt.o_val rfl (v_bin rfl rfl rfl (b_sub (show IntKind.i64.wrap (((j + 1 : Nat) : Int) - 1) = (j : Int) from by rw [wrap_i64 (by omega) (by omega)]; omega))) ?_
 refine Qt.o_val rfl (v_indexK eN99_ok ead15 rfl rfl rfl Try.underlying101 (by omega) (by omega)) ?_
 obtain ⟨x25, hx25⟩ : ∃ x, (nk)[((j : Int)).toNat]? = some x := ⟨_, List.getElem?_eq_getElem (by omega)⟩
 have hxk25 : x25 = kb := by have h9 := hx25; rw [show ((j : Int)).toNat = j from by omega, hA] at h9; exact (Option.some.inj h9).symm
 refine Qt.o_val rfl (v_load1 rfl rfl Try.underlying99 rfl (rd_sl0 eN99_ok ead15 (rds_own eN99_ok 2 rfl) hx25 rfl)) ?_
 refine Qt.l_eq (t := 26) (v' := .pointer (some ⟨kb, 0, none⟩)) rfl (by rw [hxk25]) ?_
 refine Qt.o_val rfl (v_move rfl rfl) (Qt.o_val rfl (v_nil rfl rfl) ?_)
 refine Qt.o_val rfl (v_fieldAddr (q := ⟨b, 1, none⟩) rfl rfl Try.underlying103 rfl ti101 rfl) ?_
 refine Qt.o_val rfl (v_load1 rfl rfl Try.underlying101 rfl (rd_mem 0 rfl rfl)) ?_
 refine Qt.o_val rfl (v_move rfl rfl) ?_
 refine Qt.o_val rfl (v_indexK eN99_ok ead15 rfl rfl rfl Try.underlying101 (by omega) (by omega)) ?_
 obtain ⟨x32, hx32⟩ : ∃ x, (nk)[(((j + 1 : Nat) : Int)).toNat]? = some x := ⟨_, List.getElem?_eq_getElem (by omega)⟩
 have hxk32 : x32 = rb := by have h9 := hx32; rw [show (((j + 1 : Nat) : Int)).toNat = j + 1 from by omega, hB] at h9; exact (Option.some.inj h9).symm
 refine Qt.o_val rfl (v_load1 rfl rfl Try.underlying99 rfl (rd_sl0 eN99_ok ead15 (rds_own eN99_ok 2 rfl) hx32 rfl)) ?_
 refine Qt.l_eq (t := 33) (v' := .pointer (some ⟨rb, 0, none⟩)) rfl (by rw [hxk32]) ?_
 refine Qt.o_val rfl (v_assign rfl rfl) ?_
 refine Qt.o_val rfl (v_assign rfl rfl) ?_
 refine Qt.l_nil ?_
 refine q_then (c_seq ?_)
 refine c_mid (α := (Option Addr) × Nat × (Option Addr) × (Option Addr) × Nat × ItA) (fun z => [(0, .pointer (some ⟨b, 0, none⟩)), (1, .int .i64 ((j + 1 : Nat) : Int)), (4, .pointer (some ⟨kb, 0, none⟩)), (8, .pointer (some ⟨kb, 0, none⟩)), (9, .pointer (some ⟨rb, 0, none⟩)), (10, .pointer (some ⟨b, 0, none⟩)), (11, .pointer (some ⟨b, 0, none⟩)), (12, .pointer (some ⟨b, 1, none⟩)), (13, .slice nka (nk).length nkc), (14, .int .i64 (j : Int)), (16, .pointer (some ⟨kb, 0, none⟩)), (17, .int .i64 (j : Int)), (18, .int .i64 ((j + 1 : Nat) : Int)), (19, .pointer (some ⟨b, 0, none⟩)), (20, .pointer (some ⟨b, 0, none⟩)), (21, .pointer (some ⟨b, 1, none⟩)), (22, .slice nka (nk).length nkc), (23, .int .i64 ((j + 1 : Nat) : Int)), (24, .int .i64 (j : Int)), (26, .pointer (some ⟨kb, 0, none⟩)), (27, .pointer (some ⟨b, 0, none⟩)), (28, .pointer (some ⟨b, 0, none⟩)), (29, .pointer (some ⟨b, 1, none⟩)), (30, .slice nka (nk).length nkc), (31, .int .i64 ((j + 1 : Nat) : Int)), (33, .pointer (some ⟨rb, 0, none⟩)), (34, .pointer (some ⟨kb, 0, none⟩)), (35, .pointer (some ⟨kb, 0, none⟩)), (36, .pointer (some ⟨kb, 0, none⟩)), (37, .pointer (some ⟨kb, 0, none⟩)), (38, .slice ka (ki).length kc), (39, .pointer (some ⟨b, 0, none⟩)), (40, .pointer (some ⟨b, 0, none⟩)), (41, .pointer (some ⟨b, 0, none⟩)), (42, .slice na (its).length nc), (43, .int .i64 ((j + 1 : Nat) : Int)), (44, .int .i64 (j : Int)), (46, .agg #[.string z.2.2.2.2.2.f_key, .bool z.2.2.2.2.2.f_value.f_Has, .slice z.2.2.2.2.2.f_value.f_Value.a (z.2.2.2.2.2.f_value.f_Value.xs).length z.2.2.2.2.2.f_value.f_Value.c, .int .i64 z.2.2.2.2.2.f_value.f_Home, .int .u64 z.2.2.2.2.2.f_value.f_Count]), (47, .slice z.2.2.1 ([z.2.2.2.2.2]).length 1), (48, .slice z.2.2.2.1 (ki ++ [z.2.2.2.2.2]).length z.2.2.2.2.1), (49, .pointer (some ⟨rb, 0, none⟩)), (50, .pointer (some ⟨rb, 0, none⟩)), (51, .pointer (some ⟨rb, 0, none⟩)), (52, .slice ra (ri).length rc), (53, .slice z.1 (ki ++ [z.2.2.2.2.2] ++ ri).length z.2.1), (54, .pointer (some ⟨kb, 0, none⟩)), (55, .pointer (some ⟨kb, 0, none⟩)), (90, .bool false), (91, .pointer (some ⟨kb, 0, none⟩)), (92, .pointer (some ⟨kb, 0, none⟩)), (93, .pointer (some ⟨kb, 0, none⟩)), (94, .slice ka (ki).length kc), (95, .int .i64 ((ki).length : Int)), (96, .bool false), (97, .bool false), (98, .int .i64 (j : Int)), (99, .bool false), (100, .bool false), (114, .bool false), (202, .bool false), (203, .int .i64 (j : Int)), (204, .int .i64 ((j + 1 : Nat) : Int)), (205, .pointer (some ⟨b, 0, none⟩)), (206, .pointer (some ⟨b, 0, none⟩)), (207, .pointer (some ⟨b, 1, none⟩)), (208, .slice nka (nk).length nkc), (209, .int .i64 ((nk).length : Int)), (210, .bool true), (211, .bool true), (212, .pointer (some ⟨b, 0, none⟩)), (213, .pointer (some ⟨b, 0, none⟩)), (214, .pointer (some ⟨b, 1, none⟩)), (215, .slice nka (nk).length nkc), (216, .int .i64 (j : Int)), (217, .int .i64 ((j + 1 : Nat) : Int)), (219, .pointer (some ⟨rb, 0, none⟩)), (220, .pointer (some ⟨rb, 0, none⟩)), (221, .pointer (some ⟨rb, 0, none⟩)), (222, .slice ra (ri).length rc), (223, .int .i64 ((ri).length : Int)), (224, .bool false), (225, .bool false)]) (fun z => blk kb (.cells #[.slice z.1 (ki ++ [z.2.2.2.2.2] ++ ri).length z.2.1, .slice kka (kk).length kkc] 103 (0, 0)) :: row e_ItA.T e_ItA.sz z.1 (ki ++ [z.2.2.2.2.2] ++ ri).length z.2.1 (flat e_ItA (ki ++ [z.2.2.2.2.2] ++ ri)) :: blk b (.cells #[.slice na (its).length nc, .slice nka (nk).length nkc] 103 (0, 0)) :: row e_ItA.T e_ItA.sz na (its).length nc (flat e_ItA its) :: row eN99.T eN99.sz nka (nk).length nkc (flat eN99 nk) :: row eN99.T eN99.sz kka (kk).length kkc (flat eN99 kk) :: blk rb (.cells #[.slice ra (ri).length rc, .slice rka (rk).length rkc] 103 (0, 0)) :: row e_ItA.T e_ItA.sz ra (ri).length rc (flat e_ItA ri) :: row eN99.T eN99.sz rka (rk).length rkc (flat eN99 rk) :: F) (fun z => its[((j : Int)).toNat]? = some z.2.2.2.2.2) ?_ ?_
 · -- cut
  refine c_fact (p := ∃ ad, na = some ad) (rds_some (e := e_ItA) (xs := its) (rds_own e_ItA_ok 1 rfl) (by intro h0; rw [h0] at h2; simp at h2; omega)) ?_
  rintro ⟨adx, eadx⟩
  refine cP p4 (cP p4 (cP p8 (cP p8 (cP p8 (cP p8 (cP p8 (cP p8 (cP p8 ?_))))))))
  refine c_held [blk b (.cells #[.slice na (its).length nc, .slice nka (nk).length nkc] 103 (0, 0)), row e_ItA.T e_ItA.sz na (its).length nc (flat e_ItA its), row eN99.T eN99.sz nka (nk).length nkc (flat eN99 nk), row eN99.T eN99.sz kka (kk).length kkc (flat eN99 kk), blk rb (.cells #[.slice ra (ri).length rc, .slice rka (rk).length rkc] 103 (0, 0)), row e_ItA.T e_ItA.sz ra (ri).length rc (flat e_ItA ri), row eN99.T eN99.sz rka (rk).length rkc (flat eN99 rk)] (by kernel_rfl) rfl ?_
  refine h_take 0 rfl rfl (by kernel_rfl) (by kernel_rfl) (by kernel_rfl) (fun L0 => v_move rfl rfl) ?_
  refine h_take 1 rfl rfl (by kernel_rfl) (by kernel_rfl) (by kernel_rfl) (fun L0 => v_move rfl rfl) ?_
  refine h_take 2 rfl rfl (by kernel_rfl) (by kernel_rfl) (by kernel_rfl) (fun L0 => v_nil rfl rfl) ?_
  refine h_take 3 rfl rfl (by kernel_rfl) (by kernel_rfl) (by kernel_rfl) (fun L0 => v_fieldAddr (q := ⟨kb, 0, none⟩) rfl rfl Try.underlying103 rfl ti100 rfl) ?_
  refine h_take 5 rfl rfl (by kernel_rfl) (by kernel_rfl) (by kernel_rfl) (fun L0 => v_move rfl rfl) ?_
  refine h_take 6 rfl rfl (by kernel_rfl) (by kernel_rfl) (by kernel_rfl) (fun L0 => v_nil rfl rfl) ?_
  refine h_take 7 rfl rfl (by kernel_rfl) (by kernel_rfl) (by kernel_rfl) (fun L0 => v_fieldAddr (q := ⟨b, 0, none⟩) rfl rfl Try.underlying103 rfl ti100 rfl) ?_
  refine h_take 8 rfl rfl (by kernel_rfl) (by kernel_rfl) (by kernel_rfl) (fun L0 => v_load1 rfl rfl Try.underlying100 rfl (rd_mem 0 rfl rfl)) ?_
  refine h_take 9 rfl rfl (by kernel_rfl) (by kernel_rfl) (by kernel_rfl) (fun L0 => v_move rfl rfl) ?_
  refine h_take 10 rfl rfl (by kernel_rfl) (by kernel_rfl) (by kernel_rfl) (fun L0 => v_bin rfl rfl rfl (b_sub (show IntKind.i64.wrap (((j + 1 : Nat) : Int) - 1) = (j : Int) from by rw [wrap_i64 (by omega) (by omega)]; omega))) ?_
  refine h_take 11 rfl rfl (by kernel_rfl) (by kernel_rfl) (by kernel_rfl) (fun L0 => v_indexK e_ItA_ok eadx rfl rfl rfl Try.underlying100 (by omega) (by omega)) ?_
  obtain ⟨x45, hx45⟩ : ∃ x, (its)[((j : Int)).toNat]? = some x := ⟨_, List.getElem?_eq_getElem (by omega)⟩
  refine h_take 12 rfl rfl (by kernel_rfl) (by kernel_rfl) (by kernel_rfl) (fun L0 => v_loadn (vs := e_ItA.cells x45) rfl rfl Try.underlying110 rfl ti110 (rdn_sl e_ItA_ok eadx (rds_own e_ItA_ok 1 rfl) hx45)) ?_
  refine h_take 15 rfl rfl (by kernel_rfl) (by kernel_rfl) (by kernel_rfl) (fun L0 => v_move rfl rfl) ?_
  refine h_take 16 rfl rfl (by kernel_rfl) (by kernel_rfl) (by kernel_rfl) (fun L0 => v_nil rfl rfl) ?_
  refine h_take 17 rfl rfl (by kernel_rfl) (by kernel_rfl) (by kernel_rfl) (fun L0 => v_fieldAddr (q := ⟨rb, 0, none⟩) rfl rfl Try.underlying103 rfl ti100 rfl) ?_
  refine h_take 18 rfl rfl (by kernel_rfl) (by kernel_rfl) (by kernel_rfl) (fun L0 => v_load1 rfl rfl Try.underlying100 rfl (rd_mem 4 rfl rfl)) ?_
  refine h_many (is := [4, 13]) (by kernel_rfl) (by decide) (forall_cons ⟨_, rfl, ?_⟩ (forall_cons ⟨_, rfl, ?_⟩ forall_nil))
  · -- 4 comes first
   refine o_load1 rfl rfl Try.underlying100 rfl (rd_mem 7 rfl rfl) ?_
   refine l_nil (h_next ?_)
   refine h_one 13 rfl (by kernel_rfl) ?_
   refine o_lit e_ItA_ok rfl Try.underlying100 rfl rfl rfl (lit_ok rfl) [x45] rfl rfl fun a47 => ?_
   refine l_nil (qP p9 (qP p9 (qP p2 (qP p9 (qP p9 (qP p9 (qP p9 (qP p9 (qP p9 ?_)))))))))
   refine qP p9 (h_next ?_)
   refine h_one 14 rfl (by kernel_rfl) ?_
   refine l_f9 ?_
   refine o_append e_ItA_ok rfl rfl rfl Try.underlying100 (rds_own e_ItA_ok 8 rfl) (by show (_ + _) * 64 ≤ _; (try simp only [List.length_append, List.length_cons, List.length_nil]); omega) (by (try simp only [List.length_append, List.length_cons, List.length_nil]); omega) fun a48 c48 => ?_
   refine l_f8 ?_
   refine l_drop ?_
   refine l_nil (qP p8 (qP p1 (qP p8 (qP p8 (qP p8 (qP p8 (qP p8 (qP p8 (qP p8 ?_)))))))))
   refine h_next ?_
   refine h_one 19 rfl (by kernel_rfl) ?_
   refine l_f7 ?_
   refine o_append e_ItA_ok rfl rfl rfl Try.underlying100 (rds_own e_ItA_ok 6 rfl) (by show (_ + _) * 64 ≤ _; (try simp only [List.length_append, List.length_cons, List.length_nil]); omega) (by (try simp only [List.length_append, List.length_cons, List.length_nil]); omega) fun a53 c53 => ?_
   refine l_nil (qP p8 (qP p1 (qP p8 (qP p8 (qP p8 (qP p8 (qP p8 (qP p8 (qP p8 ?_)))))))))
   refine h_next ?_
   refine h_take 20 rfl rfl (by kernel_rfl) (by kernel_rfl) (by kernel_rfl) (fun L0 => v_nil rfl rfl) ?_
   refine h_take 21 rfl rfl (by kernel_rfl) (by kernel_rfl) (by kernel_rfl) (fun L0 => v_fieldAddr (q := ⟨kb, 0, none⟩) rfl rfl Try.underlying103 rfl ti100 rfl) ?_
   refine h_one 22 rfl (by kernel_rfl) ?_
   refine l_f8 ?_
   refine o_store1 rfl rfl rfl ti100 rfl rfl ?_
   refine l_nil (qP p8 (qP p1 (qP p8 (qP p8 (qP p8 (qP p8 (qP p8 (qP p8 (qP p8 ?_)))))))))
   refine h_next ?_
   refine h_done (by kernel_rfl) ?_
   refine qP p6 (qP p6 (qP p6 (qP p6 (qP p6 (qP p6 (qP p6 (qP p8 (qP p8 ?_))))))))
   exact q_mid (a53, c53, a47, a48, c48, x45) (by exact hx45) ⟨vr, vr, vr, vr, vr, vr, vr, vr, vr, vr, vr, vr, vr, vr, vr, vr, vr, vr, vr, vr, vr, vr, vr, vr, vr, vr, vr, vr, vr, vr, vr, vr, vr, vr, vr, vr, vr, vr, vr, vr, vr, vr, vr, vr, vr, vr, vr, vr, vr, vr, vr, vr, vr, vr, vr, vr, vr, vr, vr, vr, vr, vr, vr, vr, vr, vr, vr, vr, vr, vr, vr, vr, vr, vr, vr, vr, vr, vr, vr, vr, vr, vr, trivial⟩ (fun w S => S)
  · -- 13 comes first
   refine o_lit e_ItA_ok rfl Try.underlying100 rfl rfl rfl (lit_ok rfl) [x45] rfl rfl fun a47 => ?_
   refine l_nil (qP p9 (qP p9 (qP p2 (qP p9 (qP p9 (qP p9 (qP p9 (qP p9 (qP p9 ?_)))))))))
   refine qP p9 (h_next ?_)
   refine h_one 4 rfl (by kernel_rfl) ?_
   refine o_load1 rfl rfl Try.underlying100 rfl (rd_mem 8 rfl rfl) ?_
   refine l_nil (h_next ?_)
   refine h_one 14 rfl (by kernel_rfl) ?_
   refine l_f9 ?_
   refine o_append e_ItA_ok rfl rfl rfl Try.underlying100 (rds_own e_ItA_ok 8 rfl) (by show (_ + _) * 64 ≤ _; (try simp only [List.length_append, List.length_cons, List.length_nil]); omega) (by (try simp only [List.length_append, List.length_cons, List.length_nil]); omega) fun a48 c48 => ?_
   refine l_f8 ?_
   refine l_drop ?_
   refine l_nil (qP p8 (qP p1 (qP p8 (qP p8 (qP p8 (qP p8 (qP p8 (qP p8 (qP p8 ?_)))))))))
   refine h_next ?_
   refine h_one 19 rfl (by kernel_rfl) ?_
   refine l_f7 ?_
   refine o_append e_ItA_ok rfl rfl rfl Try.underlying100 (rds_own e_ItA_ok 6 rfl) (by show (_ + _) * 64 ≤ _; (try simp only [List.length_append, List.length_cons, List.length_nil]); omega) (by (try simp only [List.length_append, List.length_cons, List.length_nil]); omega) fun a53 c53 => ?_
   refine l_nil (qP p8 (qP p1 (qP p8 (qP p8 (qP p8 (qP p8 (qP p8 (qP p8 (qP p8 ?_)))))))))
   refine h_next ?_
   refine h_take 20 rfl rfl (by kernel_rfl) (by kernel_rfl) (by kernel_rfl) (fun L0 => v_nil rfl rfl) ?_
   refine h_take 21 rfl rfl (by kernel_rfl) (by kernel_rfl) (by kernel_rfl) (fun L0 => v_fieldAddr (q := ⟨kb, 0, none⟩) rfl rfl Try.underlying103 rfl ti100 rfl) ?_
   refine h_one 22 rfl (by kernel_rfl) ?_
   refine l_f8 ?_
   refine o_store1 rfl rfl rfl ti100 rfl rfl ?_
   refine l_nil (qP p8 (qP p1 (qP p8 (qP p8 (qP p8 (qP p8 (qP p8 (qP p8 (qP p8 ?_)))))))))
   refine h_next ?_
   refine h_done (by kernel_rfl) ?_
   refine qP p6 (qP p6 (qP p6 (qP p6 (qP p6 (qP p6 (qP p6 (qP p8 (qP p8 ?_))))))))
   exact q_mid (a53, c53, a47, a48, c48, x45) (by exact hx45) ⟨vr, vr, vr, vr, vr, vr, vr, vr, vr, vr, vr, vr, vr, vr, vr, vr, vr, vr, vr, vr, vr, vr, vr, vr, vr, vr, vr, vr, vr, vr, vr, vr, vr, vr, vr, vr, vr, vr, vr, vr, vr, vr, vr, vr, vr, vr, vr, vr, vr, vr, vr, vr, vr, vr, vr, vr, vr, vr, vr, vr, vr, vr, vr, vr, vr, vr, vr, vr, vr, vr, vr, vr, vr, vr, vr, vr, vr, vr, vr, vr, vr, vr, trivial⟩ (fun w S => S)
 · -- behind the cut
  rintro ⟨a53, c53, a47, a48, c48, x45⟩ hx45
  try dsimp only at *
  refine c_seq (cP p5 (cP p1 (cP p8 (cP p8 (cP p8 (cP p8 (cP p8 (cP p8 (cP p8 ?_)))))))))
  refine c_held [row e_ItA.T e_ItA.sz a53 (ki ++ [x45] ++ ri).length c53 (flat e_ItA (ki ++ [x45] ++ ri)), blk b (.cells #[.slice na (its).length nc, .slice nka (nk).length nkc] 103 (0, 0)), row e_ItA.T e_ItA.sz na (its).length nc (flat e_ItA its), row eN99.T eN99.sz nka (nk).length nkc (flat eN99 nk), blk rb (.cells #[.slice ra (ri).length rc, .slice rka (rk).length rkc] 103 (0, 0)), row e_ItA.T e_ItA.sz ra (ri).length rc (flat e_ItA ri), row eN99.T eN99.sz rka (rk).length rkc (flat eN99 rk)] (by kernel_rfl) rfl ?_
  refine h_take 0 rfl rfl (by kernel_rfl) (by kernel_rfl) (by kernel_rfl) (fun L0 => v_move rfl rfl) ?_
  refine h_take 1 rfl rfl (by kernel_rfl) (by kernel_rfl) (by kernel_rfl) (fun L0 => v_move rfl rfl) ?_
  refine h_take 2 rfl rfl (by kernel_rfl) (by kernel_rfl) (by kernel_rfl) (fun L0 => v_nil rfl rfl) ?_
  refine h_take 3 rfl rfl (by kernel_rfl) (by kernel_rfl) (by kernel_rfl) (fun L0 => v_fieldAddr (q := ⟨kb, 1, none⟩) rfl rfl Try.underlying103 rfl ti101 rfl) ?_
  refine h_take 5 rfl rfl (by kernel_rfl) (by kernel_rfl) (by kernel_rfl) (fun L0 => v_move rfl rfl) ?_
  refine h_take 6 rfl rfl (by kernel_rfl) (by kernel_rfl) (by kernel_rfl) (fun L0 => v_nil rfl rfl) ?_
  refine h_take 7 rfl rfl (by kernel_rfl) (by kernel_rfl) (by kernel_rfl) (fun L0 => v_fieldAddr (q := ⟨rb, 1, none⟩) rfl rfl Try.underlying103 rfl ti101 rfl) ?_
  refine h_take 8 rfl rfl (by kernel_rfl) (by kernel_rfl) (by kernel_rfl) (fun L0 => v_load1 rfl rfl Try.underlying101 rfl (rd_mem 4 rfl rfl)) ?_
  refine h_one 4 rfl (by kernel_rfl) ?_
  refine o_load1 rfl rfl Try.underlying101 rfl (rd_mem 7 rfl rfl) ?_
  refine l_nil (h_next ?_)
  refine h_one 9 rfl (by kernel_rfl) ?_
  refine l_f8 ?_
  refine o_append eN99_ok rfl rfl rfl Try.underlying101 (rds_own eN99_ok 7 rfl) (by show (_ + _) * 8 ≤ _; (try simp only [List.length_append, List.length_cons, List.length_nil]); omega) (by (try simp only [List.length_append, List.length_cons, List.length_nil]); omega) fun a65 c65 => ?_
  refine l_nil (qP p8 (qP p1 (qP p8 (qP p8 (qP p8 (qP p8 (qP p8 (qP p8 (qP p8 ?_)))))))))
  refine h_next ?_
  refine h_take 10 rfl rfl (by kernel_rfl) (by kernel_rfl) (by kernel_rfl) (fun L0 => v_nil rfl rfl) ?_
  refine h_take 11 rfl rfl (by kernel_rfl) (by kernel_rfl) (by kernel_rfl) (fun L0 => v_fieldAddr (q := ⟨kb, 1, none⟩) rfl rfl Try.underlying103 rfl ti101 rfl) ?_
  refine h_one 12 rfl (by kernel_rfl) ?_
  refine l_f8 ?_
  refine o_store1 rfl rfl rfl ti101 rfl rfl ?_
  refine l_nil (qP p8 (qP p1 (qP p8 (qP p8 (qP p8 (qP p8 (qP p8 (qP p8 (qP p8 ?_)))))))))
  refine h_next ?_
  refine h_done (by kernel_rfl) ?_
  refine q_then (c_seq (c_region (o_move rfl rfl (o_move rfl rfl (o_nil rfl rfl ?_)))))
  refine o_fieldAddr (q := ⟨b, 0, none⟩) rfl rfl Try.underlying103 rfl ti100 rfl ?_
  refine o_load1 rfl rfl Try.underlying100 rfl (rd_mem 1 rfl rfl) ?_
  refine o_move rfl rfl ?_
  refine o_bin rfl rfl rfl (b_sub (show IntKind.i64.wrap (((j + 1 : Nat) : Int) - 1) = (j : Int) from by rw [wrap_i64 (by omega) (by omega)]; omega)) ?_
  refine o_move rfl rfl (l_f2 ?_)
  refine o_call rfl cal71 rfl (delI_A (xs := its) (i := j) (j := (j + 1 : Nat)) (by omega) (by omega) (by omega)) ?_
  rintro _ _ ⟨rfl, rfl⟩
  refine o_nil rfl rfl ?_
  refine o_fieldAddr (q := ⟨b, 0, none⟩) rfl rfl Try.underlying103 rfl ti100 rfl ?_
  refine l_f2 ?_
  refine o_store1 rfl rfl rfl ti100 rfl rfl ?_
  refine l_nil (q_then (c_region (o_move rfl rfl (o_move rfl rfl (o_nil rfl rfl ?_)))))
  refine o_fieldAddr (q := ⟨b, 1, none⟩) rfl rfl Try.underlying103 rfl ti101 rfl ?_
  refine o_load1 rfl rfl Try.underlying101 rfl (rd_mem 0 rfl rfl) ?_
  refine o_move rfl rfl (o_move rfl rfl ?_)
  refine o_bin rfl rfl rfl (b_add (show IntKind.i64.wrap (((j + 1 : Nat) : Int) + 1) = ((j + 2 : Nat) : Int) from by rw [wrap_i64 (by omega) (by omega)]; omega)) ?_
  refine l_f3 ?_
  refine o_call rfl cal79 rfl (delK_A (xs := nk) (i := (j + 1 : Nat)) (j := (j + 2 : Nat)) (by omega) (by omega) (by omega)) ?_
  rintro _ _ ⟨rfl, rfl⟩
  refine o_nil rfl rfl ?_
  refine o_fieldAddr (q := ⟨b, 1, none⟩) rfl rfl Try.underlying103 rfl ti101 rfl ?_
  refine l_f1 ?_
  refine o_store1 rfl rfl rfl ti101 rfl rfl ?_
  refine l_nil (q_block (qP p4 (qT (qP p4 (qT (qP p4 (qT (qP p5 (qP p4 ?_)))))))))
  refine qP p5 (qP p4 (qP p5 (qP p5 ?_)))
  exact f_end (r_none rfl) (⟨x45, a53, c53, a65, c65, (show its[j]? = some x45 from by have h9 := hx45; rw [show ((j : Int)).toNat = j from rfl] at h9; exact h9), rfl⟩) (fun w S => S)
set_option maxHeartbeats 4000000 in
theorem mendD1_A {W : World} {F : List Res} {b kb : Nat} {its ki : List ItA} {nk kk : List Nat} {na nka ka kka : Option Addr} {nc nkc kc kkc : Nat} {lb : Nat} {li : List ItA} {lk : List Nat} {la lka : Option Addr} {lc lkc : Nat} {j : Nat} (hA : nk[j]? = some lb) (hB : nk[j + 1]? = some kb) (hk1 : ki.length < 2) (hl2 : li.length ≤ 2) (hlk : lk.length ≤ 6) (hnr : nk.length = j + 2) (h1 : its.length ≤ 5) (h2 : nk.length = its.length + 1) (h3 : ki.length ≤ 5) (h4 : kk.length ≤ 6) : CS Try.prog 73 #[.pointer (some ⟨b, 0, none⟩), .int .i64 ((j + 1 : Nat) : Int)] W (blk b (.cells #[.slice na (its).length nc, .slice nka (nk).length nkc] 103 (0, 0)) :: row e_ItA.T e_ItA.sz na (its).length nc (flat e_ItA its) :: row eN99.T eN99.sz nka (nk).length nkc (flat eN99 nk) :: blk kb (.cells #[.slice ka (ki).length kc, .slice kka (kk).length kkc] 103 (0, 0)) :: row e_ItA.T e_ItA.sz ka (ki).length kc (flat e_ItA ki) :: row eN99.T eN99.sz kka (kk).length kkc (flat eN99 kk) :: blk lb (.cells #[.slice la (li).length lc, .slice lka (lk).length lkc] 103 (0, 0)) :: row e_ItA.T e_ItA.sz la (li).length lc (flat e_ItA li) :: row eN99.T eN99.sz lka (lk).length lkc (flat eN99 lk) :: F) (fun _ L' => ∃ (x : ItA) (a1 : Option Addr) (c1 : Nat) (a2 : Option Addr) (c2 : Nat), its[j]? = some x ∧ L' = blk b (.cells #[.slice na (its.take j ++ its.drop (j + 1)).length nc, .slice nka (nk.take (j + 1) ++ nk.drop (j + 2)).length nkc] 103 (0, 0)) :: row e_ItA.T e_ItA.sz na ((its.take j ++ its.drop (j + 1))).length nc (flat e_ItA (its.take j ++ its.drop (j + 1))) :: row eN99.T eN99.sz nka ((nk.take (j + 1) ++ nk.drop (j + 2))).length nkc (flat eN99 (nk.take (j + 1) ++ nk.drop (j + 2))) :: blk lb (.cells #[.slice a1 ((li ++ [x]) ++ ki).length c1, .slice a2 (lk ++ kk).length c2] 103 (0, 0)) :: row e_ItA.T e_ItA.sz a1 (((li ++ [x]) ++ ki)).length c1 (flat e_ItA ((li ++ [x]) ++ ki)) :: row eN99.T eN99.sz a2 ((lk ++ kk)).length c2 (flat eN99 (lk ++ kk)) :: F) := by
 refine f_door (l0 := [(0, .pointer (some ⟨b, 0, none⟩)), (1, .int .i64 ((j + 1 : Nat) : Int))]) Try.func73 Try.ntmps73 rfl rfl rfl ?_
 refine c_seq ?_
 have hil := (List.getElem?_eq_some_iff.1 hB).1
 refine c_region (o_move rfl rfl (o_nil rfl rfl ?_))
 refine o_fieldAddr (q := ⟨b, 1, none⟩) rfl rfl Try.underlying103 rfl ti101 rfl ?_
 refine o_load1 rfl rfl Try.underlying101 rfl (rd_mem 0 rfl rfl) ?_
 refine o_move rfl rfl ?_
 refine o_index eN99_ok rfl rfl rfl Try.underlying101 (by omega) (by omega) (rds_own eN99_ok 2 rfl) fun ad15 ead15 => ?_
 obtain ⟨x15, hx15⟩ : ∃ x, (nk)[(((j + 1 : Nat) : Int)).toNat]? = some x := ⟨_, List.getElem?_eq_getElem (by omega)⟩
 have hxk15 : x15 = kb := by have h9 := hx15; rw [show (((j + 1 : Nat) : Int)).toNat = j + 1 from by omega, hB] at h9; exact (Option.some.inj h9).symm
 refine o_load1 rfl rfl Try.underlying99 rfl (rd_sl0 eN99_ok ead15 (rds_own eN99_ok 2 rfl) hx15 rfl) ?_
 refine l_eq (t := 16) (v' := .pointer (some ⟨kb, 0, none⟩)) rfl (by rw [hxk15]) ?_
 refine o_assign rfl rfl (l_nil (q_then (c_block (c_seq (c_region (o_move rfl rfl (o_nil rfl rfl ?_)))))))
 refine o_fieldAddr (q := ⟨kb, 0, none⟩) rfl rfl Try.underlying103 rfl ti100 rfl ?_
 refine o_load1 rfl rfl Try.underlying100 rfl (rd_mem 3 rfl rfl) ?_
 refine o_len rfl rfl Try.underlying100 ?_
 refine o_bin rfl rfl rfl b_geq ?_
 refine l_eq (t := 96) (v' := .bool false) rfl (show _ = Value.bool false from by rw [decide_eq_false (by omega)]) ?_
 refine o_assign rfl rfl (l_nil (q_then (c_false rfl (c_seq (c_region (o_move rfl rfl ?_))))))
 refine o_bin rfl rfl rfl b_gtr ?_
 refine l_eq (t := 99) (v' := .bool true) rfl (show _ = Value.bool true from by rw [decide_eq_true (by omega)]) ?_
 refine o_move rfl rfl (o_yes rfl rfl rfl (o_move rfl rfl (o_yes rfl rfl rfl (o_nil rfl rfl (o_yes rfl rfl rfl ?_)))))
 refine o_fieldAddr (q := ⟨b, 1, none⟩) rfl rfl Try.underlying103 rfl ti101 rfl ?_
 refine o_yes rfl rfl rfl ?_
 refine o_load1 rfl rfl Try.underlying101 rfl (rd_mem 0 rfl rfl) ?_
 refine o_yes rfl rfl rfl (o_move rfl rfl (o_yes rfl rfl rfl ?_))
 refine o_bin rfl rfl rfl (b_sub (show IntKind.i64.wrap (((j + 1 : Nat) : Int) - 1) = (j : Int) from by rw [wrap_i64 (by omega) (by omega)]; omega)) ?_
 refine o_yes rfl rfl rfl ?_
 refine o_indexK eN99_ok ead15 rfl rfl rfl Try.underlying101 (by omega) (by omega) ?_
 obtain ⟨x107, hx107⟩ : ∃ x, (nk)[((j : Int)).toNat]? = some x := ⟨_, List.getElem?_eq_getElem (by omega)⟩
 have hxk107 : x107 = lb := by have h9 := hx107; rw [show ((j : Int)).toNat = j from by omega, hA] at h9; exact (Option.some.inj h9).symm
 refine o_yes rfl rfl rfl ?_
 refine o_load1 rfl rfl Try.underlying99 rfl (rd_sl0 eN99_ok ead15 (rds_own eN99_ok 2 rfl) hx107 rfl) ?_
 refine l_eq (t := 108) (v' := .pointer (some ⟨lb, 0, none⟩)) rfl (by rw [hxk107]) ?_
 refine o_yes rfl rfl rfl (o_nil rfl rfl (o_yes rfl rfl rfl ?_))
 refine o_fieldAddr (q := ⟨lb, 0, none⟩) rfl rfl Try.underlying103 rfl ti100 rfl ?_
 refine o_yes rfl rfl rfl ?_
 refine o_load1 rfl rfl Try.underlying100 rfl (rd_mem 6 rfl rfl) ?_
 refine o_yes rfl rfl rfl ?_
 refine o_len rfl rfl Try.underlying100 ?_
 refine o_yes rfl rfl rfl ?_
 refine o_bin rfl rfl rfl b_gtr ?_
 refine l_eq (t := 113) (v' := .bool false) rfl (show _ = Value.bool false from by rw [decide_eq_false (by omega)]) ?_
 refine o_pick_true rfl rfl rfl (o_assign rfl rfl (l_nil (q_then (c_false rfl (c_seq (c_region (o_move rfl rfl ?_)))))))
 refine o_bin rfl rfl rfl (b_add (show IntKind.i64.wrap (((j + 1 : Nat) : Int) + 1) = ((j + 2 : Nat) : Int) from by rw [wrap_i64 (by omega) (by omega)]; omega)) ?_
 refine o_move rfl rfl (o_nil rfl rfl ?_)
 refine o_fieldAddr (q := ⟨b, 1, none⟩) rfl rfl Try.underlying103 rfl ti101 rfl ?_
 refine o_load1 rfl rfl Try.underlying101 rfl (rd_mem 0 rfl rfl) ?_
 refine o_len rfl rfl Try.underlying101 ?_
 refine o_bin rfl rfl rfl b_lss ?_
 refine l_eq (t := 210) (v' := .bool false) rfl (show _ = Value.bool false from by rw [decide_eq_false (by omega)]) ?_
 refine o_move rfl rfl (o_no rfl rfl rfl rfl (o_no rfl rfl rfl rfl (o_no rfl rfl rfl rfl (o_no rfl rfl rfl rfl (o_no rfl rfl rfl rfl (o_no rfl rfl rfl rfl (o_no rfl rfl rfl rfl (o_no rfl rfl rfl rfl (o_no rfl rfl rfl rfl ?_)))))))))
 refine o_no rfl rfl rfl rfl (o_no rfl rfl rfl rfl (o_no rfl rfl rfl rfl (o_no rfl rfl rfl rfl (o_pick_false rfl rfl rfl (o_assign rfl rfl (l_nil (q_then (c_false rfl (c_seq ?_)))))))))
 refine c_region (o_move rfl rfl ?_)
 refine o_max rfl rfl rfl Try.underlying3 ?_
 refine l_eq (t := 18) (v' := .int .i64 ((j + 1 : Nat) : Int)) rfl (by first | exact vint (by omega) | (congr 1; omega)) ?_
 refine o_assign rfl rfl (l_nil (q_then (c_seq ?_)))
 refine c_quiet (by kernel_rfl) (by kernel_rfl) ?_
 refine Qt.o_val rfl (v_move rfl rfl) (Qt.o_val rfl (v_nil rfl rfl) ?_)
 refine Qt.o_val rfl (v_fieldAddr (q := ⟨b, 1, none⟩) rfl rfl Try.underlying103 rfl ti101 rfl) ?_
 refine Qt.o_val rfl (v_load1 rfl rfl Try.underlying101 rfl (rd_mem 0 rfl rfl)) ?_
 refine Qt.o_val rfl (v_move rfl rfl) ?_
 refine Qt.o_val rfl (v_bin rfl rfl rfl (b_sub (show IntKind.i64.wrap (((j + 1 : Nat) : Int) - 1) = (j : Int) from by rw [wrap_i64 (by omega) (by omega)]; omega))) ?_
 refine Qt.o_val rfl (v_indexK eN99_ok ead15 rfl rfl rfl Try.underlying101 (by omega) (by omega)) ?_
 obtain ⟨x25, hx25⟩ : ∃ x, (nk)[((j : Int)).toNat]? = some x := ⟨_, List.getElem?_eq_getElem (by omega)⟩
 have hxk25 : x25 = lb := by have h9 := hx25; rw [show ((j : Int)).toNat = j from by omega, hA] at h9; exact (Option.some.inj h9).symm
 refine Qt.o_val rfl (v_load1 rfl rfl Try.underlying99 rfl (rd_sl0 eN99_ok ead15 (rds_own eN99_ok 2 rfl) hx25 rfl)) ?_
 refine Qt.l_eq (t := 26) (v' := .pointer (some ⟨lb, 0, none⟩)) rfl (by rw [hxk25]) ?_
 refine Qt.o_val rfl (v_move rfl rfl) (Qt.o_val rfl (v_nil rfl rfl) ?_)
 refine Qt.o_val rfl (v_fieldAddr (q := ⟨b, 1, none⟩) rfl rfl Try.underlying103 rfl ti101 rfl) ?_
 refine Qt.o_val rfl (v_load1 rfl rfl Try.underlying101 rfl (rd_mem 0 rfl rfl)) ?_
 refine Qt.o_val rfl (v_move rfl rfl) ?_
 refine Qt.o_val rfl (v_indexK eN99_ok ead15 rfl rfl rfl Try.underlying101 (by omega) (by omega)) ?_
 obtain ⟨x32, hx32⟩ : ∃ x, (nk)[(((j + 1 : Nat) : Int)).toNat]? = some x := ⟨_, List.getElem?_eq_getElem (by omega)⟩
 have hxk32 : x32 = kb := by have h9 := hx32; rw [show (((j + 1 : Nat) : Int)).toNat = j + 1 from by omega, hB] at h9; exact (Option.some.inj h9).symm
 refine Qt.o_val rfl (v_load1 rfl rfl Try.underlying99 rfl (rd_sl0 eN99_ok ead15 (rds_own eN99_ok 2 rfl) hx32 rfl)) ?_
 refine Qt.l_eq (t := 33) (v' := .pointer (some ⟨kb, 0, none⟩)) rfl (by rw [hxk32]) ?_
 refine Qt.o_val rfl (v_assign rfl rfl) ?_
 refine Qt.o_val rfl (v_assign rfl rfl) ?_
 refine Qt.l_nil ?_
 refine q_then (c_seq ?_)
 refine c_mid (α := (Option Addr) × Nat × (Option Addr) × (Option Addr) × Nat × ItA) (fun z => [(0, .pointer (some ⟨b, 0, none⟩)), (1, .int .i64 ((j + 1 : Nat) : Int)), (4, .pointer (some ⟨kb, 0, none⟩)), (8, .pointer (some ⟨lb, 0, none⟩)), (9, .pointer (some ⟨kb, 0, none⟩)), (10, .pointer (some ⟨b, 0, none⟩)), (11, .pointer (some ⟨b, 0, none⟩)), (12, .pointer (some ⟨b, 1, none⟩)), (13, .slice nka (nk).length nkc), (14, .int .i64 ((j + 1 : Nat) : Int)), (16, .pointer (some ⟨kb, 0, none⟩)), (17, .int .i64 ((j + 1 : Nat) : Int)), (18, .int .i64 ((j + 1 : Nat) : Int)), (19, .pointer (some ⟨b, 0, none⟩)), (20, .pointer (some ⟨b, 0, none⟩)), (21, .pointer (some ⟨b, 1, none⟩)), (22, .slice nka (nk).length nkc), (23, .int .i64 ((j + 1 : Nat) : Int)), (24, .int .i64 (j : Int)), (26, .pointer (some ⟨lb, 0, none⟩)), (27, .pointer (some ⟨b, 0, none⟩)), (28, .pointer (some ⟨b, 0, none⟩)), (29, .pointer (some ⟨b, 1, none⟩)), (30, .slice nka (nk).length nkc), (31, .int .i64 ((j + 1 : Nat) : Int)), (33, .pointer (some ⟨kb, 0, none⟩)), (34, .pointer (some ⟨lb, 0, none⟩)), (35, .pointer (some ⟨lb, 0, none⟩)), (36, .pointer (some ⟨lb, 0, none⟩)), (37, .pointer (some ⟨lb, 0, none⟩)), (38, .slice la (li).length lc), (39, .pointer (some ⟨b, 0, none⟩)), (40, .pointer (some ⟨b, 0, none⟩)), (41, .pointer (some ⟨b, 0, none⟩)), (42, .slice na (its).length nc), (43, .int .i64 ((j + 1 : Nat) : Int)), (44, .int .i64 (j : Int)), (46, .agg #[.string z.2.2.2.2.2.f_key, .bool z.2.2.2.2.2.f_value.f_Has, .slice z.2.2.2.2.2.f_value.f_Value.a (z.2.2.2.2.2.f_value.f_Value.xs).length z.2.2.2.2.2.f_value.f_Value.c, .int .i64 z.2.2.2.2.2.f_value.f_Home, .int .u64 z.2.2.2.2.2.f_value.f_Count]), (47, .slice z.2.2.1 ([z.2.2.2.2.2]).length 1), (48, .slice z.2.2.2.1 (li ++ [z.2.2.2.2.2]).length z.2.2.2.2.1), (49, .pointer (some ⟨kb, 0, none⟩)), (50, .pointer (some ⟨kb, 0, none⟩)), (51, .pointer (some ⟨kb, 0, none⟩)), (52, .slice ka (ki).length kc), (53, .slice z.1 (li ++ [z.2.2.2.2.2] ++ ki).length z.2.1), (54, .pointer (some ⟨lb, 0, none⟩)), (55, .pointer (some ⟨lb, 0, none⟩)), (90, .bool false), (91, .pointer (some ⟨kb, 0, none⟩)), (92, .pointer (some ⟨kb, 0, none⟩)), (93, .pointer (some ⟨kb, 0, none⟩)), (94, .slice ka (ki).length kc), (95, .int .i64 ((ki).length : Int)), (96, .bool false), (97, .bool false), (98, .int .i64 ((j + 1 : Nat) : Int)), (99, .bool true), (100, .bool true), (101, .pointer (some ⟨b, 0, none⟩)), (102, .pointer (some ⟨b, 0, none⟩)), (103, .pointer (some ⟨b, 1, none⟩)), (104, .slice nka (nk).length nkc), (105, .int .i64 ((j + 1 : Nat) : Int)), (106, .int .i64 (j : Int)), (108, .pointer (some ⟨lb, 0, none⟩)), (109, .pointer (some ⟨lb, 0, none⟩)), (110, .pointer (some ⟨lb, 0, none⟩)), (111, .slice la (li).length lc), (112, .int .i64 ((li).length : Int)), (113, .bool false), (114, .bool false), (202, .bool false), (203, .int .i64 ((j + 1 : Nat) : Int)), (204, .int .i64 ((j + 2 : Nat) : Int)), (205, .pointer (some ⟨b, 0, none⟩)), (206, .pointer (some ⟨b, 0, none⟩)), (207, .pointer (some ⟨b, 1, none⟩)), (208, .slice nka (nk).length nkc), (209, .int .i64 ((nk).length : Int)), (210, .bool false), (211, .bool false), (225, .bool false)]) (fun z => blk lb (.cells #[.slice z.1 (li ++ [z.2.2.2.2.2] ++ ki).length z.2.1, .slice lka (lk).length lkc] 103 (0, 0)) :: row e_ItA.T e_ItA.sz z.1 (li ++ [z.2.2.2.2.2] ++ ki).length z.2.1 (flat e_ItA (li ++ [z.2.2.2.2.2] ++ ki)) :: blk b (.cells #[.slice na (its).length nc, .slice nka (nk).length nkc] 103 (0, 0)) :: row e_ItA.T e_ItA.sz na (its).length nc (flat e_ItA its) :: row eN99.T eN99.sz nka (nk).length nkc (flat eN99 nk) :: blk kb (.cells #[.slice ka (ki).length kc, .slice kka (kk).length kkc] 103 (0, 0)) :: row e_ItA.T e_ItA.sz ka (ki).length kc (flat e_ItA ki) :: row eN99.T eN99.sz kka (kk).length kkc (flat eN99 kk) :: row eN99.T eN99.sz lka (lk).length lkc (flat eN99 lk) :: F) (fun z => its[((j : Int)).toNat]? = some z.2.2.2.2.2) ?_ ?_
 · -- cut
  refine c_fact (p := ∃ ad, na = some ad) (rds_some (e := e_ItA) (xs := its) (rds_own e_ItA_ok 1 rfl) (by intro h0; rw [h0] at h2; simp at h2; omega)) ?_
  rintro ⟨adx, eadx⟩
  refine cP p7 (cP p7 (cP p8 (cP p8 (cP p8 (cP p8 (cP p8 (cP p8 (cP p8 ?_))))))))
  refine c_held [blk b (.cells #[.slice na (its).length nc, .slice nka (nk).length nkc] 103 (0, 0)), row e_ItA.T e_ItA.sz na (its).length nc (flat e_ItA its), row eN99.T eN99.sz nka (nk).length nkc (flat eN99 nk), blk kb (.cells #[.slice ka (ki).length kc, .slice kka (kk).length kkc] 103 (0, 0)), row e_ItA.T e_ItA.sz ka (ki).length kc (flat e_ItA ki), row eN99.T eN99.sz kka (kk).length kkc (flat eN99 kk), row eN99.T eN99.sz lka (lk).length lkc (flat eN99 lk)] (by kernel_rfl) rfl ?_
  refine h_take 0 rfl rfl (by kernel_rfl) (by kernel_rfl) (by kernel_rfl) (fun L0 => v_move rfl rfl) ?_
  refine h_take 1 rfl rfl (by kernel_rfl) (by kernel_rfl) (by kernel_rfl) (fun L0 => v_move rfl rfl) ?_
  refine h_take 2 rfl rfl (by kernel_rfl) (by kernel_rfl) (by kernel_rfl) (fun L0 => v_nil rfl rfl) ?_
  refine h_take 3 rfl rfl (by kernel_rfl) (by kernel_rfl) (by kernel_rfl) (fun L0 => v_fieldAddr (q := ⟨lb, 0, none⟩) rfl rfl Try.underlying103 rfl ti100 rfl) ?_
  refine h_take 5 rfl rfl (by kernel_rfl) (by kernel_rfl) (by kernel_rfl) (fun L0 => v_move rfl rfl) ?_
  refine h_take 6 rfl rfl (by kernel_rfl) (by kernel_rfl) (by kernel_rfl) (fun L0 => v_nil rfl rfl) ?_
  refine h_take 7 rfl rfl (by kernel_rfl) (by kernel_rfl) (by kernel_rfl) (fun L0 => v_fieldAddr (q := ⟨b, 0, none⟩) rfl rfl Try.underlying103 rfl ti100 rfl) ?_
  refine h_take 8 rfl rfl (by kernel_rfl) (by kernel_rfl) (by kernel_rfl) (fun L0 => v_load1 rfl rfl Try.underlying100 rfl (rd_mem 0 rfl rfl)) ?_
  refine h_take 9 rfl rfl (by kernel_rfl) (by kernel_rfl) (by kernel_rfl) (fun L0 => v_move rfl rfl) ?_
  refine h_take 10 rfl rfl (by kernel_rfl) (by kernel_rfl) (by kernel_rfl) (fun L0 => v_bin rfl rfl rfl (b_sub (show IntKind.i64.wrap (((j + 1 : Nat) : Int) - 1) = (j : Int) from by rw [wrap_i64 (by omega) (by omega)]; omega))) ?_
  refine h_take 11 rfl rfl (by kernel_rfl) (by kernel_rfl) (by kernel_rfl) (fun L0 => v_indexK e_ItA_ok eadx rfl rfl rfl Try.underlying100 (by omega) (by omega)) ?_
  obtain ⟨x45, hx45⟩ : ∃ x, (its)[((j : Int)).toNat]? = some x := ⟨_, List.getElem?_eq_getElem (by omega)⟩
  refine h_take 12 rfl rfl (by kernel_rfl) (by kernel_rfl) (by kernel_rfl) (fun L0 => v_loadn (vs := e_ItA.cells x45) rfl rfl Try.underlying110 rfl ti110 (rdn_sl e_ItA_ok eadx (rds_own e_ItA_ok 1 rfl) hx45)) ?_
  refine h_take 15 rfl rfl (by kernel_rfl) (by kernel_rfl) (by kernel_rfl) (fun L0 => v_move rfl rfl) ?_
  refine h_take 16 rfl rfl (by kernel_rfl) (by kernel_rfl) (by kernel_rfl) (fun L0 => v_nil rfl rfl) ?_
  refine h_take 17 rfl rfl (by kernel_rfl) (by kernel_rfl) (by kernel_rfl) (fun L0 => v_fieldAddr (q := ⟨kb, 0, none⟩) rfl rfl Try.underlying103 rfl ti100 rfl) ?_
  refine h_take 18 rfl rfl (by kernel_rfl) (by kernel_rfl) (by kernel_rfl) (fun L0 => v_load1 rfl rfl Try.underlying100 rfl (rd_mem 3 rfl rfl)) ?_
  refine h_many (is := [4, 13]) (by kernel_rfl) (by decide) (forall_cons ⟨_, rfl, ?_⟩ (forall_cons ⟨_, rfl, ?_⟩ forall_nil))
  · -- 4 comes first
   refine o_load1 rfl rfl Try.underlying100 rfl (rd_mem 7 rfl rfl) ?_
   refine l_nil (h_next ?_)
   refine h_one 13 rfl (by kernel_rfl) ?_
   refine o_lit e_ItA_ok rfl Try.underlying100 rfl rfl rfl (lit_ok rfl) [x45] rfl rfl fun a47 => ?_
   refine l_nil (qP p9 (qP p9 (qP p2 (qP p9 (qP p9 (qP p9 (qP p9 (qP p9 (qP p9 ?_)))))))))
   refine qP p9 (h_next ?_)
   refine h_one 14 rfl (by kernel_rfl) ?_
   refine l_f9 ?_
   refine o_append e_ItA_ok rfl rfl rfl Try.underlying100 (rds_own e_ItA_ok 8 rfl) (by show (_ + _) * 64 ≤ _; (try simp only [List.length_append, List.length_cons, List.length_nil]); omega) (by (try simp only [List.length_append, List.length_cons, List.length_nil]); omega) fun a48 c48 => ?_
   refine l_f8 ?_
   refine l_drop ?_
   refine l_nil (qP p8 (qP p1 (qP p8 (qP p8 (qP p8 (qP p8 (qP p8 (qP p8 (qP p8 ?_)))))))))
   refine h_next ?_
   refine h_one 19 rfl (by kernel_rfl) ?_
   refine l_f7 ?_
   refine o_append e_ItA_ok rfl rfl rfl Try.underlying100 (rds_own e_ItA_ok 5 rfl) (by show (_ + _) * 64 ≤ _; (try simp only [List.length_append, List.length_cons, List.length_nil]); omega) (by (try simp only [List.length_append, List.length_cons, List.length_nil]); omega) fun a53 c53 => ?_
   refine l_nil (qP p8 (qP p1 (qP p8 (qP p8 (qP p8 (qP p8 (qP p8 (qP p8 (qP p8 ?_)))))))))
   refine h_next ?_
   refine h_take 20 rfl rfl (by kernel_rfl) (by kernel_rfl) (by kernel_rfl) (fun L0 => v_nil rfl rfl) ?_
   refine h_take 21 rfl rfl (by kernel_rfl) (by kernel_rfl) (by kernel_rfl) (fun L0 => v_fieldAddr (q := ⟨lb, 0, none⟩) rfl rfl Try.underlying103 rfl ti100 rfl) ?_
   refine h_one 22 rfl (by kernel_rfl) ?_
   refine l_f8 ?_
   refine o_store1 rfl rfl rfl ti100 rfl rfl ?_
   refine l_nil (qP p8 (qP p1 (qP p8 (qP p8 (qP p8 (qP p8 (qP p8 (qP p8 (qP p8 ?_)))))))))
   refine h_next ?_
   refine h_done (by kernel_rfl) ?_
   refine qP p6 (qP p6 (qP p6 (qP p6 (qP p6 (qP p6 (qP p6 (qP p8 (qP p8 ?_))))))))
   exact q_mid (a53, c53, a47, a48, c48, x45) (by exact hx45) ⟨vr, vr, vr, vr, vr, vr, vr, vr, vr, vr, vr, vr, vr, vr, vr, vr, vr, vr, vr, vr, vr, vr, vr, vr, vr, vr, vr, vr, vr, vr, vr, vr, vr, vr, vr, vr, vr, vr, vr, vr, vr, vr, vr, vr, vr, vr, vr, vr, vr, vr, vr, vr, vr, vr, vr, vr, vr, vr, vr, vr, vr, vr, vr, vr, vr, vr, vr, vr, vr, vr, vr, vr, vr, vr, vr, vr, vr, vr, vr, vr, vr, vr, trivial⟩ (fun w S => S)
  · -- 13 comes first
   refine o_lit e_ItA_ok rfl Try.underlying100 rfl rfl rfl (lit_ok rfl) [x45] rfl rfl fun a47 => ?_
   refine l_nil (qP p9 (qP p9 (qP p2 (qP p9 (qP p9 (qP p9 (qP p9 (qP p9 (qP p9 ?_)))))))))
   refine qP p9 (h_next ?_)
   refine h_one 4 rfl (by kernel_rfl) ?_
   refine o_load1 rfl rfl Try.underlying100 rfl (rd_mem 8 rfl rfl) ?_
   refine l_nil (h_next ?_)
   refine h_one 14 rfl (by kernel_rfl) ?_
   refine l_f9 ?_
   refine o_append e_ItA_ok rfl rfl rfl Try.underlying100 (rds_own e_ItA_ok 8 rfl) (by show (_ + _) * 64 ≤ _; (try simp only [List.length_append, List.length_cons, List.length_nil]); omega) (by (try simp only [List.length_append, List.length_cons, List.length_nil]); omega) fun a48 c48 => ?_
   refine l_f8 ?_
   refine l_drop ?_
   refine l_nil (qP p8 (qP p1 (qP p8 (qP p8 (qP p8 (qP p8 (qP p8 (qP p8 (qP p8 ?_)))))))))
   refine h_next ?_
   refine h_one 19 rfl (by kernel_rfl) ?_
   refine l_f7 ?_
   refine o_append e_ItA_ok rfl rfl rfl Try.underlying100 (rds_own e_ItA_ok 5 rfl) (by show (_ + _) * 64 ≤ _; (try simp only [List.length_append, List.length_cons, List.length_nil]); omega) (by (try simp only [List.length_append, List.length_cons, List.length_nil]); omega) fun a53 c53 => ?_
   refine l_nil (qP p8 (qP p1 (qP p8 (qP p8 (qP p8 (qP p8 (qP p8 (qP p8 (qP p8 ?_)))))))))
   refine h_next ?_
   refine h_take 20 rfl rfl (by kernel_rfl) (by kernel_rfl) (by kernel_rfl) (fun L0 => v_nil rfl rfl) ?_
   refine h_take 21 rfl rfl (by kernel_rfl) (by kernel_rfl) (by kernel_rfl) (fun L0 => v_fieldAddr (q := ⟨lb, 0, none⟩) rfl rfl Try.underlying103 rfl ti100 rfl) ?_
   refine h_one 22 rfl (by kernel_rfl) ?_
   refine l_f8 ?_
   refine o_store1 rfl rfl rfl ti100 rfl rfl ?_
   refine l_nil (qP p8 (qP p1 (qP p8 (qP p8 (qP p8 (qP p8 (qP p8 (qP p8 (qP p8 ?_)))))))))
   refine h_next ?_
   refine h_done (by kernel_rfl) ?_
   refine qP p6 (qP p6 (qP p6 (qP p6 (qP p6 (qP p6 (qP p6 (qP p8 (qP p8 ?_))))))))
   exact q_mid (a53, c53, a47, a48, c48, x45) (by exact hx45) ⟨vr, vr, vr, vr, vr, vr, vr, vr, vr, vr, vr, vr, vr, vr, vr, vr, vr, vr, vr, vr, vr, vr, vr, vr, vr, vr, vr, vr, vr, vr, vr, vr, vr, vr, vr, vr, vr, vr, vr, vr, vr, vr, vr, vr, vr, vr, vr, vr, vr, vr, vr, vr, vr, vr, vr, vr, vr, vr, vr, vr, vr, vr, vr, vr, vr, vr, vr, vr, vr, vr, vr, vr, vr, vr, vr, vr, vr, vr, vr, vr, vr, vr, trivial⟩ (fun w S => S)
 · -- behind the cut
  rintro ⟨a53, c53, a47, a48, c48, x45⟩ hx45
  try dsimp only at *
  refine c_seq (cP p8 (cP p1 (cP p8 (cP p8 (cP p8 (cP p8 (cP p8 (cP p8 (cP p8 ?_)))))))))
  refine c_held [row e_ItA.T e_ItA.sz a53 (li ++ [x45] ++ ki).length c53 (flat e_ItA (li ++ [x45] ++ ki)), blk b (.cells #[.slice na (its).length nc, .slice nka (nk).length nkc] 103 (0, 0)), row e_ItA.T e_ItA.sz na (its).length nc (flat e_ItA its), row eN99.T eN99.sz nka (nk).length nkc (flat eN99 nk), blk kb (.cells #[.slice ka (ki).length kc, .slice kka (kk).length kkc] 103 (0, 0)), row e_ItA.T e_ItA.sz ka (ki).length kc (flat e_ItA ki), row eN99.T eN99.sz kka (kk).length kkc (flat eN99 kk)] (by kernel_rfl) rfl ?_
  refine h_take 0 rfl rfl (by kernel_rfl) (by kernel_rfl) (by kernel_rfl) (fun L0 => v_move rfl rfl) ?_
  refine h_take 1 rfl rfl (by kernel_rfl) (by kernel_rfl) (by kernel_rfl) (fun L0 => v_move rfl rfl) ?_
  refine h_take 2 rfl rfl (by kernel_rfl) (by kernel_rfl) (by kernel_rfl) (fun L0 => v_nil rfl rfl) ?_
  refine h_take 3 rfl rfl (by kernel_rfl) (by kernel_rfl) (by kernel_rfl) (fun L0 => v_fieldAddr (q := ⟨lb, 1, none⟩) rfl rfl Try.underlying103 rfl ti101 rfl) ?_
  refine h_take 5 rfl rfl (by kernel_rfl) (by kernel_rfl) (by kernel_rfl) (fun L0 => v_move rfl rfl) ?_
  refine h_take 6 rfl rfl (by kernel_rfl) (by kernel_rfl) (by kernel_rfl) (fun L0 => v_nil rfl rfl) ?_
  refine h_take 7 rfl rfl (by kernel_rfl) (by kernel_rfl) (by kernel_rfl) (fun L0 => v_fieldAddr (q := ⟨kb, 1, none⟩) rfl rfl Try.underlying103 rfl ti101 rfl) ?_
  refine h_take 8 rfl rfl (by kernel_rfl) (by kernel_rfl) (by kernel_rfl) (fun L0 => v_load1 rfl rfl Try.underlying101 rfl (rd_mem 4 rfl rfl)) ?_
  refine h_one 4 rfl (by kernel_rfl) ?_
  refine o_load1 rfl rfl Try.underlying101 rfl (rd_mem 7 rfl rfl) ?_
  refine l_nil (h_next ?_)
  refine h_one 9 rfl (by kernel_rfl) ?_
  refine l_f8 ?_
  refine o_append eN99_ok rfl rfl rfl Try.underlying101 (rds_own eN99_ok 7 rfl) (by show (_ + _) * 8 ≤ _; (try simp only [List.length_append, List.length_cons, List.length_nil]); omega) (by (try simp only [List.length_append, List.length_cons, List.length_nil]); omega) fun a65 c65 => ?_
  refine l_nil (qP p8 (qP p1 (qP p8 (qP p8 (qP p8 (qP p8 (qP p8 (qP p8 (qP p8 ?_)))))))))
  refine h_next ?_
  refine h_take 10 rfl rfl (by kernel_rfl) (by kernel_rfl) (by kernel_rfl) (fun L0 => v_nil rfl rfl) ?_
  refine h_take 11 rfl rfl (by kernel_rfl) (by kernel_rfl) (by kernel_rfl) (fun L0 => v_fieldAddr (q := ⟨lb, 1, none⟩) rfl rfl Try.underlying103 rfl ti101 rfl) ?_
  refine h_one 12 rfl (by kernel_rfl) ?_
  refine l_f8 ?_
  refine o_store1 rfl rfl rfl ti101 rfl rfl ?_
  refine l_nil (qP p8 (qP p1 (qP p8 (qP p8 (qP p8 (qP p8 (qP p8 (qP p8 (qP p8 ?_)))))))))
  refine h_next ?_
  refine h_done (by kernel_rfl) ?_
  refine q_then (c_seq (c_region (o_move rfl rfl (o_move rfl rfl (o_nil rfl rfl ?_)))))
  refine o_fieldAddr (q := ⟨b, 0, none⟩) rfl rfl Try.underlying103 rfl ti100 rfl ?_
  refine o_load1 rfl rfl Try.underlying100 rfl (rd_mem 1 rfl rfl) ?_
  refine o_move rfl rfl ?_
  refine o_bin rfl rfl rfl (b_sub (show IntKind.i64.wrap (((j + 1 : Nat) : Int) - 1) = (j : Int) from by rw [wrap_i64 (by omega) (by omega)]; omega)) ?_
  refine o_move rfl rfl (l_f2 ?_)
  refine o_call rfl cal71 rfl (delI_A (xs := its) (i := j) (j := (j + 1 : Nat)) (by omega) (by omega) (by omega)) ?_
  rintro _ _ ⟨rfl, rfl⟩
  refine o_nil rfl rfl ?_
  refine o_fieldAddr (q := ⟨b, 0, none⟩) rfl rfl Try.underlying103 rfl ti100 rfl ?_
  refine l_f2 ?_
  refine o_store1 rfl rfl rfl ti100 rfl rfl ?_
  refine l_nil (q_then (c_region (o_move rfl rfl (o_move rfl rfl (o_nil rfl rfl ?_)))))
  refine o_fieldAddr (q := ⟨b, 1, none⟩) rfl rfl Try.underlying103 rfl ti101 rfl ?_
  refine o_load1 rfl rfl Try.underlying101 rfl (rd_mem 0 rfl rfl) ?_
  refine o_move rfl rfl (o_move rfl rfl ?_)
  refine o_bin rfl rfl rfl (b_add (show IntKind.i64.wrap (((j + 1 : Nat) : Int) + 1) = ((j + 2 : Nat) : Int) from by rw [wrap_i64 (by omega) (by omega)]; omega)) ?_
  refine l_f3 ?_
  refine o_call rfl cal79 rfl (delK_A (xs := nk) (i := (j + 1 : Nat)) (j := (j + 2 : Nat)) (by omega) (by omega) (by omega)) ?_
  rintro _ _ ⟨rfl, rfl⟩
  refine o_nil rfl rfl ?_
  refine o_fieldAddr (q := ⟨b, 1, none⟩) rfl rfl Try.underlying103 rfl ti101 rfl ?_
  refine l_f1 ?_
  refine o_store1 rfl rfl rfl ti101 rfl rfl ?_
  refine l_nil (q_block (qP p4 (qT (qP p4 (qT (qP p4 (qT (qP p5 (qP p4 ?_)))))))))
  refine qP p5 (qP p4 (qP p5 (qP p5 ?_)))
  exact f_end (r_none rfl) (⟨x45, a53, c53, a65, c65, (show its[j]? = some x45 from by have h9 := hx45; rw [show ((j : Int)).toNat = j from rfl] at h9; exact h9), rfl⟩) (fun w S => S)
set_option maxHeartbeats 4000000 in
theorem mendD2_A {W : World} {F : List Res} {b kb : Nat} {its ki : List ItA} {nk kk : List Nat} {na nka ka kka : Option Addr} {nc nkc kc kkc : Nat} {lb : Nat} {li : List ItA} {lk : List Nat} {la lka : Option Addr} {lc lkc : Nat} {rb : Nat} {ri : List ItA} {rk : List Nat} {ra rka : Option Addr} {rc rkc : Nat} {j : Nat} (hA : nk[j]? = some lb) (hB : nk[j + 1]? = some kb) (hk1 : ki.length < 2) (hl2 : li.length ≤ 2) (hlk : lk.length ≤ 6) (hC : nk[j + 2]? = some rb) (hr2 : ri.length ≤ 2) (h1 : its.length ≤ 5) (h2 : nk.length = its.length + 1) (h3 : ki.length ≤ 5) (h4 : kk.length ≤ 6) : CS Try.prog 73 #[.pointer (some ⟨b, 0, none⟩), .int .i64 ((j + 1 : Nat) : Int)] W (blk b (.cells #[.slice na (its).length nc, .slice nka (nk).length nkc] 103 (0, 0)) :: row e_ItA.T e_ItA.sz na (its).length nc (flat e_ItA its) :: row eN99.T eN99.sz nka (nk).length nkc (flat eN99 nk) :: blk kb (.cells #[.slice ka (ki).length kc, .slice kka (kk).length kkc] 103 (0, 0)) :: row e_ItA.T e_ItA.sz ka (ki).length kc (flat e_ItA ki) :: row eN99.T eN99.sz kka (kk).length kkc (flat eN99 kk) :: blk lb (.cells #[.slice la (li).length lc, .slice lka (lk).length lkc] 103 (0, 0)) :: row e_ItA.T e_ItA.sz la (li).length lc (flat e_ItA li) :: row eN99.T eN99.sz lka (lk).length lkc (flat eN99 lk) :: blk rb (.cells #[.slice ra (ri).length rc, .slice rka (rk).length rkc] 103 (0, 0)) :: row e_ItA.T e_ItA.sz ra (ri).length rc (flat e_ItA ri) :: row eN99.T eN99.sz rka (rk).length rkc (flat eN99 rk) :: F) (fun _ L' => ∃ (x : ItA) (a1 : Option Addr) (c1 : Nat) (a2 : Option Addr) (c2 : Nat), its[j]? = some x ∧ L' = blk b (.cells #[.slice na (its.take j ++ its.drop (j + 1)).length nc, .slice nka (nk.take (j + 1) ++ nk.drop (j + 2)).length nkc] 103 (0, 0)) :: row e_ItA.T e_ItA.sz na ((its.take j ++ its.drop (j + 1))).length nc (flat e_ItA (its.take j ++ its.drop (j + 1))) :: row eN99.T eN99.sz nka ((nk.take (j + 1) ++ nk.drop (j + 2))).length nkc (flat eN99 (nk.take (j + 1) ++ nk.drop (j + 2))) :: blk lb (.cells #[.slice a1 ((li ++ [x]) ++ ki).length c1, .slice a2 (lk ++ kk).length c2] 103 (0, 0)) :: row e_ItA.T e_ItA.sz a1 (((li ++ [x]) ++ ki)).length c1 (flat e_ItA ((li ++ [x]) ++ ki)) :: row eN99.T eN99.sz a2 ((lk ++ kk)).length c2 (flat eN99 (lk ++ kk)) :: blk rb (.cells #[.slice ra (ri).length rc, .slice rka (rk).length rkc] 103 (0, 0)) :: row e_ItA.T e_ItA.sz ra (ri).length rc (flat e_ItA ri) :: row eN99.T eN99.sz rka (rk).length rkc (flat eN99 rk) :: F) := by
 refine f_door (l0 := [(0, .pointer (some ⟨b, 0, none⟩)), (1, .int .i64 ((j + 1 : Nat) : Int))]) Try.func73 Try.ntmps73 rfl rfl rfl ?_
 refine c_seq ?_
 have hil := (List.getElem?_eq_some_iff.1 hB).1
 have hir := (List.getElem?_eq_some_iff.1 hC).1
 refine c_region (o_move rfl rfl (o_nil rfl rfl ?_))
 refine o_fieldAddr (q := ⟨b, 1, none⟩) rfl rfl Try.underlying103 rfl ti101 rfl ?_
 refine o_load1 rfl rfl Try.underlying101 rfl (rd_mem 0 rfl rfl) ?_
 refine o_move rfl rfl ?_
 refine o_index eN99_ok rfl rfl rfl Try.underlying101 (by omega) (by omega) (rds_own eN99_ok 2 rfl) fun ad15 ead15 => ?_
 obtain ⟨x15, hx15⟩ : ∃ x, (nk)[(((j + 1 : Nat) : Int)).toNat]? = some x := ⟨_, List.getElem?_eq_getElem (by omega)⟩
 have hxk15 : x15 = kb := by have h9 := hx15; rw [show (((j + 1 : Nat) : Int)).toNat = j + 1 from by omega, hB] at h9; exact (Option.some.inj h9).symm
 refine o_load1 rfl rfl Try.underlying99 rfl (rd_sl0 eN99_ok ead15 (rds_own eN99_ok 2 rfl) hx15 rfl) ?_
 refine l_eq (t := 16) (v' := .pointer (some ⟨kb, 0, none⟩)) rfl (by rw [hxk15]) ?_
 refine o_assign rfl rfl (l_nil (q_then (c_block (c_seq (c_region (o_move rfl rfl (o_nil rfl rfl ?_)))))))
 refine o_fieldAddr (q := ⟨kb, 0, none⟩) rfl rfl Try.underlying103 rfl ti100 rfl ?_
 refine o_load1 rfl rfl Try.underlying100 rfl (rd_mem 3 rfl rfl) ?_
 refine o_len rfl rfl Try.underlying100 ?_
 refine o_bin rfl rfl rfl b_geq ?_
 refine l_eq (t := 96) (v' := .bool false) rfl (show _ = Value.bool false from by rw [decide_eq_false (by omega)]) ?_
 refine o_assign rfl rfl (l_nil (q_then (c_false rfl (c_seq (c_region (o_move rfl rfl ?_))))))
 refine o_bin rfl rfl rfl b_gtr ?_
 refine l_eq (t := 99) (v' := .bool true) rfl (show _ = Value.bool true from by rw [decide_eq_true (by omega)]) ?_
 refine o_move rfl rfl (o_yes rfl rfl rfl (o_move rfl rfl (o_yes rfl rfl rfl (o_nil rfl rfl (o_yes rfl rfl rfl ?_)))))
 refine o_fieldAddr (q := ⟨b, 1, none⟩) rfl rfl Try.underlying103 rfl ti101 rfl ?_
 refine o_yes rfl rfl rfl ?_
 refine o_load1 rfl rfl Try.underlying101 rfl (rd_mem 0 rfl rfl) ?_
 refine o_yes rfl rfl rfl (o_move rfl rfl (o_yes rfl rfl rfl ?_))
 refine o_bin rfl rfl rfl (b_sub (show IntKind.i64.wrap (((j + 1 : Nat) : Int) - 1) = (j : Int) from by rw [wrap_i64 (by omega) (by omega)]; omega)) ?_
 refine o_yes rfl rfl rfl ?_
 refine o_indexK eN99_ok ead15 rfl rfl rfl Try.underlying101 (by omega) (by omega) ?_
 obtain ⟨x107, hx107⟩ : ∃ x, (nk)[((j : Int)).toNat]? = some x := ⟨_, List.getElem?_eq_getElem (by omega)⟩
 have hxk107 : x107 = lb := by have h9 := hx107; rw [show ((j : Int)).toNat = j from by omega, hA] at h9; exact (Option.some.inj h9).symm
 refine o_yes rfl rfl rfl ?_
 refine o_load1 rfl rfl Try.underlying99 rfl (rd_sl0 eN99_ok ead15 (rds_own eN99_ok 2 rfl) hx107 rfl) ?_
 refine l_eq (t := 108) (v' := .pointer (some ⟨lb, 0, none⟩)) rfl (by rw [hxk107]) ?_
 refine o_yes rfl rfl rfl (o_nil rfl rfl (o_yes rfl rfl rfl ?_))
 refine o_fieldAddr (q := ⟨lb, 0, none⟩) rfl rfl Try.underlying103 rfl ti100 rfl ?_
 refine o_yes rfl rfl rfl ?_
 refine o_load1 rfl rfl Try.underlying100 rfl (rd_mem 6 rfl rfl) ?_
 refine o_yes rfl rfl rfl ?_
 refine o_len rfl rfl Try.underlying100 ?_
 refine o_yes rfl rfl rfl ?_
 refine o_bin rfl rfl rfl b_gtr ?_
 refine l_eq (t := 113) (v' := .bool false) rfl (show _ = Value.bool false from by rw [decide_eq_false (by omega)]) ?_
 refine o_pick_true rfl rfl rfl (o_assign rfl rfl (l_nil (q_then (c_false rfl (c_seq (c_region (o_move rfl rfl ?_)))))))
 refine o_bin rfl rfl rfl (b_add (show IntKind.i64.wrap (((j + 1 : Nat) : Int) + 1) = ((j + 2 : Nat) : Int) from by rw [wrap_i64 (by omega) (by omega)]; omega)) ?_
 refine o_move rfl rfl (o_nil rfl rfl ?_)
 refine o_fieldAddr (q := ⟨b, 1, none⟩) rfl rfl Try.underlying103 rfl ti101 rfl ?_
 refine o_load1 rfl rfl Try.underlying101 rfl (rd_mem 0 rfl rfl) ?_
 refine o_len rfl rfl Try.underlying101 ?_
 refine o_bin rfl rfl rfl b_lss ?_
 refine l_eq (t := 210) (v' := .bool true) rfl (show _ = Value.bool true from by rw [decide_eq_true (by omega)]) ?_
 refine o_move rfl rfl (o_yes rfl rfl rfl (o_move rfl rfl (o_yes rfl rfl rfl (o_nil rfl rfl (o_yes rfl rfl rfl ?_)))))
 refine o_fieldAddr (q := ⟨b, 1, none⟩) rfl rfl Try.underlying103 rfl ti101 rfl ?_
 refine o_yes rfl rfl rfl ?_
 refine o_load1 rfl rfl Try.underlying101 rfl (rd_mem 0 rfl rfl) ?_
 refine o_yes rfl rfl rfl (o_move rfl rfl (o_yes rfl rfl rfl ?_))
 refine o_bin rfl rfl rfl (b_add (show IntKind.i64.wrap (((j + 1 : Nat) : Int) + 1) = ((j + 2 : Nat) : Int) from by rw [wrap_i64 (by omega) (by omega)]; omega)) ?_
 refine o_yes rfl rfl rfl ?_
 refine o_indexK eN99_ok ead15 rfl rfl rfl Try.underlying101 (by omega) (by omega) ?_
 obtain ⟨x218, hx218⟩ : ∃ x, (nk)[(((j + 2 : Nat) : Int)).toNat]? = some x := ⟨_, List.getElem?_eq_getElem (by omega)⟩
 have hxk218 : x218 = rb := by have h9 := hx218; rw [show (((j + 2 : Nat) : Int)).toNat = j + 2 from by omega, hC] at h9; exact (Option.some.inj h9).symm
 refine o_yes rfl rfl rfl ?_
 refine o_load1 rfl rfl Try.underlying99 rfl (rd_sl0 eN99_ok ead15 (rds_own eN99_ok 2 rfl) hx218 rfl) ?_
 refine l_eq (t := 219) (v' := .pointer (some ⟨rb, 0, none⟩)) rfl (by rw [hxk218]) ?_
 refine o_yes rfl rfl rfl (o_nil rfl rfl (o_yes rfl rfl rfl ?_))
 refine o_fieldAddr (q := ⟨rb, 0, none⟩) rfl rfl Try.underlying103 rfl ti100 rfl ?_
 refine o_yes rfl rfl rfl ?_
 refine o_load1 rfl rfl Try.underlying100 rfl (rd_mem 9 rfl rfl) ?_
 refine o_yes rfl rfl rfl ?_
 refine o_len rfl rfl Try.underlying100 ?_
 refine o_yes rfl rfl rfl ?_
 refine o_bin rfl rfl rfl b_gtr ?_
 refine l_eq (t := 224) (v' := .bool false) rfl (show _ = Value.bool false from by rw [decide_eq_false (by omega)]) ?_
 refine o_pick_true rfl rfl rfl (o_assign rfl rfl (l_nil (q_then (c_false rfl (c_seq (c_region (o_move rfl rfl ?_)))))))
 refine o_max rfl rfl rfl Try.underlying3 ?_
 refine l_eq (t := 18) (v' := .int .i64 ((j + 1 : Nat) : Int)) rfl (by first | exact vint (by omega) | (congr 1; omega)) ?_
 refine o_assign rfl rfl (l_nil (q_then (c_seq ?_)))
 refine c_quiet (by kernel_rfl) (by kernel_rfl) ?_
 refine Qt.o_val rfl (v_move rfl rfl) (Qt.o_val rfl (v_nil rfl rfl) ?_)
 refine Qt.o_val rfl (v_fieldAddr (q := ⟨b, 1, none⟩) rfl rfl Try.underlying103 rfl ti101 rfl) ?_
 refine Qt.o_val rfl (v_load1 rfl rfl Try.underlying101 rfl (rd_mem 0 rfl rfl)) ?_
 refine Qt.o_val rfl (v_move rfl rfl) ?_
 refine Qt.o_val rfl (v_bin rfl rfl rfl (b_sub (show IntKind.i64.wrap (((j + 1 : Nat) : Int) - 1) = (j : Int) from by rw [wrap_i64 (by omega) (by omega)]; omega))) ?_
 refine Qt.o_val rfl (v_indexK eN99_ok ead15 rfl rfl rfl Try.underlying101 (by omega) (by omega)) ?_
 obtain ⟨x25, hx25⟩ : ∃ x, (nk)[((j : Int)).toNat]? = some x := ⟨_, List.getElem?_eq_getElem (by omega)⟩
 have hxk25 : x25 = lb := by have h9 := hx25; rw [show ((j : Int)).toNat = j from by omega, hA] at h9; exact (Option.some.inj h9).symm
 refine Qt.o_val rfl (v_load1 rfl rfl Try.underlying99 rfl (rd_sl0 eN99_ok ead15 (rds_own eN99_ok 2 rfl) hx25 rfl)) ?_
 refine Qt.l_eq (t := 26) (v' := .pointer (some ⟨lb, 0, none⟩)) rfl (by rw [hxk25]) ?_
 refine Qt.o_val rfl (v_move rfl rfl) (Qt.o_val rfl (v_nil rfl rfl) ?_)
 refine Qt.o_val rfl (v_fieldAddr (q := ⟨b, 1, none⟩) rfl rfl Try.underlying103 rfl ti101 rfl) ?_
 refine Qt.o_val rfl (v_load1 rfl rfl Try.underlying101 rfl (rd_mem 0 rfl rfl)) ?_
 refine Qt.o_val rfl (v_move rfl rfl) ?_
 refine Qt.o_val rfl (v_indexK eN99_ok ead15 rfl rfl rfl Try.underlying101 (by omega) (by omega)) ?_
 obtain ⟨x32, hx32⟩ : ∃ x, (nk)[(((j + 1 : Nat) : Int)).toNat]? = some x := ⟨_, List.getElem?_eq_getElem (by omega)⟩
 have hxk32 : x32 = kb := by have h9 := hx32; rw [show (((j + 1 : Nat) : Int)).toNat = j + 1 from by omega, hB] at h9; exact (Option.some.inj h9).symm
 refine Qt.o_val rfl (v_load1 rfl rfl Try.underlying99 rfl (rd_sl0 eN99_ok ead15 (rds_own eN99_ok 2 rfl) hx32 rfl)) ?_
 refine Qt.l_eq (t := 33) (v' := .pointer (some ⟨kb, 0, none⟩)) rfl (by rw [hxk32]) ?_
 refine Qt.o_val rfl (v_assign rfl rfl) ?_
 refine Qt.o_val rfl (v_assign rfl rfl) ?_
 refine Qt.l_nil ?_
 refine q_then (c_seq ?_)
 refine c_mid (α := (Option Addr) × Nat × (Option Addr) × (Option Addr) × Nat × ItA) (fun z => [(0, .pointer (some ⟨b, 0, none⟩)), (1, .int .i64 ((j + 1 : Nat) : Int)), (4, .pointer (some ⟨kb, 0, none⟩)), (8, .pointer (some ⟨lb, 0, none⟩)), (9, .pointer (some ⟨kb, 0, none⟩)), (10, .pointer (some ⟨b, 0, none⟩)), (11, .pointer (some ⟨b, 0, none⟩)), (12, .pointer (some ⟨b, 1, none⟩)), (13, .slice nka (nk).length nkc), (14, .int .i64 ((j + 1 : Nat) : Int)), (16, .pointer (some ⟨kb, 0, none⟩)), (17, .int .i64 ((j + 1 : Nat) : Int)), (18, .int .i64 ((j + 1 : Nat) : Int)), (19, .pointer (some ⟨b, 0, none⟩)), (20, .pointer (some ⟨b, 0, none⟩)), (21, .pointer (some ⟨b, 1, none⟩)), (22, .slice nka (nk).length nkc), (23, .int .i64 ((j + 1 : Nat) : Int)), (24, .int .i64 (j : Int)), (26, .pointer (some ⟨lb, 0, none⟩)), (27, .pointer (some ⟨b, 0, none⟩)), (28, .pointer (some ⟨b, 0, none⟩)), (29, .pointer (some ⟨b, 1, none⟩)), (30, .slice nka (nk).length nkc), (31, .int .i64 ((j + 1 : Nat) : Int)), (33, .pointer (some ⟨kb, 0, none⟩)), (34, .pointer (some ⟨lb, 0, none⟩)), (35, .pointer (some ⟨lb, 0, none⟩)), (36, .pointer (some ⟨lb, 0, none⟩)), (37, .pointer (some ⟨lb, 0, none⟩)), (38, .slice la (li).length lc), (39, .pointer (some ⟨b, 0, none⟩)), (40, .pointer (some ⟨b, 0, none⟩)), (41, .pointer (some ⟨b, 0, none⟩)), (42, .slice na (its).length nc), (43, .int .i64 ((j + 1 : Nat) : Int)), (44, .int .i64 (j : Int)), (46, .agg #[.string z.2.2.2.2.2.f_key, .bool z.2.2.2.2.2.f_value.f_Has, .slice z.2.2.2.2.2.f_value.f_Value.a (z.2.2.2.2.2.f_value.f_Value.xs).length z.2.2.2.2.2.f_value.f_Value.c, .int .i64 z.2.2.2.2.2.f_value.f_Home, .int .u64 z.2.2.2.2.2.f_value.f_Count]), (47, .slice z.2.2.1 ([z.2.2.2.2.2]).length 1), (48, .slice z.2.2.2.1 (li ++ [z.2.2.2.2.2]).length z.2.2.2.2.1), (49, .pointer (some ⟨kb, 0, none⟩)), (50, .pointer (some ⟨kb, 0, none⟩)), (51, .pointer (some ⟨kb, 0, none⟩)), (52, .slice ka (ki).length kc), (53, .slice z.1 (li ++ [z.2.2.2.2.2] ++ ki).length z.2.1), (54, .pointer (some ⟨lb, 0, none⟩)), (55, .pointer (some ⟨lb, 0, none⟩)), (90, .bool false), (91, .pointer (some ⟨kb, 0, none⟩)), (92, .pointer (some ⟨kb, 0, none⟩)), (93, .pointer (some ⟨kb, 0, none⟩)), (94, .slice ka (ki).length kc), (95, .int .i64 ((ki).length : Int)), (96, .bool false), (97, .bool false), (98, .int .i64 ((j + 1 : Nat) : Int)), (99, .bool true), (100, .bool true), (101, .pointer (some ⟨b, 0, none⟩)), (102, .pointer (some ⟨b, 0, none⟩)), (103, .pointer (some ⟨b, 1, none⟩)), (104, .slice nka (nk).length nkc), (105, .int .i64 ((j + 1 : Nat) : Int)), (106, .int .i64 (j : Int)), (108, .pointer (some ⟨lb, 0, none⟩)), (109, .pointer (some ⟨lb, 0, none⟩)), (110, .pointer (some ⟨lb, 0, none⟩)), (111, .slice la (li).length lc), (112, .int .i64 ((li).length : Int)), (113, .bool false), (114, .bool false), (202, .bool false), (203, .int .i64 ((j + 1 : Nat) : Int)), (204, .int .i64 ((j + 2 : Nat) : Int)), (205, .pointer (some ⟨b, 0, none⟩)), (206, .pointer (some ⟨b, 0, none⟩)), (207, .pointer (some ⟨b, 1, none⟩)), (208, .slice nka (nk).length nkc), (209, .int .i64 ((nk).length : Int)), (210, .bool true), (211, .bool true), (212, .pointer (some ⟨b, 0, none⟩)), (213, .pointer (some ⟨b, 0, none⟩)), (214, .pointer (some ⟨b, 1, none⟩)), (215, .slice nka (nk).length nkc), (216, .int .i64 ((j + 1 : Nat) : Int)), (217, .int .i64 ((j + 2 : Nat) : Int)), (219, .pointer (some ⟨rb, 0, none⟩)), (220, .pointer (some ⟨rb, 0, none⟩)), (221, .pointer (some ⟨rb, 0, none⟩)), (222, .slice ra (ri).length rc), (223, .int .i64 ((ri).length : Int)), (224, .bool false), (225, .bool false)]) (fun z => blk lb (.cells #[.slice z.1 (li ++ [z.2.2.2.2.2] ++ ki).length z.2.1, .slice lka (lk).length lkc] 103 (0, 0)) :: row e_ItA.T e_ItA.sz z.1 (li ++ [z.2.2.2.2.2] ++ ki).length z.2.1 (flat e_ItA (li ++ [z.2.2.2.2.2] ++ ki)) :: blk b (.cells #[.slice na (its).length nc, .slice nka (nk).length nkc] 103 (0, 0)) :: row e_ItA.T e_ItA.sz na (its).length nc (flat e_ItA its) :: row eN99.T eN99.sz nka (nk).length nkc (flat eN99 nk) :: blk kb (.cells #[.slice ka (ki).length kc, .slice kka (kk).length kkc] 103 (0, 0)) :: row e_ItA.T e_ItA.sz ka (ki).length kc (flat e_ItA ki) :: row eN99.T eN99.sz kka (kk).length kkc (flat eN99 kk) :: row eN99.T eN99.sz lka (lk).length lkc (flat eN99 lk) :: blk rb (.cells #[.slice ra (ri).length rc, .slice rka (rk).length rkc] 103 (0, 0)) :: row e_ItA.T e_ItA.sz ra (ri).length rc (flat e_ItA ri) :: row eN99.T eN99.sz rka (rk).length rkc (flat eN99 rk) :: F) (fun z => its[((j : Int)).toNat]? = some z.2.2.2.2.2) ?_ ?_
 · -- cut
  refine c_fact (p := ∃ ad, na = some ad) (rds_some (e := e_ItA) (xs := its) (rds_own e_ItA_ok 1 rfl) (by intro h0; rw [h0] at h2; simp at h2; omega)) ?_
  rintro ⟨adx, eadx⟩
  refine cP p7 (cP p7 (cP p11 (cP p11 (cP p11 (cP p11 (cP p11 (cP p11 (cP p11 (cP p11 ?_)))))))))
  refine cP p11 (cP p11 ?_)
  refine c_held [blk b (.cells #[.slice na (its).length nc, .slice nka (nk).length nkc] 103 (0, 0)), row e_ItA.T e_ItA.sz na (its).length nc (flat e_ItA its), row eN99.T eN99.sz nka (nk).length nkc (flat eN99 nk), blk kb (.cells #[.slice ka (ki).length kc, .slice kka (kk).length kkc] 103 (0, 0)), row e_ItA.T e_ItA.sz ka (ki).length kc (flat e_ItA ki), row eN99.T eN99.sz kka (kk).length kkc (flat eN99 kk), row eN99.T eN99.sz lka (lk).length lkc (flat eN99 lk), blk rb (.cells #[.slice ra (ri).length rc, .slice rka (rk).length rkc] 103 (0, 0)), row e_ItA.T e_ItA.sz ra (ri).length rc (flat e_ItA ri), row eN99.T eN99.sz rka (rk).length rkc (flat eN99 rk)] (by kernel_rfl) rfl ?_
  refine h_take 0 rfl rfl (by kernel_rfl) (by kernel_rfl) (by kernel_rfl) (fun L0 => v_move rfl rfl) ?_
  refine h_take 1 rfl rfl (by kernel_rfl) (by kernel_rfl) (by kernel_rfl) (fun L0 => v_move rfl rfl) ?_
  refine h_take 2 rfl rfl (by kernel_rfl) (by kernel_rfl) (by kernel_rfl) (fun L0 => v_nil rfl rfl) ?_
  refine h_take 3 rfl rfl (by kernel_rfl) (by kernel_rfl) (by kernel_rfl) (fun L0 => v_fieldAddr (q := ⟨lb, 0, none⟩) rfl rfl Try.underlying103 rfl ti100 rfl) ?_
  refine h_take 5 rfl rfl (by kernel_rfl) (by kernel_rfl) (by kernel_rfl) (fun L0 => v_move rfl rfl) ?_
  refine h_take 6 rfl rfl (by kernel_rfl) (by kernel_rfl) (by kernel_rfl) (fun L0 => v_nil rfl rfl) ?_
  refine h_take 7 rfl rfl (by kernel_rfl) (by kernel_rfl) (by kernel_rfl) (fun L0 => v_fieldAddr (q := ⟨b, 0, none⟩) rfl rfl Try.underlying103 rfl ti100 rfl) ?_
  refine h_take 8 rfl rfl (by kernel_rfl) (by kernel_rfl) (by kernel_rfl) (fun L0 => v_load1 rfl rfl Try.underlying100 rfl (rd_mem 0 rfl rfl)) ?_
  refine h_take 9 rfl rfl (by kernel_rfl) (by kernel_rfl) (by kernel_rfl) (fun L0 => v_move rfl rfl) ?_
  refine h_take 10 rfl rfl (by kernel_rfl) (by kernel_rfl) (by kernel_rfl) (fun L0 => v_bin rfl rfl rfl (b_sub (show IntKind.i64.wrap (((j + 1 : Nat) : Int) - 1) = (j : Int) from by rw [wrap_i64 (by omega) (by omega)]; omega))) ?_
  refine h_take 11 rfl rfl (by kernel_rfl) (by kernel_rfl) (by kernel_rfl) (fun L0 => v_indexK e_ItA_ok eadx rfl rfl rfl Try.underlying100 (by omega) (by omega)) ?_
  obtain ⟨x45, hx45⟩ : ∃ x, (its)[((j : Int)).toNat]? = some x := ⟨_, List.getElem?_eq_getElem (by omega)⟩
  refine h_take 12 rfl rfl (by kernel_rfl) (by kernel_rfl) (by kernel_rfl) (fun L0 => v_loadn (vs := e_ItA.cells x45) rfl rfl Try.underlying110 rfl ti110 (rdn_sl e_ItA_ok eadx (rds_own e_ItA_ok 1 rfl) hx45)) ?_
  refine h_take 15 rfl rfl (by kernel_rfl) (by kernel_rfl) (by kernel_rfl) (fun L0 => v_move rfl rfl) ?_
  refine h_take 16 rfl rfl (by kernel_rfl) (by kernel_rfl) (by kernel_rfl) (fun L0 => v_nil rfl rfl) ?_
  refine h_take 17 rfl rfl (by kernel_rfl) (by kernel_rfl) (by kernel_rfl) (fun L0 => v_fieldAddr (q := ⟨kb, 0, none⟩) rfl rfl Try.underlying103 rfl ti100 rfl) ?_
  refine h_take 18 rfl rfl (by kernel_rfl) (by kernel_rfl) (by kernel_rfl) (fun L0 => v_load1 rfl rfl Try.underlying100 rfl (rd_mem 3 rfl rfl)) ?_
  refine h_many (is := [4, 13]) (by kernel_rfl) (by decide) (forall_cons ⟨_, rfl, ?_⟩ (forall_cons ⟨_, rfl, ?_⟩ forall_nil))
  · -- 4 comes first
   refine o_load1 rfl rfl Try.underlying100 rfl (rd_mem 10 rfl rfl) ?_
   refine l_nil (h_next ?_)
   refine h_one 13 rfl (by kernel_rfl) ?_
   refine o_lit e_ItA_ok rfl Try.underlying100 rfl rfl rfl (lit_ok rfl) [x45] rfl rfl fun a47 => ?_
   refine l_nil (qP p12 (qP p12 (qP p2 (qP p12 (qP p12 (qP p12 (qP p12 (qP p12 (qP p12 ?_)))))))))
   refine qP p12 (qP p12 (qP p12 (qP p12 (h_next ?_))))
   refine h_one 14 rfl (by kernel_rfl) ?_
   refine l_f12 ?_
   refine o_append e_ItA_ok rfl rfl rfl Try.underlying100 (rds_own e_ItA_ok 11 rfl) (by show (_ + _) * 64 ≤ _; (try simp only [List.length_append, List.length_cons, List.length_nil]); omega) (by (try simp only [List.length_append, List.length_cons, List.length_nil]); omega) fun a48 c48 => ?_
   refine l_f11 ?_
   refine l_drop ?_
   refine l_nil (qP p11 (qP p1 (qP p11 (qP p11 (qP p11 (qP p11 (qP p11 (qP p11 (qP p11 ?_)))))))))
   refine qP p11 (qP p11 (qP p11 (h_next ?_)))
   refine h_one 19 rfl (by kernel_rfl) ?_
   refine l_f10 ?_
   refine o_append e_ItA_ok rfl rfl rfl Try.underlying100 (rds_own e_ItA_ok 5 rfl) (by show (_ + _) * 64 ≤ _; (try simp only [List.length_append, List.length_cons, List.length_nil]); omega) (by (try simp only [List.length_append, List.length_cons, List.length_nil]); omega) fun a53 c53 => ?_
   refine l_nil (qP p11 (qP p1 (qP p11 (qP p11 (qP p11 (qP p11 (qP p11 (qP p11 (qP p11 ?_)))))))))
   refine qP p11 (qP p11 (qP p11 (h_next ?_)))
   refine h_take 20 rfl rfl (by kernel_rfl) (by kernel_rfl) (by kernel_rfl) (fun L0 => v_nil rfl rfl) ?_
   refine h_take 21 rfl rfl (by kernel_rfl) (by kernel_rfl) (by kernel_rfl) (fun L0 => v_fieldAddr (q := ⟨lb, 0, none⟩) rfl rfl Try.underlying103 rfl ti100 rfl) ?_
   refine h_one 22 rfl (by kernel_rfl) ?_
   refine l_f11 ?_
   refine o_store1 rfl rfl rfl ti100 rfl rfl ?_
   refine l_nil (qP p11 (qP p1 (qP p11 (qP p11 (qP p11 (qP p11 (qP p11 (qP p11 (qP p11 ?_)))))))))
   refine qP p11 (qP p11 (qP p11 (h_next ?_)))
   refine h_done (by kernel_rfl) ?_
   refine qP p9 (qP p9 (qP p9 (qP p9 (qP p9 (qP p9 (qP p9 (qP p9 (qP p9 (qP p9 ?_)))))))))
   refine qP p11 (qP p11 ?_)
   exact q_mid (a53, c53, a47, a48, c48, x45) (by exact hx45) ⟨vr, vr, vr, vr, vr, vr, vr, vr, vr, vr, vr, vr, vr, vr, vr, vr, vr, vr, vr, vr, vr, vr, vr, vr, vr, vr, vr, vr, vr, vr, vr, vr, vr, vr, vr, vr, vr, vr, vr, vr, vr, vr, vr, vr, vr, vr, vr, vr, vr, vr, vr, vr, vr, vr, vr, vr, vr, vr, vr, vr, vr, vr, vr, vr, vr, vr, vr, vr, vr, vr, vr, vr, vr, vr, vr, vr, vr, vr, vr, vr, vr, vr, vr, vr, vr, vr, vr, vr, vr, vr, vr, vr, vr, vr, trivial⟩ (fun w S => S)
  · -- 13 comes first
   refine o_lit e_ItA_ok rfl Try.underlying100 rfl rfl rfl (lit_ok rfl) [x45] rfl rfl fun a47 => ?_
   refine l_nil (qP p12 (qP p12 (qP p2 (qP p12 (qP p12 (qP p12 (qP p12 (qP p12 (qP p12 ?_)))))))))
   refine qP p12 (qP p12 (qP p12 (qP p12 (h_next ?_))))
   refine h_one 4 rfl (by kernel_rfl) ?_
   refine o_load1 rfl rfl Try.underlying100 rfl (rd_mem 11 rfl rfl) ?_
   refine l_nil (h_next ?_)
   refine h_one 14 rfl (by kernel_rfl) ?_
   refine l_f12 ?_
   refine o_append e_ItA_ok rfl rfl rfl Try.underlying100 (rds_own e_ItA_ok 11 rfl) (by show (_ + _) * 64 ≤ _; (try simp only [List.length_append, List.length_cons, List.length_nil]); omega) (by (try simp only [List.length_append, List.length_cons, List.length_nil]); omega) fun a48 c48 => ?_
   refine l_f11 ?_
   refine l_drop ?_
   refine l_nil (qP p11 (qP p1 (qP p11 (qP p11 (qP p11 (qP p11 (qP p11 (qP p11 (qP p11 ?_)))))))))
   refine qP p11 (qP p11 (qP p11 (h_next ?_)))
   refine h_one 19 rfl (by kernel_rfl) ?_
   refine l_f10 ?_
   refine o_append e_ItA_ok rfl rfl rfl Try.underlying100 (rds_own e_ItA_ok 5 rfl) (by show (_ + _) * 64 ≤ _; (try simp only [List.length_append, List.length_cons, List.length_nil]); omega) (by (try simp only [List.length_append, List.length_cons, List.length_nil]); omega) fun a53 c53 => ?_
   refine l_nil (qP p11 (qP p1 (qP p11 (qP p11 (qP p11 (qP p11 (qP p11 (qP p11 (qP p11 ?_)))))))))
   refine qP p11 (qP p11 (qP p11 (h_next ?_)))
   refine h_take 20 rfl rfl (by kernel_rfl) (by kernel_rfl) (by kernel_rfl) (fun L0 => v_nil rfl rfl) ?_
   refine h_take 21 rfl rfl (by kernel_rfl) (by kernel_rfl) (by kernel_rfl) (fun L0 => v_fieldAddr (q := ⟨lb, 0, none⟩) rfl rfl Try.underlying103 rfl ti100 rfl) ?_
   refine h_one 22 rfl (by kernel_rfl) ?_
   refine l_f11 ?_
   refine o_store1 rfl rfl rfl ti100 rfl rfl ?_
   refine l_nil (qP p11 (qP p1 (qP p11 (qP p11 (qP p11 (qP p11 (qP p11 (qP p11 (qP p11 ?_)))))))))
   refine qP p11 (qP p11 (qP p11 (h_next ?_)))
   refine h_done (by kernel_rfl) ?_
   refine qP p9 (qP p9 (qP p9 (qP p9 (qP p9 (qP p9 (qP p9 (qP p9 (qP p9 (qP p9 ?_)))))))))
   refine qP p11 (qP p11 ?_)
   exact q_mid (a53, c53, a47, a48, c48, x45) (by exact hx45) ⟨vr, vr, vr, vr, vr, vr, vr, vr, vr, vr, vr, vr, vr, vr, vr, vr, vr, vr, vr, vr, vr, vr, vr, vr, vr, vr, vr, vr, vr, vr, vr, vr, vr, vr, vr, vr, vr, vr, vr, vr, vr, vr, vr, vr, vr, vr, vr, vr, vr, vr, vr, vr, vr, vr, vr, vr, vr, vr, vr, vr, vr, vr, vr, vr, vr, vr, vr, vr, vr, vr, vr, vr, vr, vr, vr, vr, vr, vr, vr, vr, vr, vr, vr, vr, vr, vr, vr, vr, vr, vr, vr, vr, vr, vr, trivial⟩ (fun w S => S)
 · -- behind the cut
  rintro ⟨a53, c53, a47, a48, c48, x45⟩ hx45
  try dsimp only at *
  refine c_seq (cP p8 (cP p1 (cP p11 (cP p11 (cP p11 (cP p11 (cP p11 (cP p11 (cP p11 ?_)))))))))
  refine cP p11 (cP p11 (cP p11 ?_))
  refine c_held [row e_ItA.T e_ItA.sz a53 (li ++ [x45] ++ ki).length c53 (flat e_ItA (li ++ [x45] ++ ki)), blk b (.cells #[.slice na (its).length nc, .slice nka (nk).length nkc] 103 (0, 0)), row e_ItA.T e_ItA.sz na (its).length nc (flat e_ItA its), row eN99.T eN99.sz nka (nk).length nkc (flat eN99 nk), blk kb (.cells #[.slice ka (ki).length kc, .slice kka (kk).length kkc] 103 (0, 0)), row e_ItA.T e_ItA.sz ka (ki).length kc (flat e_ItA ki), row eN99.T eN99.sz kka (kk).length kkc (flat eN99 kk), blk rb (.cells #[.slice ra (ri).length rc, .slice rka (rk).length rkc] 103 (0, 0)), row e_ItA.T e_ItA.sz ra (ri).length rc (flat e_ItA ri), row eN99.T eN99.sz rka (rk).length rkc (flat eN99 rk)] (by kernel_rfl) rfl ?_
  refine h_take 0 rfl rfl (by kernel_rfl) (by kernel_rfl) (by kernel_rfl) (fun L0 => v_move rfl rfl) ?_
  refine h_take 1 rfl rfl (by kernel_rfl) (by kernel_rfl) (by kernel_rfl) (fun L0 => v_move rfl rfl) ?_
  refine h_take 2 rfl rfl (by kernel_rfl) (by kernel_rfl) (by kernel_rfl) (fun L0 => v_nil rfl rfl) ?_
  refine h_take 3 rfl rfl (by kernel_rfl) (by kernel_rfl) (by kernel_rfl) (fun L0 => v_fieldAddr (q := ⟨lb, 1, none⟩) rfl rfl Try.underlying103 rfl ti101 rfl) ?_
  refine h_take 5 rfl rfl (by kernel_rfl) (by kernel_rfl) (by kernel_rfl) (fun L0 => v_move rfl rfl) ?_
  refine h_take 6 rfl rfl (by kernel_rfl) (by kernel_rfl) (by kernel_rfl) (fun L0 => v_nil rfl rfl) ?_
  refine h_take 7 rfl rfl (by kernel_rfl) (by kernel_rfl) (by kernel_rfl) (fun L0 => v_fieldAddr (q := ⟨kb, 1, none⟩) rfl rfl Try.underlying103 rfl ti101 rfl) ?_
  refine h_take 8 rfl rfl (by kernel_rfl) (by kernel_rfl) (by kernel_rfl) (fun L0 => v_load1 rfl rfl Try.underlying101 rfl (rd_mem 4 rfl rfl)) ?_
  refine h_one 4 rfl (by kernel_rfl) ?_
  refine o_load1 rfl rfl Try.underlying101 rfl (rd_mem 10 rfl rfl) ?_
  refine l_nil (h_next ?_)
  refine h_one 9 rfl (by kernel_rfl) ?_
  refine l_f11 ?_
  refine o_append eN99_ok rfl rfl rfl Try.underlying101 (rds_own eN99_ok 7 rfl) (by show (_ + _) * 8 ≤ _; (try simp only [List.length_append, List.length_cons, List.length_nil]); omega) (by (try simp only [List.length_append, List.length_cons, List.length_nil]); omega) fun a65 c65 => ?_
  refine l_nil (qP p11 (qP p1 (qP p11 (qP p11 (qP p11 (qP p11 (qP p11 (qP p11 (qP p11 ?_)))))))))
  refine qP p11 (qP p11 (qP p11 (h_next ?_)))
  refine h_take 10 rfl rfl (by kernel_rfl) (by kernel_rfl) (by kernel_rfl) (fun L0 => v_nil rfl rfl) ?_
  refine h_take 11 rfl rfl (by kernel_rfl) (by kernel_rfl) (by kernel_rfl) (fun L0 => v_fieldAddr (q := ⟨lb, 1, none⟩) rfl rfl Try.underlying103 rfl ti101 rfl) ?_
  refine h_one 12 rfl (by kernel_rfl) ?_
  refine l_f11 ?_
  refine o_store1 rfl rfl rfl ti101 rfl rfl ?_
  refine l_nil (qP p11 (qP p1 (qP p11 (qP p11 (qP p11 (qP p11 (qP p11 (qP p11 (qP p11 ?_)))))))))
  refine qP p11 (qP p11 (qP p11 (h_next ?_)))
  refine h_done (by kernel_rfl) ?_
  refine q_then (c_seq (c_region (o_move rfl rfl (o_move rfl rfl (o_nil rfl rfl ?_)))))
  refine o_fieldAddr (q := ⟨b, 0, none⟩) rfl rfl Try.underlying103 rfl ti100 rfl ?_
  refine o_load1 rfl rfl Try.underlying100 rfl (rd_mem 1 rfl rfl) ?_
  refine o_move rfl rfl ?_
  refine o_bin rfl rfl rfl (b_sub (show IntKind.i64.wrap (((j + 1 : Nat) : Int) - 1) = (j : Int) from by rw [wrap_i64 (by omega) (by omega)]; omega)) ?_
  refine o_move rfl rfl (l_f2 ?_)
  refine o_call rfl cal71 rfl (delI_A (xs := its) (i := j) (j := (j + 1 : Nat)) (by omega) (by omega) (by omega)) ?_
  rintro _ _ ⟨rfl, rfl⟩
  refine o_nil rfl rfl ?_
  refine o_fieldAddr (q := ⟨b, 0, none⟩) rfl rfl Try.underlying103 rfl ti100 rfl ?_
  refine l_f2 ?_
  refine o_store1 rfl rfl rfl ti100 rfl rfl ?_
  refine l_nil (q_then (c_region (o_move rfl rfl (o_move rfl rfl (o_nil rfl rfl ?_)))))
  refine o_fieldAddr (q := ⟨b, 1, none⟩) rfl rfl Try.underlying103 rfl ti101 rfl ?_
  refine o_load1 rfl rfl Try.underlying101 rfl (rd_mem 0 rfl rfl) ?_
  refine o_move rfl rfl (o_move rfl rfl ?_)
  refine o_bin rfl rfl rfl (b_add (show IntKind.i64.wrap (((j + 1 : Nat) : Int) + 1) = ((j + 2 : Nat) : Int) from by rw [wrap_i64 (by omega) (by omega)]; omega)) ?_
  refine l_f3 ?_
  refine o_call rfl cal79 rfl (delK_A (xs := nk) (i := (j + 1 : Nat)) (j := (j + 2 : Nat)) (by omega) (by omega) (by omega)) ?_
  rintro _ _ ⟨rfl, rfl⟩
  refine o_nil rfl rfl ?_
  refine o_fieldAddr (q := ⟨b, 1, none⟩) rfl rfl Try.underlying103 rfl ti101 rfl ?_
  refine l_f1 ?_
  refine o_store1 rfl rfl rfl ti101 rfl rfl ?_
  refine l_nil (q_block (qP p4 (qT (qP p4 (qT (qP p4 (qT (qP p6 (qP p6 ?_)))))))))
  refine qP p6 (qP p8 (qP p7 (qP p8 (qP p7 (qP p8 (qP p8 ?_))))))
  exact f_end (r_none rfl) (⟨x45, a53, c53, a65, c65, (show its[j]? = some x45 from by have h9 := hx45; rw [show ((j : Int)).toNat = j from rfl] at h9; exact h9), rfl⟩) (fun w S => S)
end
section
set_option linter.unusedVariables false
set_option linter.unusedSimpArgs false
open Go.RowKit Classical
section
variable {P : Program} {f : FuncId} {args : Array Value} {W : World} {L L1 : List Res} {post post' : Value → List Res → Prop}
theorem p15 {A B C D E G H I J K' M O R S T U : Res} {L : List Res} : (A :: B :: C :: D :: E :: G :: H :: I :: J :: K' :: M :: O :: R :: S :: T :: U :: L).Perm (U :: A :: B :: C :: D :: E :: G :: H :: I :: J :: K' :: M :: O :: R :: S :: T :: L) :=
  (p14.cons A).trans (List.Perm.swap _ _ _)
theorem csFact {p : Prop} (hp : ∀ w, Sat W w L → p) (h : p → CS P f args W L post) : CS P f args W L post := fun w S => h (hp w S) w S
theorem csWeak (h : CS P f args W L post) (hw : ∀ v L', post v L' → ∃ L2, post' v L2 ∧ ∀ w, Sat W w L' → Sat W w L2) : CS P f args W L post' := fun w S =>
  (h w S).mono fun _ _ ⟨v, L', e, h1, h2⟩ => let ⟨L2, h3, h4⟩ := hw v L' h1; ⟨v, L2, e, h3, h4 _ h2⟩
theorem csOpens {X : Type} {p : X → Prop} {LL : X → List Res} (ho : ∀ w, Sat W w L → ∃ x, p x ∧ Sat W w (LL x)) (h : ∀ x, p x → CS P f args W (LL x) post) : CS P f args W L post := fun w S =>
  let ⟨x, hx, S'⟩ := ho w S; h x hx w S'
end
section
variable {α : Type}
theorem set_at {xs : List α} {j : Nat} {x y : α} (h : xs[j]? = some x) : xs.set j y = xs.take j ++ y :: xs.drop (j + 1) := by
  rw [List.set_eq_take_append_cons_drop, if_pos (List.getElem?_eq_some_iff.1 h).1]
theorem drop_at {xs : List α} {j : Nat} {x : α} (h : xs[j]? = some x) : xs.drop j = x :: xs.drop (j + 1) := by
  obtain ⟨hj, e⟩ := List.getElem?_eq_some_iff.1 h
  rw [List.drop_eq_getElem_cons hj, e]
theorem two_at {xs : List α} {j : Nat} {x y : α} (h : xs[j]? = some x) (h2 : xs[j + 1]? = some y) : xs = xs.take j ++ x :: y :: xs.drop (j + 2) := by
  conv => lhs; rw [take_get h, drop_at h2]
theorem take_snoc' {xs : List α} {j : Nat} {x : α} (h : xs[j]? = some x) : xs.take (j + 1) = xs.take j ++ [x] := by
  rw [List.take_add_one, h]; rfl
theorem weave_pair {A B : List (List α)} {C D : List α} {l r : List α} {x : α} (h : A.length = C.length) : weave (A ++ l :: r :: B) (C ++ x :: D) = preW A C ++ ((l ++ x :: r) ++ post D B) := by
  rw [weave_at h]
  congr 1
  show l ++ post (x :: D) (r :: B) = _
  rw [post_cons]
  show l ++ x :: (r ++ post D B) = _
  simp
theorem pair_is {ks : List (Nat × List α)} {its : List α} {j lb rb : Nat} {l r : List α} {x : α} (hl : ks.length = its.length + 1) (ha : ks[j]? = some (lb, l)) (hb : ks[j + 1]? = some (rb, r)) (hx : its[j]? = some x) :
    weave (ks.map Prod.snd) its = preW ((ks.take j).map Prod.snd) (its.take j) ++ ((l ++ x :: r) ++ post (its.drop (j + 1)) ((ks.drop (j + 2)).map Prod.snd)) := by
  have h1 := (List.getElem?_eq_some_iff.1 hx).1
  conv => lhs; rw [two_at ha hb, take_get hx]
  rw [List.map_append, List.map_cons, List.map_cons]
  exact weave_pair (by rw [List.length_map, List.length_take, List.length_take]; omega)
theorem pair_new {ks : List (Nat × List α)} {its : List α} {j lb rb : Nat} {l r : List α} {x : α} (hl : ks.length = its.length + 1) (hx : j < its.length) :
    weave ((ks.take j ++ (lb, l) :: (rb, r) :: ks.drop (j + 2)).map Prod.snd) (its.take j ++ x :: its.drop (j + 1)) = preW ((ks.take j).map Prod.snd) (its.take j) ++ ((l ++ x :: r) ++ post (its.drop (j + 1)) ((ks.drop (j + 2)).map Prod.snd)) := by
  rw [List.map_append, List.map_cons, List.map_cons]
  exact weave_pair (by rw [List.length_map, List.length_take, List.length_take]; omega)
theorem join_new {ks : List (Nat × List α)} {its : List α} {j lb : Nat} {m : List α} (hl : ks.length = its.length + 1) (hx : j < its.length) :
    weave ((ks.take j ++ (lb, m) :: ks.drop (j + 2)).map Prod.snd) (its.take j ++ its.drop (j + 1)) = preW ((ks.take j).map Prod.snd) (its.take j) ++ (m ++ post (its.drop (j + 1)) ((ks.drop (j + 2)).map Prod.snd)) := by
  rw [List.map_append, List.map_cons]
  exact weave_at (by rw [List.length_map, List.length_take, List.length_take]; omega)
theorem erase_left {ks : List α} {j : Nat} {k : α} (h : ks[j]? = some k) : (ks.eraseIdx (j + 1)).Perm (k :: (ks.take j ++ ks.drop (j + 2))) := by
  rw [List.eraseIdx_eq_take_drop_succ, take_snoc' h, List.append_assoc]
  exact List.perm_middle
theorem erase_right {ks : List α} {j : Nat} {k : α} (h : ks[j + 1]? = some k) : (ks.eraseIdx j).Perm (k :: (ks.take j ++ ks.drop (j + 2))) := by
  rw [List.eraseIdx_eq_take_drop_succ, drop_at h]
  exact List.perm_middle
end
section
variable {α : Type} {W w : World} {L : List Res} {eI : Enc α} {eK : Enc Nat} {TN d b lb rb j : Nat}
theorem Sat.kids_perm {ks ks' : List (Nat × List α)} (h : ks.Perm ks') (S : Sat W w (kidsR eI eK TN d ks :: L)) : Sat W w (kidsR eI eK TN d ks' :: L) := S.stars_perm (h.map _)
theorem Sat.kids_join {a b : List (Nat × List α)} (S : Sat W w (kidsR eI eK TN d a :: kidsR eI eK TN d b :: L)) : Sat W w (kidsR eI eK TN d (a ++ b) :: L) := by
  have h1 := S.flat
  have h2 : Sat W w (kidsR eI eK TN d b :: (a.map (kidR eI eK TN d) ++ L)) := h1.perm List.perm_middle
  have h3 := h2.flat
  have h4 : Sat W w ((a.map (kidR eI eK TN d) ++ b.map (kidR eI eK TN d)) ++ L) := h3.perm (by rw [List.append_assoc]; exact List.perm_append_comm_assoc _ _ _)
  have h5 := Sat.unflat h4
  rw [← List.map_append] at h5; exact h5
theorem Sat.kids_split {a b : List (Nat × List α)} (S : Sat W w (kidsR eI eK TN d (a ++ b) :: L)) : Sat W w (kidsR eI eK TN d a :: kidsR eI eK TN d b :: L) := by
  have h1 := Sat.kids_part a.length S
  rw [List.take_left, List.drop_left] at h1; exact h1
theorem Sat.kids_move {a b a' b' : List (Nat × List α)} (h : (a ++ b).Perm (a' ++ b')) (S : Sat W w (kidsR eI eK TN d a :: kidsR eI eK TN d b :: L)) : Sat W w (kidsR eI eK TN d a' :: kidsR eI eK TN d b' :: L) := (S.kids_join.kids_perm h).kids_split
/-- Two neighbours have new lists, the item between them is another. -/
theorem mend_pack2 {its : List α} {ks : List (Nat × List α)} {na nka : Option Addr} {nc nkc : Nat} {l r l' r' : List α} {x x' : α} (h5 : its.length ≤ 5) (hl : ks.length = its.length + 1) (ha : ks[j]? = some (lb, l)) (hb : ks[j + 1]? = some (rb, r)) (hx : its[j]? = some x) (he : l ++ x :: r = l' ++ x' :: r')
    (S : Sat W w (blk b (.cells #[.slice na its.length nc, .slice nka (ks.map Prod.fst).length nkc] TN (0, 0)) :: row eI.T eI.sz na its.length nc (flat eI (its.set j x')) :: row eK.T eK.sz nka (ks.map Prod.fst).length nkc (flat eK (ks.map Prod.fst)) :: nodeR eI eK TN d 2 lb l' :: nodeR eI eK TN d 2 rb r' :: kidsR eI eK TN (d + 1) (ks.take j ++ ks.drop (j + 2)) :: L)) : Sat W w (nodeO eI eK TN (d + 1) (its.length - 1) b (weave (ks.map Prod.snd) its) :: L) := by
  have hj := (List.getElem?_eq_some_iff.1 hx).1
  have S1 : Sat W w (kidsR eI eK TN (d + 1) [(lb, l'), (rb, r')] :: kidsR eI eK TN (d + 1) (ks.take j ++ ks.drop (j + 2)) :: blk b (.cells #[.slice na its.length nc, .slice nka (ks.map Prod.fst).length nkc] TN (0, 0)) :: row eI.T eI.sz na its.length nc (flat eI (its.set j x')) :: row eK.T eK.sz nka (ks.map Prod.fst).length nkc (flat eK (ks.map Prod.fst)) :: L) :=
    Sat.unflat (Ls := [kidR eI eK TN (d + 1) (lb, l'), kidR eI eK TN (d + 1) (rb, r')]) (((((((S.perm p2).perm p2).perm p2).perm p5).perm p5).perm p5))
  have S2 : Sat W w (kidsR eI eK TN (d + 1) (ks.take j ++ (lb, l') :: (rb, r') :: ks.drop (j + 2)) :: blk b (.cells #[.slice na its.length nc, .slice nka (ks.map Prod.fst).length nkc] TN (0, 0)) :: row eI.T eI.sz na its.length nc (flat eI (its.set j x')) :: row eK.T eK.sz nka (ks.map Prod.fst).length nkc (flat eK (ks.map Prod.fst)) :: L) := by
    refine Sat.kids_perm ?_ (Sat.kids_join S1)
    exact ((List.perm_middle (a := (rb, r')) (l₁ := ks.take j) (l₂ := ks.drop (j + 2))).symm.cons (lb, l')).trans (List.perm_middle (a := (lb, l')) (l₁ := ks.take j) (l₂ := (rb, r') :: ks.drop (j + 2))).symm
  have hf : ks.map Prod.fst = (ks.take j ++ (lb, l') :: (rb, r') :: ks.drop (j + 2)).map Prod.fst := by
    conv => lhs; rw [two_at ha hb]
    simp
  have hs : its.set j x' = its.take j ++ x' :: its.drop (j + 1) := set_at hx
  have hlen : (its.take j ++ x' :: its.drop (j + 1)).length = its.length := by rw [← hs, List.length_set]
  have hkl : (ks.take j ++ (lb, l') :: (rb, r') :: ks.drop (j + 2)).length = ks.length := by have h9 := congrArg List.length hf; rw [List.length_map, List.length_map] at h9; exact h9.symm
  refine nodeO_mk ⟨na, nc, nka, nkc, its.take j ++ x' :: its.drop (j + 1), ks.take j ++ (lb, l') :: (rb, r') :: ks.drop (j + 2)⟩ ⟨?_, ?_, ?_, ?_⟩ ?_
  · show its.length - 1 ≤ (its.take j ++ x' :: its.drop (j + 1)).length; omega
  · show (its.take j ++ x' :: its.drop (j + 1)).length ≤ 5; omega
  · rw [pair_is hl ha hb hx, he]; exact (pair_new hl hj).symm
  · exact .inr ⟨Nat.succ_ne_zero _, by show (ks.take j ++ (lb, l') :: (rb, r') :: ks.drop (j + 2)).length = (its.take j ++ x' :: its.drop (j + 1)).length + 1; omega⟩
  · show Sat W w (blk b (.cells #[.slice na (its.take j ++ x' :: its.drop (j + 1)).length nc, .slice nka ((ks.take j ++ (lb, l') :: (rb, r') :: ks.drop (j + 2)).map Prod.fst).length nkc] TN (0, 0)) :: row eI.T eI.sz na (its.take j ++ x' :: its.drop (j + 1)).length nc (flat eI (its.take j ++ x' :: its.drop (j + 1))) :: row eK.T eK.sz nka ((ks.take j ++ (lb, l') :: (rb, r') :: ks.drop (j + 2)).map Prod.fst).length nkc (flat eK ((ks.take j ++ (lb, l') :: (rb, r') :: ks.drop (j + 2)).map Prod.fst)) :: kidsR eI eK TN (d + 1) (ks.take j ++ (lb, l') :: (rb, r') :: ks.drop (j + 2)) :: L)
    rw [hlen, ← hf, ← hs]
    exact (((S2.perm p3).perm p3).perm p3)
/-- Two neighbours are one. -/
theorem mend_pack1 {its : List α} {ks : List (Nat × List α)} {na nka : Option Addr} {nc nkc : Nat} {l r : List α} {x : α} (h5 : its.length ≤ 5) (hl : ks.length = its.length + 1) (ha : ks[j]? = some (lb, l)) (hb : ks[j + 1]? = some (rb, r)) (hx : its[j]? = some x)
    (S : Sat W w (blk b (.cells #[.slice na (its.take j ++ its.drop (j + 1)).length nc, .slice nka ((ks.map Prod.fst).take (j + 1) ++ (ks.map Prod.fst).drop (j + 2)).length nkc] TN (0, 0)) :: row eI.T eI.sz na (its.take j ++ its.drop (j + 1)).length nc (flat eI (its.take j ++ its.drop (j + 1))) :: row eK.T eK.sz nka ((ks.map Prod.fst).take (j + 1) ++ (ks.map Prod.fst).drop (j + 2)).length nkc (flat eK ((ks.map Prod.fst).take (j + 1) ++ (ks.map Prod.fst).drop (j + 2))) :: nodeR eI eK TN d 2 lb (l ++ x :: r) :: kidsR eI eK TN (d + 1) (ks.take j ++ ks.drop (j + 2)) :: L)) : Sat W w (nodeO eI eK TN (d + 1) (its.length - 1) b (weave (ks.map Prod.snd) its) :: L) := by
  have hj := (List.getElem?_eq_some_iff.1 hx).1
  have S2 : Sat W w (kidsR eI eK TN (d + 1) (ks.take j ++ (lb, l ++ x :: r) :: ks.drop (j + 2)) :: blk b (.cells #[.slice na (its.take j ++ its.drop (j + 1)).length nc, .slice nka ((ks.map Prod.fst).take (j + 1) ++ (ks.map Prod.fst).drop (j + 2)).length nkc] TN (0, 0)) :: row eI.T eI.sz na (its.take j ++ its.drop (j + 1)).length nc (flat eI (its.take j ++ its.drop (j + 1))) :: row eK.T eK.sz nka ((ks.map Prod.fst).take (j + 1) ++ (ks.map Prod.fst).drop (j + 2)).length nkc (flat eK ((ks.map Prod.fst).take (j + 1) ++ (ks.map Prod.fst).drop (j + 2))) :: L) := by
    refine Sat.kids_perm (ks := (lb, l ++ x :: r) :: (ks.take j ++ ks.drop (j + 2))) List.perm_middle.symm ?_
    exact Sat.stars_uncons (Rs := (ks.take j ++ ks.drop (j + 2)).map (kidR eI eK TN (d + 1))) (A := kidR eI eK TN (d + 1) (lb, l ++ x :: r)) (((((S.perm p2).perm p2).perm p2).perm p4).perm p4)
  have hf : ((ks.map Prod.fst).take (j + 1) ++ (ks.map Prod.fst).drop (j + 2)) = (ks.take j ++ (lb, l ++ x :: r) :: ks.drop (j + 2)).map Prod.fst := by
    have h1 : (ks.map Prod.fst)[j]? = some lb := by rw [List.getElem?_map, ha]; rfl
    rw [take_snoc' h1, List.map_append, List.map_cons, List.map_take, List.map_drop]
    simp
  have hlen : (its.take j ++ its.drop (j + 1)).length = its.length - 1 := by rw [List.length_append, List.length_take, List.length_drop]; omega
  have hkl : (ks.take j ++ (lb, l ++ x :: r) :: ks.drop (j + 2)).length = ks.length - 1 := by rw [List.length_append, List.length_take, List.length_cons, List.length_drop]; omega
  rw [hf] at S2
  refine nodeO_mk ⟨na, nc, nka, nkc, (its.take j ++ its.drop (j + 1)), (ks.take j ++ (lb, l ++ x :: r) :: ks.drop (j + 2))⟩ ⟨?_, ?_, ?_, ?_⟩ (((S2.perm p3).perm p3).perm p3)
  · show its.length - 1 ≤ (its.take j ++ its.drop (j + 1)).length; omega
  · show (its.take j ++ its.drop (j + 1)).length ≤ 5; omega
  · rw [pair_is hl ha hb hx]; exact (join_new hl hj).symm
  · exact .inr ⟨Nat.succ_ne_zero _, by show (ks.take j ++ (lb, l ++ x :: r) :: ks.drop (j + 2)).length = (its.take j ++ its.drop (j + 1)).length + 1; omega⟩
theorem okO.mono {mn mn' : Nat} {q : NodeW α} {xs : List α} (h : okO mn d q xs) (hm : mn' ≤ q.items.length) : okO mn' d q xs := ⟨hm, h.le, h.is, h.sh⟩
theorem last_item {q : NodeW α} {xs : List α} {y : α} {g : Nat × List α} (hi : xs = weave (q.kids.map Prod.snd) q.items) (hy : q.items[q.items.length - 1]? = some y) (hl : q.kids.length = q.items.length + 1) (hg : q.kids[q.items.length]? = some g) (h0 : 0 < q.items.length) :
    xs = weave ((q.kids.take q.items.length).map Prod.snd) (q.items.take (q.items.length - 1)) ++ y :: g.2 := by
  have e1 : q.kids = q.kids.take q.items.length ++ [g] := by
    have h9 := take_get hg
    rw [List.drop_of_length_le (by omega)] at h9; exact h9
  have e2 : q.items = q.items.take (q.items.length - 1) ++ [y] := by
    have h9 := take_get hy
    rw [List.drop_of_length_le (by omega)] at h9; exact h9
  have e3 : weave (q.kids.map Prod.snd) q.items = weave ((q.kids.take q.items.length).map Prod.snd ++ [g.2]) (q.items.take (q.items.length - 1) ++ y :: []) := by
    have h8 : q.kids.map Prod.snd = (q.kids.take q.items.length).map Prod.snd ++ [g.2] := by have h9 := congrArg (List.map Prod.snd) e1; rw [List.map_append] at h9; exact h9
    rw [h8, ← e2]
  rw [hi, e3, weave_item (.inr ⟨by rw [List.length_map, List.length_take, List.length_take]; omega, by simp⟩)]
  simp [weave, post]
theorem mend_B0 {P : Program} (okI : EncOk P eI) {ql qk : NodeW α} {l r : List α} {x y : α} {kb : Nat} {a1 : Option Addr} {c1 : Nat} (hl : okN 2 d ql l) (hk : okO 1 d qk r) (hk1 : qk.items.length < 2) (h3 : 3 ≤ ql.items.length) (hy : ql.items[ql.items.length - 1]? = some y) (h0 : (ql.kids.map Prod.fst).length = 0)
    (S : Sat W w (blk kb (.cells #[.slice a1 (x :: qk.items).length c1, .slice qk.ak (qk.kids.map Prod.fst).length qk.ck] TN (0, 0)) :: row eI.T eI.sz a1 (x :: qk.items).length c1 (flat eI (x :: qk.items)) :: row eK.T eK.sz qk.ak (qk.kids.map Prod.fst).length qk.ck (flat eK (qk.kids.map Prod.fst)) :: blk lb (.cells #[.slice ql.a (ql.items.length - 1) ql.c, .slice ql.ak (ql.kids.map Prod.fst).length ql.ck] TN (0, 0)) :: row eI.T eI.sz ql.a ql.items.length ql.c (flat eI ql.items) :: row eK.T eK.sz ql.ak (ql.kids.map Prod.fst).length ql.ck (flat eK (ql.kids.map Prod.fst)) :: kidsR eI eK TN d qk.kids :: kidsR eI eK TN d ql.kids :: L)) : ∃ l' r', l ++ x :: r = l' ++ y :: r' ∧ Sat W w (nodeR eI eK TN d 2 lb l' :: nodeR eI eK TN d 2 kb r' :: L) := by
  have hlk : ql.kids = [] := List.eq_nil_of_length_eq_zero (by rwa [List.length_map] at h0)
  have hd : d = 0 := by
    rcases hl.sh with ⟨h, _⟩ | ⟨_, h, _⟩
    · exact h
    · rw [hlk] at h; simp at h
  have hkk : qk.kids = [] := by
    rcases hk.sh with ⟨_, h⟩ | ⟨h, _⟩
    · exact h
    · exact absurd hd h
  have e2 : ql.items = (ql.items.take (ql.items.length - 1)) ++ [y] := by
    have h9 := take_get hy
    rw [List.drop_of_length_le (by omega)] at h9; exact h9
  have h5 := hl.le
  have hm := hk.mn
  have hlt : (ql.items.take (ql.items.length - 1)).length = ql.items.length - 1 := by rw [List.length_take]; omega
  refine ⟨(ql.items.take (ql.items.length - 1)), x :: qk.items, ?_, ?_⟩
  · rw [hl.is, hk.is, hlk, hkk]
    show ql.items ++ x :: qk.items = _
    conv => lhs; rw [e2]
    simp
  · have S0 : Sat W w (row eI.T eI.sz ql.a ql.items.length ql.c (flat eI ql.items) :: blk kb (.cells #[.slice a1 (x :: qk.items).length c1, .slice qk.ak (qk.kids.map Prod.fst).length qk.ck] TN (0, 0)) :: row eI.T eI.sz a1 (x :: qk.items).length c1 (flat eI (x :: qk.items)) :: row eK.T eK.sz qk.ak (qk.kids.map Prod.fst).length qk.ck (flat eK (qk.kids.map Prod.fst)) :: blk lb (.cells #[.slice ql.a (ql.items.length - 1) ql.c, .slice ql.ak (ql.kids.map Prod.fst).length ql.ck] TN (0, 0)) :: row eK.T eK.sz ql.ak (ql.kids.map Prod.fst).length ql.ck (flat eK (ql.kids.map Prod.fst)) :: kidsR eI eK TN d qk.kids :: kidsR eI eK TN d ql.kids :: L) := ((((((((S.perm p7).perm p7).perm p7).perm p6).perm p6).perm p6).perm p6).perm p7)
    have hcap := row_capL S0
    have S1 := S0.row_cut (n' := ql.items.length - 1) (c' := ql.c) (by omega) (by omega) (by omega) (by omega)
    rw [← flat_take okI] at S1
    have S2 := nodeMk (eI := eI) (eK := eK) (TN := TN) (b := kb) (mn := 2) (xs := x :: qk.items) ⟨a1, c1, qk.ak, qk.ck, x :: qk.items, qk.kids⟩ ⟨by show 2 ≤ (x :: qk.items).length; rw [List.length_cons]; omega, by show (x :: qk.items).length ≤ 5; rw [List.length_cons]; omega, by show x :: qk.items = weave (qk.kids.map Prod.snd) (x :: qk.items); rw [hkk]; rfl, .inl ⟨hd, hkk⟩⟩ ((((((((S1.perm p7).perm p6).perm p2).perm p6).perm p7).perm p7).perm p7).perm p7)
    have S3 : Sat W w (blk lb (.cells #[.slice ql.a (ql.items.length - 1) ql.c, .slice ql.ak (ql.kids.map Prod.fst).length ql.ck] TN (0, 0)) :: row eI.T eI.sz ql.a (ql.items.length - 1) ql.c (flat eI (ql.items.take (ql.items.length - 1))) :: row eK.T eK.sz ql.ak (ql.kids.map Prod.fst).length ql.ck (flat eK (ql.kids.map Prod.fst)) :: kidsR eI eK TN d ql.kids :: nodeR eI eK TN d 2 kb (x :: qk.items) :: L) := ((((S2.perm p4).perm p4).perm p4).perm p4)
    have S4 := nodeMk (eI := eI) (eK := eK) (TN := TN) (b := lb) (mn := 2) (xs := (ql.items.take (ql.items.length - 1))) ⟨ql.a, ql.c, ql.ak, ql.ck, (ql.items.take (ql.items.length - 1)), ql.kids⟩ ⟨by show 2 ≤ (ql.items.take (ql.items.length - 1)).length; omega, by show (ql.items.take (ql.items.length - 1)).length ≤ 5; omega, by show (ql.items.take (ql.items.length - 1)) = weave (ql.kids.map Prod.snd) (ql.items.take (ql.items.length - 1)); rw [hlk]; rfl, .inl ⟨hd, hlk⟩⟩ (by show Sat W w (blk lb (.cells #[.slice ql.a (ql.items.take (ql.items.length - 1)).length ql.c, .slice ql.ak (ql.kids.map Prod.fst).length ql.ck] TN (0, 0)) :: row eI.T eI.sz ql.a (ql.items.take (ql.items.length - 1)).length ql.c (flat eI (ql.items.take (ql.items.length - 1))) :: row eK.T eK.sz ql.ak (ql.kids.map Prod.fst).length ql.ck (flat eK (ql.kids.map Prod.fst)) :: kidsR eI eK TN d ql.kids :: _); rw [hlt]; exact S3)
    exact S4
theorem weave_first {k : List α} {ks : List (List α)} {x : α} {its : List α} (h : ks ≠ []) : weave (k :: ks) (x :: its) = k ++ x :: weave ks its := by
  cases ks with
  | nil => exact absurd rfl h
  | cons a ks => rfl
theorem weave_last {ks : List (List α)} {its : List α} {x : α} {g : List α} (h : ks.length = its.length + 1) : weave (ks ++ [g]) (its ++ [x]) = weave ks its ++ x :: g := by
  rw [weave_item (.inr ⟨h, by simp⟩)]
  simp [weave, post]
theorem lax_kids {q : NodeW α} {mn : Nat} {xs : List α} (h : okO mn d q xs) (hd : d ≠ 0) : q.kids.length = q.items.length + 1 := by
  rcases h.sh with ⟨h, _⟩ | ⟨_, h⟩
  · exact absurd h hd
  · exact h
theorem lax_leaf {q : NodeW α} {mn : Nat} {xs : List α} (h : okO mn d q xs) (hd : d = 0) : q.kids = [] := by
  rcases h.sh with ⟨_, h⟩ | ⟨h, _⟩
  · exact h
  · exact absurd hd h
theorem mend_B1 {P : Program} (okI : EncOk P eI) (okK : EncOk P eK) {ql qk : NodeW α} {l r : List α} {x y : α} {kb : Nat} {a1 : Option Addr} {c1 : Nat} {a2 : Option Addr} {c2 g : Nat} (hl : okN 2 d ql l) (hk : okO 1 d qk r) (hk1 : qk.items.length < 2) (h3 : 3 ≤ ql.items.length) (hy : ql.items[ql.items.length - 1]? = some y) (hg : (ql.kids.map Prod.fst)[ql.items.length]? = some g)
    (S : Sat W w (blk kb (.cells #[.slice a1 (x :: qk.items).length c1, .slice a2 (g :: qk.kids.map Prod.fst).length c2] TN (0, 0)) :: row eI.T eI.sz a1 (x :: qk.items).length c1 (flat eI (x :: qk.items)) :: row eK.T eK.sz a2 (g :: qk.kids.map Prod.fst).length c2 (flat eK (g :: qk.kids.map Prod.fst)) :: blk lb (.cells #[.slice ql.a (ql.items.length - 1) ql.c, .slice ql.ak ql.items.length ql.ck] TN (0, 0)) :: row eI.T eI.sz ql.a ql.items.length ql.c (flat eI ql.items) :: row eK.T eK.sz ql.ak (ql.kids.map Prod.fst).length ql.ck (flat eK (ql.kids.map Prod.fst)) :: kidsR eI eK TN d qk.kids :: kidsR eI eK TN d ql.kids :: L)) : ∃ l' r', l ++ x :: r = l' ++ y :: r' ∧ Sat W w (nodeR eI eK TN d 2 lb l' :: nodeR eI eK TN d 2 kb r' :: L) := by
  have hgl := (List.getElem?_eq_some_iff.1 hg).1
  rw [List.length_map] at hgl
  have hd : d ≠ 0 := by
    rcases hl.sh with ⟨_, h⟩ | ⟨h, _, _⟩
    · rw [h] at hgl; simp at hgl
    · exact h
  have hll := lax_kids hl.lax hd
  have hkl := lax_kids hk hd
  have h5 := hl.le
  have hm := hk.mn
  obtain ⟨gs, hgs⟩ : ∃ gs, ql.kids[ql.items.length]? = some (g, gs) := by
    rw [List.getElem?_map, List.getElem?_eq_getElem hgl] at hg
    simp only [Option.map_some, Option.some.injEq] at hg
    exact ⟨(ql.kids[ql.items.length]).2, by rw [List.getElem?_eq_getElem hgl, ← hg]⟩
  have hkne : qk.kids.map Prod.snd ≠ [] := fun h => by have := congrArg List.length h; simp at this; rw [this] at hkl; simp at hkl
  have e1 : ql.kids = (ql.kids.take ql.items.length) ++ [(g, gs)] := by
    have h9 := take_get hgs
    rw [List.drop_of_length_le (by omega)] at h9; exact h9
  have hlt : (ql.items.take (ql.items.length - 1)).length = ql.items.length - 1 := by rw [List.length_take]; omega
  have hkt : ((ql.kids.take ql.items.length).map Prod.fst).length = ql.items.length := by rw [List.length_map, List.length_take]; omega
  refine ⟨weave ((ql.kids.take ql.items.length).map Prod.snd) (ql.items.take (ql.items.length - 1)), weave (((g, gs) :: qk.kids).map Prod.snd) (x :: qk.items), ?_, ?_⟩
  · rw [last_item hl.is hy hll hgs (by omega), List.map_cons, weave_first hkne, ← hk.is]
    simp
  · have S0 : Sat W w (kidsR eI eK TN d qk.kids :: kidsR eI eK TN d ql.kids :: blk kb (.cells #[.slice a1 (x :: qk.items).length c1, .slice a2 (g :: qk.kids.map Prod.fst).length c2] TN (0, 0)) :: row eI.T eI.sz a1 (x :: qk.items).length c1 (flat eI (x :: qk.items)) :: row eK.T eK.sz a2 (g :: qk.kids.map Prod.fst).length c2 (flat eK (g :: qk.kids.map Prod.fst)) :: blk lb (.cells #[.slice ql.a (ql.items.length - 1) ql.c, .slice ql.ak ql.items.length ql.ck] TN (0, 0)) :: row eI.T eI.sz ql.a ql.items.length ql.c (flat eI ql.items) :: row eK.T eK.sz ql.ak (ql.kids.map Prod.fst).length ql.ck (flat eK (ql.kids.map Prod.fst)) :: L) := ((((((((S.perm p5).perm p5).perm p5).perm p5).perm p5).perm p5).perm p7).perm p7)
    have S1 := Sat.kids_move (a' := ((g, gs) :: qk.kids)) (b' := (ql.kids.take ql.items.length)) (by
      conv => lhs; rw [e1]
      rw [← List.append_assoc]
      exact List.perm_append_comm) S0
    have S2 : Sat W w (row eI.T eI.sz ql.a ql.items.length ql.c (flat eI ql.items) :: kidsR eI eK TN d ((g, gs) :: qk.kids) :: kidsR eI eK TN d (ql.kids.take ql.items.length) :: blk kb (.cells #[.slice a1 (x :: qk.items).length c1, .slice a2 (g :: qk.kids.map Prod.fst).length c2] TN (0, 0)) :: row eI.T eI.sz a1 (x :: qk.items).length c1 (flat eI (x :: qk.items)) :: row eK.T eK.sz a2 (g :: qk.kids.map Prod.fst).length c2 (flat eK (g :: qk.kids.map Prod.fst)) :: blk lb (.cells #[.slice ql.a (ql.items.length - 1) ql.c, .slice ql.ak ql.items.length ql.ck] TN (0, 0)) :: row eK.T eK.sz ql.ak (ql.kids.map Prod.fst).length ql.ck (flat eK (ql.kids.map Prod.fst)) :: L) := ((((((((S1.perm p7).perm p6).perm p6).perm p6).perm p6).perm p6).perm p6).perm p7)
    have hcap := row_capL S2
    have S3 := S2.row_cut (n' := ql.items.length - 1) (c' := ql.c) (by omega) (by omega) (by omega) (by omega)
    rw [← flat_take okI] at S3
    have S4 : Sat W w (row eK.T eK.sz ql.ak (ql.kids.map Prod.fst).length ql.ck (flat eK (ql.kids.map Prod.fst)) :: blk kb (.cells #[.slice a1 (x :: qk.items).length c1, .slice a2 (g :: qk.kids.map Prod.fst).length c2] TN (0, 0)) :: row eI.T eI.sz a1 (x :: qk.items).length c1 (flat eI (x :: qk.items)) :: row eK.T eK.sz a2 (g :: qk.kids.map Prod.fst).length c2 (flat eK (g :: qk.kids.map Prod.fst)) :: kidsR eI eK TN d ((g, gs) :: qk.kids) :: blk lb (.cells #[.slice ql.a (ql.items.length - 1) ql.c, .slice ql.ak ql.items.length ql.ck] TN (0, 0)) :: row eI.T eI.sz ql.a (ql.items.length - 1) ql.c (flat eI (ql.items.take (ql.items.length - 1))) :: kidsR eI eK TN d (ql.kids.take ql.items.length) :: L) := ((((((((S3.perm p2).perm p1).perm p6).perm p3).perm p6).perm p6).perm p6).perm p7)
    have hcap2 := row_capL S4
    rw [List.length_map] at hcap2
    have S5 := S4.row_cut (n' := ql.items.length) (c' := ql.ck) (by rw [List.length_map]; omega) (by omega) (by omega) (by omega)
    rw [← flat_take okK, ← List.map_take] at S5
    have S6 := nodeMk (eI := eI) (eK := eK) (TN := TN) (b := kb) (mn := 2) (xs := weave (((g, gs) :: qk.kids).map Prod.snd) (x :: qk.items)) ⟨a1, c1, a2, c2, x :: qk.items, ((g, gs) :: qk.kids)⟩ ⟨by show 2 ≤ (x :: qk.items).length; rw [List.length_cons]; omega, by show (x :: qk.items).length ≤ 5; rw [List.length_cons]; omega, rfl, .inr ⟨hd, by show (((g, gs) :: qk.kids)).length = (x :: qk.items).length + 1; rw [List.length_cons, List.length_cons]; omega, by show 1 ≤ (x :: qk.items).length; rw [List.length_cons]; omega⟩⟩ ((((((((S5.perm p7).perm p1).perm p7).perm p7).perm p7).perm p7).perm p7).perm p7)
    have S7 : Sat W w (blk lb (.cells #[.slice ql.a (ql.items.length - 1) ql.c, .slice ql.ak ql.items.length ql.ck] TN (0, 0)) :: row eI.T eI.sz ql.a (ql.items.length - 1) ql.c (flat eI (ql.items.take (ql.items.length - 1))) :: row eK.T eK.sz ql.ak ql.items.length ql.ck (flat eK ((ql.kids.take ql.items.length).map Prod.fst)) :: kidsR eI eK TN d (ql.kids.take ql.items.length) :: nodeR eI eK TN d 2 kb (weave (((g, gs) :: qk.kids).map Prod.snd) (x :: qk.items)) :: L) := ((((S6.perm p4).perm p4).perm p4).perm p4)
    exact nodeMk (eI := eI) (eK := eK) (TN := TN) (b := lb) (mn := 2) ⟨ql.a, ql.c, ql.ak, ql.ck, (ql.items.take (ql.items.length - 1)), (ql.kids.take ql.items.length)⟩ ⟨by show 2 ≤ (ql.items.take (ql.items.length - 1)).length; omega, by show (ql.items.take (ql.items.length - 1)).length ≤ 5; omega, rfl, .inr ⟨hd, by show ((ql.kids.take ql.items.length)).length = (ql.items.take (ql.items.length - 1)).length + 1; rw [hlt, List.length_take]; omega, by show 1 ≤ (ql.items.take (ql.items.length - 1)).length; omega⟩⟩ (by show Sat W w (blk lb (.cells #[.slice ql.a (ql.items.take (ql.items.length - 1)).length ql.c, .slice ql.ak ((ql.kids.take ql.items.length).map Prod.fst).length ql.ck] TN (0, 0)) :: row eI.T eI.sz ql.a (ql.items.take (ql.items.length - 1)).length ql.c (flat eI (ql.items.take (ql.items.length - 1))) :: row eK.T eK.sz ql.ak ((ql.kids.take ql.items.length).map Prod.fst).length ql.ck (flat eK ((ql.kids.take ql.items.length).map Prod.fst)) :: kidsR eI eK TN d (ql.kids.take ql.items.length) :: _); rw [hlt, hkt]; exact S7)
theorem mend_C0 {qk qr : NodeW α} {l r : List α} {x y : α} {kb : Nat} {a1 : Option Addr} {c1 : Nat} (hk : okO 1 d qk l) (hr : okN 2 d qr r) (hk1 : qk.items.length < 2) (h3 : 3 ≤ qr.items.length) (hy : qr.items[0]? = some y) (h0 : (qr.kids.map Prod.fst).length = 0)
    (S : Sat W w (blk kb (.cells #[.slice a1 (qk.items ++ [x]).length c1, .slice qk.ak (qk.kids.map Prod.fst).length qk.ck] TN (0, 0)) :: row eI.T eI.sz a1 (qk.items ++ [x]).length c1 (flat eI (qk.items ++ [x])) :: row eK.T eK.sz qk.ak (qk.kids.map Prod.fst).length qk.ck (flat eK (qk.kids.map Prod.fst)) :: blk rb (.cells #[.slice qr.a (qr.items.drop 1).length qr.c, .slice qr.ak (qr.kids.map Prod.fst).length qr.ck] TN (0, 0)) :: row eI.T eI.sz qr.a (qr.items.drop 1).length qr.c (flat eI (qr.items.drop 1)) :: row eK.T eK.sz qr.ak (qr.kids.map Prod.fst).length qr.ck (flat eK (qr.kids.map Prod.fst)) :: kidsR eI eK TN d qk.kids :: kidsR eI eK TN d qr.kids :: L)) : ∃ l' r', l ++ x :: r = l' ++ y :: r' ∧ Sat W w (nodeR eI eK TN d 2 kb l' :: nodeR eI eK TN d 2 rb r' :: L) := by
  have hrk : qr.kids = [] := List.eq_nil_of_length_eq_zero (by rwa [List.length_map] at h0)
  have hd : d = 0 := by
    rcases hr.sh with ⟨h, _⟩ | ⟨_, h, _⟩
    · exact h
    · rw [hrk] at h; simp at h
  have hkk := lax_leaf hk hd
  have h5 := hr.le
  have hm := hk.mn
  have hrd : (qr.items.drop 1).length = qr.items.length - 1 := by rw [List.length_drop]
  have hkl : (qk.items ++ [x]).length = qk.items.length + 1 := by rw [List.length_append]; rfl
  have e2 : qr.items = y :: (qr.items.drop 1) := by have h9 := drop_at hy; rw [List.drop_zero] at h9; exact h9
  refine ⟨qk.items ++ [x], (qr.items.drop 1), ?_, ?_⟩
  · rw [hr.is, hk.is, hrk, hkk]
    show qk.items ++ x :: qr.items = _
    conv => lhs; rw [e2]
    simp
  · have S2 := nodeMk (eI := eI) (eK := eK) (TN := TN) (b := kb) (mn := 2) (xs := qk.items ++ [x]) ⟨a1, c1, qk.ak, qk.ck, qk.items ++ [x], qk.kids⟩ ⟨by show 2 ≤ (qk.items ++ [x]).length; omega, by show (qk.items ++ [x]).length ≤ 5; omega, by show qk.items ++ [x] = weave (qk.kids.map Prod.snd) (qk.items ++ [x]); rw [hkk]; rfl, .inl ⟨hd, hkk⟩⟩ ((((((((S.perm p7).perm p6).perm p6).perm p6).perm p7).perm p7).perm p7).perm p7)
    have S4 := nodeMk (eI := eI) (eK := eK) (TN := TN) (b := rb) (mn := 2) (xs := (qr.items.drop 1)) ⟨qr.a, qr.c, qr.ak, qr.ck, (qr.items.drop 1), qr.kids⟩ ⟨by show 2 ≤ (qr.items.drop 1).length; omega, by show (qr.items.drop 1).length ≤ 5; omega, by show (qr.items.drop 1) = weave (qr.kids.map Prod.snd) (qr.items.drop 1); rw [hrk]; rfl, .inl ⟨hd, hrk⟩⟩ ((((S2.perm p4).perm p4).perm p4).perm p4)
    exact (S4.perm p1)
theorem mend_C1 {qk qr : NodeW α} {l r : List α} {x y : α} {kb : Nat} {a1 : Option Addr} {c1 : Nat} {a2 : Option Addr} {c2 g : Nat} (hk : okO 1 d qk l) (hr : okN 2 d qr r) (hk1 : qk.items.length < 2) (h3 : 3 ≤ qr.items.length) (hy : qr.items[0]? = some y) (hg : (qr.kids.map Prod.fst)[0]? = some g)
    (S : Sat W w (blk kb (.cells #[.slice a1 (qk.items ++ [x]).length c1, .slice a2 ((qk.kids.map Prod.fst) ++ [g]).length c2] TN (0, 0)) :: row eI.T eI.sz a1 (qk.items ++ [x]).length c1 (flat eI (qk.items ++ [x])) :: row eK.T eK.sz a2 ((qk.kids.map Prod.fst) ++ [g]).length c2 (flat eK ((qk.kids.map Prod.fst) ++ [g])) :: blk rb (.cells #[.slice qr.a (qr.items.drop 1).length qr.c, .slice qr.ak ((qr.kids.map Prod.fst).drop 1).length qr.ck] TN (0, 0)) :: row eI.T eI.sz qr.a (qr.items.drop 1).length qr.c (flat eI (qr.items.drop 1)) :: row eK.T eK.sz qr.ak ((qr.kids.map Prod.fst).drop 1).length qr.ck (flat eK ((qr.kids.map Prod.fst).drop 1)) :: kidsR eI eK TN d qk.kids :: kidsR eI eK TN d qr.kids :: L)) : ∃ l' r', l ++ x :: r = l' ++ y :: r' ∧ Sat W w (nodeR eI eK TN d 2 kb l' :: nodeR eI eK TN d 2 rb r' :: L) := by
  have hgl := (List.getElem?_eq_some_iff.1 hg).1
  rw [List.length_map] at hgl
  have hd : d ≠ 0 := by
    rcases hr.sh with ⟨_, h⟩ | ⟨h, _, _⟩
    · rw [h] at hgl; simp at hgl
    · exact h
  have hrl := lax_kids hr.lax hd
  have hkl2 := lax_kids hk hd
  have h5 := hr.le
  have hm := hk.mn
  have hrd : (qr.items.drop 1).length = qr.items.length - 1 := by rw [List.length_drop]
  have hkl : (qk.items ++ [x]).length = qk.items.length + 1 := by rw [List.length_append]; rfl
  have e2 : qr.items = y :: (qr.items.drop 1) := by have h9 := drop_at hy; rw [List.drop_zero] at h9; exact h9
  obtain ⟨gs, hgs⟩ : ∃ gs, qr.kids[0]? = some (g, gs) := by
    rw [List.getElem?_map, List.getElem?_eq_getElem hgl] at hg
    simp only [Option.map_some, Option.some.injEq] at hg
    exact ⟨(qr.kids[0]).2, by rw [List.getElem?_eq_getElem hgl, ← hg]⟩
  have e1 : qr.kids = (g, gs) :: (qr.kids.drop 1) := by have h9 := drop_at hgs; rw [List.drop_zero] at h9; exact h9
  have hdl : (qr.kids.drop 1).length = qr.kids.length - 1 := by rw [List.length_drop]
  have hne : (qr.kids.drop 1).map Prod.snd ≠ [] := fun h => by have := congrArg List.length h; rw [List.length_map, hdl] at this; simp at this; omega
  have hgk : (qk.kids ++ [(g, gs)]).length = qk.kids.length + 1 := by rw [List.length_append]; rfl
  refine ⟨weave ((qk.kids ++ [(g, gs)]).map Prod.snd) (qk.items ++ [x]), weave ((qr.kids.drop 1).map Prod.snd) (qr.items.drop 1), ?_, ?_⟩
  · have h7 : r = gs ++ y :: weave ((qr.kids.drop 1).map Prod.snd) (qr.items.drop 1) := by
      rw [hr.is]
      conv => lhs; rw [e1, e2]
      rw [List.map_cons, weave_first hne]
    have h8 : weave ((qk.kids ++ [(g, gs)]).map Prod.snd) (qk.items ++ [x]) = l ++ x :: gs := by
      rw [List.map_append, hk.is]
      exact weave_last (by rw [List.length_map]; exact hkl2)
    rw [h8, h7]; simp
  · have S0 : Sat W w (kidsR eI eK TN d qk.kids :: kidsR eI eK TN d qr.kids :: blk kb (.cells #[.slice a1 (qk.items ++ [x]).length c1, .slice a2 ((qk.kids.map Prod.fst) ++ [g]).length c2] TN (0, 0)) :: row eI.T eI.sz a1 (qk.items ++ [x]).length c1 (flat eI (qk.items ++ [x])) :: row eK.T eK.sz a2 ((qk.kids.map Prod.fst) ++ [g]).length c2 (flat eK ((qk.kids.map Prod.fst) ++ [g])) :: blk rb (.cells #[.slice qr.a (qr.items.drop 1).length qr.c, .slice qr.ak ((qr.kids.map Prod.fst).drop 1).length qr.ck] TN (0, 0)) :: row eI.T eI.sz qr.a (qr.items.drop 1).length qr.c (flat eI (qr.items.drop 1)) :: row eK.T eK.sz qr.ak ((qr.kids.map Prod.fst).drop 1).length qr.ck (flat eK ((qr.kids.map Prod.fst).drop 1)) :: L) := ((((((((S.perm p5).perm p5).perm p5).perm p5).perm p5).perm p5).perm p7).perm p7)
    have S1 := Sat.kids_move (a' := (qk.kids ++ [(g, gs)])) (b' := (qr.kids.drop 1)) (by
      conv => lhs; rw [e1]
      rw [List.append_assoc]; exact List.Perm.refl _) S0
    have f1 : (qk.kids.map Prod.fst) ++ [g] = (qk.kids ++ [(g, gs)]).map Prod.fst := by rw [List.map_append]; rfl
    have f2 : (qr.kids.map Prod.fst).drop 1 = (qr.kids.drop 1).map Prod.fst := by rw [List.map_drop]
    rw [f1, f2] at S1
    have S2 := nodeMk (eI := eI) (eK := eK) (TN := TN) (b := kb) (mn := 2) (xs := weave ((qk.kids ++ [(g, gs)]).map Prod.snd) (qk.items ++ [x])) ⟨a1, c1, a2, c2, qk.items ++ [x], (qk.kids ++ [(g, gs)])⟩ ⟨by show 2 ≤ (qk.items ++ [x]).length; omega, by show (qk.items ++ [x]).length ≤ 5; omega, rfl, .inr ⟨hd, by show (qk.kids ++ [(g, gs)]).length = (qk.items ++ [x]).length + 1; omega, by show 1 ≤ (qk.items ++ [x]).length; omega⟩⟩ ((((((((S1.perm p1).perm p7).perm p7).perm p7).perm p4).perm p7).perm p7).perm p7)
    have S4 := nodeMk (eI := eI) (eK := eK) (TN := TN) (b := rb) (mn := 2) (xs := weave ((qr.kids.drop 1).map Prod.snd) (qr.items.drop 1)) ⟨qr.a, qr.c, qr.ak, qr.ck, (qr.items.drop 1), (qr.kids.drop 1)⟩ ⟨by show 2 ≤ (qr.items.drop 1).length; omega, by show (qr.items.drop 1).length ≤ 5; omega, rfl, .inr ⟨hd, by show (qr.kids.drop 1).length = (qr.items.drop 1).length + 1; omega, by show 1 ≤ (qr.items.drop 1).length; omega⟩⟩ ((((S2.perm p4).perm p4).perm p4).perm p4)
    exact (S4.perm p1)
theorem mend_D {qa qb : NodeW α} {l r : List α} {x : α} {a1 a2 : Option Addr} {c1 c2 : Nat} (ha : okO 1 d qa l) (hb : okO 1 d qb r) (hab : qa.items.length + qb.items.length ≤ 4)
    (S : Sat W w (blk lb (.cells #[.slice a1 ((qa.items ++ [x]) ++ qb.items).length c1, .slice a2 (qa.kids.map Prod.fst ++ qb.kids.map Prod.fst).length c2] TN (0, 0)) :: row eI.T eI.sz a1 ((qa.items ++ [x]) ++ qb.items).length c1 (flat eI ((qa.items ++ [x]) ++ qb.items)) :: row eK.T eK.sz a2 (qa.kids.map Prod.fst ++ qb.kids.map Prod.fst).length c2 (flat eK (qa.kids.map Prod.fst ++ qb.kids.map Prod.fst)) :: kidsR eI eK TN d qa.kids :: kidsR eI eK TN d qb.kids :: L)) : Sat W w (nodeR eI eK TN d 2 lb (l ++ x :: r) :: L) := by
  have h1 := ha.mn
  have h2 := hb.mn
  have hlen : ((qa.items ++ [x]) ++ qb.items).length = qa.items.length + 1 + qb.items.length := by rw [List.length_append, List.length_append]; rfl
  have S1 : Sat W w (kidsR eI eK TN d (qa.kids ++ qb.kids) :: blk lb (.cells #[.slice a1 ((qa.items ++ [x]) ++ qb.items).length c1, .slice a2 (qa.kids.map Prod.fst ++ qb.kids.map Prod.fst).length c2] TN (0, 0)) :: row eI.T eI.sz a1 ((qa.items ++ [x]) ++ qb.items).length c1 (flat eI ((qa.items ++ [x]) ++ qb.items)) :: row eK.T eK.sz a2 (qa.kids.map Prod.fst ++ qb.kids.map Prod.fst).length c2 (flat eK (qa.kids.map Prod.fst ++ qb.kids.map Prod.fst)) :: L) := Sat.kids_join (((((S.perm p2).perm p2).perm p2).perm p4).perm p4)
  rw [← List.map_append] at S1
  refine nodeMk (eI := eI) (eK := eK) (TN := TN) (b := lb) (mn := 2) ⟨a1, c1, a2, c2, ((qa.items ++ [x]) ++ qb.items), qa.kids ++ qb.kids⟩ ⟨by show 2 ≤ ((qa.items ++ [x]) ++ qb.items).length; omega, by show ((qa.items ++ [x]) ++ qb.items).length ≤ 5; omega, ?_, ?_⟩ (((S1.perm p3).perm p3).perm p3)
  · show l ++ x :: r = weave ((qa.kids ++ qb.kids).map Prod.snd) ((qa.items ++ [x]) ++ qb.items)
    rw [ha.is, hb.is, List.map_append, List.append_assoc]
    refine (weave_item (A := qa.kids.map Prod.snd) (B := qb.kids.map Prod.snd) (C := qa.items) (D := qb.items) ?_).symm
    by_cases hd : d = 0
    · exact .inl ⟨by rw [lax_leaf ha hd]; rfl, by rw [lax_leaf hb hd]; rfl⟩
    · refine .inr ⟨by rw [List.length_map]; exact lax_kids ha hd, fun h => ?_⟩
      have h3 := lax_kids hb hd
      have h4 := congrArg List.length h
      rw [List.length_map, h3] at h4
      simp at h4
  · by_cases hd : d = 0
    · exact .inl ⟨hd, by show qa.kids ++ qb.kids = []; rw [lax_leaf ha hd, lax_leaf hb hd]; rfl⟩
    · exact .inr ⟨hd, by show (qa.kids ++ qb.kids).length = ((qa.items ++ [x]) ++ qb.items).length + 1; rw [List.length_append, lax_kids ha hd, lax_kids hb hd]; omega, by show 1 ≤ ((qa.items ++ [x]) ++ qb.items).length; omega⟩
end
end
section
set_option linter.unusedVariables false
set_option linter.unusedSimpArgs false
set_option maxRecDepth 10000
open Go.RowKit Classical
theorem mendok_A {W : World} {F : List Res} {d b kb i : Nat} {its : List ItA} {ks : List (Nat × List ItA)} {ys : List ItA} {na nka : Option Addr} {nc nkc : Nat} (h5 : its.length ≤ 5) (h1 : 1 ≤ its.length) (hl : ks.length = its.length + 1) (hk : ks[i]? = some (kb, ys)) : CS Try.prog 73 #[.pointer (some ⟨b, 0, none⟩), .int .i64 (i : Int)] W (blk b (.cells #[.slice na its.length nc, .slice nka (ks.map Prod.fst).length nkc] 103 (0, 0)) :: row e_ItA.T e_ItA.sz na its.length nc (flat e_ItA its) :: row eN99.T eN99.sz nka (ks.map Prod.fst).length nkc (flat eN99 (ks.map Prod.fst)) :: nodeO e_ItA eN99 103 d 1 kb ys :: kidsR e_ItA eN99 103 (d + 1) (ks.eraseIdx i) :: F) (fun _ L' => L' = nodeO e_ItA eN99 103 (d + 1) (its.length - 1) b (weave (ks.map Prod.snd) its) :: F) := by
  have hkm : (ks.map Prod.fst).length = its.length + 1 := by rw [List.length_map]; exact hl
  have hkf : (ks.map Prod.fst)[i]? = some kb := by rw [List.getElem?_map, hk]; rfl
  have fst_of : ∀ {j c : Nat} {z : List ItA}, ks[j]? = some (c, z) → (ks.map Prod.fst)[j]? = some c := fun h => by rw [List.getElem?_map, h]; rfl
  have k6 : ∀ {q : NodeW ItA} {mn : Nat} {z : List ItA}, okO mn d q z → (q.kids.map Prod.fst).length ≤ 6 ∧ (0 < (q.kids.map Prod.fst).length → (q.kids.map Prod.fst).length = q.items.length + 1) := fun {q mn z} h => by
    rw [List.length_map]; have h9 := h.le
    rcases h.sh with ⟨_, h8⟩ | ⟨_, h8⟩
    · rw [h8]; simp
    · exact ⟨by omega, fun _ => h8⟩
  refine csOpens (X := NodeW ItA) (p := fun q => okO 1 d q ys) (LL := fun qk => blk b (.cells #[.slice na its.length nc, .slice nka (ks.map Prod.fst).length nkc] 103 (0, 0)) :: row e_ItA.T e_ItA.sz na its.length nc (flat e_ItA its) :: row eN99.T eN99.sz nka (ks.map Prod.fst).length nkc (flat eN99 (ks.map Prod.fst)) :: blk kb (.cells #[.slice qk.a qk.items.length qk.c, .slice qk.ak (qk.kids.map Prod.fst).length qk.ck] 103 (0, 0)) :: row e_ItA.T e_ItA.sz qk.a qk.items.length qk.c (flat e_ItA qk.items) :: row eN99.T eN99.sz qk.ak (qk.kids.map Prod.fst).length qk.ck (flat eN99 (qk.kids.map Prod.fst)) :: kidsR e_ItA eN99 103 d qk.kids :: kidsR e_ItA eN99 103 (d + 1) (ks.eraseIdx i) :: F) (fun w S => ?_) fun qk hqk => ?_
  · obtain ⟨q, hq, S1⟩ := nodeO_open (((((S.perm p4).perm p3).perm p3).perm p3).perm p4)
    exact ⟨q, hq, ((((((((S1.perm p7).perm p4).perm p4).perm p4).perm p4).perm p7).perm p7).perm p7)⟩
  have hk5 := hqk.le
  have hkm1 := hqk.mn
  have hk6 := (k6 hqk).1
  by_cases hA : 2 ≤ qk.items.length
  · refine csWeak (mendA_A (F := kidsR e_ItA eN99 103 d qk.kids :: kidsR e_ItA eN99 103 (d + 1) (ks.eraseIdx i) :: F) hkf hA h5 hkm hk5 hk6) ?_
    rintro v L' rfl
    refine ⟨_, rfl, fun w S => ?_⟩
    have S1 := nodeMk (eI := e_ItA) (eK := eN99) (TN := 103) (b := kb) (mn := 2) qk ((hqk.mono hA).full (by omega)) ((((((((S.perm p7).perm p3).perm p3).perm p3).perm p7).perm p7).perm p7).perm p7)
    have S2 := Sat.kid_back (d := d + 1) hk (((((S1.perm p3).perm p3).perm p3).perm p4).perm p4)
    exact nodeO_mk ⟨na, nc, nka, nkc, its, ks⟩ ⟨by show its.length - 1 ≤ its.length; omega, h5, rfl, .inr ⟨Nat.succ_ne_zero _, hl⟩⟩ (((S2.perm p3).perm p3).perm p3)
  have hk1 : qk.items.length < 2 := by omega
  rcases i with _ | j
  · obtain ⟨⟨rb, r⟩, hr⟩ : ∃ z, ks[0 + 1]? = some z := ⟨_, List.getElem?_eq_getElem (by omega)⟩
    have hrf := fst_of hr
    refine csOpens (X := NodeW ItA) (p := fun q => okN 2 d q r) (LL := fun qr => blk b (.cells #[.slice na its.length nc, .slice nka (ks.map Prod.fst).length nkc] 103 (0, 0)) :: row e_ItA.T e_ItA.sz na its.length nc (flat e_ItA its) :: row eN99.T eN99.sz nka (ks.map Prod.fst).length nkc (flat eN99 (ks.map Prod.fst)) :: blk kb (.cells #[.slice qk.a qk.items.length qk.c, .slice qk.ak (qk.kids.map Prod.fst).length qk.ck] 103 (0, 0)) :: row e_ItA.T e_ItA.sz qk.a qk.items.length qk.c (flat e_ItA qk.items) :: row eN99.T eN99.sz qk.ak (qk.kids.map Prod.fst).length qk.ck (flat eN99 (qk.kids.map Prod.fst)) :: blk rb (.cells #[.slice qr.a qr.items.length qr.c, .slice qr.ak (qr.kids.map Prod.fst).length qr.ck] 103 (0, 0)) :: row e_ItA.T e_ItA.sz qr.a qr.items.length qr.c (flat e_ItA qr.items) :: row eN99.T eN99.sz qr.ak (qr.kids.map Prod.fst).length qr.ck (flat eN99 (qr.kids.map Prod.fst)) :: kidsR e_ItA eN99 103 d qk.kids :: kidsR e_ItA eN99 103 d qr.kids :: kidsR e_ItA eN99 103 (d + 1) (ks.take 0 ++ ks.drop (0 + 2)) :: F) (fun w S => ?_) fun qr hqr => ?_
    · have S1 := Sat.kids_perm (erase_right hr) ((((((((S.perm p6).perm p6).perm p6).perm p6).perm p6).perm p6).perm p6).perm p7)
      have S2 := Sat.stars_cons (A := kidR e_ItA eN99 103 (d + 1) (rb, r)) (Rs := (ks.take 0 ++ ks.drop (0 + 2)).map (kidR e_ItA eN99 103 (d + 1))) S1
      obtain ⟨q, hq, S3⟩ := nodeOpen (d := d) (mn := 2) (b := rb) (xs := r) S2
      exact ⟨q, hq, ((((((((((((S3.perm p4).perm p4).perm p11).perm p5).perm p5).perm p5).perm p11).perm p11).perm p11).perm p11).perm p11).perm p11)⟩
    have hr5 := hqr.le
    have hr6 := k6 hqr.lax
    by_cases h3 : 3 ≤ qr.items.length
    · refine csWeak (mendC0_A (F := kidsR e_ItA eN99 103 d qk.kids :: kidsR e_ItA eN99 103 d qr.kids :: kidsR e_ItA eN99 103 (d + 1) (ks.take 0 ++ ks.drop (0 + 2)) :: F) (j := 0) hkf hrf hk1 h3 hr5 hr6.2 rfl h5 hkm hk5 hk6) ?_
      rintro v L' ⟨x, y, a1, c1, hx, hy, (⟨h0, rfl⟩ | ⟨a2, c2, g, hg, rfl⟩)⟩
      · refine ⟨_, rfl, fun w S => ?_⟩
        obtain ⟨l', r', he, S2⟩ := mend_C0 hqk hqr hk1 h3 hy h0 ((((((((((((S.perm p11).perm p3).perm p3).perm p3).perm p11).perm p11).perm p11).perm p11).perm p11).perm p11).perm p11).perm p11)
        exact mend_pack2 h5 hl hk hr hx he ((((((S2.perm p5).perm p2).perm p2).perm p5).perm p5).perm p5)
      · refine ⟨_, rfl, fun w S => ?_⟩
        obtain ⟨l', r', he, S2⟩ := mend_C1 hqk hqr hk1 h3 hy hg ((((((((((((S.perm p11).perm p3).perm p3).perm p3).perm p11).perm p11).perm p11).perm p11).perm p11).perm p11).perm p11).perm p11)
        exact mend_pack2 h5 hl hk hr hx he ((((((S2.perm p5).perm p2).perm p2).perm p5).perm p5).perm p5)
    · refine csWeak (mendD0_A (F := kidsR e_ItA eN99 103 d qk.kids :: kidsR e_ItA eN99 103 d qr.kids :: kidsR e_ItA eN99 103 (d + 1) (ks.take 0 ++ ks.drop (0 + 2)) :: F) (j := 0) hkf hrf hk1 rfl (by omega) hr6.1 h5 hkm hk5 hk6) ?_
      rintro v L' ⟨x, a1, c1, a2, c2, hx, rfl⟩
      refine ⟨_, rfl, fun w S => ?_⟩
      have S2 := mend_D hqk (hqr.lax.mono (by have := hqr.mn; omega)) (by omega) (((((((((S.perm p8).perm p3).perm p3).perm p3).perm p8).perm p8).perm p8).perm p8).perm p8)
      exact mend_pack1 h5 hl hk hr hx (((((S2.perm p4).perm p1).perm p4).perm p4).perm p4)
  · obtain ⟨⟨lb, l⟩, hlb⟩ : ∃ z, ks[j]? = some z := ⟨_, List.getElem?_eq_getElem (by have := (List.getElem?_eq_some_iff.1 hk).1; omega)⟩
    have hlf := fst_of hlb
    have hjl := (List.getElem?_eq_some_iff.1 hk).1
    refine csOpens (X := NodeW ItA) (p := fun q => okN 2 d q l) (LL := fun ql => blk b (.cells #[.slice na its.length nc, .slice nka (ks.map Prod.fst).length nkc] 103 (0, 0)) :: row e_ItA.T e_ItA.sz na its.length nc (flat e_ItA its) :: row eN99.T eN99.sz nka (ks.map Prod.fst).length nkc (flat eN99 (ks.map Prod.fst)) :: blk kb (.cells #[.slice qk.a qk.items.length qk.c, .slice qk.ak (qk.kids.map Prod.fst).length qk.ck] 103 (0, 0)) :: row e_ItA.T e_ItA.sz qk.a qk.items.length qk.c (flat e_ItA qk.items) :: row eN99.T eN99.sz qk.ak (qk.kids.map Prod.fst).length qk.ck (flat eN99 (qk.kids.map Prod.fst)) :: blk lb (.cells #[.slice ql.a ql.items.length ql.c, .slice ql.ak (ql.kids.map Prod.fst).length ql.ck] 103 (0, 0)) :: row e_ItA.T e_ItA.sz ql.a ql.items.length ql.c (flat e_ItA ql.items) :: row eN99.T eN99.sz ql.ak (ql.kids.map Prod.fst).length ql.ck (flat eN99 (ql.kids.map Prod.fst)) :: kidsR e_ItA eN99 103 d qk.kids :: kidsR e_ItA eN99 103 d ql.kids :: kidsR e_ItA eN99 103 (d + 1) (ks.take j ++ ks.drop (j + 2)) :: F) (fun w S => ?_) fun ql hql => ?_
    · have S1 := Sat.kids_perm (erase_left hlb) ((((((((S.perm p6).perm p6).perm p6).perm p6).perm p6).perm p6).perm p6).perm p7)
      have S2 := Sat.stars_cons (A := kidR e_ItA eN99 103 (d + 1) (lb, l)) (Rs := (ks.take j ++ ks.drop (j + 2)).map (kidR e_ItA eN99 103 (d + 1))) S1
      obtain ⟨q, hq, S3⟩ := nodeOpen (d := d) (mn := 2) (b := lb) (xs := l) S2
      exact ⟨q, hq, ((((((((((((S3.perm p4).perm p4).perm p11).perm p5).perm p5).perm p5).perm p11).perm p11).perm p11).perm p11).perm p11).perm p11)⟩
    have hl5 := hql.le
    have hl6 := k6 hql.lax
    refine csFact (p := ql.items.length ≤ ql.c ∧ ql.c ≤ maxLen) (fun w S => row_capL ((((((((((((S.perm p11).perm p11).perm p11).perm p11).perm p10).perm p10).perm p10).perm p10).perm p10).perm p10).perm p10).perm p11)) fun hc1 => ?_
    refine csFact (p := (ql.kids.map Prod.fst).length ≤ ql.ck ∧ ql.ck ≤ maxLen) (fun w S => row_capL ((((((((((((S.perm p11).perm p11).perm p11).perm p10).perm p10).perm p10).perm p10).perm p10).perm p10).perm p10).perm p10).perm p11)) fun hc2 => ?_
    simp only [maxLen] at hc1 hc2
    by_cases h3 : 3 ≤ ql.items.length
    · refine csWeak (mendB_A (F := kidsR e_ItA eN99 103 d qk.kids :: kidsR e_ItA eN99 103 d ql.kids :: kidsR e_ItA eN99 103 (d + 1) (ks.take j ++ ks.drop (j + 2)) :: F) hkf hlf hk1 h3 hl5 hl6.2 hc1 hc2 h5 hkm hk5 hk6) ?_
      rintro v L' ⟨x, y, a1, c1, hx, hy, (⟨h0, rfl⟩ | ⟨a2, c2, g, hg, rfl⟩)⟩
      · refine ⟨_, rfl, fun w S => ?_⟩
        obtain ⟨l', r', he, S2⟩ := mend_B0 e_ItA_ok hql hqk hk1 h3 hy h0 ((((((((((((S.perm p11).perm p3).perm p3).perm p3).perm p11).perm p11).perm p11).perm p11).perm p11).perm p11).perm p11).perm p11)
        exact mend_pack2 h5 hl hlb hk hx he ((((((S2.perm p5).perm p2).perm p2).perm p5).perm p5).perm p5)
      · refine ⟨_, rfl, fun w S => ?_⟩
        obtain ⟨l', r', he, S2⟩ := mend_B1 e_ItA_ok eN99_ok hql hqk hk1 h3 hy hg ((((((((((((S.perm p11).perm p3).perm p3).perm p3).perm p11).perm p11).perm p11).perm p11).perm p11).perm p11).perm p11).perm p11)
        exact mend_pack2 h5 hl hlb hk hx he ((((((S2.perm p5).perm p2).perm p2).perm p5).perm p5).perm p5)
    by_cases hrr : j + 1 + 1 < ks.length
    · obtain ⟨⟨rb, r⟩, hr⟩ : ∃ z, ks[j + 1 + 1]? = some z := ⟨_, List.getElem?_eq_getElem hrr⟩
      have hrf := fst_of hr
      have hp : (ks.take j ++ ks.drop (j + 2)).Perm ((rb, r) :: (ks.take j ++ ks.drop (j + 3))) := by rw [drop_at (j := j + 2) hr]; exact List.perm_middle
      refine csOpens (X := NodeW ItA) (p := fun q => okN 2 d q r) (LL := fun qr => blk b (.cells #[.slice na its.length nc, .slice nka (ks.map Prod.fst).length nkc] 103 (0, 0)) :: row e_ItA.T e_ItA.sz na its.length nc (flat e_ItA its) :: row eN99.T eN99.sz nka (ks.map Prod.fst).length nkc (flat eN99 (ks.map Prod.fst)) :: blk kb (.cells #[.slice qk.a qk.items.length qk.c, .slice qk.ak (qk.kids.map Prod.fst).length qk.ck] 103 (0, 0)) :: row e_ItA.T e_ItA.sz qk.a qk.items.length qk.c (flat e_ItA qk.items) :: row eN99.T eN99.sz qk.ak (qk.kids.map Prod.fst).length qk.ck (flat eN99 (qk.kids.map Prod.fst)) :: blk rb (.cells #[.slice qr.a qr.items.length qr.c, .slice qr.ak (qr.kids.map Prod.fst).length qr.ck] 103 (0, 0)) :: row e_ItA.T e_ItA.sz qr.a qr.items.length qr.c (flat e_ItA qr.items) :: row eN99.T eN99.sz qr.ak (qr.kids.map Prod.fst).length qr.ck (flat eN99 (qr.kids.map Prod.fst)) :: blk lb (.cells #[.slice ql.a ql.items.length ql.c, .slice ql.ak (ql.kids.map Prod.fst).length ql.ck] 103 (0, 0)) :: row e_ItA.T e_ItA.sz ql.a ql.items.length ql.c (flat e_ItA ql.items) :: row eN99.T eN99.sz ql.ak (ql.kids.map Prod.fst).length ql.ck (flat eN99 (ql.kids.map Prod.fst)) :: kidsR e_ItA eN99 103 d qk.kids :: kidsR e_ItA eN99 103 d ql.kids :: kidsR e_ItA eN99 103 d qr.kids :: kidsR e_ItA eN99 103 (d + 1) (ks.take j ++ ks.drop (j + 3)) :: F) (fun w S => ?_) fun qr hqr => ?_
      · have S1 := Sat.kids_perm hp ((((((((((((S.perm p10).perm p10).perm p10).perm p10).perm p10).perm p10).perm p10).perm p10).perm p10).perm p10).perm p10).perm p11)
        have S2 := Sat.stars_cons (A := kidR e_ItA eN99 103 (d + 1) (rb, r)) (Rs := (ks.take j ++ ks.drop (j + 3)).map (kidR e_ItA eN99 103 (d + 1))) S1
        obtain ⟨q, hq, S3⟩ := nodeOpen (d := d) (mn := 2) (b := rb) (xs := r) S2
        exact ⟨q, hq, ((((((((((((((((S3.perm p4).perm p4).perm p15).perm p15).perm p15).perm p15).perm p15).perm p9).perm p9).perm p9).perm p15).perm p15).perm p15).perm p15).perm p15).perm p15)⟩
      have hr5 := hqr.le
      have hr6 := k6 hqr.lax
      by_cases h4 : 3 ≤ qr.items.length
      · refine csWeak (mendC1_A (F := kidsR e_ItA eN99 103 d qk.kids :: kidsR e_ItA eN99 103 d ql.kids :: kidsR e_ItA eN99 103 d qr.kids :: kidsR e_ItA eN99 103 (d + 1) (ks.take j ++ ks.drop (j + 3)) :: F) (j := j + 1) hkf hrf hk1 h4 hr5 hr6.2 (by omega) hlf (by omega) h5 hkm hk5 hk6) ?_
        rintro v L' ⟨x, y, a1, c1, hx, hy, (⟨h0, rfl⟩ | ⟨a2, c2, g, hg, rfl⟩)⟩
        · refine ⟨_, rfl, fun w S => ?_⟩
          have S1 := nodeMk (eI := e_ItA) (eK := eN99) (TN := 103) (b := lb) (mn := 2) ql hql ((((((((((((((((S.perm p15).perm p15).perm p14).perm p11).perm p11).perm p11).perm p11).perm p11).perm p11).perm p11).perm p11).perm p11).perm p15).perm p15).perm p15).perm p15)
          have hp2 : ((lb, l) :: (ks.take j ++ ks.drop (j + 3))).Perm (ks.take (j + 1) ++ ks.drop (j + 1 + 2)) := by rw [take_snoc' hlb, List.append_assoc]; exact List.perm_middle.symm
          have S3 := Sat.kids_perm (ks' := (ks.take (j + 1) ++ ks.drop (j + 1 + 2))) hp2 (Sat.stars_uncons (A := kidR e_ItA eN99 103 (d + 1) (lb, l)) (Rs := (ks.take j ++ ks.drop (j + 3)).map (kidR e_ItA eN99 103 (d + 1))) (((((((((((((S1.perm p11).perm p11).perm p11).perm p11).perm p11).perm p11).perm p11).perm p11).perm p11).perm p11).perm p11).perm p12).perm p12))
          obtain ⟨l', r', he, S2⟩ := mend_C0 hqk hqr hk1 h4 hy h0 (((((((((((S3.perm p3).perm p3).perm p3).perm p11).perm p11).perm p11).perm p11).perm p11).perm p11).perm p11).perm p11)
          exact mend_pack2 h5 hl hk hr hx he ((((((S2.perm p5).perm p2).perm p2).perm p5).perm p5).perm p5)
        · refine ⟨_, rfl, fun w S => ?_⟩
          have S1 := nodeMk (eI := e_ItA) (eK := eN99) (TN := 103) (b := lb) (mn := 2) ql hql ((((((((((((((((S.perm p15).perm p15).perm p14).perm p11).perm p11).perm p11).perm p11).perm p11).perm p11).perm p11).perm p11).perm p11).perm p15).perm p15).perm p15).perm p15)
          have hp2 : ((lb, l) :: (ks.take j ++ ks.drop (j + 3))).Perm (ks.take (j + 1) ++ ks.drop (j + 1 + 2)) := by rw [take_snoc' hlb, List.append_assoc]; exact List.perm_middle.symm
          have S3 := Sat.kids_perm (ks' := (ks.take (j + 1) ++ ks.drop (j + 1 + 2))) hp2 (Sat.stars_uncons (A := kidR e_ItA eN99 103 (d + 1) (lb, l)) (Rs := (ks.take j ++ ks.drop (j + 3)).map (kidR e_ItA eN99 103 (d + 1))) (((((((((((((S1.perm p11).perm p11).perm p11).perm p11).perm p11).perm p11).perm p11).perm p11).perm p11).perm p11).perm p11).perm p12).perm p12))
          obtain ⟨l', r', he, S2⟩ := mend_C1 hqk hqr hk1 h4 hy hg (((((((((((S3.perm p3).perm p3).perm p3).perm p11).perm p11).perm p11).perm p11).perm p11).perm p11).perm p11).perm p11)
          exact mend_pack2 h5 hl hk hr hx he ((((((S2.perm p5).perm p2).perm p2).perm p5).perm p5).perm p5)
      · refine csWeak (CS.conv (fun w S => ((((((((((((((((S.perm p15).perm p15).perm p15).perm p15).perm p12).perm p12).perm p12).perm p15).perm p15).perm p15).perm p15).perm p15).perm p15).perm p15).perm p15).perm p15)) (mendD2_A (F := kidsR e_ItA eN99 103 d qk.kids :: kidsR e_ItA eN99 103 d ql.kids :: kidsR e_ItA eN99 103 d qr.kids :: kidsR e_ItA eN99 103 (d + 1) (ks.take j ++ ks.drop (j + 3)) :: F) hlf hkf hk1 (by omega) hl6.1 hrf (by omega) h5 hkm hk5 hk6)) ?_
        rintro v L' ⟨x, a1, c1, a2, c2, hx, rfl⟩
        refine ⟨_, rfl, fun w S => ?_⟩
        have S1 := nodeMk (eI := e_ItA) (eK := eN99) (TN := 103) (b := rb) (mn := 2) qr hqr (((((((((((((S.perm p12).perm p11).perm p11).perm p8).perm p8).perm p8).perm p8).perm p8).perm p8).perm p12).perm p12).perm p12).perm p12)
        have S3 := Sat.kids_perm hp.symm (Sat.stars_uncons (A := kidR e_ItA eN99 103 (d + 1) (rb, r)) (Rs := (ks.take j ++ ks.drop (j + 3)).map (kidR e_ItA eN99 103 (d + 1))) ((((((((((S1.perm p8).perm p8).perm p8).perm p8).perm p8).perm p8).perm p8).perm p8).perm p9).perm p9))
        have S2 := mend_D (hql.lax.mono (by have := hql.mn; omega)) hqk (by omega) ((((((((S3.perm p3).perm p3).perm p3).perm p7).perm p8).perm p8).perm p8).perm p8)
        exact mend_pack1 h5 hl hlb hk hx (((((S2.perm p4).perm p1).perm p4).perm p4).perm p4)
    · refine csWeak (mendD1_A (F := kidsR e_ItA eN99 103 d qk.kids :: kidsR e_ItA eN99 103 d ql.kids :: kidsR e_ItA eN99 103 (d + 1) (ks.take j ++ ks.drop (j + 2)) :: F) hlf hkf hk1 (by omega) hl6.1 (by rw [hkm]; omega) h5 hkm hk5 hk6) ?_
      rintro v L' ⟨x, a1, c1, a2, c2, hx, rfl⟩
      refine ⟨_, rfl, fun w S => ?_⟩
      have S2 := mend_D (hql.lax.mono (by have := hql.mn; omega)) hqk (by omega) (((((((((S.perm p8).perm p3).perm p3).perm p3).perm p7).perm p8).perm p8).perm p8).perm p8)
      exact mend_pack1 h5 hl hlb hk hx (((((S2.perm p4).perm p1).perm p4).perm p4).perm p4)
end
section
set_option linter.unusedVariables false
set_option linter.unusedSimpArgs false
open Go.RowKit Classical
section
variable {α κ β : Type} {key : α → κ} {lt : κ → κ → Prop} {val : α → β}
structure GetG (key : α → κ) (val : α → β) (xs : List α) (k : κ) (v : β) (ok : Bool) : Prop where
  has : ok = true ↔ ∃ y ∈ xs, key y = k
  val : ok = true → ∀ y ∈ xs, key y = k → val y = v
theorem weave_kid {kids : List (Nat × List α)} {items : List α} {i kb : Nat} {ys : List α} (hl : kids.length = items.length + 1) (hk : kids[i]? = some (kb, ys)) :
    weave (kids.map Prod.snd) items = preW ((kids.map Prod.snd).take i) (items.take i) ++ (ys ++ post (items.drop i) ((kids.map Prod.snd).drop (i + 1))) := by
  have hi := (List.getElem?_eq_some_iff.1 hk).1
  have hk2 : (kids.map Prod.snd)[i]? = some ys := by rw [List.getElem?_map, hk]; rfl
  conv => lhs; rw [take_get hk2, ← List.take_append_drop i items]
  exact weave_at (by rw [List.length_take, List.length_take, List.length_map]; omega)
theorem weave_kid_set {kids : List (Nat × List α)} {items : List α} {i kb : Nat} {ys : List α} (hl : kids.length = items.length + 1) (hi : i < kids.length) :
    weave ((kids.set i (kb, ys)).map Prod.snd) items = preW ((kids.map Prod.snd).take i) (items.take i) ++ (ys ++ post (items.drop i) ((kids.map Prod.snd).drop (i + 1))) := by
  rw [List.map_set, weave_set (by rw [List.length_map]; exact hl) (by omega)]
theorem weave_ne {kids : List (List α)} {items : List α} (h : items ≠ []) : weave kids items ≠ [] := by
  cases kids with
  | nil => exact h
  | cons k ks =>
    cases items with
    | nil => exact absurd rfl h
    | cons x its =>
      cases ks with
      | nil => show k ++ post (x :: its) [] ≠ []; simp [post]
      | cons k2 ks => show k ++ post (x :: its) (k2 :: ks) ≠ []; simp [post]
theorem last_kid {q : NodeW α} {mn d : Nat} {ys : List α} {x : α} {k kb : Nat} {zs : List α} (h : okN mn d q (ys ++ [x])) (hl : q.kids.length = q.items.length + 1) (hk : q.kids[k]? = some (kb, zs)) (hkl : k = q.items.length) (hz : zs ≠ []) :
    ∃ ws, zs = ws ++ [x] ∧ ys = weave ((q.kids.set k (kb, ws)).map Prod.snd) q.items := by
  have h1 := h.is
  rw [weave_kid hl hk] at h1
  have hp : post (q.items.drop k) ((q.kids.map Prod.snd).drop (k + 1)) = [] := by
    rw [List.drop_of_length_le (by omega), List.drop_of_length_le (by rw [List.length_map]; omega)]; rfl
  rw [hp, List.append_nil] at h1
  have hz2 : zs = zs.dropLast ++ [zs.getLast hz] := (List.dropLast_concat_getLast hz).symm
  rw [hz2, ← List.append_assoc] at h1
  have h2 := List.append_inj' h1 rfl
  have h3 : x = zs.getLast hz := by simpa using h2.2
  refine ⟨zs.dropLast, by rw [h3]; exact hz2, ?_⟩
  rw [weave_kid_set hl (List.getElem?_eq_some_iff.1 hk).1, hp, List.append_nil]
  exact h2.1
theorem last_leaf {q : NodeW α} {mn d : Nat} {ys : List α} {x : α} (h : okN mn d q (ys ++ [x])) (h0 : (q.kids.map Prod.fst).length = 0) : q.items = ys ++ [x] ∧ q.kids = [] ∧ d = 0 := by
  have hk : q.kids = [] := List.eq_nil_of_length_eq_zero (by rwa [List.length_map] at h0)
  refine ⟨by have := h.is; rw [hk] at this; exact this.symm, hk, ?_⟩
  rcases h.sh with ⟨h1, _⟩ | ⟨_, h1, _⟩
  · exact h1
  · rw [hk] at h1; simp at h1
theorem take_leaf (o : Sto lt) {q : NodeW α} {mn d : Nat} {xs : List α} {i : Nat} {y : α} {k : κ} (h : okN mn d q xs) (hs : Srt key lt xs) (h0 : (q.kids.map Prod.fst).length = 0) (hy : q.items[i]? = some y) (hk : key y = k) :
    okO (mn - 1) d ⟨q.a, q.c, q.ak, q.ck, q.items.take i ++ q.items.drop (i + 1), q.kids⟩ (del key k xs) ∧ ∀ v, val y = v → GetG key val xs k v true := by
  have hkk : q.kids = [] := List.eq_nil_of_length_eq_zero (by rwa [List.length_map] at h0)
  have hi := (List.getElem?_eq_some_iff.1 hy).1
  have hx : xs = q.items := by have := h.is; rw [hkk] at this; exact this
  have hlen : (q.items.take i ++ q.items.drop (i + 1)).length = q.items.length - 1 := by rw [List.length_append, List.length_take, List.length_drop]; omega
  have hm := h.mn
  have h5 := h.le
  have hyx : y ∈ xs := by rw [hx]; exact List.mem_of_getElem? hy
  have e := take_get hy
  have hs2 := hs
  rw [hx, e] at hs2
  have hp := List.pairwise_append.1 hs2
  have hq := List.pairwise_cons.1 hp.2.1
  refine ⟨⟨by show mn - 1 ≤ (q.items.take i ++ q.items.drop (i + 1)).length; omega, by show (q.items.take i ++ q.items.drop (i + 1)).length ≤ 5; omega, ?_, ?_⟩, fun v hv => ⟨⟨fun _ => ⟨y, hyx, hk⟩, fun _ => rfl⟩, fun _ z hz hkz => by rw [one_key o hs hz hyx (hkz.trans hk.symm)]; exact hv⟩⟩
  · show del key k xs = weave (q.kids.map Prod.snd) (q.items.take i ++ q.items.drop (i + 1))
    rw [hkk, hx]
    conv => lhs; rw [e]
    exact del_here hk (fun p hpp he => o.irr _ (by have := hp.2.2 p hpp y (by simp); rw [he, hk] at this; exact this)) (fun s hss he => o.irr _ (by have := hq.1 s hss; rw [he, hk] at this; exact this))
  · rcases h.sh with ⟨h1, h2⟩ | ⟨_, h2, _⟩
    · exact .inl ⟨h1, h2⟩
    · rw [hkk] at h2; simp at h2
theorem take_here (o : Sto lt) {q : NodeW α} {mn d : Nat} {xs : List α} {i kb : Nat} {ys : List α} {y x : α} {k : κ} (h : okN mn d q xs) (hs : Srt key lt xs) (hl : q.kids.length = q.items.length + 1) (hkid : q.kids[i]? = some (kb, ys ++ [x])) (hy : q.items[i]? = some y) (hk : key y = k) :
    del key k xs = weave ((q.kids.set i (kb, ys)).map Prod.snd) (q.items.set i x) ∧ ∀ v, val y = v → GetG key val xs k v true := by
  have hi := (List.getElem?_eq_some_iff.1 hy).1
  have hyx : y ∈ xs := by rw [h.is]; exact mem_weave_item h.sh.or hy
  refine ⟨?_, fun v hv => ⟨⟨fun _ => ⟨y, hyx, hk⟩, fun _ => rfl⟩, fun _ z hz hkz => by rw [one_key o hs hz hyx (hkz.trans hk.symm)]; exact hv⟩⟩
  have e1 := weave_kid hl hkid
  have hkl := (List.getElem?_eq_some_iff.1 hkid).1
  obtain ⟨⟨kb2, r⟩, hr⟩ : ∃ z, q.kids[i + 1]? = some z := ⟨_, List.getElem?_eq_getElem (by omega)⟩
  have hr2 : (q.kids.map Prod.snd)[i + 1]? = some r := by rw [List.getElem?_map, hr]; rfl
  have e2 : xs = preW ((q.kids.map Prod.snd).take i) (q.items.take i) ++ ((ys ++ [x]) ++ y :: (r ++ post (q.items.drop (i + 1)) ((q.kids.map Prod.snd).drop (i + 2)))) := by
    rw [h.is, e1, drop_at hy, drop_at hr2]; rfl
  have e3 : weave ((q.kids.set i (kb, ys)).map Prod.snd) (q.items.set i x) = preW ((q.kids.map Prod.snd).take i) (q.items.take i) ++ (ys ++ x :: (r ++ post (q.items.drop (i + 1)) ((q.kids.map Prod.snd).drop (i + 2)))) := by
    rw [weave_kid_set (by rw [List.length_set]; exact hl) hkl, set_at hy]
    have f1 : (q.items.take i ++ x :: q.items.drop (i + 1)).take i = q.items.take i := List.take_left' (by rw [List.length_take]; omega)
    have f2 : (q.items.take i ++ x :: q.items.drop (i + 1)).drop i = x :: q.items.drop (i + 1) := List.drop_left' (by rw [List.length_take]; omega)
    rw [f1, f2, drop_at hr2]; rfl
  rw [e3]
  have hs2 := hs
  rw [e2, ← List.append_assoc] at hs2
  have hp := List.pairwise_append.1 hs2
  have hq := List.pairwise_cons.1 hp.2.1
  rw [e2, ← List.append_assoc]
  rw [del_here hk (fun p hpp he => o.irr _ (by have := hp.2.2 p hpp y (by simp); rw [he, hk] at this; exact this)) (fun s hss he => o.irr _ (by have := hq.1 s hss; rw [he, hk] at this; exact this))]
  simp
theorem take_down (o : Sto lt) {q : NodeW α} {mn d : Nat} {xs : List α} {i kb : Nat} {ys : List α} {k : κ} {x : α} (hx : key x = k) (h : okN mn d q xs) (hs : Srt key lt xs) (hkid : q.kids[i]? = some (kb, ys)) (hf : Found key lt k q.items i) (hn : ¬ ∃ y, q.items[i]? = some y ∧ key y = k) :
    del key k xs = weave ((q.kids.set i (kb, del key k ys)).map Prod.snd) q.items ∧ Srt key lt ys ∧ ∀ v ok, GetG key val ys k v ok → GetG key val xs k v ok := by
  subst hx
  obtain ⟨A, B, hxs, hA, hB, h1, h2, hl, hd, hsy⟩ := kid_parts o h hs hkid hf hn
  have a1 : ∀ p ∈ A, ¬ key p = key x := fun p hp he => o.irr _ (he ▸ h1 p hp)
  have b1 : ∀ s ∈ B, ¬ key s = key x := fun s hp he => o.irr _ (he ▸ h2 s hp)
  have hin : ∀ y ∈ xs, key y = key x → y ∈ ys := fun y hy he => by
    rw [hxs] at hy
    rcases List.mem_append.1 hy with hy | hy
    · exact absurd he (a1 y hy)
    · rcases List.mem_append.1 hy with hy | hy
      · exact hy
      · exact absurd he (b1 y hy)
  refine ⟨?_, hsy, fun v ok g => ⟨g.has.trans ⟨fun ⟨y, hy, he⟩ => ⟨y, by rw [hxs]; simp [hy], he⟩, fun ⟨y, hy, he⟩ => ⟨y, hin y hy he, he⟩⟩, fun hok y hy he => g.val hok y (hin y hy he) he⟩⟩
  rw [weave_kid_set hl (List.getElem?_eq_some_iff.1 hkid).1, ← hA, ← hB, hxs, del_mid a1 b1]
theorem take_none (o : Sto lt) {q : NodeW α} {mn d i : Nat} {xs : List α} {k : κ} {v : β} (hq : okN mn d q xs) (hs : Srt key lt xs) (hF : Found key lt k q.items i) (hnf : ¬ ∃ y, q.items[i]? = some y ∧ key y = k) (h0 : (q.kids.map Prod.fst).length = 0) :
    del key k xs = xs ∧ GetG key val xs k v false := by
  have hkk : q.kids = [] := List.eq_nil_of_length_eq_zero (by rwa [List.length_map] at h0)
  have hno := leaf_none o hq hs hF hnf hkk
  exact ⟨del_none fun y hy he => hno ⟨y, hy, he⟩, ⟨fun h => (by cases h), fun h => absurd h hno⟩, fun h => (by cases h)⟩
end
section
variable {α : Type} {W w : World} {L : List Res} {eI : Enc α} {eK : Enc Nat} {TN mn mn' d b : Nat} {xs : List α}
theorem nodeO_mono (hm : mn' ≤ mn) (S : Sat W w (nodeO eI eK TN d mn b xs :: L)) : Sat W w (nodeO eI eK TN d mn' b xs :: L) := by
  obtain ⟨q, hq, S'⟩ := nodeO_open S
  exact nodeO_mk q (hq.mono (Nat.le_trans hm hq.mn)) S'
theorem node_lax (hm : mn' ≤ mn) (S : Sat W w (nodeR eI eK TN d mn b xs :: L)) : Sat W w (nodeO eI eK TN d mn' b xs :: L) := by
  obtain ⟨q, hq, S'⟩ := nodeOpen S
  exact nodeO_mk q (hq.lax.mono (Nat.le_trans hm hq.mn)) S'
theorem node_mono (hm : mn' ≤ mn) (S : Sat W w (nodeR eI eK TN d mn b xs :: L)) : Sat W w (nodeR eI eK TN d mn' b xs :: L) := by
  obtain ⟨q, hq, S'⟩ := nodeOpen S
  exact nodeMk q ⟨Nat.le_trans hm hq.mn, hq.le, hq.is, hq.sh⟩ S'
/-- A leaf without its last item. -/
theorem last_end {P : Program} (okI : EncOk P eI) {q : NodeW α} {ys : List α} {x : α} (h : okN mn d q (ys ++ [x])) (h0 : (q.kids.map Prod.fst).length = 0)
    (S : Sat W w (blk b (.cells #[.slice q.a (q.items.length - 1) q.c, .slice q.ak (q.kids.map Prod.fst).length q.ck] TN (0, 0)) :: row eI.T eI.sz q.a q.items.length q.c (flat eI q.items) :: row eK.T eK.sz q.ak (q.kids.map Prod.fst).length q.ck (flat eK (q.kids.map Prod.fst)) :: kidsR eI eK TN d q.kids :: L)) : Sat W w (nodeO eI eK TN d (mn - 1) b ys :: L) := by
  obtain ⟨e1, e2, hd⟩ := last_leaf h h0
  have hm := h.mn
  have h5 := h.le
  have hlen : q.items.length = ys.length + 1 := by rw [e1, List.length_append]; rfl
  have S1 := S.perm p1
  have hcap := row_capL S1
  by_cases hy : ys = []
  · -- nothing is left
    subst hy
    have S2 := S1.row_cut (n' := 0) (c' := q.c) (by omega) (by omega) (by omega) (by simp at hlen; omega)
    refine nodeO_mk ⟨q.a, q.c, q.ak, q.ck, [], q.kids⟩ ⟨by show mn - 1 ≤ 0; simp at hlen; omega, by show 0 ≤ 5; omega, by show [] = weave (q.kids.map Prod.snd) []; rw [e2]; rfl, .inl ⟨hd, e2⟩⟩ ?_
    show Sat W w (blk b (.cells #[.slice q.a 0 q.c, .slice q.ak (q.kids.map Prod.fst).length q.ck] TN (0, 0)) :: row eI.T eI.sz q.a 0 q.c (flat eI []) :: _)
    have h7 : q.items.length - 1 = 0 := by simp at hlen; omega
    rw [h7, Nat.zero_mul, List.take_zero] at S2
    exact S2.perm p1
  · have hyl : 0 < ys.length := by
      cases ys with
      | nil => exact absurd rfl hy
      | cons _ _ => simp
    have S2 := S1.row_cut (n' := q.items.length - 1) (c' := q.c) (by omega) (by omega) (by omega) (by omega)
    rw [← flat_take okI] at S2
    have h7 : q.items.take (q.items.length - 1) = ys := by rw [hlen, e1]; exact List.take_left' (by omega)
    have h8 : q.items.length - 1 = ys.length := by omega
    rw [h7, h8] at S2
    refine nodeO_mk ⟨q.a, q.c, q.ak, q.ck, ys, q.kids⟩ ⟨by show mn - 1 ≤ ys.length; omega, by show ys.length ≤ 5; omega, by show ys = weave (q.kids.map Prod.snd) ys; rw [e2]; rfl, .inl ⟨hd, e2⟩⟩ ?_
    exact S2.perm p1
/-- The root behind a key's being taken: it has items, or is a leaf, or is left with one kid. -/
theorem root_full {q : NodeW α} (h : okO 0 d q xs) (hn : ¬ (q.items.length = 0 ∧ (q.kids.map Prod.fst).length = 1)) : okN 0 d q xs := by
  refine ⟨Nat.zero_le _, h.le, h.is, ?_⟩
  rw [List.length_map] at hn
  rcases h.sh with h1 | ⟨h1, h2⟩
  · exact .inl h1
  · exact .inr ⟨h1, h2, by omega⟩
theorem root_kid {q : NodeW α} (h : okO 0 d q xs) (h0 : q.items.length = 0) (h1 : (q.kids.map Prod.fst).length = 1) : ∃ d' kb, d = d' + 1 ∧ q.kids = [(kb, xs)] := by
  rw [List.length_map] at h1
  obtain ⟨⟨kb, ys⟩, hk⟩ := List.length_eq_one_iff.1 h1
  have hi : q.items = [] := List.eq_nil_of_length_eq_zero h0
  have hd : d ≠ 0 := by
    rcases h.sh with ⟨_, h2⟩ | ⟨h2, _⟩
    · rw [hk] at h2; cases h2
    · exact h2
  refine ⟨d - 1, kb, by omega, ?_⟩
  have := h.is
  rw [hk, hi] at this
  simp [weave, post] at this
  rw [hk, this]
theorem node_ne (hm : 1 ≤ mn) (S : Sat W w (nodeR eI eK TN d mn b xs :: L)) : xs ≠ [] := by
  obtain ⟨q, hq, _⟩ := nodeOpen S
  rw [hq.is]
  refine weave_ne fun h => ?_
  have := hq.mn
  rw [h] at this
  simp at this; omega
theorem c_nodeO {P : Program} {N : FN} {l : Fr} {Q : Exit → Act → World → Prop} {cd : Code} (h : ∀ q : NodeW α, okO mn d q xs → WC P cd Q N l W (blk b (.cells #[.slice q.a q.items.length q.c, .slice q.ak (q.kids.map Prod.fst).length q.ck] TN (0, 0)) :: row eI.T eI.sz q.a q.items.length q.c (flat eI q.items) :: row eK.T eK.sz q.ak (q.kids.map Prod.fst).length q.ck (flat eK (q.kids.map Prod.fst)) :: kidsR eI eK TN d q.kids :: L)) : WC P cd Q N l W (nodeO eI eK TN d mn b xs :: L) := fun a w K S =>
  let ⟨q, hq, S'⟩ := nodeO_open S; h q hq a w K S'
theorem root_down {d' kb : Nat} {q : NodeW α} (hd : d = d' + 1) (hk : q.kids = [(kb, xs)]) (S : Sat W w (kidsR eI eK TN d q.kids :: L)) : Sat W w (nodeR eI eK TN d' 0 kb xs :: L) := by
  subst hd
  rw [hk] at S
  exact node_mono (Nat.zero_le 2) (Sat.stars_cons (A := kidR eI eK TN (d' + 1) (kb, xs)) (Rs := []) S |>.perm p1 |>.tail)
theorem del_len {κ β : Type} {key : α → κ} {lt : κ → κ → Prop} {val : α → β} (o : Sto lt) {k : κ} {v : β} {ok : Bool} (hs : Srt key lt xs) (g : GetG key val xs k v ok) : ((del key k xs).length : Int) = if ok = true then (xs.length : Int) - 1 else (xs.length : Int) := by
  by_cases h : ok = true
  · rw [if_pos h]
    obtain ⟨y, hy, he⟩ := g.has.1 h
    obtain ⟨i, hi, e⟩ := List.mem_iff_getElem.1 hy
    have e1 := take_get (List.getElem?_eq_some_iff.2 ⟨hi, e⟩)
    have hs2 := hs
    rw [e1] at hs2
    have hp := List.pairwise_append.1 hs2
    have hq := List.pairwise_cons.1 hp.2.1
    have h2 : del key k xs = xs.take i ++ xs.drop (i + 1) := by
      conv => lhs; rw [e1]
      exact del_here he (fun p hpp h9 => o.irr _ (by have := hp.2.2 p hpp y (by simp); rw [h9, he] at this; exact this)) (fun s hss h9 => o.irr _ (by have := hq.1 s hss; rw [h9, he] at this; exact this))
    rw [h2, List.length_append, List.length_take, List.length_drop]; omega
  · rw [if_neg h, del_none fun y hy he => h (g.has.2 ⟨y, hy, he⟩)]
theorem erase_set {ks : List α} {i : Nat} {x : α} : (ks.set i x).eraseIdx i = ks.eraseIdx i := by
  rw [List.eraseIdx_eq_take_drop_succ, List.eraseIdx_eq_take_drop_succ]
  congr 1
  · apply List.ext_getElem?; intro j; rw [List.getElem?_take, List.getElem?_take]; split
    · rw [List.getElem?_set_ne (by omega)]
    · rfl
  · apply List.ext_getElem?; intro j; rw [List.getElem?_drop, List.getElem?_drop, List.getElem?_set_ne (by omega)]
end
end
section
set_option linter.unusedVariables false
set_option linter.unusedSimpArgs false
set_option maxRecDepth 10000
open Go.RowKit Classical
theorem mendok2_A {W : World} {F : List Res} {d b kb i : Nat} {its : List ItA} {ks rest : List (Nat × List ItA)} {nk : List Nat} {ys : List ItA} {na nka : Option Addr} {nc nkc : Nat} (h5 : its.length ≤ 5) (h1 : 1 ≤ its.length) (hl : ks.length = its.length + 1) (hk : ks[i]? = some (kb, ys)) (hnk : nk = ks.map Prod.fst) (hre : rest = ks.eraseIdx i) : CS Try.prog 73 #[.pointer (some ⟨b, 0, none⟩), .int .i64 (i : Int)] W (blk b (.cells #[.slice na its.length nc, .slice nka nk.length nkc] 103 (0, 0)) :: row e_ItA.T e_ItA.sz na its.length nc (flat e_ItA its) :: row eN99.T eN99.sz nka nk.length nkc (flat eN99 nk) :: nodeO e_ItA eN99 103 d 1 kb ys :: kidsR e_ItA eN99 103 (d + 1) rest :: F) (fun _ L' => L' = nodeO e_ItA eN99 103 (d + 1) (its.length - 1) b (weave (ks.map Prod.snd) its) :: F) := by
  subst hnk hre
  exact mendok_A h5 h1 hl hk
end
end Go.Proofs.Ytnfbjidpiglabaa
