/- Texts of the proof: TakeA, PutA, TreA, TDelA, GetA, Storep, Clone, Default, Get6, Set6, Move6, Lastp, Great6. -/
import Derived.Test.YtnfbjidpiglabaaSLD
namespace Go.Proofs.Ytnfbjidpiglabaa
section
set_option linter.unusedVariables false
set_option linter.unusedSimpArgs false
set_option maxRecDepth 10000
open Go.RowKit Classical
def TakeSpec_A (d : Nat) : Prop := ∀ {W : World} {F : List Res} {mn b : Nat} {xs : List ItA} {k : ByteArray}, Srt ItA.f_key strlt xs → CS Try.prog 65 #[.pointer (some ⟨b, 0, none⟩), .string k] W (nodeR e_ItA eN99 103 d mn b xs :: F) (fun r L' => ∃ (v : Rec) (ok : Bool), GetG ItA.f_key ItA.f_value xs k v ok ∧ r = .tuple #[.agg #[.bool v.f_Has, .slice v.f_Value.a (v.f_Value.xs).length v.f_Value.c, .int .i64 v.f_Home, .int .u64 v.f_Count], .bool ok] ∧ L' = nodeO e_ItA eN99 103 d (mn - 1) b (del ItA.f_key k xs) :: F)
set_option maxHeartbeats 4000000 in
theorem take_step_A {d : Nat} (ih : ∀ d', d = d' + 1 → TakeSpec_A d') : TakeSpec_A d := by
 unfold TakeSpec_A
 intro W F mn b xs k srt
 refine f_door (l0 := [(0, .pointer (some ⟨b, 0, none⟩)), (1, .string k)]) Try.func65 Try.ntmps65 rfl rfl rfl ?_
 refine c_seq ?_
 refine c_region ?_
 refine o_alloc rfl ti36 fun b4 => ?_
 refine o_assign rfl rfl ?_
 refine l_nil ?_
 refine q_then ?_
 refine c_seq ?_
 refine c_conv (fun w S => S.perm p1) ?_
 refine c_node ?_
 rintro q hq
 have hle := hq.le
 have hsh := hq.sh
 have hmn := hq.mn
 have hsi := hq.srt strlt_sto srt
 have hkm6 : (q.kids.map Prod.fst).length ≤ 6 := by rw [List.length_map]; rcases hsh with ⟨_, h9⟩ | ⟨_, h9, _⟩ <;> rw [h9]; simp; omega
 refine c_conv (L' := blk b (.cells #[.slice q.a (q.items).length q.c, .slice q.ak ((q.kids.map Prod.fst)).length q.ck] 103 (0, 0)) :: row e_ItA.T e_ItA.sz q.a (q.items).length q.c (flat e_ItA q.items) :: row eN99.T eN99.sz q.ak ((q.kids.map Prod.fst)).length q.ck (flat eN99 (q.kids.map Prod.fst)) :: kidsR e_ItA eN99 103 d q.kids :: blk b4 (.cells #[.bool false, .slice none 0 0, .int .i64 0, .int .u64 0] 36 (0, 0)) :: F) (fun w S => S) ?_
 refine c_region ?_
 refine o_move rfl rfl ?_
 refine o_move rfl rfl ?_
 refine l_f1 ?_
 refine l_f1 ?_
 refine o_call rfl cal56 rfl (search_A (k := k) (by omega) hsi) ?_
 rintro _ _ ⟨i11, fd11, ⟨hF11, hfd11⟩, rfl, rfl⟩
 refine o_move rfl rfl ?_
 refine o_extract rfl rfl rfl ?_
 refine o_extract rfl rfl rfl ?_
 refine o_assign rfl rfl ?_
 refine o_assign rfl rfl ?_
 refine l_nil ?_
 refine q_then ?_
 refine c_seq ?_
 refine c_block ?_
 refine c_seq ?_
 have hfl := hF11.le
 refine c_region ?_
 refine o_move rfl rfl ?_
 refine o_move rfl rfl ?_
 refine l_split (t := 16) rfl (fun h1 => ?_) (fun h1 => ?_)
 · -- h1T
  have h1b := h1
  try simp only [decide_eq_true_eq, decide_eq_false_iff_not, Bool.not_eq_eq_eq_not, Bool.not_true, Bool.not_false, Bool.not_eq_true', Bool.not_eq_false', Int.not_lt, Int.not_le, Bool.or_eq_true, Bool.and_eq_true] at h1
  refine o_yes rfl rfl rfl ?_
  refine o_move rfl rfl ?_
  refine o_yes rfl rfl rfl ?_
  refine o_nil rfl rfl ?_
  refine o_yes rfl rfl rfl ?_
  refine o_fieldAddr (q := ⟨b, 1, none⟩) rfl rfl Try.underlying103 rfl ti101 rfl ?_
  refine o_yes rfl rfl rfl ?_
  refine o_load1 rfl rfl Try.underlying101 rfl (rd_mem 0 rfl rfl) ?_
  refine o_yes rfl rfl rfl ?_
  refine o_len rfl rfl Try.underlying101 ?_
  refine o_yes rfl rfl rfl ?_
  refine o_bin rfl rfl rfl b_eql ?_
  refine o_pick_true rfl rfl rfl ?_
  refine o_assign rfl rfl ?_
  refine l_nil ?_
  refine q_then ?_
  refine c_cond rfl (fun h2 => ?_) (fun h2 => ?_)
  · -- h2T
   have h2b := h2
   try simp only [decide_eq_true_eq] at h2
   refine c_seq ?_
   obtain ⟨yf, hyf, hky⟩ := hfd11.1 h1b
   have hil := (List.getElem?_eq_some_iff.1 hyf).1
   have h0 : (q.kids.map Prod.fst).length = 0 := by omega
   refine c_fact (p := ∃ ad, q.a = some ad) (rds_some (e := e_ItA) (xs := q.items) (rds_own e_ItA_ok 1 rfl) (by intro h0; rw [h0] at hyf; simp at hyf)) ?_
   rintro ⟨ad3, ead3⟩
   refine c_region ?_
   refine o_move rfl rfl ?_
   refine o_nil rfl rfl ?_
   refine o_fieldAddr (q := ⟨b, 0, none⟩) rfl rfl Try.underlying103 rfl ti100 rfl ?_
   refine o_load1 rfl rfl Try.underlying100 rfl (rd_mem 0 rfl rfl) ?_
   refine o_move rfl rfl ?_
   refine o_indexK e_ItA_ok ead3 rfl rfl rfl Try.underlying100 (by omega) (by omega) ?_
   obtain ⟨x29, hx29⟩ : ∃ x, (q.items)[((i11 : Int)).toNat]? = some x := ⟨_, List.getElem?_eq_getElem (by omega)⟩
   have e29 : x29 = yf := by rw [show q.items[i11]? = some x29 from hx29] at hyf; exact Option.some.inj hyf
   refine o_fieldAddr rfl rfl Try.underlying110 rfl ti36 (Addr.add_add' _ _ _) ?_
   refine o_loadn (vs := [.bool x29.f_value.f_Has, .slice x29.f_value.f_Value.a (x29.f_value.f_Value.xs).length x29.f_value.f_Value.c, .int .i64 x29.f_value.f_Home, .int .u64 x29.f_value.f_Count]) rfl rfl Try.underlying36 rfl ti36 (rdn_slo (n := 4) e_ItA_ok ead3 (rds_own e_ItA_ok 1 rfl) hx29 rfl) ?_
   refine l_eq (t := 31) (v' := .agg #[.bool yf.f_value.f_Has, .slice yf.f_value.f_Value.a (yf.f_value.f_Value.xs).length yf.f_value.f_Value.c, .int .i64 yf.f_value.f_Home, .int .u64 yf.f_value.f_Count]) rfl (by rw [e29] <;> rfl) ?_
   refine l_f4 ?_
   refine o_storen rfl rfl ti36 rfl rfl rfl rfl ?_
   refine l_nil ?_
   refine q_then ?_
   refine c_seq ?_
   refine c_region ?_
   refine o_move rfl rfl ?_
   refine o_move rfl rfl ?_
   refine o_nil rfl rfl ?_
   refine o_fieldAddr (q := ⟨b, 0, none⟩) rfl rfl Try.underlying103 rfl ti100 rfl ?_
   refine o_load1 rfl rfl Try.underlying100 rfl (rd_mem 1 rfl rfl) ?_
   refine o_move rfl rfl ?_
   refine o_move rfl rfl ?_
   refine o_bin rfl rfl rfl (b_add (show IntKind.i64.wrap ((i11 : Int) + 1) = ((i11 + 1 : Nat) : Int) from by rw [wrap_i64 (by omega) (by omega)]; omega)) ?_
   refine l_f2 ?_
   refine o_call rfl cal71 rfl (delI_A (xs := q.items) (i := i11) (j := (i11 + 1 : Nat)) (by omega) (by omega) (by omega)) ?_
   rintro _ _ ⟨rfl, rfl⟩
   refine o_nil rfl rfl ?_
   refine o_fieldAddr (q := ⟨b, 0, none⟩) rfl rfl Try.underlying103 rfl ti100 rfl ?_
   refine l_f2 ?_
   refine o_store1 rfl rfl rfl ti100 rfl rfl ?_
   refine l_nil ?_
   refine q_then ?_
   refine c_seq ?_
   refine c_region ?_
   refine o_loadn (vs := [_, _, _, _]) rfl rfl Try.underlying36 rfl ti36 (rdn_lit 2 rfl rfl) ?_
   refine l_f2 ?_
   refine o_storen rfl rfl ti36 rfl rfl rfl rfl ?_
   refine o_assign rfl rfl ?_
   refine l_nil ?_
   refine q_then ?_
   refine c_ret ?_
   refine q_block_ret ?_
   refine q_pass_ret ?_
   refine f_retq (.inl rfl) (rs_2 rfl (rs_celln (vs := [.bool yf.f_value.f_Has, .slice yf.f_value.f_Value.a (yf.f_value.f_Value.xs).length yf.f_value.f_Value.c, .int .i64 yf.f_value.f_Home, .int .u64 yf.f_value.f_Count]) rfl Try.underlying36 rfl ti36 (rdn_lit 0 rfl rfl)) (rs_tmp rfl)) (fun w S => ?_)
   replace S := S.tail
   exact ⟨_, ⟨ItA.f_value yf, true, (take_leaf (val := ItA.f_value) strlt_sto hq srt h0 hyf hky).2 _ rfl, rfl, rfl⟩, (fun w S => nodeO_mk _ (take_leaf (val := ItA.f_value) strlt_sto hq srt h0 hyf hky).1 S) w S⟩
  · -- h2F
   have h2b := h2
   try simp only [decide_eq_false_iff_not, Int.not_lt, Int.not_le] at h2
   refine c_seq ?_
   refine c_region ?_
   refine o_move rfl rfl ?_
   refine l_eq (t := 45) (v' := .bool true) rfl (by first | (rw [h1b]; done) | (rw [h1b]; rfl)) ?_
   refine o_assign rfl rfl ?_
   refine l_nil ?_
   refine q_then ?_
   refine c_true rfl ?_
   refine c_seq ?_
   obtain ⟨yf, hyf, hky⟩ := hfd11.1 h1b
   have hil := (List.getElem?_eq_some_iff.1 hyf).1
   have hkl : q.kids.length = q.items.length + 1 := by rcases hsh with ⟨_, h9⟩ | ⟨_, h9, _⟩; exact absurd (show (q.kids.map Prod.fst).length = 0 by rw [h9]; rfl) (by omega); exact h9
   have hd0 : d ≠ 0 := by rcases hsh with ⟨_, h9⟩ | ⟨h9, _, _⟩; exact absurd (show (q.kids.map Prod.fst).length = 0 by rw [h9]; rfl) (by omega); exact h9
   have h1i : 1 ≤ q.items.length := by rcases hsh with ⟨_, h9⟩ | ⟨_, _, h9⟩; exact absurd (show (q.kids.map Prod.fst).length = 0 by rw [h9]; rfl) (by omega); exact h9
   have hkm : (q.kids.map Prod.fst).length = q.items.length + 1 := by rw [List.length_map]; exact hkl
   obtain ⟨⟨kb, zs⟩, hkid⟩ : ∃ z, q.kids[i11]? = some z := ⟨_, List.getElem?_eq_getElem (by omega)⟩
   have hkf : (q.kids.map Prod.fst)[i11]? = some kb := by rw [List.getElem?_map, hkid]; rfl
   obtain ⟨d', rfl⟩ : ∃ d', d = d' + 1 := ⟨d - 1, by omega⟩
   refine c_conv (fun w S => S.perm p3) ?_
   refine c_conv (L' := nodeR e_ItA eN99 103 d' 2 kb zs :: kidsR e_ItA eN99 103 (d' + 1) (q.kids.eraseIdx i11) :: _) (fun w S => Sat.kid_take hkid S) ?_
   refine c_fact (p := zs ≠ []) (fun w S => node_ne (by decide) S) fun hzs => ?_
   obtain ⟨ys, xw, rfl⟩ : ∃ ys x, zs = ys ++ [x] := ⟨_, _, (List.dropLast_concat_getLast hzs).symm⟩
   have hth := take_here (val := ItA.f_value) strlt_sto hq srt hkl hkid hyf hky
   refine c_fact (p := ∃ ad, q.a = some ad) (rds_some (e := e_ItA) (xs := q.items) (rds_own e_ItA_ok 3 rfl) (by intro h0; rw [h0] at hyf; simp at hyf)) ?_
   rintro ⟨ada, eada⟩
   refine c_fact (p := ∃ ad, q.ak = some ad) (rds_some (e := eN99) (xs := (q.kids.map Prod.fst)) (rds_own eN99_ok 4 rfl) (by intro h0; rw [h0] at hkm; simp at hkm)) ?_
   rintro ⟨adk, eadk⟩
   refine c_region ?_
   refine o_move rfl rfl ?_
   refine o_nil rfl rfl ?_
   refine o_fieldAddr (q := ⟨b, 0, none⟩) rfl rfl Try.underlying103 rfl ti100 rfl ?_
   refine o_load1 rfl rfl Try.underlying100 rfl (rd_mem 2 rfl rfl) ?_
   refine o_move rfl rfl ?_
   refine o_indexK e_ItA_ok eada rfl rfl rfl Try.underlying100 (by omega) (by omega) ?_
   obtain ⟨x51, hx51⟩ : ∃ x, (q.items)[((i11 : Int)).toNat]? = some x := ⟨_, List.getElem?_eq_getElem (by omega)⟩
   have e51 : x51 = yf := by rw [show q.items[i11]? = some x51 from hx51] at hyf; exact Option.some.inj hyf
   refine o_fieldAddr rfl rfl Try.underlying110 rfl ti36 (Addr.add_add' _ _ _) ?_
   refine o_loadn (vs := [.bool x51.f_value.f_Has, .slice x51.f_value.f_Value.a (x51.f_value.f_Value.xs).length x51.f_value.f_Value.c, .int .i64 x51.f_value.f_Home, .int .u64 x51.f_value.f_Count]) rfl rfl Try.underlying36 rfl ti36 (rdn_slo (n := 4) e_ItA_ok eada (rds_own e_ItA_ok 3 rfl) hx51 rfl) ?_
   refine l_eq (t := 53) (v' := .agg #[.bool yf.f_value.f_Has, .slice yf.f_value.f_Value.a (yf.f_value.f_Value.xs).length yf.f_value.f_Value.c, .int .i64 yf.f_value.f_Home, .int .u64 yf.f_value.f_Count]) rfl (by rw [e51] <;> rfl) ?_
   refine l_f5 ?_
   refine o_storen rfl rfl ti36 rfl rfl rfl rfl ?_
   refine l_nil ?_
   refine q_then ?_
   refine c_seq ?_
   refine c_mid (α := Unit) (fun z => [(0, .pointer (some ⟨b, 0, none⟩)), (1, .string k), (4, .pointer (some ⟨b4, 0, none⟩)), (5, .bool false), (6, .int .i64 (i11 : Int)), (7, .bool fd11), (8, .tuple #[.int .i64 (i11 : Int), .bool fd11]), (9, .pointer (some ⟨b, 0, none⟩)), (10, .string k), (11, .tuple #[.int .i64 (i11 : Int), .bool fd11]), (12, .int .i64 (i11 : Int)), (13, .bool fd11), (14, .bool (decide ((((q.kids.map Prod.fst)).length : Int) = 0))), (15, .bool fd11), (16, .bool true), (17, .pointer (some ⟨b, 0, none⟩)), (18, .pointer (some ⟨b, 0, none⟩)), (19, .pointer (some ⟨b, 1, none⟩)), (20, .slice q.ak ((q.kids.map Prod.fst)).length q.ck), (21, .int .i64 (((q.kids.map Prod.fst)).length : Int)), (22, .bool (decide ((((q.kids.map Prod.fst)).length : Int) = 0))), (23, .bool (decide ((((q.kids.map Prod.fst)).length : Int) = 0))), (44, .bool true), (45, .bool true), (46, .pointer (some ⟨b, 0, none⟩)), (47, .pointer (some ⟨b, 0, none⟩)), (48, .pointer (some ⟨b, 0, none⟩)), (49, .slice q.a ((q.items).set ((i11 : Int)).toNat xw).length q.c), (50, .int .i64 (i11 : Int)), (53, .agg #[.bool yf.f_value.f_Has, .slice yf.f_value.f_Value.a (yf.f_value.f_Value.xs).length yf.f_value.f_Value.c, .int .i64 yf.f_value.f_Home, .int .u64 yf.f_value.f_Count]), (54, .pointer (some ⟨b, 0, none⟩)), (55, .pointer (some ⟨b, 0, none⟩)), (56, .pointer (some ⟨b, 0, none⟩)), (57, .slice q.a ((q.items).set ((i11 : Int)).toNat xw).length q.c), (58, .int .i64 (i11 : Int)), (59, .pointer (some ⟨b, 0, none⟩)), (60, .pointer (some ⟨b, 0, none⟩)), (61, .pointer (some ⟨b, 1, none⟩)), (62, .slice q.ak ((q.kids.map Prod.fst)).length q.ck), (63, .int .i64 (i11 : Int)), (65, .pointer (some ⟨kb, 0, none⟩)), (66, .agg #[.string xw.f_key, .bool xw.f_value.f_Has, .slice xw.f_value.f_Value.a (xw.f_value.f_Value.xs).length xw.f_value.f_Value.c, .int .i64 xw.f_value.f_Home, .int .u64 xw.f_value.f_Count])]) (fun z => blk b (.cells #[.slice q.a ((q.items).set ((i11 : Int)).toNat xw).length q.c, .slice q.ak ((q.kids.map Prod.fst)).length q.ck] 103 (0, 0)) :: row e_ItA.T e_ItA.sz q.a ((q.items).set ((i11 : Int)).toNat xw).length q.c (flat e_ItA ((q.items).set ((i11 : Int)).toNat xw)) :: nodeO e_ItA eN99 103 d' 1 kb ys :: blk b4 (.cells #[.bool yf.f_value.f_Has, .slice yf.f_value.f_Value.a (yf.f_value.f_Value.xs).length yf.f_value.f_Value.c, .int .i64 yf.f_value.f_Home, .int .u64 yf.f_value.f_Count] 36 (0, 0)) :: kidsR e_ItA eN99 103 (d' + 1) (q.kids.eraseIdx i11) :: row eN99.T eN99.sz q.ak ((q.kids.map Prod.fst)).length q.ck (flat eN99 (q.kids.map Prod.fst)) :: F) (fun z => True) ?_ ?_
   · -- cut
    refine c_conv (fun w S => S.perm p4) ?_
    refine c_conv (fun w S => S.perm p4) ?_
    refine c_conv (fun w S => S.perm p3) ?_
    refine c_conv (fun w S => S.perm p5) ?_
    refine c_conv (fun w S => S.perm p5) ?_
    refine c_conv (fun w S => S.perm p5) ?_
    refine c_held [blk b4 (.cells #[.bool yf.f_value.f_Has, .slice yf.f_value.f_Value.a (yf.f_value.f_Value.xs).length yf.f_value.f_Value.c, .int .i64 yf.f_value.f_Home, .int .u64 yf.f_value.f_Count] 36 (0, 0)), kidsR e_ItA eN99 103 (d' + 1) (q.kids.eraseIdx i11), row eN99.T eN99.sz q.ak ((q.kids.map Prod.fst)).length q.ck (flat eN99 (q.kids.map Prod.fst))] (by kernel_rfl) rfl ?_
    refine h_take 0 rfl rfl (by kernel_rfl) (by kernel_rfl) (by kernel_rfl) (fun L0 => v_move rfl rfl) ?_
    refine h_take 1 rfl rfl (by kernel_rfl) (by kernel_rfl) (by kernel_rfl) (fun L0 => v_nil rfl rfl) ?_
    refine h_take 2 rfl rfl (by kernel_rfl) (by kernel_rfl) (by kernel_rfl) (fun L0 => v_fieldAddr (q := ⟨b, 0, none⟩) rfl rfl Try.underlying103 rfl ti100 rfl) ?_
    refine h_take 4 rfl rfl (by kernel_rfl) (by kernel_rfl) (by kernel_rfl) (fun L0 => v_move rfl rfl) ?_
    refine h_take 5 rfl rfl (by kernel_rfl) (by kernel_rfl) (by kernel_rfl) (fun L0 => v_move rfl rfl) ?_
    refine h_take 6 rfl rfl (by kernel_rfl) (by kernel_rfl) (by kernel_rfl) (fun L0 => v_nil rfl rfl) ?_
    refine h_take 7 rfl rfl (by kernel_rfl) (by kernel_rfl) (by kernel_rfl) (fun L0 => v_fieldAddr (q := ⟨b, 1, none⟩) rfl rfl Try.underlying103 rfl ti101 rfl) ?_
    refine h_take 9 rfl rfl (by kernel_rfl) (by kernel_rfl) (by kernel_rfl) (fun L0 => v_move rfl rfl) ?_
    refine h_many (is := [3, 8]) (by kernel_rfl) (by decide) (forall_cons ⟨_, rfl, ?_⟩ (forall_cons ⟨_, rfl, ?_⟩ forall_nil))
    · -- 3 comes first
     refine o_load1 rfl rfl Try.underlying100 rfl (rd_mem 4 rfl rfl) ?_
     refine l_nil ?_
     refine h_next ?_
     refine h_one 8 rfl (by kernel_rfl) ?_
     refine o_load1 rfl rfl Try.underlying101 rfl (rd_mem 4 rfl rfl) ?_
     refine l_nil ?_
     refine h_next ?_
     refine h_take 10 rfl rfl (by kernel_rfl) (by kernel_rfl) (by kernel_rfl) (fun L0 => v_indexK eN99_ok eadk rfl rfl rfl Try.underlying101 (by omega) (by omega)) ?_
     obtain ⟨x64, hx64⟩ : ∃ x, ((q.kids.map Prod.fst))[((i11 : Int)).toNat]? = some x := ⟨_, List.getElem?_eq_getElem (by omega)⟩
     have hxk64 : x64 = kb := by have h9 := hx64; rw [show ((i11 : Int)).toNat = i11 from by omega, hkf] at h9; exact (Option.some.inj h9).symm
     refine h_take 11 rfl rfl (by kernel_rfl) (by kernel_rfl) (by kernel_rfl) (fun L0 => v_load1 rfl rfl Try.underlying99 rfl (rd_sl0 eN99_ok eadk (rds_own eN99_ok 2 rfl) hx64 rfl)) ?_
     refine h_eq (t := 65) (v' := .pointer (some ⟨kb, 0, none⟩)) rfl (by rw [hxk64]) ?_
     refine h_one 12 rfl (by kernel_rfl) ?_
     refine l_f3 ?_
     refine o_call rfl cal72 rfl (last_A d') ?_
     rintro _ _ ⟨rfl, rfl⟩
     refine l_nil ?_
     refine q_conv (fun w S => S.perm p5) ?_
     refine q_conv (fun w S => S.perm p5) ?_
     refine q_conv (fun w S => S.perm p2) ?_
     refine q_conv (fun w S => S.perm p5) ?_
     refine q_conv (fun w S => S.perm p5) ?_
     refine q_conv (fun w S => S.perm p5) ?_
     refine h_next ?_
     refine h_take 13 rfl rfl (by kernel_rfl) (by kernel_rfl) (by kernel_rfl) (fun L0 => v_indexK e_ItA_ok eada rfl rfl rfl Try.underlying100 (by omega) (by omega)) ?_
     obtain ⟨x67, hx67⟩ : ∃ x, (q.items)[((i11 : Int)).toNat]? = some x := ⟨_, List.getElem?_eq_getElem (by omega)⟩
     refine h_one 14 rfl (by kernel_rfl) ?_
     refine l_f5 ?_
     refine o_storeRowAll e_ItA_ok eada rfl rfl ti110 xw rfl (by have := List.getElem?_eq_some_iff.1 hx67; exact this.1) ?_
     refine l_f5 ?_
     refine l_conv (L' := blk b (.cells #[.slice q.a (q.items).length q.c, .slice q.ak ((q.kids.map Prod.fst)).length q.ck] 103 (0, 0)) :: _) (fun w S => S) ?_
     refine l_conv (L' := blk b (.cells #[.slice q.a ((q.items).set ((i11 : Int)).toNat xw).length q.c, .slice q.ak ((q.kids.map Prod.fst)).length q.ck] 103 (0, 0)) :: row e_ItA.T e_ItA.sz q.a ((q.items).set ((i11 : Int)).toNat xw).length q.c (flat e_ItA ((q.items).set ((i11 : Int)).toNat xw)) :: blk b4 (.cells #[.bool yf.f_value.f_Has, .slice yf.f_value.f_Value.a (yf.f_value.f_Value.xs).length yf.f_value.f_Value.c, .int .i64 yf.f_value.f_Home, .int .u64 yf.f_value.f_Count] 36 (0, 0)) :: kidsR e_ItA eN99 103 (d' + 1) (q.kids.eraseIdx i11) :: row eN99.T eN99.sz q.ak ((q.kids.map Prod.fst)).length q.ck (flat eN99 (q.kids.map Prod.fst)) :: nodeO e_ItA eN99 103 d' 1 kb ys :: F) (fun w S => by first | exact S | simpa only [List.length_set] using S | (simp only [List.length_set] at S ⊢; exact S)) ?_
     refine l_nil ?_
     refine q_conv (fun w S => S.perm p5) ?_
     refine q_conv (fun w S => S.perm p2) ?_
     refine q_conv (fun w S => S.perm p2) ?_
     refine q_conv (fun w S => S.perm p5) ?_
     refine q_conv (fun w S => S.perm p5) ?_
     refine q_conv (fun w S => S.perm p5) ?_
     refine h_next ?_
     refine h_done (by kernel_rfl) ?_
     refine q_conv (fun w S => S.perm p2) ?_
     refine q_conv (fun w S => S.perm p2) ?_
     refine q_conv (fun w S => S.perm p2) ?_
     refine q_conv (fun w S => S.perm p5) ?_
     refine q_conv (fun w S => S.perm p5) ?_
     refine q_conv (fun w S => S.perm p5) ?_
     exact q_mid (()) (by trivial) ⟨(by first | rfl | exact vint (by omega)), (by first | rfl | exact vint (by omega)), (by first | rfl | exact vint (by omega)), (by first | rfl | exact vint (by omega)), (by first | rfl | exact vint (by omega)), (by first | rfl | exact vint (by omega)), (by first | rfl | exact vint (by omega)), (by first | rfl | exact vint (by omega)), (by first | rfl | exact vint (by omega)), (by first | rfl | exact vint (by omega)), (by first | rfl | exact vint (by omega)), (by first | rfl | exact vint (by omega)), (by first | rfl | exact vint (by omega)), (by first | rfl | exact vint (by omega)), (by first | rfl | exact vint (by omega)), (by first | rfl | exact vint (by omega)), (by first | rfl | exact vint (by omega)), (by first | rfl | exact vint (by omega)), (by first | rfl | exact vint (by omega)), (by first | rfl | exact vint (by omega)), (by first | rfl | exact vint (by omega)), (by first | rfl | exact vint (by omega)), (by first | rfl | exact vint (by omega)), (by first | rfl | exact vint (by omega)), (by first | rfl | exact vint (by omega)), (by first | rfl | exact vint (by omega)), (by first | rfl | exact vint (by omega)), (by first | rfl | (rw [List.length_set]; rfl)), (by first | rfl | exact vint (by omega)), (by first | rfl | exact vint (by omega)), (by first | rfl | exact vint (by omega)), (by first | rfl | exact vint (by omega)), (by first | rfl | exact vint (by omega)), (by first | rfl | (rw [List.length_set]; rfl)), (by first | rfl | exact vint (by omega)), (by first | rfl | exact vint (by omega)), (by first | rfl | exact vint (by omega)), (by first | rfl | exact vint (by omega)), (by first | rfl | exact vint (by omega)), (by first | rfl | exact vint (by omega)), (by first | rfl | exact vint (by omega)), (by first | rfl | exact vint (by omega)), trivial⟩ (fun w S => S)
    · -- 8 comes first
     refine o_load1 rfl rfl Try.underlying101 rfl (rd_mem 4 rfl rfl) ?_
     refine l_nil ?_
     refine h_next ?_
     refine h_take 10 rfl rfl (by kernel_rfl) (by kernel_rfl) (by kernel_rfl) (fun L0 => v_indexK eN99_ok eadk rfl rfl rfl Try.underlying101 (by omega) (by omega)) ?_
     obtain ⟨x64, hx64⟩ : ∃ x, ((q.kids.map Prod.fst))[((i11 : Int)).toNat]? = some x := ⟨_, List.getElem?_eq_getElem (by omega)⟩
     have hxk64 : x64 = kb := by have h9 := hx64; rw [show ((i11 : Int)).toNat = i11 from by omega, hkf] at h9; exact (Option.some.inj h9).symm
     refine h_take 11 rfl rfl (by kernel_rfl) (by kernel_rfl) (by kernel_rfl) (fun L0 => v_load1 rfl rfl Try.underlying99 rfl (rd_sl0 eN99_ok eadk (rds_own eN99_ok 2 rfl) hx64 rfl)) ?_
     refine h_eq (t := 65) (v' := .pointer (some ⟨kb, 0, none⟩)) rfl (by rw [hxk64]) ?_
     refine h_many (is := [3, 12]) (by kernel_rfl) (by decide) (forall_cons ⟨_, rfl, ?_⟩ (forall_cons ⟨_, rfl, ?_⟩ forall_nil))
     · -- 3 comes first
      refine o_load1 rfl rfl Try.underlying100 rfl (rd_mem 4 rfl rfl) ?_
      refine l_nil ?_
      refine h_next ?_
      refine h_one 12 rfl (by kernel_rfl) ?_
      refine l_f3 ?_
      refine o_call rfl cal72 rfl (last_A d') ?_
      rintro _ _ ⟨rfl, rfl⟩
      refine l_nil ?_
      refine q_conv (fun w S => S.perm p5) ?_
      refine q_conv (fun w S => S.perm p5) ?_
      refine q_conv (fun w S => S.perm p2) ?_
      refine q_conv (fun w S => S.perm p5) ?_
      refine q_conv (fun w S => S.perm p5) ?_
      refine q_conv (fun w S => S.perm p5) ?_
      refine h_next ?_
      refine h_take 13 rfl rfl (by kernel_rfl) (by kernel_rfl) (by kernel_rfl) (fun L0 => v_indexK e_ItA_ok eada rfl rfl rfl Try.underlying100 (by omega) (by omega)) ?_
      obtain ⟨x67, hx67⟩ : ∃ x, (q.items)[((i11 : Int)).toNat]? = some x := ⟨_, List.getElem?_eq_getElem (by omega)⟩
      refine h_one 14 rfl (by kernel_rfl) ?_
      refine l_f5 ?_
      refine o_storeRowAll e_ItA_ok eada rfl rfl ti110 xw rfl (by have := List.getElem?_eq_some_iff.1 hx67; exact this.1) ?_
      refine l_f5 ?_
      refine l_conv (L' := blk b (.cells #[.slice q.a (q.items).length q.c, .slice q.ak ((q.kids.map Prod.fst)).length q.ck] 103 (0, 0)) :: _) (fun w S => S) ?_
      refine l_conv (L' := blk b (.cells #[.slice q.a ((q.items).set ((i11 : Int)).toNat xw).length q.c, .slice q.ak ((q.kids.map Prod.fst)).length q.ck] 103 (0, 0)) :: row e_ItA.T e_ItA.sz q.a ((q.items).set ((i11 : Int)).toNat xw).length q.c (flat e_ItA ((q.items).set ((i11 : Int)).toNat xw)) :: blk b4 (.cells #[.bool yf.f_value.f_Has, .slice yf.f_value.f_Value.a (yf.f_value.f_Value.xs).length yf.f_value.f_Value.c, .int .i64 yf.f_value.f_Home, .int .u64 yf.f_value.f_Count] 36 (0, 0)) :: kidsR e_ItA eN99 103 (d' + 1) (q.kids.eraseIdx i11) :: row eN99.T eN99.sz q.ak ((q.kids.map Prod.fst)).length q.ck (flat eN99 (q.kids.map Prod.fst)) :: nodeO e_ItA eN99 103 d' 1 kb ys :: F) (fun w S => by first | exact S | simpa only [List.length_set] using S | (simp only [List.length_set] at S ⊢; exact S)) ?_
      refine l_nil ?_
      refine q_conv (fun w S => S.perm p5) ?_
      refine q_conv (fun w S => S.perm p2) ?_
      refine q_conv (fun w S => S.perm p2) ?_
      refine q_conv (fun w S => S.perm p5) ?_
      refine q_conv (fun w S => S.perm p5) ?_
      refine q_conv (fun w S => S.perm p5) ?_
      refine h_next ?_
      refine h_done (by kernel_rfl) ?_
      refine q_conv (fun w S => S.perm p2) ?_
      refine q_conv (fun w S => S.perm p2) ?_
      refine q_conv (fun w S => S.perm p2) ?_
      refine q_conv (fun w S => S.perm p5) ?_
      refine q_conv (fun w S => S.perm p5) ?_
      refine q_conv (fun w S => S.perm p5) ?_
      exact q_mid (()) (by trivial) ⟨(by first | rfl | exact vint (by omega)), (by first | rfl | exact vint (by omega)), (by first | rfl | exact vint (by omega)), (by first | rfl | exact vint (by omega)), (by first | rfl | exact vint (by omega)), (by first | rfl | exact vint (by omega)), (by first | rfl | exact vint (by omega)), (by first | rfl | exact vint (by omega)), (by first | rfl | exact vint (by omega)), (by first | rfl | exact vint (by omega)), (by first | rfl | exact vint (by omega)), (by first | rfl | exact vint (by omega)), (by first | rfl | exact vint (by omega)), (by first | rfl | exact vint (by omega)), (by first | rfl | exact vint (by omega)), (by first | rfl | exact vint (by omega)), (by first | rfl | exact vint (by omega)), (by first | rfl | exact vint (by omega)), (by first | rfl | exact vint (by omega)), (by first | rfl | exact vint (by omega)), (by first | rfl | exact vint (by omega)), (by first | rfl | exact vint (by omega)), (by first | rfl | exact vint (by omega)), (by first | rfl | exact vint (by omega)), (by first | rfl | exact vint (by omega)), (by first | rfl | exact vint (by omega)), (by first | rfl | exact vint (by omega)), (by first | rfl | (rw [List.length_set]; rfl)), (by first | rfl | exact vint (by omega)), (by first | rfl | exact vint (by omega)), (by first | rfl | exact vint (by omega)), (by first | rfl | exact vint (by omega)), (by first | rfl | exact vint (by omega)), (by first | rfl | (rw [List.length_set]; rfl)), (by first | rfl | exact vint (by omega)), (by first | rfl | exact vint (by omega)), (by first | rfl | exact vint (by omega)), (by first | rfl | exact vint (by omega)), (by first | rfl | exact vint (by omega)), (by first | rfl | exact vint (by omega)), (by first | rfl | exact vint (by omega)), (by first | rfl | exact vint (by omega)), trivial⟩ (fun w S => S)
     · -- 12 comes first
      refine l_f3 ?_
      refine o_call rfl cal72 rfl (last_A d') ?_
      rintro _ _ ⟨rfl, rfl⟩
      refine l_nil ?_
      refine q_conv (fun w S => S.perm p5) ?_
      refine q_conv (fun w S => S.perm p5) ?_
      refine q_conv (fun w S => S.perm p2) ?_
      refine q_conv (fun w S => S.perm p5) ?_
      refine q_conv (fun w S => S.perm p5) ?_
      refine q_conv (fun w S => S.perm p5) ?_
      refine h_next ?_
      refine h_one 3 rfl (by kernel_rfl) ?_
      refine o_load1 rfl rfl Try.underlying100 rfl (rd_mem 4 rfl rfl) ?_
      refine l_nil ?_
      refine h_next ?_
      refine h_take 13 rfl rfl (by kernel_rfl) (by kernel_rfl) (by kernel_rfl) (fun L0 => v_indexK e_ItA_ok eada rfl rfl rfl Try.underlying100 (by omega) (by omega)) ?_
      obtain ⟨x67, hx67⟩ : ∃ x, (q.items)[((i11 : Int)).toNat]? = some x := ⟨_, List.getElem?_eq_getElem (by omega)⟩
      refine h_one 14 rfl (by kernel_rfl) ?_
      refine l_f5 ?_
      refine o_storeRowAll e_ItA_ok eada rfl rfl ti110 xw rfl (by have := List.getElem?_eq_some_iff.1 hx67; exact this.1) ?_
      refine l_f5 ?_
      refine l_conv (L' := blk b (.cells #[.slice q.a (q.items).length q.c, .slice q.ak ((q.kids.map Prod.fst)).length q.ck] 103 (0, 0)) :: _) (fun w S => S) ?_
      refine l_conv (L' := blk b (.cells #[.slice q.a ((q.items).set ((i11 : Int)).toNat xw).length q.c, .slice q.ak ((q.kids.map Prod.fst)).length q.ck] 103 (0, 0)) :: row e_ItA.T e_ItA.sz q.a ((q.items).set ((i11 : Int)).toNat xw).length q.c (flat e_ItA ((q.items).set ((i11 : Int)).toNat xw)) :: blk b4 (.cells #[.bool yf.f_value.f_Has, .slice yf.f_value.f_Value.a (yf.f_value.f_Value.xs).length yf.f_value.f_Value.c, .int .i64 yf.f_value.f_Home, .int .u64 yf.f_value.f_Count] 36 (0, 0)) :: kidsR e_ItA eN99 103 (d' + 1) (q.kids.eraseIdx i11) :: row eN99.T eN99.sz q.ak ((q.kids.map Prod.fst)).length q.ck (flat eN99 (q.kids.map Prod.fst)) :: nodeO e_ItA eN99 103 d' 1 kb ys :: F) (fun w S => by first | exact S | simpa only [List.length_set] using S | (simp only [List.length_set] at S ⊢; exact S)) ?_
      refine l_nil ?_
      refine q_conv (fun w S => S.perm p5) ?_
      refine q_conv (fun w S => S.perm p2) ?_
      refine q_conv (fun w S => S.perm p2) ?_
      refine q_conv (fun w S => S.perm p5) ?_
      refine q_conv (fun w S => S.perm p5) ?_
      refine q_conv (fun w S => S.perm p5) ?_
      refine h_next ?_
      refine h_done (by kernel_rfl) ?_
      refine q_conv (fun w S => S.perm p2) ?_
      refine q_conv (fun w S => S.perm p2) ?_
      refine q_conv (fun w S => S.perm p2) ?_
      refine q_conv (fun w S => S.perm p5) ?_
      refine q_conv (fun w S => S.perm p5) ?_
      refine q_conv (fun w S => S.perm p5) ?_
      exact q_mid (()) (by trivial) ⟨(by first | rfl | exact vint (by omega)), (by first | rfl | exact vint (by omega)), (by first | rfl | exact vint (by omega)), (by first | rfl | exact vint (by omega)), (by first | rfl | exact vint (by omega)), (by first | rfl | exact vint (by omega)), (by first | rfl | exact vint (by omega)), (by first | rfl | exact vint (by omega)), (by first | rfl | exact vint (by omega)), (by first | rfl | exact vint (by omega)), (by first | rfl | exact vint (by omega)), (by first | rfl | exact vint (by omega)), (by first | rfl | exact vint (by omega)), (by first | rfl | exact vint (by omega)), (by first | rfl | exact vint (by omega)), (by first | rfl | exact vint (by omega)), (by first | rfl | exact vint (by omega)), (by first | rfl | exact vint (by omega)), (by first | rfl | exact vint (by omega)), (by first | rfl | exact vint (by omega)), (by first | rfl | exact vint (by omega)), (by first | rfl | exact vint (by omega)), (by first | rfl | exact vint (by omega)), (by first | rfl | exact vint (by omega)), (by first | rfl | exact vint (by omega)), (by first | rfl | exact vint (by omega)), (by first | rfl | exact vint (by omega)), (by first | rfl | (rw [List.length_set]; rfl)), (by first | rfl | exact vint (by omega)), (by first | rfl | exact vint (by omega)), (by first | rfl | exact vint (by omega)), (by first | rfl | exact vint (by omega)), (by first | rfl | exact vint (by omega)), (by first | rfl | (rw [List.length_set]; rfl)), (by first | rfl | exact vint (by omega)), (by first | rfl | exact vint (by omega)), (by first | rfl | exact vint (by omega)), (by first | rfl | exact vint (by omega)), (by first | rfl | exact vint (by omega)), (by first | rfl | exact vint (by omega)), (by first | rfl | exact vint (by omega)), (by first | rfl | exact vint (by omega)), trivial⟩ (fun w S => S)
   · -- behind the cut
    rintro _ _hp
    try dsimp only at *
    refine c_seq ?_
    refine c_region ?_
    refine o_move rfl rfl ?_
    refine o_move rfl rfl ?_
    refine l_f4 ?_
    refine l_f3 ?_
    refine l_f5 ?_
    refine l_f4 ?_
    refine l_f4 ?_
    refine o_call rfl cal73 rfl (mendok2_A (ks := q.kids.set i11 (kb, ys)) (i := i11) (by rw [List.length_set]; exact hle) (by rw [List.length_set]; exact h1i) (by rw [List.length_set, List.length_set]; exact hkl) (List.getElem?_set_self (List.getElem?_eq_some_iff.1 hkid).1) (kids_fst_set hkid) erase_set.symm) ?_
    rintro _ _ rfl
    refine l_nil ?_
    refine q_then ?_
    refine c_seq ?_
    refine c_region ?_
    refine o_loadn (vs := [_, _, _, _]) rfl rfl Try.underlying36 rfl ti36 (rdn_lit 1 rfl rfl) ?_
    refine l_f1 ?_
    refine o_storen rfl rfl ti36 rfl rfl rfl rfl ?_
    refine o_assign rfl rfl ?_
    refine l_nil ?_
    refine q_then ?_
    refine c_ret ?_
    refine q_block_ret ?_
    refine q_pass_ret ?_
    refine f_retq (.inl rfl) (rs_2 rfl (rs_celln (vs := [.bool yf.f_value.f_Has, .slice yf.f_value.f_Value.a (yf.f_value.f_Value.xs).length yf.f_value.f_Value.c, .int .i64 yf.f_value.f_Home, .int .u64 yf.f_value.f_Count]) rfl Try.underlying36 rfl ti36 (rdn_lit 0 rfl rfl)) (rs_tmp rfl)) (fun w S => ?_)
    replace S := S.tail
    exact ⟨_, ⟨ItA.f_value yf, true, hth.2 _ rfl, rfl, rfl⟩, (fun w S => nodeO_mono (mn := ((q.items).set ((i11 : Int)).toNat xw).length - 1) (by rw [List.length_set]; omega) (by rw [hth.1]; exact S)) w S⟩
 · -- h1F
  have h1b := h1
  try simp only [decide_eq_true_eq, decide_eq_false_iff_not, Bool.not_eq_eq_eq_not, Bool.not_true, Bool.not_false, Bool.not_eq_true', Bool.not_eq_false', Int.not_lt, Int.not_le, Bool.or_eq_true, Bool.and_eq_true] at h1
  refine o_no rfl rfl rfl rfl ?_
  refine o_no rfl rfl rfl rfl ?_
  refine o_no rfl rfl rfl rfl ?_
  refine o_no rfl rfl rfl rfl ?_
  refine o_no rfl rfl rfl rfl ?_
  refine o_no rfl rfl rfl rfl ?_
  refine o_pick_false rfl rfl rfl ?_
  refine o_assign rfl rfl ?_
  refine l_nil ?_
  refine q_then ?_
  refine c_false rfl ?_
  refine c_seq ?_
  refine c_region ?_
  refine o_move rfl rfl ?_
  refine l_eq (t := 45) (v' := .bool false) rfl (by first | (rw [h1b]; done) | (rw [h1b]; rfl)) ?_
  refine o_assign rfl rfl ?_
  refine l_nil ?_
  refine q_then ?_
  refine c_false rfl ?_
  refine c_seq ?_
  have hnf : ¬ ∃ y, q.items[i11]? = some y ∧ y.f_key = k := fun h9 => by rw [hfd11.2 h9] at h1b; cases h1b
  refine c_region ?_
  refine o_move rfl rfl ?_
  refine o_nil rfl rfl ?_
  refine o_fieldAddr (q := ⟨b, 1, none⟩) rfl rfl Try.underlying103 rfl ti101 rfl ?_
  refine o_load1 rfl rfl Try.underlying101 rfl (rd_mem 0 rfl rfl) ?_
  refine o_len rfl rfl Try.underlying101 ?_
  refine o_bin rfl rfl rfl b_gtr ?_
  refine o_assign rfl rfl ?_
  refine l_nil ?_
  refine q_then ?_
  refine c_cond rfl (fun h3 => ?_) (fun h3 => ?_)
  · -- h3T
   have h3b := h3
   try simp only [decide_eq_true_eq] at h3
   refine c_seq ?_
   have hkl : q.kids.length = q.items.length + 1 := by rcases hsh with ⟨_, h9⟩ | ⟨_, h9, _⟩; exact absurd (show (q.kids.map Prod.fst).length = 0 by rw [h9]; rfl) (by omega); exact h9
   have hd0 : d ≠ 0 := by rcases hsh with ⟨_, h9⟩ | ⟨h9, _, _⟩; exact absurd (show (q.kids.map Prod.fst).length = 0 by rw [h9]; rfl) (by omega); exact h9
   have h1i : 1 ≤ q.items.length := by rcases hsh with ⟨_, h9⟩ | ⟨_, _, h9⟩; exact absurd (show (q.kids.map Prod.fst).length = 0 by rw [h9]; rfl) (by omega); exact h9
   have hkm : (q.kids.map Prod.fst).length = q.items.length + 1 := by rw [List.length_map]; exact hkl
   obtain ⟨⟨kb, ys⟩, hkid⟩ : ∃ z, q.kids[i11]? = some z := ⟨_, List.getElem?_eq_getElem (by omega)⟩
   have hkf : (q.kids.map Prod.fst)[i11]? = some kb := by rw [List.getElem?_map, hkid]; rfl
   obtain ⟨d', rfl⟩ : ∃ d', d = d' + 1 := ⟨d - 1, by omega⟩
   refine c_conv (fun w S => S.perm p3) ?_
   refine c_conv (L' := nodeR e_ItA eN99 103 d' 2 kb ys :: kidsR e_ItA eN99 103 (d' + 1) (q.kids.eraseIdx i11) :: _) (fun w S => Sat.kid_take hkid S) ?_
   obtain ⟨hdl, hsy, hgk⟩ := take_down (val := ItA.f_value) strlt_sto (x := (⟨k, (⟨false, ⟨none, [], 0⟩, 0, 0⟩ : Rec)⟩ : ItA)) rfl hq srt hkid hF11 hnf
   refine c_fact (p := ∃ ad, q.ak = some ad) (rds_some (e := eN99) (xs := (q.kids.map Prod.fst)) (rds_own eN99_ok 4 rfl) (by intro h0; rw [h0] at hkm; simp at hkm)) ?_
   rintro ⟨adk, eadk⟩
   refine c_region ?_
   refine o_move rfl rfl ?_
   refine o_nil rfl rfl ?_
   refine o_fieldAddr (q := ⟨b, 1, none⟩) rfl rfl Try.underlying103 rfl ti101 rfl ?_
   refine o_load1 rfl rfl Try.underlying101 rfl (rd_mem 2 rfl rfl) ?_
   refine o_move rfl rfl ?_
   refine o_indexK eN99_ok eadk rfl rfl rfl Try.underlying101 (by omega) (by omega) ?_
   obtain ⟨x85, hx85⟩ : ∃ x, ((q.kids.map Prod.fst))[((i11 : Int)).toNat]? = some x := ⟨_, List.getElem?_eq_getElem (by omega)⟩
   have hxk85 : x85 = kb := by have h9 := hx85; rw [show ((i11 : Int)).toNat = i11 from by omega, hkf] at h9; exact (Option.some.inj h9).symm
   refine o_load1 rfl rfl Try.underlying99 rfl (rd_sl0 eN99_ok eadk (rds_own eN99_ok 4 rfl) hx85 rfl) ?_
   refine l_eq (t := 86) (v' := .pointer (some ⟨kb, 0, none⟩)) rfl (by rw [hxk85]) ?_
   refine o_move rfl rfl ?_
   refine o_call rfl cal65 rfl (ih d' rfl hsy) ?_
   rintro _ _ ⟨v88, ok88, hg88, rfl, rfl⟩
   refine o_move rfl rfl ?_
   refine o_extract rfl rfl rfl ?_
   refine o_extract rfl rfl rfl ?_
   refine l_f5 ?_
   refine o_storen rfl rfl ti36 rfl rfl rfl rfl ?_
   refine o_assign rfl rfl ?_
   refine l_nil ?_
   refine q_then ?_
   refine c_region ?_
   refine o_move rfl rfl ?_
   refine o_move rfl rfl ?_
   refine l_f2 ?_
   refine l_f2 ?_
   refine l_f5 ?_
   refine l_f5 ?_
   refine l_f5 ?_
   refine o_call rfl cal73 rfl (mendok2_A (ks := q.kids.set i11 (kb, del ItA.f_key k ys)) (i := i11) hle h1i (by rw [List.length_set]; exact hkl) (List.getElem?_set_self (List.getElem?_eq_some_iff.1 hkid).1) (kids_fst_set hkid) erase_set.symm) ?_
   rintro _ _ rfl
   refine l_nil ?_
   refine q_block ?_
   refine q_then ?_
   refine c_seq ?_
   refine c_region ?_
   refine o_loadn (vs := [_, _, _, _]) rfl rfl Try.underlying36 rfl ti36 (rdn_lit 1 rfl rfl) ?_
   refine o_move rfl rfl ?_
   refine l_f1 ?_
   refine o_storen rfl rfl ti36 rfl rfl rfl rfl ?_
   refine o_assign rfl rfl ?_
   refine l_nil ?_
   refine q_then ?_
   refine c_ret ?_
   refine f_retq (.inl rfl) (rs_2 rfl (rs_celln (vs := [.bool v88.f_Has, .slice v88.f_Value.a (v88.f_Value.xs).length v88.f_Value.c, .int .i64 v88.f_Home, .int .u64 v88.f_Count]) rfl Try.underlying36 rfl ti36 (rdn_lit 0 rfl rfl)) (rs_tmp rfl)) (fun w S => ?_)
   replace S := S.tail
   exact ⟨_, ⟨v88, ok88, hgk _ _ hg88, rfl, rfl⟩, (fun w S => nodeO_mono (mn := q.items.length - 1) (by omega) (by rw [hdl]; exact S)) w S⟩
  · -- h3F
   have h3b := h3
   try simp only [decide_eq_false_iff_not, Int.not_lt, Int.not_le] at h3
   refine c_skip ?_
   refine q_block ?_
   refine q_then ?_
   refine c_seq ?_
   have h0 : (q.kids.map Prod.fst).length = 0 := by omega
   refine c_region ?_
   refine o_loadn (vs := [.bool false, .slice none 0 0, .int .i64 0, .int .u64 0]) rfl rfl Try.underlying36 rfl ti36 (rdn_lit 4 rfl rfl) ?_
   refine o_move rfl rfl ?_
   refine l_f4 ?_
   refine o_storen rfl rfl ti36 rfl rfl rfl rfl ?_
   refine o_assign rfl rfl ?_
   refine l_nil ?_
   refine q_then ?_
   refine c_ret ?_
   refine f_retq (.inl rfl) (rs_2 rfl (rs_celln (vs := [.bool false, .slice none 0 0, .int .i64 0, .int .u64 0]) rfl Try.underlying36 rfl ti36 (rdn_lit 0 rfl rfl)) (rs_tmp rfl)) (fun w S => ?_)
   replace S := S.tail
   exact ⟨_, ⟨(⟨false, ⟨none, [], 0⟩, 0, 0⟩ : Rec), false, (take_none (val := ItA.f_value) strlt_sto hq srt hF11 hnf h0).2, rfl, rfl⟩, (fun w S => node_lax (mn := mn) (by omega) (by rw [(take_none (val := ItA.f_value) (v := (⟨false, ⟨none, [], 0⟩, 0, 0⟩ : Rec)) strlt_sto hq srt hF11 hnf h0).1]; exact nodeMk q hq S)) w S⟩
theorem take_A : ∀ d, TakeSpec_A d
  | 0 => take_step_A fun d' h => by omega
  | d + 1 => take_step_A fun d' h => by obtain rfl : d = d' := (by omega); exact take_A d
end
section
set_option linter.unusedVariables false
set_option linter.unusedSimpArgs false
set_option maxRecDepth 10000
open Go.RowKit Classical
def PutSpec_A (d : Nat) : Prop := ∀ {W : World} {F : List Res} {mn b : Nat} {xs : List ItA} {x : ItA}, mn ≤ 2 → Srt ItA.f_key strlt xs → CS Try.prog 66 #[.pointer (some ⟨b, 0, none⟩), .agg (e_ItA.cells x).toArray] W (nodeR e_ItA eN99 103 d mn b xs :: F) (fun r L' => ∃ (old : Rec) (had : Bool) (ls : List ItA) (s : Option (Nat × ItA × Nat × List ItA)), (ins ItA.f_key strlt x xs = insS ls s ∧ Old ItA.f_key ItA.f_value (⟨false, ⟨none, [], 0⟩, 0, 0⟩ : Rec) x xs old had) ∧ r = .tuple #[.agg #[.bool old.f_Has, .slice old.f_Value.a (old.f_Value.xs).length old.f_Value.c, .int .i64 old.f_Home, .int .u64 old.f_Count], .bool had, .pointer (s.map fun z => (⟨z.1, 0, none⟩ : Addr)), .pointer (s.map fun z => (⟨z.2.2.1, 0, none⟩ : Addr))] ∧ L' = nodeR e_ItA eN99 103 d (mnO mn s) b ls :: midR e_ItA eN99 103 d s :: F)
set_option maxHeartbeats 4000000 in
theorem put_step_A {d : Nat} (ih : ∀ d', d = d' + 1 → PutSpec_A d') : PutSpec_A d := by
 unfold PutSpec_A
 intro W F mn b xs x hmn srt
 refine f_door (l0 := [(0, .pointer (some ⟨b, 0, none⟩)), (1, .agg (e_ItA.cells x).toArray)]) Try.func66 Try.ntmps66 rfl rfl rfl ?_
 refine c_seq ?_
 refine c_region ?_
 refine o_box rfl rfl fun b3 => ?_
 refine o_alloc rfl ti36 fun b4 => ?_
 refine o_assign rfl rfl ?_
 refine o_assign rfl rfl ?_
 refine o_assign rfl rfl ?_
 refine l_nil ?_
 refine q_then ?_
 refine c_seq ?_
 refine c_conv (fun w S => S.perm p2) ?_
 refine c_node ?_
 rintro q hq
 have hsi := hq.srt strlt_sto srt
 have hle := hq.le
 have hsh := hq.sh
 refine c_conv (L' := blk b (.cells #[.slice q.a (q.items).length q.c, .slice q.ak ((q.kids.map Prod.fst)).length q.ck] 103 (0, 0)) :: row e_ItA.T e_ItA.sz q.a (q.items).length q.c (flat e_ItA q.items) :: row eN99.T eN99.sz q.ak ((q.kids.map Prod.fst)).length q.ck (flat eN99 (q.kids.map Prod.fst)) :: kidsR e_ItA eN99 103 d q.kids :: blk b4 (.cells #[.bool false, .slice none 0 0, .int .i64 0, .int .u64 0] 36 (0, 0)) :: blk b3 (.cells #[.string x.f_key, .bool x.f_value.f_Has, .slice x.f_value.f_Value.a (x.f_value.f_Value.xs).length x.f_value.f_Value.c, .int .i64 x.f_value.f_Home, .int .u64 x.f_value.f_Count] 110 (0, 0)) :: F) (fun w S => S) ?_
 refine c_region ?_
 refine o_move rfl rfl ?_
 refine o_fieldAddr (q := ⟨b3, 0, none⟩) rfl rfl Try.underlying110 rfl ti9 rfl ?_
 refine o_load1 rfl rfl Try.underlying9 rfl (rd_mem 5 rfl rfl) ?_
 refine l_f1 ?_
 refine l_f1 ?_
 refine o_call rfl cal56 rfl (search_A (k := x.f_key) (by omega) hsi) ?_
 rintro _ _ ⟨i17, fd17, ⟨hF17, hfd17⟩, rfl, rfl⟩
 refine o_move rfl rfl ?_
 refine o_extract rfl rfl rfl ?_
 refine o_extract rfl rfl rfl ?_
 refine o_assign rfl rfl ?_
 refine o_assign rfl rfl ?_
 refine l_nil ?_
 refine q_then ?_
 refine c_seq ?_
 refine c_mid (α := (NodeW ItA) × Rec × Bool) (fun z => [(0, .pointer (some ⟨b, 0, none⟩)), (4, .pointer (some ⟨b4, 0, none⟩)), (5, .bool z.2.2)]) (fun z => blk b (.cells #[.slice z.1.a (z.1.items).length z.1.c, .slice z.1.ak ((z.1.kids.map Prod.fst)).length z.1.ck] 103 (0, 0)) :: row e_ItA.T e_ItA.sz z.1.a (z.1.items).length z.1.c (flat e_ItA z.1.items) :: row eN99.T eN99.sz z.1.ak ((z.1.kids.map Prod.fst)).length z.1.ck (flat eN99 (z.1.kids.map Prod.fst)) :: kidsR e_ItA eN99 103 d z.1.kids :: blk b4 (.cells #[.bool z.2.1.f_Has, .slice z.2.1.f_Value.a (z.2.1.f_Value.xs).length z.2.1.f_Value.c, .int .i64 z.2.1.f_Home, .int .u64 z.2.1.f_Count] 36 (0, 0)) :: F) (fun z => PutMid ItA.f_key strlt ItA.f_value (⟨false, ⟨none, [], 0⟩, 0, 0⟩ : Rec) d mn x xs z.1.items z.1.kids z.2.1 z.2.2) ?_ ?_
 · -- cut
  refine c_block ?_
  refine c_seq ?_
  refine c_region ?_
  refine o_move rfl rfl ?_
  refine o_assign rfl rfl ?_
  refine l_nil ?_
  refine q_then ?_
  refine c_cond rfl (fun h1 => ?_) (fun h1 => ?_)
  · -- h1T
   have h1b := h1
   try simp only [decide_eq_true_eq, decide_eq_false_iff_not, Bool.not_eq_eq_eq_not, Bool.not_true, Bool.not_false, Bool.not_eq_true', Bool.not_eq_false', Int.not_lt, Int.not_le, Bool.or_eq_true, Bool.and_eq_true] at h1
   obtain ⟨yf, hyf, hkf⟩ := hfd17.1 (by simpa using h1b)
   have hil := (List.getElem?_eq_some_iff.1 hyf).1
   refine c_seq ?_
   refine c_fact (p := ∃ ad, q.a = some ad) (rds_some (e := e_ItA) (xs := q.items) (rds_own e_ItA_ok 1 rfl) (by intro h0; rw [h0] at hyf; simp at hyf)) ?_
   rintro ⟨adx, eadx⟩
   refine c_region ?_
   refine o_move rfl rfl ?_
   refine o_nil rfl rfl ?_
   refine o_fieldAddr (q := ⟨b, 0, none⟩) rfl rfl Try.underlying103 rfl ti100 rfl ?_
   refine o_load1 rfl rfl Try.underlying100 rfl (rd_mem 0 rfl rfl) ?_
   refine o_move rfl rfl ?_
   refine o_indexK e_ItA_ok eadx rfl rfl rfl Try.underlying100 (by omega) (by omega) ?_
   obtain ⟨x68, hx68⟩ : ∃ x, (q.items)[((i17 : Int)).toNat]? = some x := ⟨_, List.getElem?_eq_getElem (by omega)⟩
   have e68 : x68 = yf := by rw [show q.items[i17]? = some x68 from hx68] at hyf; exact Option.some.inj hyf
   refine o_fieldAddr rfl rfl Try.underlying110 rfl ti36 (Addr.add_add' _ _ _) ?_
   refine o_loadn (vs := [.bool x68.f_value.f_Has, .slice x68.f_value.f_Value.a (x68.f_value.f_Value.xs).length x68.f_value.f_Value.c, .int .i64 x68.f_value.f_Home, .int .u64 x68.f_value.f_Count]) rfl rfl Try.underlying36 rfl ti36 (rdn_slo (n := 4) e_ItA_ok eadx (rds_own e_ItA_ok 1 rfl) hx68 rfl) ?_
   refine l_f4 ?_
   refine o_storen rfl rfl ti36 rfl rfl rfl rfl ?_
   refine o_assign rfl rfl ?_
   refine l_nil ?_
   refine q_then ?_
   refine c_seq ?_
   refine c_conv (fun w S => S.perm p2) ?_
   refine c_conv (fun w S => S.perm p2) ?_
   refine c_conv (fun w S => S.perm p5) ?_
   refine c_conv (fun w S => S.perm p5) ?_
   refine c_conv (fun w S => S.perm p5) ?_
   refine c_conv (fun w S => S.perm p5) ?_
   refine c_held [blk b4 (.cells #[.bool x68.f_value.f_Has, .slice x68.f_value.f_Value.a (x68.f_value.f_Value.xs).length x68.f_value.f_Value.c, .int .i64 x68.f_value.f_Home, .int .u64 x68.f_value.f_Count] 36 (0, 0)), row eN99.T eN99.sz q.ak ((q.kids.map Prod.fst)).length q.ck (flat eN99 (q.kids.map Prod.fst)), kidsR e_ItA eN99 103 d q.kids, blk b3 (.cells #[.string x.f_key, .bool x.f_value.f_Has, .slice x.f_value.f_Value.a (x.f_value.f_Value.xs).length x.f_value.f_Value.c, .int .i64 x.f_value.f_Home, .int .u64 x.f_value.f_Count] 110 (0, 0))] (by kernel_rfl) rfl ?_
   refine h_take 0 rfl rfl (by kernel_rfl) (by kernel_rfl) (by kernel_rfl) (fun L0 => v_move rfl rfl) ?_
   refine h_take 1 rfl rfl (by kernel_rfl) (by kernel_rfl) (by kernel_rfl) (fun L0 => v_nil rfl rfl) ?_
   refine h_take 2 rfl rfl (by kernel_rfl) (by kernel_rfl) (by kernel_rfl) (fun L0 => v_fieldAddr (q := ⟨b, 0, none⟩) rfl rfl Try.underlying103 rfl ti100 rfl) ?_
   refine h_take 4 rfl rfl (by kernel_rfl) (by kernel_rfl) (by kernel_rfl) (fun L0 => v_move rfl rfl) ?_
   refine h_take 5 rfl rfl (by kernel_rfl) (by kernel_rfl) (by kernel_rfl) (fun L0 => v_fieldAddr (q := ⟨b3, 1, none⟩) rfl rfl Try.underlying110 rfl ti36 rfl) ?_
   refine h_take 6 rfl rfl (by kernel_rfl) (by kernel_rfl) (by kernel_rfl) (fun L0 => v_loadn (vs := [_, _, _, _]) rfl rfl Try.underlying36 rfl ti36 (rdn_lit 3 rfl rfl)) ?_
   refine h_one 3 rfl (by kernel_rfl) ?_
   refine o_load1 rfl rfl Try.underlying100 rfl (rd_mem 4 rfl rfl) ?_
   refine l_nil ?_
   refine h_next ?_
   refine h_take 7 rfl rfl (by kernel_rfl) (by kernel_rfl) (by kernel_rfl) (fun L0 => v_indexK e_ItA_ok eadx rfl rfl rfl Try.underlying100 (by omega) (by omega)) ?_
   obtain ⟨x78, hx78⟩ : ∃ x, (q.items)[((i17 : Int)).toNat]? = some x := ⟨_, List.getElem?_eq_getElem (by omega)⟩
   have e78 : x78 = yf := by rw [show q.items[i17]? = some x78 from hx78] at hyf; exact Option.some.inj hyf
   refine h_take 8 rfl rfl (by kernel_rfl) (by kernel_rfl) (by kernel_rfl) (fun L0 => v_fieldAddr rfl rfl Try.underlying110 rfl ti36 (Addr.add_add' _ _ _)) ?_
   refine h_one 9 rfl (by kernel_rfl) ?_
   refine l_f5 ?_
   refine o_storeRowN (vs := [.bool x.f_value.f_Has, .slice x.f_value.f_Value.a (x.f_value.f_Value.xs).length x.f_value.f_Value.c, .int .i64 x.f_value.f_Home, .int .u64 x.f_value.f_Count]) e_ItA_ok eadx rfl rfl ti36 rfl ⟨x78.f_key, x.f_value⟩ hx78 (show 1 + 4 ≤ 5 by decide) rfl ?_
   refine l_f5 ?_
   refine l_conv (L' := blk b (.cells #[.slice q.a (q.items).length q.c, .slice q.ak ((q.kids.map Prod.fst)).length q.ck] 103 (0, 0)) :: _) (fun w S => S) ?_
   refine l_conv (L' := blk b (.cells #[.slice q.a ((q.items).set ((i17 : Int)).toNat ⟨x78.f_key, x.f_value⟩).length q.c, .slice q.ak ((q.kids.map Prod.fst)).length q.ck] 103 (0, 0)) :: row e_ItA.T e_ItA.sz q.a ((q.items).set ((i17 : Int)).toNat ⟨x78.f_key, x.f_value⟩).length q.c (flat e_ItA ((q.items).set ((i17 : Int)).toNat ⟨x78.f_key, x.f_value⟩)) :: blk b4 (.cells #[.bool x68.f_value.f_Has, .slice x68.f_value.f_Value.a (x68.f_value.f_Value.xs).length x68.f_value.f_Value.c, .int .i64 x68.f_value.f_Home, .int .u64 x68.f_value.f_Count] 36 (0, 0)) :: row eN99.T eN99.sz q.ak ((q.kids.map Prod.fst)).length q.ck (flat eN99 (q.kids.map Prod.fst)) :: kidsR e_ItA eN99 103 d q.kids :: blk b3 (.cells #[.string x.f_key, .bool x.f_value.f_Has, .slice x.f_value.f_Value.a (x.f_value.f_Value.xs).length x.f_value.f_Value.c, .int .i64 x.f_value.f_Home, .int .u64 x.f_value.f_Count] 110 (0, 0)) :: F) (fun w S => by first | exact S | simpa only [List.length_set] using S | (simp only [List.length_set] at S ⊢; exact S)) ?_
   refine l_nil ?_
   refine q_conv (fun w S => S.perm p1) ?_
   refine q_conv (fun w S => S.perm p1) ?_
   refine q_conv (fun w S => S.perm p5) ?_
   refine q_conv (fun w S => S.perm p5) ?_
   refine q_conv (fun w S => S.perm p5) ?_
   refine q_conv (fun w S => S.perm p5) ?_
   refine h_next ?_
   refine h_done (by kernel_rfl) ?_
   refine q_then ?_
   refine c_seq ?_
   have hput := put_found (val := ItA.f_value) (zero := (⟨false, ⟨none, [], 0⟩, 0, 0⟩ : Rec)) strlt_sto hq srt hyf hkf (show (⟨x78.f_key, x.f_value⟩ : ItA) = x by rw [e78, show yf.f_key = x.f_key from hkf]) q.a q.c
   refine c_region ?_
   refine o_loadn (vs := [_, _, _, _]) rfl rfl Try.underlying36 rfl ti36 (rdn_lit 0 rfl rfl) ?_
   refine o_move rfl rfl ?_
   refine o_storen rfl rfl ti36 rfl rfl rfl rfl ?_
   refine o_assign rfl rfl ?_
   refine o_assign rfl rfl ?_
   refine o_assign rfl rfl ?_
   refine l_nil ?_
   refine q_then ?_
   refine c_ret ?_
   refine q_block_ret ?_
   refine q_pass_ret ?_
   refine f_retq (.inl rfl) (rs_4 rfl (rs_celln (vs := [.bool x68.f_value.f_Has, .slice x68.f_value.f_Value.a (x68.f_value.f_Value.xs).length x68.f_value.f_Value.c, .int .i64 x68.f_value.f_Home, .int .u64 x68.f_value.f_Count]) rfl Try.underlying36 rfl ti36 (rdn_lit 0 rfl rfl)) (rs_tmp rfl) (rs_tmp rfl) (rs_tmp rfl)) (fun w S => ?_)
   replace S := S.tail
   replace S := (S.perm p2).tail
   replace S := S.perm p1
   replace S := S.perm p1
   replace S := S.perm p3
   replace S := S.perm p3
   exact ⟨_, ⟨x68.f_value, true, ins ItA.f_key strlt x xs, none, ⟨rfl, by rw [e68]; exact hput.2⟩, rfl, rfl⟩, (fun w S => (Sat.emp_ (nodeMk ⟨q.a, q.c, q.ak, q.ck, _, q.kids⟩ hput.1 S)).perm (List.Perm.swap _ _ _)) w S⟩
  · -- h1F
   have h1b := h1
   try simp only [decide_eq_true_eq, decide_eq_false_iff_not, Bool.not_eq_eq_eq_not, Bool.not_true, Bool.not_false, Bool.not_eq_true', Bool.not_eq_false', Int.not_lt, Int.not_le, Bool.or_eq_true, Bool.and_eq_true] at h1
   have hnf : ¬ ∃ y, q.items[i17]? = some y ∧ y.f_key = x.f_key := fun h9 => by rw [hfd17.2 h9] at h1b; cases h1b
   refine c_seq ?_
   refine c_region ?_
   refine o_move rfl rfl ?_
   refine o_nil rfl rfl ?_
   refine o_fieldAddr (q := ⟨b, 1, none⟩) rfl rfl Try.underlying103 rfl ti101 rfl ?_
   refine o_load1 rfl rfl Try.underlying101 rfl (rd_mem 0 rfl rfl) ?_
   refine o_len rfl rfl Try.underlying101 ?_
   refine o_bin rfl rfl rfl b_eql ?_
   refine o_assign rfl rfl ?_
   refine l_nil ?_
   refine q_then ?_
   refine c_cond rfl (fun h2 => ?_) (fun h2 => ?_)
   · -- h2T
    have h2b := h2
    try simp only [decide_eq_true_eq] at h2
    refine c_conv (fun w S => S.perm p1) ?_
    refine c_conv (fun w S => S.perm p1) ?_
    refine c_conv (fun w S => S.perm p5) ?_
    refine c_conv (fun w S => S.perm p5) ?_
    refine c_conv (fun w S => S.perm p5) ?_
    refine c_conv (fun w S => S.perm p5) ?_
    refine c_held [row eN99.T eN99.sz q.ak ((q.kids.map Prod.fst)).length q.ck (flat eN99 (q.kids.map Prod.fst)), kidsR e_ItA eN99 103 d q.kids, blk b4 (.cells #[.bool false, .slice none 0 0, .int .i64 0, .int .u64 0] 36 (0, 0)), blk b3 (.cells #[.string x.f_key, .bool x.f_value.f_Has, .slice x.f_value.f_Value.a (x.f_value.f_Value.xs).length x.f_value.f_Value.c, .int .i64 x.f_value.f_Home, .int .u64 x.f_value.f_Count] 110 (0, 0))] (by kernel_rfl) rfl ?_
    refine h_take 0 rfl rfl (by kernel_rfl) (by kernel_rfl) (by kernel_rfl) (fun L0 => v_move rfl rfl) ?_
    refine h_take 1 rfl rfl (by kernel_rfl) (by kernel_rfl) (by kernel_rfl) (fun L0 => v_move rfl rfl) ?_
    refine h_take 2 rfl rfl (by kernel_rfl) (by kernel_rfl) (by kernel_rfl) (fun L0 => v_nil rfl rfl) ?_
    refine h_take 3 rfl rfl (by kernel_rfl) (by kernel_rfl) (by kernel_rfl) (fun L0 => v_fieldAddr (q := ⟨b, 0, none⟩) rfl rfl Try.underlying103 rfl ti100 rfl) ?_
    refine h_take 5 rfl rfl (by kernel_rfl) (by kernel_rfl) (by kernel_rfl) (fun L0 => v_move rfl rfl) ?_
    refine h_take 6 rfl rfl (by kernel_rfl) (by kernel_rfl) (by kernel_rfl) (fun L0 => v_loadn (vs := [_, _, _, _, _]) rfl rfl Try.underlying110 rfl ti110 (rdn_lit 3 rfl rfl)) ?_
    refine h_many (is := [4, 7]) (by kernel_rfl) (by decide) (forall_cons ⟨_, rfl, ?_⟩ (forall_cons ⟨_, rfl, ?_⟩ forall_nil))
    · -- 4 comes first
     refine o_load1 rfl rfl Try.underlying100 rfl (rd_mem 4 rfl rfl) ?_
     refine l_nil ?_
     refine h_next ?_
     refine h_one 7 rfl (by kernel_rfl) ?_
     refine o_lit e_ItA_ok rfl Try.underlying100 rfl rfl rfl (lit_ok rfl) [x] rfl rfl fun a96 => ?_
     refine l_nil ?_
     refine q_conv (fun w S => S.perm p6) ?_
     refine q_conv (fun w S => S.perm p6) ?_
     refine q_conv (fun w S => S.perm p2) ?_
     refine q_conv (fun w S => S.perm p6) ?_
     refine q_conv (fun w S => S.perm p6) ?_
     refine q_conv (fun w S => S.perm p6) ?_
     refine q_conv (fun w S => S.perm p6) ?_
     refine h_next ?_
     refine h_one 8 rfl (by kernel_rfl) ?_
     refine l_f4 ?_
     refine l_f6 ?_
     refine o_call rfl cal74 rfl (insI_A (xs := q.items) (x := x) (i := i17) hF17.le (by omega)) ?_
     rintro _ _ ⟨a97, c97, rfl, rfl⟩
     refine l_nil ?_
     refine q_conv (fun w S => S.perm p5) ?_
     refine q_conv (fun w S => S.perm p1) ?_
     refine q_conv (fun w S => S.perm p5) ?_
     refine q_conv (fun w S => S.perm p5) ?_
     refine q_conv (fun w S => S.perm p5) ?_
     refine q_conv (fun w S => S.perm p5) ?_
     refine h_next ?_
     refine h_take 9 rfl rfl (by kernel_rfl) (by kernel_rfl) (by kernel_rfl) (fun L0 => v_nil rfl rfl) ?_
     refine h_take 10 rfl rfl (by kernel_rfl) (by kernel_rfl) (by kernel_rfl) (fun L0 => v_fieldAddr (q := ⟨b, 0, none⟩) rfl rfl Try.underlying103 rfl ti100 rfl) ?_
     refine h_one 11 rfl (by kernel_rfl) ?_
     refine l_f5 ?_
     refine o_store1 rfl rfl rfl ti100 rfl rfl ?_
     refine l_nil ?_
     refine q_conv (fun w S => S.perm p5) ?_
     refine q_conv (fun w S => S.perm p1) ?_
     refine q_conv (fun w S => S.perm p5) ?_
     refine q_conv (fun w S => S.perm p5) ?_
     refine q_conv (fun w S => S.perm p5) ?_
     refine q_conv (fun w S => S.perm p5) ?_
     refine h_next ?_
     refine h_done (by kernel_rfl) ?_
     refine q_block ?_
     refine q_conv (fun w S => (S.perm p3).tail) ?_
     refine q_conv (fun w S => S.perm p2) ?_
     refine q_conv (fun w S => S.perm p2) ?_
     refine q_conv (fun w S => S.perm p2) ?_
     refine q_conv (fun w S => S.perm p4) ?_
     refine q_conv (fun w S => S.perm p4) ?_
     exact q_mid (⟨a97, c97, q.ak, q.ck, (q.items.take i17 ++ x :: q.items.drop i17), q.kids⟩, ⟨false, ⟨none, [], 0⟩, 0, 0⟩, _) (by exact put_leaf strlt_sto hq srt (by omega) hF17 hnf) ⟨(by first | rfl | exact vint (by omega)), (by first | rfl | exact vint (by omega)), (by first | rfl | exact vint (by omega)), trivial⟩ (fun w S => S)
    · -- 7 comes first
     refine o_lit e_ItA_ok rfl Try.underlying100 rfl rfl rfl (lit_ok rfl) [x] rfl rfl fun a96 => ?_
     refine l_nil ?_
     refine q_conv (fun w S => S.perm p6) ?_
     refine q_conv (fun w S => S.perm p6) ?_
     refine q_conv (fun w S => S.perm p2) ?_
     refine q_conv (fun w S => S.perm p6) ?_
     refine q_conv (fun w S => S.perm p6) ?_
     refine q_conv (fun w S => S.perm p6) ?_
     refine q_conv (fun w S => S.perm p6) ?_
     refine h_next ?_
     refine h_one 4 rfl (by kernel_rfl) ?_
     refine o_load1 rfl rfl Try.underlying100 rfl (rd_mem 5 rfl rfl) ?_
     refine l_nil ?_
     refine h_next ?_
     refine h_one 8 rfl (by kernel_rfl) ?_
     refine l_f4 ?_
     refine l_f6 ?_
     refine o_call rfl cal74 rfl (insI_A (xs := q.items) (x := x) (i := i17) hF17.le (by omega)) ?_
     rintro _ _ ⟨a97, c97, rfl, rfl⟩
     refine l_nil ?_
     refine q_conv (fun w S => S.perm p5) ?_
     refine q_conv (fun w S => S.perm p1) ?_
     refine q_conv (fun w S => S.perm p5) ?_
     refine q_conv (fun w S => S.perm p5) ?_
     refine q_conv (fun w S => S.perm p5) ?_
     refine q_conv (fun w S => S.perm p5) ?_
     refine h_next ?_
     refine h_take 9 rfl rfl (by kernel_rfl) (by kernel_rfl) (by kernel_rfl) (fun L0 => v_nil rfl rfl) ?_
     refine h_take 10 rfl rfl (by kernel_rfl) (by kernel_rfl) (by kernel_rfl) (fun L0 => v_fieldAddr (q := ⟨b, 0, none⟩) rfl rfl Try.underlying103 rfl ti100 rfl) ?_
     refine h_one 11 rfl (by kernel_rfl) ?_
     refine l_f5 ?_
     refine o_store1 rfl rfl rfl ti100 rfl rfl ?_
     refine l_nil ?_
     refine q_conv (fun w S => S.perm p5) ?_
     refine q_conv (fun w S => S.perm p1) ?_
     refine q_conv (fun w S => S.perm p5) ?_
     refine q_conv (fun w S => S.perm p5) ?_
     refine q_conv (fun w S => S.perm p5) ?_
     refine q_conv (fun w S => S.perm p5) ?_
     refine h_next ?_
     refine h_done (by kernel_rfl) ?_
     refine q_block ?_
     refine q_conv (fun w S => (S.perm p3).tail) ?_
     refine q_conv (fun w S => S.perm p2) ?_
     refine q_conv (fun w S => S.perm p2) ?_
     refine q_conv (fun w S => S.perm p2) ?_
     refine q_conv (fun w S => S.perm p4) ?_
     refine q_conv (fun w S => S.perm p4) ?_
     exact q_mid (⟨a97, c97, q.ak, q.ck, (q.items.take i17 ++ x :: q.items.drop i17), q.kids⟩, ⟨false, ⟨none, [], 0⟩, 0, 0⟩, _) (by exact put_leaf strlt_sto hq srt (by omega) hF17 hnf) ⟨(by first | rfl | exact vint (by omega)), (by first | rfl | exact vint (by omega)), (by first | rfl | exact vint (by omega)), trivial⟩ (fun w S => S)
   · -- h2F
    have h2b := h2
    try simp only [decide_eq_false_iff_not, Int.not_lt, Int.not_le] at h2
    refine c_seq ?_
    refine c_region ?_
    refine o_assign rfl rfl ?_
    refine l_nil ?_
    refine q_then ?_
    refine c_seq ?_
    refine c_region ?_
    refine o_assign rfl rfl ?_
    refine l_nil ?_
    refine q_then ?_
    refine c_seq ?_
    have hkl : q.kids.length = q.items.length + 1 := by rcases hsh with ⟨_, h9⟩ | ⟨_, h9, _⟩; exact absurd (show ((q.kids.map Prod.fst).length : Int) = 0 by rw [h9]; rfl) (by assumption); exact h9
    have hd0 : d ≠ 0 := by rcases hsh with ⟨_, h9⟩ | ⟨h9, _, _⟩; exact absurd (show ((q.kids.map Prod.fst).length : Int) = 0 by rw [h9]; rfl) (by assumption); exact h9
    have hkm : (q.kids.map Prod.fst).length = q.items.length + 1 := by rw [List.length_map]; exact hkl
    have hfl := hF17.le
    obtain ⟨⟨kb, ys⟩, hkid⟩ : ∃ z, q.kids[i17]? = some z := ⟨_, List.getElem?_eq_getElem (by omega)⟩
    obtain ⟨A, B, hxA, _, _, hA, hB, _, _, hsy⟩ := kid_parts strlt_sto hq srt hkid hF17 hnf
    obtain ⟨d', hd'⟩ : ∃ d', d = d' + 1 := ⟨d - 1, by omega⟩
    refine c_conv (fun w S => S.perm p3) ?_
    refine c_conv (L' := nodeR e_ItA eN99 103 d' 2 kb ys :: kidsR e_ItA eN99 103 d (q.kids.eraseIdx i17) :: _) (fun w S => by have h9 := Sat.kid_take hkid S; rw [hd'] at h9 ⊢; exact h9) ?_
    refine c_fact (p := ∃ ad, q.ak = some ad) (rds_some (e := eN99) (xs := (q.kids.map Prod.fst)) (rds_own eN99_ok 4 rfl) (by intro h0; have h00 := congrArg List.length h0; simp only [List.length_nil] at h00; omega)) ?_
    rintro ⟨adx, eadx⟩
    refine c_conv (fun w S => S.perm p5) ?_
    refine c_conv (fun w S => S.perm p1) ?_
    refine c_conv (fun w S => S.perm p6) ?_
    refine c_conv (fun w S => S.perm p6) ?_
    refine c_conv (fun w S => S.perm p6) ?_
    refine c_conv (fun w S => S.perm p6) ?_
    refine c_conv (fun w S => S.perm p6) ?_
    refine c_held [kidsR e_ItA eN99 103 d (q.kids.eraseIdx i17), blk b (.cells #[.slice q.a (q.items).length q.c, .slice q.ak ((q.kids.map Prod.fst)).length q.ck] 103 (0, 0)), row e_ItA.T e_ItA.sz q.a (q.items).length q.c (flat e_ItA q.items), row eN99.T eN99.sz q.ak ((q.kids.map Prod.fst)).length q.ck (flat eN99 (q.kids.map Prod.fst)), blk b3 (.cells #[.string x.f_key, .bool x.f_value.f_Has, .slice x.f_value.f_Value.a (x.f_value.f_Value.xs).length x.f_value.f_Value.c, .int .i64 x.f_value.f_Home, .int .u64 x.f_value.f_Count] 110 (0, 0))] (by kernel_rfl) rfl ?_
    refine h_take 0 rfl rfl (by kernel_rfl) (by kernel_rfl) (by kernel_rfl) (fun L0 => v_move rfl rfl) ?_
    refine h_take 1 rfl rfl (by kernel_rfl) (by kernel_rfl) (by kernel_rfl) (fun L0 => v_nil rfl rfl) ?_
    refine h_take 2 rfl rfl (by kernel_rfl) (by kernel_rfl) (by kernel_rfl) (fun L0 => v_fieldAddr (q := ⟨b, 1, none⟩) rfl rfl Try.underlying103 rfl ti101 rfl) ?_
    refine h_take 3 rfl rfl (by kernel_rfl) (by kernel_rfl) (by kernel_rfl) (fun L0 => v_load1 rfl rfl Try.underlying101 rfl (rd_mem 1 rfl rfl)) ?_
    refine h_take 4 rfl rfl (by kernel_rfl) (by kernel_rfl) (by kernel_rfl) (fun L0 => v_move rfl rfl) ?_
    refine h_take 5 rfl rfl (by kernel_rfl) (by kernel_rfl) (by kernel_rfl) (fun L0 => v_indexK eN99_ok eadx rfl rfl rfl Try.underlying101 (by omega) (by omega)) ?_
    obtain ⟨x26, hx26⟩ : ∃ x, ((q.kids.map Prod.fst))[((i17 : Int)).toNat]? = some x := ⟨_, List.getElem?_eq_getElem (by omega)⟩
    have hxk : x26 = kb := by have h9 := hx26; rw [show ((i17 : Int)).toNat = i17 from rfl, List.getElem?_map, hkid] at h9; exact (Option.some.inj h9).symm
    refine h_take 6 rfl rfl (by kernel_rfl) (by kernel_rfl) (by kernel_rfl) (fun L0 => v_load1 rfl rfl Try.underlying99 rfl (rd_sl0 eN99_ok eadx (rds_own eN99_ok 3 rfl) hx26 rfl)) ?_
    refine h_eq (t := 27) (v' := .pointer (some ⟨kb, 0, none⟩)) rfl (by rw [hxk]) ?_
    refine h_take 7 rfl rfl (by kernel_rfl) (by kernel_rfl) (by kernel_rfl) (fun L0 => v_loadn (vs := [_, _, _, _, _]) rfl rfl Try.underlying110 rfl ti110 (rdn_lit 4 rfl rfl)) ?_
    refine h_one 8 rfl (by kernel_rfl) ?_
    refine l_f5 ?_
    refine o_call rfl cal66 rfl (ih d' hd' (by omega) hsy) ?_
    rintro _ _ ⟨old29, had29, ls29, s29, ⟨his29, hol29⟩, rfl, rfl⟩
    refine l_nil ?_
    refine q_conv (fun w S => S.perm p7) ?_
    refine q_conv (fun w S => S.perm p2) ?_
    refine q_conv (fun w S => S.perm p2) ?_
    refine q_conv (fun w S => S.perm p7) ?_
    refine q_conv (fun w S => S.perm p7) ?_
    refine q_conv (fun w S => S.perm p7) ?_
    refine q_conv (fun w S => S.perm p7) ?_
    refine q_conv (fun w S => S.perm p7) ?_
    refine h_next ?_
    refine h_take 9 rfl rfl (by kernel_rfl) (by kernel_rfl) (by kernel_rfl) (fun L0 => v_move rfl rfl) ?_
    refine h_take 10 rfl rfl (by kernel_rfl) (by kernel_rfl) (by kernel_rfl) (fun L0 => v_extract rfl rfl rfl) ?_
    refine h_take 11 rfl rfl (by kernel_rfl) (by kernel_rfl) (by kernel_rfl) (fun L0 => v_extract rfl rfl rfl) ?_
    refine h_take 12 rfl rfl (by kernel_rfl) (by kernel_rfl) (by kernel_rfl) (fun L0 => v_extract rfl rfl rfl) ?_
    refine h_take 13 rfl rfl (by kernel_rfl) (by kernel_rfl) (by kernel_rfl) (fun L0 => v_extract rfl rfl rfl) ?_
    refine h_one 14 rfl (by kernel_rfl) ?_
    refine l_f7 ?_
    refine o_storen rfl rfl ti36 rfl rfl rfl rfl ?_
    refine l_nil ?_
    refine q_conv (fun w S => S.perm p7) ?_
    refine q_conv (fun w S => S.perm p7) ?_
    refine q_conv (fun w S => S.perm p2) ?_
    refine q_conv (fun w S => S.perm p7) ?_
    refine q_conv (fun w S => S.perm p7) ?_
    refine q_conv (fun w S => S.perm p7) ?_
    refine q_conv (fun w S => S.perm p7) ?_
    refine q_conv (fun w S => S.perm p7) ?_
    refine h_next ?_
    refine h_take 15 rfl rfl (by kernel_rfl) (by kernel_rfl) (by kernel_rfl) (fun L0 => v_assign rfl rfl) ?_
    refine h_take 16 rfl rfl (by kernel_rfl) (by kernel_rfl) (by kernel_rfl) (fun L0 => v_assign rfl rfl) ?_
    refine h_take 17 rfl rfl (by kernel_rfl) (by kernel_rfl) (by kernel_rfl) (fun L0 => v_assign rfl rfl) ?_
    refine h_done (by kernel_rfl) ?_
    refine q_then ?_
    refine c_seq ?_
    refine c_region ?_
    refine o_move rfl rfl ?_
    refine o_bin rfl rfl rfl (b_pne Try.underlying121 _) ?_
    refine l_nil ?_
    refine q_then ?_
    refine c_cond rfl (fun h3 => ?_) (fun h3 => ?_)
    · -- h3T
     have h3b := h3
     try simp only [decide_eq_true_eq, decide_eq_false_iff_not, Bool.not_eq_eq_eq_not, Bool.not_true, Bool.not_false, Bool.not_eq_true', Bool.not_eq_false', Int.not_lt, Int.not_le, Bool.or_eq_true, Bool.and_eq_true] at h3
     obtain ⟨⟨bm, m, br, rs⟩, hs29⟩ : ∃ z, s29 = some z := by cases s29 with | none => simp at h3b | some z => exact ⟨z, rfl⟩
     subst hs29
     refine c_seq ?_
     refine c_mid (α := (Option Addr) × Nat × (Option Addr)) (fun z => [(0, .pointer (some ⟨b, 0, none⟩)), (1, .agg #[.string x.f_key, .bool x.f_value.f_Has, .slice x.f_value.f_Value.a (x.f_value.f_Value.xs).length x.f_value.f_Value.c, .int .i64 x.f_value.f_Home, .int .u64 x.f_value.f_Count]), (3, .pointer (some ⟨b3, 0, none⟩)), (4, .pointer (some ⟨b4, 0, none⟩)), (5, .bool had29), (6, .pointer none), (7, .pointer none), (8, .int .i64 (i17 : Int)), (9, .bool fd17), (10, .pointer (some ⟨bm, 0, none⟩)), (11, .pointer (some ⟨br, 0, none⟩)), (13, .tuple #[.int .i64 (i17 : Int), .bool fd17]), (14, .pointer (some ⟨b, 0, none⟩)), (15, .pointer (some ⟨b3, 0, none⟩)), (16, .string x.f_key), (17, .tuple #[.int .i64 (i17 : Int), .bool fd17]), (18, .int .i64 (i17 : Int)), (19, .bool fd17), (21, .pointer (some ⟨b, 0, none⟩)), (22, .pointer (some ⟨b, 0, none⟩)), (23, .pointer (some ⟨b, 1, none⟩)), (24, .slice q.ak ((q.kids.map Prod.fst)).length q.ck), (25, .int .i64 (i17 : Int)), (27, .pointer (some ⟨kb, 0, none⟩)), (28, .agg #[.string x.f_key, .bool x.f_value.f_Has, .slice x.f_value.f_Value.a (x.f_value.f_Value.xs).length x.f_value.f_Value.c, .int .i64 x.f_value.f_Home, .int .u64 x.f_value.f_Count]), (30, .agg #[.bool old29.f_Has, .slice old29.f_Value.a (old29.f_Value.xs).length old29.f_Value.c, .int .i64 old29.f_Home, .int .u64 old29.f_Count]), (31, .bool had29), (36, .pointer (some ⟨b, 0, none⟩)), (37, .pointer (some ⟨b, 0, none⟩)), (38, .pointer (some ⟨b, 0, none⟩)), (39, .pointer (some ⟨b, 0, none⟩)), (40, .slice q.a (q.items).length q.c), (41, .int .i64 (i17 : Int)), (42, .pointer (some ⟨bm, 0, none⟩)), (43, .pointer (some ⟨bm, 0, none⟩)), (44, .agg #[.string m.f_key, .bool m.f_value.f_Has, .slice m.f_value.f_Value.a (m.f_value.f_Value.xs).length m.f_value.f_Value.c, .int .i64 m.f_value.f_Home, .int .u64 m.f_value.f_Count]), (45, .slice z.2.2 ([m]).length 1), (46, .slice z.1 ((q.items.take i17 ++ m :: q.items.drop i17)).length z.2.1), (47, .pointer (some ⟨b, 0, none⟩)), (48, .pointer (some ⟨b, 0, none⟩)), (61, .bool fd17), (62, .bool fd17), (82, .bool (decide ((((q.kids.map Prod.fst)).length : Int) = 0))), (83, .pointer (some ⟨b, 0, none⟩)), (84, .pointer (some ⟨b, 0, none⟩)), (85, .pointer (some ⟨b, 1, none⟩)), (86, .slice q.ak ((q.kids.map Prod.fst)).length q.ck), (87, .int .i64 (((q.kids.map Prod.fst)).length : Int)), (88, .bool (decide ((((q.kids.map Prod.fst)).length : Int) = 0)))]) (fun z => blk b (.cells #[.slice z.1 ((q.items.take i17 ++ m :: q.items.drop i17)).length z.2.1, .slice q.ak ((q.kids.map Prod.fst)).length q.ck] 103 (0, 0)) :: row e_ItA.T e_ItA.sz z.1 ((q.items.take i17 ++ m :: q.items.drop i17)).length z.2.1 (flat e_ItA (q.items.take i17 ++ m :: q.items.drop i17)) :: blk bm (.cells #[.string m.f_key, .bool m.f_value.f_Has, .slice m.f_value.f_Value.a (m.f_value.f_Value.xs).length m.f_value.f_Value.c, .int .i64 m.f_value.f_Home, .int .u64 m.f_value.f_Count] 110 (0, 0)) :: nodeR e_ItA eN99 103 d' 2 br rs :: kidsR e_ItA eN99 103 d (q.kids.eraseIdx i17) :: row eN99.T eN99.sz q.ak ((q.kids.map Prod.fst)).length q.ck (flat eN99 (q.kids.map Prod.fst)) :: blk b3 (.cells #[.string x.f_key, .bool x.f_value.f_Has, .slice x.f_value.f_Value.a (x.f_value.f_Value.xs).length x.f_value.f_Value.c, .int .i64 x.f_value.f_Home, .int .u64 x.f_value.f_Count] 110 (0, 0)) :: blk b4 (.cells #[.bool old29.f_Has, .slice old29.f_Value.a (old29.f_Value.xs).length old29.f_Value.c, .int .i64 old29.f_Home, .int .u64 old29.f_Count] 36 (0, 0)) :: nodeR e_ItA eN99 103 d' 2 kb ls29 :: F) (fun z => True) ?_ ?_
     · -- cut
      refine c_conv (fun w S => S.perm p7) ?_
      refine c_conv (L' := blk bm (.cells #[.string m.f_key, .bool m.f_value.f_Has, .slice m.f_value.f_Value.a (m.f_value.f_Value.xs).length m.f_value.f_Value.c, .int .i64 m.f_value.f_Home, .int .u64 m.f_value.f_Count] 110 (0, 0)) :: nodeR e_ItA eN99 103 d' 2 br rs :: _) (fun w S => Sat.flat (Ls := [_, _]) S) ?_
      refine c_conv (fun w S => S.perm p4) ?_
      refine c_conv (fun w S => S.perm p4) ?_
      refine c_conv (fun w S => S.perm p8) ?_
      refine c_conv (fun w S => S.perm p8) ?_
      refine c_conv (fun w S => S.perm p8) ?_
      refine c_conv (fun w S => S.perm p8) ?_
      refine c_conv (fun w S => S.perm p8) ?_
      refine c_conv (fun w S => S.perm p8) ?_
      refine c_conv (fun w S => S.perm p8) ?_
      refine c_held [blk bm (.cells #[.string m.f_key, .bool m.f_value.f_Has, .slice m.f_value.f_Value.a (m.f_value.f_Value.xs).length m.f_value.f_Value.c, .int .i64 m.f_value.f_Home, .int .u64 m.f_value.f_Count] 110 (0, 0)), nodeR e_ItA eN99 103 d' 2 br rs, kidsR e_ItA eN99 103 d (q.kids.eraseIdx i17), row eN99.T eN99.sz q.ak ((q.kids.map Prod.fst)).length q.ck (flat eN99 (q.kids.map Prod.fst)), blk b3 (.cells #[.string x.f_key, .bool x.f_value.f_Has, .slice x.f_value.f_Value.a (x.f_value.f_Value.xs).length x.f_value.f_Value.c, .int .i64 x.f_value.f_Home, .int .u64 x.f_value.f_Count] 110 (0, 0)), blk b4 (.cells #[.bool old29.f_Has, .slice old29.f_Value.a (old29.f_Value.xs).length old29.f_Value.c, .int .i64 old29.f_Home, .int .u64 old29.f_Count] 36 (0, 0)), nodeR e_ItA eN99 103 d' 2 kb ls29] (by kernel_rfl) rfl ?_
      refine h_take 0 rfl rfl (by kernel_rfl) (by kernel_rfl) (by kernel_rfl) (fun L0 => v_move rfl rfl) ?_
      refine h_take 1 rfl rfl (by kernel_rfl) (by kernel_rfl) (by kernel_rfl) (fun L0 => v_move rfl rfl) ?_
      refine h_take 2 rfl rfl (by kernel_rfl) (by kernel_rfl) (by kernel_rfl) (fun L0 => v_nil rfl rfl) ?_
      refine h_take 3 rfl rfl (by kernel_rfl) (by kernel_rfl) (by kernel_rfl) (fun L0 => v_fieldAddr (q := ⟨b, 0, none⟩) rfl rfl Try.underlying103 rfl ti100 rfl) ?_
      refine h_take 5 rfl rfl (by kernel_rfl) (by kernel_rfl) (by kernel_rfl) (fun L0 => v_move rfl rfl) ?_
      refine h_take 6 rfl rfl (by kernel_rfl) (by kernel_rfl) (by kernel_rfl) (fun L0 => v_move rfl rfl) ?_
      refine h_take 7 rfl rfl (by kernel_rfl) (by kernel_rfl) (by kernel_rfl) (fun L0 => v_nil rfl rfl) ?_
      refine h_take 8 rfl rfl (by kernel_rfl) (by kernel_rfl) (by kernel_rfl) (fun L0 => v_loadn (vs := [_, _, _, _, _]) rfl rfl Try.underlying110 rfl ti110 (rdn_lit 0 rfl rfl)) ?_
      refine h_many (is := [4, 9]) (by kernel_rfl) (by decide) (forall_cons ⟨_, rfl, ?_⟩ (forall_cons ⟨_, rfl, ?_⟩ forall_nil))
      · -- 4 comes first
       refine o_load1 rfl rfl Try.underlying100 rfl (rd_mem 7 rfl rfl) ?_
       refine l_nil ?_
       refine h_next ?_
       refine h_one 9 rfl (by kernel_rfl) ?_
       refine o_lit e_ItA_ok rfl Try.underlying100 rfl rfl rfl (lit_ok rfl) [m] rfl rfl fun a45 => ?_
       refine l_nil ?_
       refine q_conv (fun w S => S.perm p9) ?_
       refine q_conv (fun w S => S.perm p9) ?_
       refine q_conv (fun w S => S.perm p2) ?_
       refine q_conv (fun w S => S.perm p9) ?_
       refine q_conv (fun w S => S.perm p9) ?_
       refine q_conv (fun w S => S.perm p9) ?_
       refine q_conv (fun w S => S.perm p9) ?_
       refine q_conv (fun w S => S.perm p9) ?_
       refine q_conv (fun w S => S.perm p9) ?_
       refine q_conv (fun w S => S.perm p9) ?_
       refine h_next ?_
       refine h_one 10 rfl (by kernel_rfl) ?_
       refine l_f7 ?_
       refine l_f9 ?_
       refine o_call rfl cal74 rfl (insI_A (xs := q.items) (x := m) (i := i17) hF17.le (by omega)) ?_
       rintro _ _ ⟨a46, c46, rfl, rfl⟩
       refine l_nil ?_
       refine q_conv (fun w S => S.perm p8) ?_
       refine q_conv (fun w S => S.perm p1) ?_
       refine q_conv (fun w S => S.perm p8) ?_
       refine q_conv (fun w S => S.perm p8) ?_
       refine q_conv (fun w S => S.perm p8) ?_
       refine q_conv (fun w S => S.perm p8) ?_
       refine q_conv (fun w S => S.perm p8) ?_
       refine q_conv (fun w S => S.perm p8) ?_
       refine q_conv (fun w S => S.perm p8) ?_
       refine h_next ?_
       refine h_take 11 rfl rfl (by kernel_rfl) (by kernel_rfl) (by kernel_rfl) (fun L0 => v_nil rfl rfl) ?_
       refine h_take 12 rfl rfl (by kernel_rfl) (by kernel_rfl) (by kernel_rfl) (fun L0 => v_fieldAddr (q := ⟨b, 0, none⟩) rfl rfl Try.underlying103 rfl ti100 rfl) ?_
       refine h_one 13 rfl (by kernel_rfl) ?_
       refine l_f8 ?_
       refine o_store1 rfl rfl rfl ti100 rfl rfl ?_
       refine l_nil ?_
       refine q_conv (fun w S => S.perm p8) ?_
       refine q_conv (fun w S => S.perm p1) ?_
       refine q_conv (fun w S => S.perm p8) ?_
       refine q_conv (fun w S => S.perm p8) ?_
       refine q_conv (fun w S => S.perm p8) ?_
       refine q_conv (fun w S => S.perm p8) ?_
       refine q_conv (fun w S => S.perm p8) ?_
       refine q_conv (fun w S => S.perm p8) ?_
       refine q_conv (fun w S => S.perm p8) ?_
       refine h_next ?_
       refine h_done (by kernel_rfl) ?_
       refine q_conv (fun w S => S.perm p6) ?_
       refine q_conv (fun w S => S.perm p6) ?_
       refine q_conv (fun w S => S.perm p6) ?_
       refine q_conv (fun w S => S.perm p6) ?_
       refine q_conv (fun w S => S.perm p6) ?_
       refine q_conv (fun w S => S.perm p6) ?_
       refine q_conv (fun w S => S.perm p6) ?_
       refine q_conv (fun w S => S.perm p8) ?_
       refine q_conv (fun w S => S.perm p8) ?_
       exact q_mid (a46, c46, a45) (by trivial) ⟨(by first | rfl | exact vint (by omega)), (by first | rfl | exact vint (by omega)), (by first | rfl | exact vint (by omega)), (by first | rfl | exact vint (by omega)), (by first | rfl | exact vint (by omega)), (by first | rfl | exact vint (by omega)), (by first | rfl | exact vint (by omega)), (by first | rfl | exact vint (by omega)), (by first | rfl | exact vint (by omega)), (by first | rfl | exact vint (by omega)), (by first | rfl | exact vint (by omega)), (by first | rfl | exact vint (by omega)), (by first | rfl | exact vint (by omega)), (by first | rfl | exact vint (by omega)), (by first | rfl | exact vint (by omega)), (by first | rfl | exact vint (by omega)), (by first | rfl | exact vint (by omega)), (by first | rfl | exact vint (by omega)), (by first | rfl | exact vint (by omega)), (by first | rfl | exact vint (by omega)), (by first | rfl | exact vint (by omega)), (by first | rfl | exact vint (by omega)), (by first | rfl | exact vint (by omega)), (by first | rfl | exact vint (by omega)), (by first | rfl | exact vint (by omega)), (by first | rfl | exact vint (by omega)), (by first | rfl | exact vint (by omega)), (by first | rfl | exact vint (by omega)), (by first | rfl | exact vint (by omega)), (by first | rfl | exact vint (by omega)), (by first | rfl | exact vint (by omega)), (by first | rfl | exact vint (by omega)), (by first | rfl | exact vint (by omega)), (by first | rfl | exact vint (by omega)), (by first | rfl | exact vint (by omega)), (by first | rfl | exact vint (by omega)), (by first | rfl | exact vint (by omega)), (by first | rfl | exact vint (by omega)), (by first | rfl | exact vint (by omega)), (by first | rfl | exact vint (by omega)), (by first | rfl | exact vint (by omega)), (by first | rfl | exact vint (by omega)), (by first | rfl | exact vint (by omega)), (by first | rfl | exact vint (by omega)), (by first | rfl | exact vint (by omega)), (by first | rfl | exact vint (by omega)), (by first | rfl | exact vint (by omega)), (by first | rfl | exact vint (by omega)), (by first | rfl | exact vint (by omega)), trivial⟩ (fun w S => S)
      · -- 9 comes first
       refine o_lit e_ItA_ok rfl Try.underlying100 rfl rfl rfl (lit_ok rfl) [m] rfl rfl fun a45 => ?_
       refine l_nil ?_
       refine q_conv (fun w S => S.perm p9) ?_
       refine q_conv (fun w S => S.perm p9) ?_
       refine q_conv (fun w S => S.perm p2) ?_
       refine q_conv (fun w S => S.perm p9) ?_
       refine q_conv (fun w S => S.perm p9) ?_
       refine q_conv (fun w S => S.perm p9) ?_
       refine q_conv (fun w S => S.perm p9) ?_
       refine q_conv (fun w S => S.perm p9) ?_
       refine q_conv (fun w S => S.perm p9) ?_
       refine q_conv (fun w S => S.perm p9) ?_
       refine h_next ?_
       refine h_one 4 rfl (by kernel_rfl) ?_
       refine o_load1 rfl rfl Try.underlying100 rfl (rd_mem 8 rfl rfl) ?_
       refine l_nil ?_
       refine h_next ?_
       refine h_one 10 rfl (by kernel_rfl) ?_
       refine l_f7 ?_
       refine l_f9 ?_
       refine o_call rfl cal74 rfl (insI_A (xs := q.items) (x := m) (i := i17) hF17.le (by omega)) ?_
       rintro _ _ ⟨a46, c46, rfl, rfl⟩
       refine l_nil ?_
       refine q_conv (fun w S => S.perm p8) ?_
       refine q_conv (fun w S => S.perm p1) ?_
       refine q_conv (fun w S => S.perm p8) ?_
       refine q_conv (fun w S => S.perm p8) ?_
       refine q_conv (fun w S => S.perm p8) ?_
       refine q_conv (fun w S => S.perm p8) ?_
       refine q_conv (fun w S => S.perm p8) ?_
       refine q_conv (fun w S => S.perm p8) ?_
       refine q_conv (fun w S => S.perm p8) ?_
       refine h_next ?_
       refine h_take 11 rfl rfl (by kernel_rfl) (by kernel_rfl) (by kernel_rfl) (fun L0 => v_nil rfl rfl) ?_
       refine h_take 12 rfl rfl (by kernel_rfl) (by kernel_rfl) (by kernel_rfl) (fun L0 => v_fieldAddr (q := ⟨b, 0, none⟩) rfl rfl Try.underlying103 rfl ti100 rfl) ?_
       refine h_one 13 rfl (by kernel_rfl) ?_
       refine l_f8 ?_
       refine o_store1 rfl rfl rfl ti100 rfl rfl ?_
       refine l_nil ?_
       refine q_conv (fun w S => S.perm p8) ?_
       refine q_conv (fun w S => S.perm p1) ?_
       refine q_conv (fun w S => S.perm p8) ?_
       refine q_conv (fun w S => S.perm p8) ?_
       refine q_conv (fun w S => S.perm p8) ?_
       refine q_conv (fun w S => S.perm p8) ?_
       refine q_conv (fun w S => S.perm p8) ?_
       refine q_conv (fun w S => S.perm p8) ?_
       refine q_conv (fun w S => S.perm p8) ?_
       refine h_next ?_
       refine h_done (by kernel_rfl) ?_
       refine q_conv (fun w S => S.perm p6) ?_
       refine q_conv (fun w S => S.perm p6) ?_
       refine q_conv (fun w S => S.perm p6) ?_
       refine q_conv (fun w S => S.perm p6) ?_
       refine q_conv (fun w S => S.perm p6) ?_
       refine q_conv (fun w S => S.perm p6) ?_
       refine q_conv (fun w S => S.perm p6) ?_
       refine q_conv (fun w S => S.perm p8) ?_
       refine q_conv (fun w S => S.perm p8) ?_
       exact q_mid (a46, c46, a45) (by trivial) ⟨(by first | rfl | exact vint (by omega)), (by first | rfl | exact vint (by omega)), (by first | rfl | exact vint (by omega)), (by first | rfl | exact vint (by omega)), (by first | rfl | exact vint (by omega)), (by first | rfl | exact vint (by omega)), (by first | rfl | exact vint (by omega)), (by first | rfl | exact vint (by omega)), (by first | rfl | exact vint (by omega)), (by first | rfl | exact vint (by omega)), (by first | rfl | exact vint (by omega)), (by first | rfl | exact vint (by omega)), (by first | rfl | exact vint (by omega)), (by first | rfl | exact vint (by omega)), (by first | rfl | exact vint (by omega)), (by first | rfl | exact vint (by omega)), (by first | rfl | exact vint (by omega)), (by first | rfl | exact vint (by omega)), (by first | rfl | exact vint (by omega)), (by first | rfl | exact vint (by omega)), (by first | rfl | exact vint (by omega)), (by first | rfl | exact vint (by omega)), (by first | rfl | exact vint (by omega)), (by first | rfl | exact vint (by omega)), (by first | rfl | exact vint (by omega)), (by first | rfl | exact vint (by omega)), (by first | rfl | exact vint (by omega)), (by first | rfl | exact vint (by omega)), (by first | rfl | exact vint (by omega)), (by first | rfl | exact vint (by omega)), (by first | rfl | exact vint (by omega)), (by first | rfl | exact vint (by omega)), (by first | rfl | exact vint (by omega)), (by first | rfl | exact vint (by omega)), (by first | rfl | exact vint (by omega)), (by first | rfl | exact vint (by omega)), (by first | rfl | exact vint (by omega)), (by first | rfl | exact vint (by omega)), (by first | rfl | exact vint (by omega)), (by first | rfl | exact vint (by omega)), (by first | rfl | exact vint (by omega)), (by first | rfl | exact vint (by omega)), (by first | rfl | exact vint (by omega)), (by first | rfl | exact vint (by omega)), (by first | rfl | exact vint (by omega)), (by first | rfl | exact vint (by omega)), (by first | rfl | exact vint (by omega)), (by first | rfl | exact vint (by omega)), (by first | rfl | exact vint (by omega)), trivial⟩ (fun w S => S)
     · -- behind the cut
      rintro ⟨a46, c46, a45⟩ _hp
      try dsimp only at *
      refine c_region ?_
      refine o_move rfl rfl ?_
      refine o_move rfl rfl ?_
      refine o_nil rfl rfl ?_
      refine o_fieldAddr (q := ⟨b, 1, none⟩) rfl rfl Try.underlying103 rfl ti101 rfl ?_
      refine o_load1 rfl rfl Try.underlying101 rfl (rd_mem 0 rfl rfl) ?_
      refine o_move rfl rfl ?_
      refine o_bin rfl rfl rfl (b_add (show IntKind.i64.wrap ((i17 : Int) + 1) = ((i17 + 1 : Nat) : Int) from by rw [wrap_i64 (by omega) (by omega)]; omega)) ?_
      refine o_move rfl rfl ?_
      refine o_lit eN99_ok rfl Try.underlying101 rfl rfl rfl (lit_ok rfl) [br] rfl rfl fun a57 => ?_
      refine l_f6 ?_
      refine o_call rfl cal75 rfl (insK_A (xs := (q.kids.map Prod.fst)) (x := br) (i := (i17 + 1 : Nat)) (by omega) (by omega)) ?_
      rintro _ _ ⟨a58, c58, rfl, rfl⟩
      refine o_nil rfl rfl ?_
      refine o_fieldAddr (q := ⟨b, 1, none⟩) rfl rfl Try.underlying103 rfl ti101 rfl ?_
      refine l_f1 ?_
      refine o_store1 rfl rfl rfl ti101 rfl rfl ?_
      refine l_nil ?_
      refine q_block ?_
      refine q_conv (fun w S => S.perm p7) ?_
      refine q_conv (fun w S => S.perm p7) ?_
      refine q_conv (fun w S => S.perm p5) ?_
      refine q_conv (fun w S => S.perm p5) ?_
      refine q_conv (fun w S => S.perm p5) ?_
      refine q_conv (fun w S => S.perm p5) ?_
      refine q_conv (fun w S => S.perm p7) ?_
      refine q_conv (fun w S => S.perm p7) ?_
      refine q_conv (fun w S => S.perm p8) ?_
      refine q_conv (L' := kidsR e_ItA eN99 103 d (q.kids.take i17 ++ (kb, ls29) :: (br, rs) :: q.kids.drop (i17 + 1)) :: _) (fun w S => Sat.kid_two (k := (kb, ls29)) (k2 := (br, rs)) (by omega) (by rw [hd'] at S ⊢; exact S)) ?_
      have hkf : ((q.kids.map Prod.fst).take (i17 + 1 : Nat) ++ br :: (q.kids.map Prod.fst).drop (i17 + 1 : Nat)) = ((q.kids.take i17 ++ (kb, ls29) :: (br, rs) :: q.kids.drop (i17 + 1)).map Prod.fst) := by rw [kids_fst hkid]
      refine q_conv (fun w S => S.perm p6) ?_
      refine q_conv (fun w S => S.perm p6) ?_
      refine q_conv (fun w S => S.perm p6) ?_
      refine q_conv (fun w S => S.perm p6) ?_
      refine q_conv (fun w S => S.perm p4) ?_
      refine q_conv (fun w S => S.perm p5) ?_
      refine q_conv (fun w S => S.perm p6) ?_
      refine q_conv (L' := row eN99.T eN99.sz a58 (((q.kids.take i17 ++ (kb, ls29) :: (br, rs) :: q.kids.drop (i17 + 1)).map Prod.fst)).length c58 (flat eN99 ((q.kids.take i17 ++ (kb, ls29) :: (br, rs) :: q.kids.drop (i17 + 1)).map Prod.fst)) :: blk b (.cells #[.slice a46 ((q.items.take i17 ++ m :: q.items.drop i17)).length c46, .slice a58 (((q.kids.take i17 ++ (kb, ls29) :: (br, rs) :: q.kids.drop (i17 + 1)).map Prod.fst)).length c58] 103 (0, 0)) :: _) (fun w S => by rw [hkf] at S; exact S) ?_
      refine q_conv (fun w S => (S.perm p4).tail) ?_
      refine q_conv (fun w S => (S.perm p4).tail) ?_
      refine q_conv (fun w S => S.perm p4) ?_
      refine q_conv (fun w S => S.perm p3) ?_
      refine q_conv (fun w S => S.perm p2) ?_
      refine q_conv (fun w S => S.perm p4) ?_
      refine q_conv (fun w S => S.perm p4) ?_
      exact q_mid (⟨a46, c46, a58, c58, (q.items.take i17 ++ m :: q.items.drop i17), (q.kids.take i17 ++ (kb, ls29) :: (br, rs) :: q.kids.drop (i17 + 1))⟩, old29, _) (by exact put_part strlt_sto hq srt hkid hF17 hnf his29 hol29) ⟨(by first | rfl | exact vint (by omega)), (by first | rfl | exact vint (by omega)), (by first | rfl | exact vint (by omega)), trivial⟩ (fun w S => S)
    · -- h3F
     have h3b := h3
     try simp only [decide_eq_true_eq, decide_eq_false_iff_not, Bool.not_eq_eq_eq_not, Bool.not_true, Bool.not_false, Bool.not_eq_true', Bool.not_eq_false', Int.not_lt, Int.not_le, Bool.or_eq_true, Bool.and_eq_true] at h3
     have hs29 : s29 = none := by cases s29 with | none => rfl | some z => simp at h3b
     subst hs29
     refine c_skip ?_
     refine q_block ?_
     refine q_conv (fun w S => S.perm p7) ?_
     refine q_conv (fun w S => S.perm p6) ?_
     refine q_conv (fun w S => S.perm p6) ?_
     refine q_conv (fun w S => S.perm p6) ?_
     refine q_conv (fun w S => S.perm p6) ?_
     refine q_conv (fun w S => S.perm p6) ?_
     refine q_conv (fun w S => S.perm p6) ?_
     refine q_conv (fun w S => S.perm p7) ?_
     refine q_conv (L' := kidsR e_ItA eN99 103 d (q.kids.set i17 (kb, ls29)) :: _) (fun w S => Sat.kid_set (k := (kb, ls29)) (by omega) (by rw [hd'] at S ⊢; exact S)) ?_
     have hkf : (q.kids.map Prod.fst) = ((q.kids.set i17 (kb, ls29)).map Prod.fst) := kids_fst_set hkid
     refine q_conv (fun w S => S.perm p6) ?_
     refine q_conv (fun w S => S.perm p6) ?_
     refine q_conv (fun w S => S.perm p6) ?_
     refine q_conv (fun w S => S.perm p5) ?_
     refine q_conv (fun w S => S.perm p4) ?_
     refine q_conv (fun w S => S.perm p5) ?_
     refine q_conv (fun w S => S.perm p6) ?_
     refine q_conv (L' := row eN99.T eN99.sz q.ak (((q.kids.set i17 (kb, ls29)).map Prod.fst)).length q.ck (flat eN99 ((q.kids.set i17 (kb, ls29)).map Prod.fst)) :: blk b (.cells #[.slice q.a (q.items).length q.c, .slice q.ak (((q.kids.set i17 (kb, ls29)).map Prod.fst)).length q.ck] 103 (0, 0)) :: _) (fun w S => by rw [hkf] at S; exact S) ?_
     refine q_conv (fun w S => (S.perm p4).tail) ?_
     refine q_conv (fun w S => (S.perm p5).tail) ?_
     refine q_conv (fun w S => S.perm p4) ?_
     refine q_conv (fun w S => S.perm p3) ?_
     refine q_conv (fun w S => S.perm p2) ?_
     refine q_conv (fun w S => S.perm p4) ?_
     refine q_conv (fun w S => S.perm p4) ?_
     exact q_mid (⟨q.a, q.c, q.ak, q.ck, q.items, (q.kids.set i17 (kb, ls29))⟩, old29, _) (by exact put_kid strlt_sto hq srt hkid hF17 hnf his29 hol29) ⟨(by first | rfl | exact vint (by omega)), (by first | rfl | exact vint (by omega)), (by first | rfl | exact vint (by omega)), trivial⟩ (fun w S => S)
 · -- behind the cut
  rintro ⟨q1, old, had⟩ hmid
  try dsimp only at *
  have hm6 := hmid.le
  refine c_seq ?_
  refine c_seq ?_
  refine c_region ?_
  refine o_move rfl rfl ?_
  refine o_nil rfl rfl ?_
  refine o_fieldAddr (q := ⟨b, 0, none⟩) rfl rfl Try.underlying103 rfl ti100 rfl ?_
  refine o_load1 rfl rfl Try.underlying100 rfl (rd_mem 0 rfl rfl) ?_
  refine o_len rfl rfl Try.underlying100 ?_
  refine o_bin rfl rfl rfl b_leq ?_
  refine l_nil ?_
  refine q_then ?_
  refine c_cond rfl (fun h4 => ?_) (fun h4 => ?_)
  · -- h4T
   have h4b := h4
   try simp only [decide_eq_true_eq] at h4
   refine c_seq ?_
   refine c_region ?_
   refine o_loadn (vs := [_, _, _, _]) rfl rfl Try.underlying36 rfl ti36 (rdn_lit 4 rfl rfl) ?_
   refine o_move rfl rfl ?_
   refine l_f4 ?_
   refine o_storen rfl rfl ti36 rfl rfl rfl rfl ?_
   refine o_assign rfl rfl ?_
   refine o_assign rfl rfl ?_
   refine o_assign rfl rfl ?_
   refine l_nil ?_
   refine q_then ?_
   refine c_ret ?_
   refine q_pass_ret ?_
   refine f_retq (.inl rfl) (rs_4 rfl (rs_celln (vs := [.bool old.f_Has, .slice old.f_Value.a (old.f_Value.xs).length old.f_Value.c, .int .i64 old.f_Home, .int .u64 old.f_Count]) rfl Try.underlying36 rfl ti36 (rdn_lit 0 rfl rfl)) (rs_tmp rfl) (rs_tmp rfl) (rs_tmp rfl)) (fun w S => ?_)
   replace S := S.tail
   exact ⟨_, ⟨old, had, ins ItA.f_key strlt x xs, none, ⟨rfl, hmid.old⟩, rfl, rfl⟩, (fun w S => (Sat.emp_ (nodeMk q1 (hmid.fits (by omega) q1.a q1.c q1.ak q1.ck) S)).perm (List.Perm.swap _ _ _)) w S⟩
  · -- h4F
   have h4b := h4
   try simp only [decide_eq_false_iff_not, Int.not_lt, Int.not_le] at h4
   refine c_skip ?_
   refine q_then ?_
   refine c_seq ?_
   refine c_fact (p := ∃ ad, q1.a = some ad) (rds_some (e := e_ItA) (xs := q1.items) (rds_own e_ItA_ok 1 rfl) (by intro h0; have h00 := congrArg List.length h0; simp only [List.length_nil] at h00; omega)) ?_
   rintro ⟨adx, eadx⟩
   refine c_region ?_
   refine o_move rfl rfl ?_
   refine o_nil rfl rfl ?_
   refine o_fieldAddr (q := ⟨b, 0, none⟩) rfl rfl Try.underlying103 rfl ti100 rfl ?_
   refine o_load1 rfl rfl Try.underlying100 rfl (rd_mem 0 rfl rfl) ?_
   refine o_indexK e_ItA_ok eadx rfl rfl rfl Try.underlying100 (by omega) (by omega) ?_
   obtain ⟨x112, hx112⟩ : ∃ x, (q1.items)[((2 : Int)).toNat]? = some x := ⟨_, List.getElem?_eq_getElem (by omega)⟩
   have hpar := hmid.parts (by omega) (show q1.items[2]? = some x112 from hx112)
   refine o_loadn (vs := e_ItA.cells x112) rfl rfl Try.underlying110 rfl ti110 (rdn_sl e_ItA_ok eadx (rds_own e_ItA_ok 1 rfl) hx112) ?_
   refine o_alloc rfl ti110 fun b12 => ?_
   refine o_storen rfl rfl ti110 rfl rfl rfl rfl ?_
   refine l_nil ?_
   refine q_then ?_
   refine c_seq ?_
   refine c_conv (fun w S => S.perm p2) ?_
   refine c_rowcap ?_
   intro hcI
   simp only [maxLen] at hcI
   refine c_region ?_
   refine o_move rfl rfl ?_
   refine o_nil rfl rfl ?_
   refine o_fieldAddr (q := ⟨b, 0, none⟩) rfl rfl Try.underlying103 rfl ti100 rfl ?_
   refine o_load1 rfl rfl Try.underlying100 rfl (rd_mem 2 rfl rfl) ?_
   refine o_cut (l' := 3) (h' := ((q1.items).length)) (m := q1.c) rfl rfl Try.underlying100 ti110 (.inl ⟨rfl, rfl⟩) (.inl ⟨rfl, rfl, rfl⟩) (.inr ⟨_, _, rfl, icast rfl (by omega), (by omega)⟩) ?_
   obtain ⟨ys118, ay118, cut118, hys118, hlys118, eay118⟩ : ∃ ys_ ay_, (∀ {L : List Res}, RdS W L e_ItA q1.a q1.items → RdS W L e_ItA ay_ ys_) ∧ ys_ = sub q1.items 3 ((q1.items).length) ∧ ys_.length = ((q1.items).length) - 3 ∧ cutA q1.a q1.c 3 5 = ay_ := ⟨_, _, fun h => rds_cut e_ItA_ok h _ _ _ (by omega), rfl, sub_len (by omega), rfl⟩
   refine l_eq (t := 118) (v' := .slice ay118 ys118.length (q1.c - 3)) rfl (by rw [eay118, hlys118]) ?_
   have hd118 : ys118 = q1.items.drop 3 := by rw [hys118]; unfold sub; rw [List.take_length]
   refine o_call rfl cal76 rfl (cloI_A (cut118 (rds_own e_ItA_ok 0 rfl)) (by omega)) ?_
   rintro _ _ ⟨a119, c119, rfl, rfl⟩
   refine o_build rfl sp103 ti103 rfl ((fill_cons (cells' := [.slice a119 (ys118).length c119, .slice none 0 0]) rfl rfl rfl rfl fill_nil)) ?_
   refine o_box rfl rfl fun b121 => ?_
   refine o_assign rfl rfl ?_
   refine l_nil ?_
   refine q_then ?_
   refine c_seq ?_
   refine c_region ?_
   refine o_move rfl rfl ?_
   refine o_move rfl rfl ?_
   refine o_nil rfl rfl ?_
   refine o_fieldAddr (q := ⟨b, 0, none⟩) rfl rfl Try.underlying103 rfl ti100 rfl ?_
   refine o_load1 rfl rfl Try.underlying100 rfl (rd_mem 4 rfl rfl) ?_
   refine o_cut (l' := 0) (h' := 2) (m := 2) rfl rfl Try.underlying100 ti110 (.inr ⟨_, _, rfl, icast rfl (by omega), (by omega)⟩) (.inr ⟨_, _, rfl, icast rfl (by omega), (by omega)⟩) (.inl ⟨rfl, rfl⟩) ?_
   obtain ⟨ys127, ay127, cut127, hys127, hlys127, eay127⟩ : ∃ ys_ ay_, (∀ {L : List Res}, RdS W L e_ItA q1.a q1.items → RdS W L e_ItA ay_ ys_) ∧ ys_ = sub q1.items 0 2 ∧ ys_.length = 2 - 0 ∧ cutA q1.a 2 0 5 = ay_ := ⟨_, _, fun h => rds_cut e_ItA_ok h _ _ _ (by omega), rfl, sub_len (by omega), rfl⟩
   refine l_eq (t := 127) (v' := .slice ay127 ys127.length (2 - 0)) rfl (by rw [eay127, hlys127]) ?_
   refine o_nil rfl rfl ?_
   refine o_fieldAddr (q := ⟨b, 0, none⟩) rfl rfl Try.underlying103 rfl ti100 rfl ?_
   refine l_f4 ?_
   refine o_store1 rfl rfl rfl ti100 rfl rfl ?_
   refine l_nil ?_
   refine q_then ?_
   refine c_seq ?_
   refine c_seq ?_
   refine c_region ?_
   refine o_move rfl rfl ?_
   refine o_nil rfl rfl ?_
   refine o_fieldAddr (q := ⟨b, 1, none⟩) rfl rfl Try.underlying103 rfl ti101 rfl ?_
   refine o_load1 rfl rfl Try.underlying101 rfl (rd_mem 0 rfl rfl) ?_
   refine o_len rfl rfl Try.underlying101 ?_
   refine o_bin rfl rfl rfl b_gtr ?_
   refine l_nil ?_
   refine q_then ?_
   refine c_cond rfl (fun h5 => ?_) (fun h5 => ?_)
   · -- h5T
    have h5b := h5
    try simp only [decide_eq_true_eq] at h5
    refine c_seq ?_
    have hk6 : 6 ≤ q1.kids.length := by have h9 := hmid.sh; have h8 : (q1.kids.map Prod.fst).length = q1.kids.length := List.length_map _; rcases h9 with ⟨_, h9⟩ | ⟨_, h9, _⟩ <;> first | omega | (have h7 := congrArg List.length h9; simp only [List.length_nil] at h7; omega)
    have hk7 : q1.kids.length ≤ 7 := by have h9 := hmid.sh; rcases h9 with ⟨_, h9⟩ | ⟨_, h9, _⟩ <;> first | omega | (have h7 := congrArg List.length h9; simp only [List.length_nil] at h7; omega)
    have hkm : (q1.kids.map Prod.fst).length = q1.kids.length := List.length_map _
    refine c_conv (fun w S => S.perm p5) ?_
    refine c_rowcap ?_
    intro hcK
    simp only [maxLen] at hcK
    refine c_region ?_
    refine o_move rfl rfl ?_
    refine o_move rfl rfl ?_
    refine o_nil rfl rfl ?_
    refine o_fieldAddr (q := ⟨b, 1, none⟩) rfl rfl Try.underlying103 rfl ti101 rfl ?_
    refine o_load1 rfl rfl Try.underlying101 rfl (rd_mem 1 rfl rfl) ?_
    refine o_cut (l' := 3) (h' := (((q1.kids.map Prod.fst)).length)) (m := q1.ck) rfl rfl Try.underlying101 ti99 (.inl ⟨rfl, rfl⟩) (.inl ⟨rfl, rfl, rfl⟩) (.inr ⟨_, _, rfl, icast rfl (by omega), (by omega)⟩) ?_
    obtain ⟨ys141, ay141, cut141, hys141, hlys141, eay141⟩ : ∃ ys_ ay_, (∀ {L : List Res}, RdS W L eN99 q1.ak (q1.kids.map Prod.fst) → RdS W L eN99 ay_ ys_) ∧ ys_ = sub (q1.kids.map Prod.fst) 3 (((q1.kids.map Prod.fst)).length) ∧ ys_.length = (((q1.kids.map Prod.fst)).length) - 3 ∧ cutA q1.ak q1.ck 3 1 = ay_ := ⟨_, _, fun h => rds_cut eN99_ok h _ _ _ (by omega), rfl, sub_len (by omega), rfl⟩
    refine l_eq (t := 141) (v' := .slice ay141 ys141.length (q1.ck - 3)) rfl (by rw [eay141, hlys141]) ?_
    have hd141 : ys141 = (q1.kids.map Prod.fst).drop 3 := by rw [hys141]; unfold sub; rw [List.take_length]
    refine o_call rfl cal77 rfl (cloK_A (cut141 (rds_own eN99_ok 0 rfl)) (by omega)) ?_
    rintro _ _ ⟨a142, c142, rfl, rfl⟩
    refine o_nil rfl rfl ?_
    refine o_fieldAddr (q := ⟨b121, 1, none⟩) rfl rfl Try.underlying103 rfl ti101 rfl ?_
    refine l_f3 ?_
    refine o_store1 rfl rfl rfl ti101 rfl rfl ?_
    refine l_nil ?_
    refine q_then ?_
    refine c_region ?_
    refine o_move rfl rfl ?_
    refine o_move rfl rfl ?_
    refine o_nil rfl rfl ?_
    refine o_fieldAddr (q := ⟨b, 1, none⟩) rfl rfl Try.underlying103 rfl ti101 rfl ?_
    refine o_load1 rfl rfl Try.underlying101 rfl (rd_mem 3 rfl rfl) ?_
    refine o_cut (l' := 0) (h' := 3) (m := 3) rfl rfl Try.underlying101 ti99 (.inr ⟨_, _, rfl, icast rfl (by omega), (by omega)⟩) (.inr ⟨_, _, rfl, icast rfl (by omega), (by omega)⟩) (.inl ⟨rfl, rfl⟩) ?_
    obtain ⟨ys150, ay150, cut150, hys150, hlys150, eay150⟩ : ∃ ys_ ay_, (∀ {L : List Res}, RdS W L eN99 q1.ak (q1.kids.map Prod.fst) → RdS W L eN99 ay_ ys_) ∧ ys_ = sub (q1.kids.map Prod.fst) 0 3 ∧ ys_.length = 3 - 0 ∧ cutA q1.ak 3 0 1 = ay_ := ⟨_, _, fun h => rds_cut eN99_ok h _ _ _ (by omega), rfl, sub_len (by omega), rfl⟩
    refine l_eq (t := 150) (v' := .slice ay150 ys150.length (3 - 0)) rfl (by rw [eay150, hlys150]) ?_
    refine o_nil rfl rfl ?_
    refine o_fieldAddr (q := ⟨b, 1, none⟩) rfl rfl Try.underlying103 rfl ti101 rfl ?_
    refine l_f3 ?_
    refine o_store1 rfl rfl rfl ti101 rfl rfl ?_
    refine l_nil ?_
    refine q_then ?_
    refine c_seq ?_
    skip
    refine c_region ?_
    refine o_loadn (vs := [_, _, _, _]) rfl rfl Try.underlying36 rfl ti36 (rdn_lit 8 rfl rfl) ?_
    refine o_move rfl rfl ?_
    refine o_move rfl rfl ?_
    refine l_f8 ?_
    refine o_storen rfl rfl ti36 rfl rfl rfl rfl ?_
    refine o_assign rfl rfl ?_
    refine o_assign rfl rfl ?_
    refine o_assign rfl rfl ?_
    refine l_nil ?_
    refine q_then ?_
    refine c_ret ?_
    refine f_retq (.inl rfl) (rs_4 rfl (rs_celln (vs := [.bool old.f_Has, .slice old.f_Value.a (old.f_Value.xs).length old.f_Value.c, .int .i64 old.f_Home, .int .u64 old.f_Count]) rfl Try.underlying36 rfl ti36 (rdn_lit 0 rfl rfl)) (rs_tmp rfl) (rs_tmp rfl) (rs_tmp rfl)) (fun w S => ?_)
    replace S := S.tail
    replace S := S.perm p2
    replace S := S.perm p4
    replace S := S.perm p3
    replace S := S.perm p6
    replace S := S.perm p7
    replace S := S.perm p6
    replace S := S.perm p7
    replace S := S.perm p7
    exact ⟨_, ⟨old, had, weave ((q1.kids.take 3).map Prod.snd) (q1.items.take 2), some (b12, x112, b121, weave ((q1.kids.drop 3).map Prod.snd) (q1.items.drop 3)), ⟨hpar.2.2, hmid.old⟩, rfl, rfl⟩, (fun w S => put_end e_ItA_ok eN99_ok (by omega) hk6 (hpar.1 _ _ _ _) (hpar.2.1 _ _ _ _) (by rw [hlys127, hlys150, ← eay127, ← eay150, cutA_0, cutA_0, hd118, hd141] at S; exact S)) w S⟩
   · -- h5F
    have h5b := h5
    try simp only [decide_eq_false_iff_not, Int.not_lt, Int.not_le] at h5
    have hk0 : q1.kids = [] := List.eq_nil_of_length_eq_zero (by have h8 : (q1.kids.map Prod.fst).length = q1.kids.length := List.length_map _; omega)
    refine c_skip ?_
    refine q_then ?_
    refine c_seq ?_
    skip
    refine c_region ?_
    refine o_loadn (vs := [_, _, _, _]) rfl rfl Try.underlying36 rfl ti36 (rdn_lit 7 rfl rfl) ?_
    refine o_move rfl rfl ?_
    refine o_move rfl rfl ?_
    refine l_f7 ?_
    refine o_storen rfl rfl ti36 rfl rfl rfl rfl ?_
    refine o_assign rfl rfl ?_
    refine o_assign rfl rfl ?_
    refine o_assign rfl rfl ?_
    refine l_nil ?_
    refine q_then ?_
    refine c_ret ?_
    refine f_retq (.inl rfl) (rs_4 rfl (rs_celln (vs := [.bool old.f_Has, .slice old.f_Value.a (old.f_Value.xs).length old.f_Value.c, .int .i64 old.f_Home, .int .u64 old.f_Count]) rfl Try.underlying36 rfl ti36 (rdn_lit 0 rfl rfl)) (rs_tmp rfl) (rs_tmp rfl) (rs_tmp rfl)) (fun w S => ?_)
    replace S := S.tail
    replace S := S.perm p2
    replace S := S.perm p2
    replace S := S.perm p4
    replace S := S.perm p6
    replace S := S.perm p6
    replace S := S.perm p6
    replace S := S.perm p6
    exact ⟨_, ⟨old, had, weave ((q1.kids.take 3).map Prod.snd) (q1.items.take 2), some (b12, x112, b121, weave ((q1.kids.drop 3).map Prod.snd) (q1.items.drop 3)), ⟨hpar.2.2, hmid.old⟩, rfl, rfl⟩, (fun w S => put_end0 e_ItA_ok (by omega) hk0 (hpar.1 _ _ _ _) (hpar.2.1 _ _ _ _) (by rw [hlys127, ← eay127, cutA_0, hd118] at S; exact S)) w S⟩
theorem put_A : ∀ d, PutSpec_A d
  | 0 => put_step_A fun d' h => by omega
  | d + 1 => put_step_A fun d' h => by obtain rfl : d = d' := (by omega); exact put_A d
end
section
set_option linter.unusedVariables false
set_option linter.unusedSimpArgs false
set_option maxRecDepth 10000
open Go.RowKit Classical
theorem new_A {W : World} {F : List Res}  : CS Try.prog 29 #[] W (F) (fun r L' => ∃ t : Nat, r = .pointer (some ⟨t, 0, none⟩) ∧ L' = treeR e_ItA eN99 103 105 ItA.f_key strlt t ([] : List ItA) :: F) := by
 refine f_door (l0 := []) Try.func29 Try.ntmps29 rfl rfl rfl ?_
 refine c_seq ?_
 refine c_region ?_
 refine o_assign rfl rfl ?_
 refine l_nil ?_
 refine q_then ?_
 refine c_seq ?_
 refine c_region ?_
 refine o_build rfl sp103 ti103 rfl rfl ?_
 refine o_box rfl rfl fun b2 => ?_
 refine o_build rfl sp105 ti105 rfl ((fill_cons (cells' := [.pointer (some ⟨b2, 0, none⟩), .int .i64 0]) rfl rfl rfl rfl fill_nil)) ?_
 refine o_box rfl rfl fun b4 => ?_
 refine o_assign rfl rfl ?_
 refine l_nil ?_
 refine q_then ?_
 refine c_ret ?_
 exact f_ret (r_one rfl rfl) (⟨b4, rfl, rfl⟩) (fun w S => tree_new S)
set_option maxHeartbeats 1000000 in
theorem tput_A {W : World} {F : List Res} {t : Nat} {xs : List ItA} {k : ByteArray} {v : Rec} (hb : (xs.length : Int) < 9223372036854775807) : CS Try.prog 55 #[.pointer (some ⟨t, 0, none⟩), .string k, .agg #[.bool v.f_Has, .slice v.f_Value.a (v.f_Value.xs).length v.f_Value.c, .int .i64 v.f_Home, .int .u64 v.f_Count]] W (treeR e_ItA eN99 103 105 ItA.f_key strlt t xs :: F) (fun r L' => ∃ (old : Rec) (had : Bool), (Old ItA.f_key ItA.f_value (⟨false, ⟨none, [], 0⟩, 0, 0⟩ : Rec) (⟨k, v⟩ : ItA) xs old had ∧ Srt ItA.f_key strlt xs) ∧ r = .tuple #[.agg #[.bool old.f_Has, .slice old.f_Value.a (old.f_Value.xs).length old.f_Value.c, .int .i64 old.f_Home, .int .u64 old.f_Count], .bool had] ∧ L' = treeR e_ItA eN99 103 105 ItA.f_key strlt t (ins ItA.f_key strlt (⟨k, v⟩ : ItA) xs) :: F) := by
 refine f_door (l0 := [(0, .pointer (some ⟨t, 0, none⟩)), (1, .string k), (2, .agg #[.bool v.f_Has, .slice v.f_Value.a (v.f_Value.xs).length v.f_Value.c, .int .i64 v.f_Home, .int .u64 v.f_Count])]) Try.func55 Try.ntmps55 rfl rfl rfl ?_
 refine c_seq ?_
 refine c_tree ?_
 rintro d rb srt
 refine c_conv (L' := blk t (.cells #[.pointer (some ⟨rb, 0, none⟩), .int .i64 ((xs).length : Int)] 105 (0, 0)) :: nodeR e_ItA eN99 103 d 0 rb xs :: F) (fun w S => S) ?_
 refine c_region ?_
 refine o_box rfl rfl fun b5 => ?_
 refine o_alloc rfl ti36 fun b6 => ?_
 refine o_assign rfl rfl ?_
 refine l_nil ?_
 refine q_then ?_
 refine c_seq ?_
 refine c_mid (α := Nat × Rec × Bool × (List ItA) × (Option (Nat × ItA × Nat × List ItA))) (fun z => [(0, .pointer (some ⟨t, 0, none⟩)), (1, .string k), (2, .agg #[.bool v.f_Has, .slice v.f_Value.a (v.f_Value.xs).length v.f_Value.c, .int .i64 v.f_Home, .int .u64 v.f_Count]), (5, .pointer (some ⟨b5, 0, none⟩)), (6, .pointer (some ⟨b6, 0, none⟩)), (7, .bool false), (8, .pointer (some ⟨z.1, 0, none⟩)), (9, .bool z.2.2.1), (10, .pointer (z.2.2.2.2.map fun z => (⟨z.1, 0, none⟩ : Addr))), (11, .pointer (z.2.2.2.2.map fun z => (⟨z.2.2.1, 0, none⟩ : Addr))), (12, .tuple #[.agg #[.bool z.2.1.f_Has, .slice z.2.1.f_Value.a (z.2.1.f_Value.xs).length z.2.1.f_Value.c, .int .i64 z.2.1.f_Home, .int .u64 z.2.1.f_Count], .bool z.2.2.1, .pointer (z.2.2.2.2.map fun z => (⟨z.1, 0, none⟩ : Addr)), .pointer (z.2.2.2.2.map fun z => (⟨z.2.2.1, 0, none⟩ : Addr))]), (13, .pointer (some ⟨t, 0, none⟩)), (14, .pointer (some ⟨t, 0, none⟩)), (15, .pointer (some ⟨t, 0, none⟩)), (16, .pointer (some ⟨rb, 0, none⟩)), (17, .string k), (18, .agg #[.bool v.f_Has, .slice v.f_Value.a (v.f_Value.xs).length v.f_Value.c, .int .i64 v.f_Home, .int .u64 v.f_Count]), (19, .agg #[.string k, .bool v.f_Has, .slice v.f_Value.a (v.f_Value.xs).length v.f_Value.c, .int .i64 v.f_Home, .int .u64 v.f_Count]), (20, .tuple #[.agg #[.bool z.2.1.f_Has, .slice z.2.1.f_Value.a (z.2.1.f_Value.xs).length z.2.1.f_Value.c, .int .i64 z.2.1.f_Home, .int .u64 z.2.1.f_Count], .bool z.2.2.1, .pointer (z.2.2.2.2.map fun z => (⟨z.1, 0, none⟩ : Addr)), .pointer (z.2.2.2.2.map fun z => (⟨z.2.2.1, 0, none⟩ : Addr))]), (21, .agg #[.bool z.2.1.f_Has, .slice z.2.1.f_Value.a (z.2.1.f_Value.xs).length z.2.1.f_Value.c, .int .i64 z.2.1.f_Home, .int .u64 z.2.1.f_Count]), (22, .bool z.2.2.1), (23, .pointer (z.2.2.2.2.map fun z => (⟨z.1, 0, none⟩ : Addr))), (24, .pointer (z.2.2.2.2.map fun z => (⟨z.2.2.1, 0, none⟩ : Addr)))]) (fun z => blk z.1 (.cells #[.bool z.2.1.f_Has, .slice z.2.1.f_Value.a (z.2.1.f_Value.xs).length z.2.1.f_Value.c, .int .i64 z.2.1.f_Home, .int .u64 z.2.1.f_Count] 36 (0, 0)) :: nodeR e_ItA eN99 103 d (mnO 0 z.2.2.2.2) rb z.2.2.2.1 :: midR e_ItA eN99 103 d z.2.2.2.2 :: blk b6 (.cells #[.bool false, .slice none 0 0, .int .i64 0, .int .u64 0] 36 (0, 0)) :: blk b5 (.cells #[.bool v.f_Has, .slice v.f_Value.a (v.f_Value.xs).length v.f_Value.c, .int .i64 v.f_Home, .int .u64 v.f_Count] 36 (0, 0)) :: blk t (.cells #[.pointer (some ⟨rb, 0, none⟩), .int .i64 ((xs).length : Int)] 105 (0, 0)) :: F) (fun z => ins ItA.f_key strlt (⟨k, v⟩ : ItA) xs = insS z.2.2.2.1 z.2.2.2.2 ∧ Old ItA.f_key ItA.f_value (⟨false, ⟨none, [], 0⟩, 0, 0⟩ : Rec) (⟨k, v⟩ : ItA) xs z.2.1 z.2.2.1) ?_ ?_
 · -- cut
  refine c_held [blk b6 (.cells #[.bool false, .slice none 0 0, .int .i64 0, .int .u64 0] 36 (0, 0)), blk b5 (.cells #[.bool v.f_Has, .slice v.f_Value.a (v.f_Value.xs).length v.f_Value.c, .int .i64 v.f_Home, .int .u64 v.f_Count] 36 (0, 0)), blk t (.cells #[.pointer (some ⟨rb, 0, none⟩), .int .i64 ((xs).length : Int)] 105 (0, 0))] (by kernel_rfl) rfl ?_
  refine h_take 0 rfl rfl (by kernel_rfl) (by kernel_rfl) (by kernel_rfl) (fun L0 => v_move rfl rfl) ?_
  refine h_take 1 rfl rfl (by kernel_rfl) (by kernel_rfl) (by kernel_rfl) (fun L0 => v_nil rfl rfl) ?_
  refine h_take 2 rfl rfl (by kernel_rfl) (by kernel_rfl) (by kernel_rfl) (fun L0 => v_fieldAddr (q := ⟨t, 0, none⟩) rfl rfl Try.underlying105 rfl ti99 rfl) ?_
  refine h_take 3 rfl rfl (by kernel_rfl) (by kernel_rfl) (by kernel_rfl) (fun L0 => v_load1 rfl rfl Try.underlying99 rfl (rd_mem 2 rfl rfl)) ?_
  refine h_take 4 rfl rfl (by kernel_rfl) (by kernel_rfl) (by kernel_rfl) (fun L0 => v_move rfl rfl) ?_
  refine h_take 5 rfl rfl (by kernel_rfl) (by kernel_rfl) (by kernel_rfl) (fun L0 => v_loadn (vs := [_, _, _, _]) rfl rfl Try.underlying36 rfl ti36 (rdn_lit 1 rfl rfl)) ?_
  refine h_take 6 rfl rfl (by kernel_rfl) (by kernel_rfl) (by kernel_rfl) (fun L0 => v_build rfl sp110 ti110 rfl ((fill_cons (cells' := [.string k, .bool false, .slice none 0 0, .int .i64 0, .int .u64 0]) rfl rfl rfl rfl (fill_cons (cells' := [.string k, .bool v.f_Has, .slice v.f_Value.a (v.f_Value.xs).length v.f_Value.c, .int .i64 v.f_Home, .int .u64 v.f_Count]) rfl rfl rfl rfl fill_nil)))) ?_
  refine h_many (is := [7, 13]) (by kernel_rfl) (by decide) (forall_cons ⟨_, rfl, ?_⟩ (forall_cons ⟨_, rfl, ?_⟩ forall_nil))
  · -- 7 comes first
   refine l_f3 ?_
   refine o_call rfl cal66 rfl (put_A d (mn := 0) (x := (⟨k, v⟩ : ItA)) (by omega) srt) ?_
   rintro _ _ ⟨old20, had20, ls20, s20, ⟨his20, hol20⟩, rfl, rfl⟩
   refine l_nil ?_
   refine q_conv (fun w S => S.perm p1) ?_
   refine q_conv (fun w S => S.perm p1) ?_
   refine q_conv (fun w S => S.perm p4) ?_
   refine q_conv (fun w S => S.perm p4) ?_
   refine q_conv (fun w S => S.perm p4) ?_
   refine h_next ?_
   refine h_take 8 rfl rfl (by kernel_rfl) (by kernel_rfl) (by kernel_rfl) (fun L0 => v_move rfl rfl) ?_
   refine h_take 9 rfl rfl (by kernel_rfl) (by kernel_rfl) (by kernel_rfl) (fun L0 => v_extract rfl rfl rfl) ?_
   refine h_take 10 rfl rfl (by kernel_rfl) (by kernel_rfl) (by kernel_rfl) (fun L0 => v_extract rfl rfl rfl) ?_
   refine h_take 11 rfl rfl (by kernel_rfl) (by kernel_rfl) (by kernel_rfl) (fun L0 => v_extract rfl rfl rfl) ?_
   refine h_take 12 rfl rfl (by kernel_rfl) (by kernel_rfl) (by kernel_rfl) (fun L0 => v_extract rfl rfl rfl) ?_
   refine h_one 13 rfl (by kernel_rfl) ?_
   refine o_alloc rfl ti36 fun b8 => ?_
   refine l_nil ?_
   refine q_conv (fun w S => S.perm p5) ?_
   refine q_conv (fun w S => S.perm p5) ?_
   refine q_conv (fun w S => S.perm p2) ?_
   refine q_conv (fun w S => S.perm p5) ?_
   refine q_conv (fun w S => S.perm p5) ?_
   refine q_conv (fun w S => S.perm p5) ?_
   refine h_next ?_
   refine h_one 14 rfl (by kernel_rfl) ?_
   refine l_f3 ?_
   refine o_storen rfl rfl ti36 rfl rfl rfl rfl ?_
   refine l_nil ?_
   refine q_conv (fun w S => S.perm p5) ?_
   refine q_conv (fun w S => S.perm p5) ?_
   refine q_conv (fun w S => S.perm p2) ?_
   refine q_conv (fun w S => S.perm p5) ?_
   refine q_conv (fun w S => S.perm p5) ?_
   refine q_conv (fun w S => S.perm p5) ?_
   refine h_next ?_
   refine h_take 15 rfl rfl (by kernel_rfl) (by kernel_rfl) (by kernel_rfl) (fun L0 => v_assign rfl rfl) ?_
   refine h_take 16 rfl rfl (by kernel_rfl) (by kernel_rfl) (by kernel_rfl) (fun L0 => v_assign rfl rfl) ?_
   refine h_take 17 rfl rfl (by kernel_rfl) (by kernel_rfl) (by kernel_rfl) (fun L0 => v_assign rfl rfl) ?_
   refine h_done (by kernel_rfl) ?_
   refine q_conv (fun w S => S.perm p2) ?_
   refine q_conv (fun w S => S.perm p2) ?_
   refine q_conv (fun w S => S.perm p2) ?_
   refine q_conv (fun w S => S.perm p5) ?_
   refine q_conv (fun w S => S.perm p5) ?_
   refine q_conv (fun w S => S.perm p5) ?_
   exact q_mid (b8, old20, had20, ls20, s20) (by exact ⟨his20, hol20⟩) ⟨(by first | rfl | exact vint (by omega)), (by first | rfl | exact vint (by omega)), (by first | rfl | exact vint (by omega)), (by first | rfl | exact vint (by omega)), (by first | rfl | exact vint (by omega)), (by first | rfl | exact vint (by omega)), (by first | rfl | exact vint (by omega)), (by first | rfl | exact vint (by omega)), (by first | rfl | exact vint (by omega)), (by first | rfl | exact vint (by omega)), (by first | rfl | exact vint (by omega)), (by first | rfl | exact vint (by omega)), (by first | rfl | exact vint (by omega)), (by first | rfl | exact vint (by omega)), (by first | rfl | exact vint (by omega)), (by first | rfl | exact vint (by omega)), (by first | rfl | exact vint (by omega)), (by first | rfl | exact vint (by omega)), (by first | rfl | exact vint (by omega)), (by first | rfl | exact vint (by omega)), (by first | rfl | exact vint (by omega)), (by first | rfl | exact vint (by omega)), (by first | rfl | exact vint (by omega)), trivial⟩ (fun w S => S)
  · -- 13 comes first
   refine o_alloc rfl ti36 fun b8 => ?_
   refine l_nil ?_
   refine q_conv (fun w S => S.perm p4) ?_
   refine q_conv (fun w S => S.perm p1) ?_
   refine q_conv (fun w S => S.perm p4) ?_
   refine q_conv (fun w S => S.perm p4) ?_
   refine q_conv (fun w S => S.perm p4) ?_
   refine h_next ?_
   refine h_one 7 rfl (by kernel_rfl) ?_
   refine l_f4 ?_
   refine o_call rfl cal66 rfl (put_A d (mn := 0) (x := (⟨k, v⟩ : ItA)) (by omega) srt) ?_
   rintro _ _ ⟨old20, had20, ls20, s20, ⟨his20, hol20⟩, rfl, rfl⟩
   refine l_nil ?_
   refine q_conv (fun w S => S.perm p5) ?_
   refine q_conv (fun w S => S.perm p2) ?_
   refine q_conv (fun w S => S.perm p2) ?_
   refine q_conv (fun w S => S.perm p5) ?_
   refine q_conv (fun w S => S.perm p5) ?_
   refine q_conv (fun w S => S.perm p5) ?_
   refine h_next ?_
   refine h_take 8 rfl rfl (by kernel_rfl) (by kernel_rfl) (by kernel_rfl) (fun L0 => v_move rfl rfl) ?_
   refine h_take 9 rfl rfl (by kernel_rfl) (by kernel_rfl) (by kernel_rfl) (fun L0 => v_extract rfl rfl rfl) ?_
   refine h_take 10 rfl rfl (by kernel_rfl) (by kernel_rfl) (by kernel_rfl) (fun L0 => v_extract rfl rfl rfl) ?_
   refine h_take 11 rfl rfl (by kernel_rfl) (by kernel_rfl) (by kernel_rfl) (fun L0 => v_extract rfl rfl rfl) ?_
   refine h_take 12 rfl rfl (by kernel_rfl) (by kernel_rfl) (by kernel_rfl) (fun L0 => v_extract rfl rfl rfl) ?_
   refine h_one 14 rfl (by kernel_rfl) ?_
   refine l_f5 ?_
   refine o_storen rfl rfl ti36 rfl rfl rfl rfl ?_
   refine l_nil ?_
   refine q_conv (fun w S => S.perm p5) ?_
   refine q_conv (fun w S => S.perm p5) ?_
   refine q_conv (fun w S => S.perm p2) ?_
   refine q_conv (fun w S => S.perm p5) ?_
   refine q_conv (fun w S => S.perm p5) ?_
   refine q_conv (fun w S => S.perm p5) ?_
   refine h_next ?_
   refine h_take 15 rfl rfl (by kernel_rfl) (by kernel_rfl) (by kernel_rfl) (fun L0 => v_assign rfl rfl) ?_
   refine h_take 16 rfl rfl (by kernel_rfl) (by kernel_rfl) (by kernel_rfl) (fun L0 => v_assign rfl rfl) ?_
   refine h_take 17 rfl rfl (by kernel_rfl) (by kernel_rfl) (by kernel_rfl) (fun L0 => v_assign rfl rfl) ?_
   refine h_done (by kernel_rfl) ?_
   refine q_conv (fun w S => S.perm p2) ?_
   refine q_conv (fun w S => S.perm p2) ?_
   refine q_conv (fun w S => S.perm p2) ?_
   refine q_conv (fun w S => S.perm p5) ?_
   refine q_conv (fun w S => S.perm p5) ?_
   refine q_conv (fun w S => S.perm p5) ?_
   exact q_mid (b8, old20, had20, ls20, s20) (by exact ⟨his20, hol20⟩) ⟨(by first | rfl | exact vint (by omega)), (by first | rfl | exact vint (by omega)), (by first | rfl | exact vint (by omega)), (by first | rfl | exact vint (by omega)), (by first | rfl | exact vint (by omega)), (by first | rfl | exact vint (by omega)), (by first | rfl | exact vint (by omega)), (by first | rfl | exact vint (by omega)), (by first | rfl | exact vint (by omega)), (by first | rfl | exact vint (by omega)), (by first | rfl | exact vint (by omega)), (by first | rfl | exact vint (by omega)), (by first | rfl | exact vint (by omega)), (by first | rfl | exact vint (by omega)), (by first | rfl | exact vint (by omega)), (by first | rfl | exact vint (by omega)), (by first | rfl | exact vint (by omega)), (by first | rfl | exact vint (by omega)), (by first | rfl | exact vint (by omega)), (by first | rfl | exact vint (by omega)), (by first | rfl | exact vint (by omega)), (by first | rfl | exact vint (by omega)), (by first | rfl | exact vint (by omega)), trivial⟩ (fun w S => S)
 · -- behind the cut
  rintro ⟨b8, old20, had20, ls20, s20⟩ ⟨his20, hol20⟩
  try dsimp only at *
  refine c_seq ?_
  refine c_seq ?_
  refine c_region ?_
  refine o_move rfl rfl ?_
  refine o_bin rfl rfl rfl (b_pne Try.underlying121 _) ?_
  refine l_nil ?_
  refine q_then ?_
  refine c_cond rfl (fun h1 => ?_) (fun h1 => ?_)
  · -- h1T
   have h1b := h1
   try simp only [decide_eq_true_eq, decide_eq_false_iff_not, Bool.not_eq_eq_eq_not, Bool.not_true, Bool.not_false, Bool.not_eq_true', Bool.not_eq_false', Int.not_lt, Int.not_le, Bool.or_eq_true, Bool.and_eq_true] at h1
   obtain ⟨⟨bm, m, br, rs⟩, hs20⟩ : ∃ z, s20 = some z := by cases s20 with | none => simp at h1b | some z => exact ⟨z, rfl⟩
   subst hs20
   refine c_mid (α := Nat × (Option Addr) × (Option Addr)) (fun z => [(0, .pointer (some ⟨t, 0, none⟩)), (1, .string k), (2, .agg #[.bool v.f_Has, .slice v.f_Value.a (v.f_Value.xs).length v.f_Value.c, .int .i64 v.f_Home, .int .u64 v.f_Count]), (5, .pointer (some ⟨b5, 0, none⟩)), (6, .pointer (some ⟨b6, 0, none⟩)), (7, .bool false), (8, .pointer (some ⟨b8, 0, none⟩)), (9, .bool had20), (10, .pointer (some ⟨bm, 0, none⟩)), (11, .pointer (some ⟨br, 0, none⟩)), (13, .pointer (some ⟨t, 0, none⟩)), (14, .pointer (some ⟨t, 0, none⟩)), (15, .pointer (some ⟨t, 0, none⟩)), (16, .pointer (some ⟨rb, 0, none⟩)), (17, .string k), (18, .agg #[.bool v.f_Has, .slice v.f_Value.a (v.f_Value.xs).length v.f_Value.c, .int .i64 v.f_Home, .int .u64 v.f_Count]), (19, .agg #[.string k, .bool v.f_Has, .slice v.f_Value.a (v.f_Value.xs).length v.f_Value.c, .int .i64 v.f_Home, .int .u64 v.f_Count]), (21, .agg #[.bool old20.f_Has, .slice old20.f_Value.a (old20.f_Value.xs).length old20.f_Value.c, .int .i64 old20.f_Home, .int .u64 old20.f_Count]), (22, .bool had20), (27, .pointer (some ⟨t, 0, none⟩)), (28, .pointer (some ⟨bm, 0, none⟩)), (29, .pointer (some ⟨bm, 0, none⟩)), (30, .agg #[.string m.f_key, .bool m.f_value.f_Has, .slice m.f_value.f_Value.a (m.f_value.f_Value.xs).length m.f_value.f_Value.c, .int .i64 m.f_value.f_Home, .int .u64 m.f_value.f_Count]), (31, .slice z.2.1 ([m]).length 1), (32, .pointer (some ⟨t, 0, none⟩)), (33, .pointer (some ⟨t, 0, none⟩)), (34, .pointer (some ⟨t, 0, none⟩)), (35, .pointer (some ⟨rb, 0, none⟩)), (36, .pointer (some ⟨br, 0, none⟩)), (37, .slice z.2.2 ([rb, br]).length 2), (38, .agg #[.slice z.2.1 ([m]).length 1, .slice z.2.2 ([rb, br]).length 2]), (39, .pointer (some ⟨z.1, 0, none⟩)), (40, .pointer (some ⟨t, 0, none⟩)), (41, .pointer (some ⟨t, 0, none⟩))]) (fun z => blk t (.cells #[.pointer (some ⟨z.1, 0, none⟩), .int .i64 ((xs).length : Int)] 105 (0, 0)) :: blk z.1 (.cells #[.slice z.2.1 ([m]).length 1, .slice z.2.2 ([rb, br]).length 2] 103 (0, 0)) :: row eN99.T eN99.sz z.2.2 ([rb, br]).length 2 (flat eN99 [rb, br]) :: row e_ItA.T e_ItA.sz z.2.1 ([m]).length 1 (flat e_ItA [m]) :: blk bm (.cells #[.string m.f_key, .bool m.f_value.f_Has, .slice m.f_value.f_Value.a (m.f_value.f_Value.xs).length m.f_value.f_Value.c, .int .i64 m.f_value.f_Home, .int .u64 m.f_value.f_Count] 110 (0, 0)) :: nodeR e_ItA eN99 103 d 2 br rs :: blk b8 (.cells #[.bool old20.f_Has, .slice old20.f_Value.a (old20.f_Value.xs).length old20.f_Value.c, .int .i64 old20.f_Home, .int .u64 old20.f_Count] 36 (0, 0)) :: nodeR e_ItA eN99 103 d 2 rb ls20 :: blk b6 (.cells #[.bool false, .slice none 0 0, .int .i64 0, .int .u64 0] 36 (0, 0)) :: blk b5 (.cells #[.bool v.f_Has, .slice v.f_Value.a (v.f_Value.xs).length v.f_Value.c, .int .i64 v.f_Home, .int .u64 v.f_Count] 36 (0, 0)) :: F) (fun z => True) ?_ ?_
   · -- cut
    refine c_conv (fun w S => S.perm p2) ?_
    refine c_conv (L' := blk bm (.cells #[.string m.f_key, .bool m.f_value.f_Has, .slice m.f_value.f_Value.a (m.f_value.f_Value.xs).length m.f_value.f_Value.c, .int .i64 m.f_value.f_Home, .int .u64 m.f_value.f_Count] 110 (0, 0)) :: nodeR e_ItA eN99 103 d 2 br rs :: _) (fun w S => Sat.flat (Ls := [_, _]) S) ?_
    refine c_held [blk bm (.cells #[.string m.f_key, .bool m.f_value.f_Has, .slice m.f_value.f_Value.a (m.f_value.f_Value.xs).length m.f_value.f_Value.c, .int .i64 m.f_value.f_Home, .int .u64 m.f_value.f_Count] 110 (0, 0)), nodeR e_ItA eN99 103 d 2 br rs, blk b8 (.cells #[.bool old20.f_Has, .slice old20.f_Value.a (old20.f_Value.xs).length old20.f_Value.c, .int .i64 old20.f_Home, .int .u64 old20.f_Count] 36 (0, 0)), nodeR e_ItA eN99 103 d 2 rb ls20, blk b6 (.cells #[.bool false, .slice none 0 0, .int .i64 0, .int .u64 0] 36 (0, 0)), blk b5 (.cells #[.bool v.f_Has, .slice v.f_Value.a (v.f_Value.xs).length v.f_Value.c, .int .i64 v.f_Home, .int .u64 v.f_Count] 36 (0, 0))] (by kernel_rfl) rfl ?_
    refine h_take 0 rfl rfl (by kernel_rfl) (by kernel_rfl) (by kernel_rfl) (fun L0 => v_move rfl rfl) ?_
    refine h_take 1 rfl rfl (by kernel_rfl) (by kernel_rfl) (by kernel_rfl) (fun L0 => v_move rfl rfl) ?_
    refine h_take 2 rfl rfl (by kernel_rfl) (by kernel_rfl) (by kernel_rfl) (fun L0 => v_nil rfl rfl) ?_
    refine h_take 3 rfl rfl (by kernel_rfl) (by kernel_rfl) (by kernel_rfl) (fun L0 => v_loadn (vs := [_, _, _, _, _]) rfl rfl Try.underlying110 rfl ti110 (rdn_lit 0 rfl rfl)) ?_
    refine h_take 5 rfl rfl (by kernel_rfl) (by kernel_rfl) (by kernel_rfl) (fun L0 => v_move rfl rfl) ?_
    refine h_take 6 rfl rfl (by kernel_rfl) (by kernel_rfl) (by kernel_rfl) (fun L0 => v_nil rfl rfl) ?_
    refine h_take 7 rfl rfl (by kernel_rfl) (by kernel_rfl) (by kernel_rfl) (fun L0 => v_fieldAddr (q := ⟨t, 0, none⟩) rfl rfl Try.underlying105 rfl ti99 rfl) ?_
    refine h_take 9 rfl rfl (by kernel_rfl) (by kernel_rfl) (by kernel_rfl) (fun L0 => v_move rfl rfl) ?_
    refine h_many (is := [4, 8]) (by kernel_rfl) (by decide) (forall_cons ⟨_, rfl, ?_⟩ (forall_cons ⟨_, rfl, ?_⟩ forall_nil))
    · -- 4 comes first
     refine o_lit e_ItA_ok rfl Try.underlying100 rfl rfl rfl (lit_ok rfl) [m] rfl rfl fun a31 => ?_
     refine l_nil ?_
     refine q_conv (fun w S => S.perm p7) ?_
     refine q_conv (fun w S => S.perm p1) ?_
     refine q_conv (fun w S => S.perm p7) ?_
     refine q_conv (fun w S => S.perm p7) ?_
     refine q_conv (fun w S => S.perm p7) ?_
     refine q_conv (fun w S => S.perm p7) ?_
     refine q_conv (fun w S => S.perm p7) ?_
     refine q_conv (fun w S => S.perm p7) ?_
     refine h_next ?_
     refine h_one 8 rfl (by kernel_rfl) ?_
     refine o_load1 rfl rfl Try.underlying99 rfl (rd_mem 7 rfl rfl) ?_
     refine l_nil ?_
     refine h_next ?_
     refine h_one 10 rfl (by kernel_rfl) ?_
     refine o_lit eN99_ok rfl Try.underlying101 rfl rfl rfl (lit_ok rfl) [rb, br] rfl rfl fun a37 => ?_
     refine l_nil ?_
     refine q_conv (fun w S => S.perm p8) ?_
     refine q_conv (fun w S => S.perm p8) ?_
     refine q_conv (fun w S => S.perm p2) ?_
     refine q_conv (fun w S => S.perm p8) ?_
     refine q_conv (fun w S => S.perm p8) ?_
     refine q_conv (fun w S => S.perm p8) ?_
     refine q_conv (fun w S => S.perm p8) ?_
     refine q_conv (fun w S => S.perm p8) ?_
     refine q_conv (fun w S => S.perm p8) ?_
     refine h_next ?_
     refine h_take 11 rfl rfl (by kernel_rfl) (by kernel_rfl) (by kernel_rfl) (fun L0 => v_build rfl sp103 ti103 rfl ((fill_cons (cells' := [.slice a31 ([m]).length 1, .slice none 0 0]) rfl rfl rfl rfl (fill_cons (cells' := [.slice a31 ([m]).length 1, .slice a37 ([rb, br]).length 2]) rfl rfl rfl rfl fill_nil)))) ?_
     refine h_one 12 rfl (by kernel_rfl) ?_
     refine o_box rfl rfl fun b39 => ?_
     refine l_nil ?_
     refine q_conv (fun w S => S.perm p9) ?_
     refine q_conv (fun w S => S.perm p9) ?_
     refine q_conv (fun w S => S.perm p9) ?_
     refine q_conv (fun w S => S.perm p3) ?_
     refine q_conv (fun w S => S.perm p9) ?_
     refine q_conv (fun w S => S.perm p9) ?_
     refine q_conv (fun w S => S.perm p9) ?_
     refine q_conv (fun w S => S.perm p9) ?_
     refine q_conv (fun w S => S.perm p9) ?_
     refine q_conv (fun w S => S.perm p9) ?_
     refine h_next ?_
     refine h_take 13 rfl rfl (by kernel_rfl) (by kernel_rfl) (by kernel_rfl) (fun L0 => v_nil rfl rfl) ?_
     refine h_take 14 rfl rfl (by kernel_rfl) (by kernel_rfl) (by kernel_rfl) (fun L0 => v_fieldAddr (q := ⟨t, 0, none⟩) rfl rfl Try.underlying105 rfl ti99 rfl) ?_
     refine h_one 15 rfl (by kernel_rfl) ?_
     refine l_f9 ?_
     refine o_store1 rfl rfl rfl ti99 rfl rfl ?_
     refine l_nil ?_
     refine q_conv (fun w S => S.perm p9) ?_
     refine q_conv (fun w S => S.perm p9) ?_
     refine q_conv (fun w S => S.perm p9) ?_
     refine q_conv (fun w S => S.perm p3) ?_
     refine q_conv (fun w S => S.perm p9) ?_
     refine q_conv (fun w S => S.perm p9) ?_
     refine q_conv (fun w S => S.perm p9) ?_
     refine q_conv (fun w S => S.perm p9) ?_
     refine q_conv (fun w S => S.perm p9) ?_
     refine q_conv (fun w S => S.perm p9) ?_
     refine h_next ?_
     refine h_done (by kernel_rfl) ?_
     refine q_conv (fun w S => S.perm p5) ?_
     refine q_conv (fun w S => S.perm p5) ?_
     refine q_conv (fun w S => S.perm p5) ?_
     refine q_conv (fun w S => S.perm p5) ?_
     refine q_conv (fun w S => S.perm p5) ?_
     refine q_conv (fun w S => S.perm p5) ?_
     refine q_conv (fun w S => S.perm p9) ?_
     refine q_conv (fun w S => S.perm p9) ?_
     refine q_conv (fun w S => S.perm p9) ?_
     refine q_conv (fun w S => S.perm p9) ?_
     exact q_mid (b39, a31, a37) (by trivial) ⟨(by first | rfl | exact vint (by omega)), (by first | rfl | exact vint (by omega)), (by first | rfl | exact vint (by omega)), (by first | rfl | exact vint (by omega)), (by first | rfl | exact vint (by omega)), (by first | rfl | exact vint (by omega)), (by first | rfl | exact vint (by omega)), (by first | rfl | exact vint (by omega)), (by first | rfl | exact vint (by omega)), (by first | rfl | exact vint (by omega)), (by first | rfl | exact vint (by omega)), (by first | rfl | exact vint (by omega)), (by first | rfl | exact vint (by omega)), (by first | rfl | exact vint (by omega)), (by first | rfl | exact vint (by omega)), (by first | rfl | exact vint (by omega)), (by first | rfl | exact vint (by omega)), (by first | rfl | exact vint (by omega)), (by first | rfl | exact vint (by omega)), (by first | rfl | exact vint (by omega)), (by first | rfl | exact vint (by omega)), (by first | rfl | exact vint (by omega)), (by first | rfl | exact vint (by omega)), (by first | rfl | exact vint (by omega)), (by first | rfl | exact vint (by omega)), (by first | rfl | exact vint (by omega)), (by first | rfl | exact vint (by omega)), (by first | rfl | exact vint (by omega)), (by first | rfl | exact vint (by omega)), (by first | rfl | exact vint (by omega)), (by first | rfl | exact vint (by omega)), (by first | rfl | exact vint (by omega)), (by first | rfl | exact vint (by omega)), (by first | rfl | exact vint (by omega)), trivial⟩ (fun w S => S)
    · -- 8 comes first
     refine o_load1 rfl rfl Try.underlying99 rfl (rd_mem 6 rfl rfl) ?_
     refine l_nil ?_
     refine h_next ?_
     refine h_many (is := [4, 10]) (by kernel_rfl) (by decide) (forall_cons ⟨_, rfl, ?_⟩ (forall_cons ⟨_, rfl, ?_⟩ forall_nil))
     · -- 4 comes first
      refine o_lit e_ItA_ok rfl Try.underlying100 rfl rfl rfl (lit_ok rfl) [m] rfl rfl fun a31 => ?_
      refine l_nil ?_
      refine q_conv (fun w S => S.perm p7) ?_
      refine q_conv (fun w S => S.perm p1) ?_
      refine q_conv (fun w S => S.perm p7) ?_
      refine q_conv (fun w S => S.perm p7) ?_
      refine q_conv (fun w S => S.perm p7) ?_
      refine q_conv (fun w S => S.perm p7) ?_
      refine q_conv (fun w S => S.perm p7) ?_
      refine q_conv (fun w S => S.perm p7) ?_
      refine h_next ?_
      refine h_one 10 rfl (by kernel_rfl) ?_
      refine o_lit eN99_ok rfl Try.underlying101 rfl rfl rfl (lit_ok rfl) [rb, br] rfl rfl fun a37 => ?_
      refine l_nil ?_
      refine q_conv (fun w S => S.perm p8) ?_
      refine q_conv (fun w S => S.perm p8) ?_
      refine q_conv (fun w S => S.perm p2) ?_
      refine q_conv (fun w S => S.perm p8) ?_
      refine q_conv (fun w S => S.perm p8) ?_
      refine q_conv (fun w S => S.perm p8) ?_
      refine q_conv (fun w S => S.perm p8) ?_
      refine q_conv (fun w S => S.perm p8) ?_
      refine q_conv (fun w S => S.perm p8) ?_
      refine h_next ?_
      refine h_take 11 rfl rfl (by kernel_rfl) (by kernel_rfl) (by kernel_rfl) (fun L0 => v_build rfl sp103 ti103 rfl ((fill_cons (cells' := [.slice a31 ([m]).length 1, .slice none 0 0]) rfl rfl rfl rfl (fill_cons (cells' := [.slice a31 ([m]).length 1, .slice a37 ([rb, br]).length 2]) rfl rfl rfl rfl fill_nil)))) ?_
      refine h_one 12 rfl (by kernel_rfl) ?_
      refine o_box rfl rfl fun b39 => ?_
      refine l_nil ?_
      refine q_conv (fun w S => S.perm p9) ?_
      refine q_conv (fun w S => S.perm p9) ?_
      refine q_conv (fun w S => S.perm p9) ?_
      refine q_conv (fun w S => S.perm p3) ?_
      refine q_conv (fun w S => S.perm p9) ?_
      refine q_conv (fun w S => S.perm p9) ?_
      refine q_conv (fun w S => S.perm p9) ?_
      refine q_conv (fun w S => S.perm p9) ?_
      refine q_conv (fun w S => S.perm p9) ?_
      refine q_conv (fun w S => S.perm p9) ?_
      refine h_next ?_
      refine h_take 13 rfl rfl (by kernel_rfl) (by kernel_rfl) (by kernel_rfl) (fun L0 => v_nil rfl rfl) ?_
      refine h_take 14 rfl rfl (by kernel_rfl) (by kernel_rfl) (by kernel_rfl) (fun L0 => v_fieldAddr (q := ⟨t, 0, none⟩) rfl rfl Try.underlying105 rfl ti99 rfl) ?_
      refine h_one 15 rfl (by kernel_rfl) ?_
      refine l_f9 ?_
      refine o_store1 rfl rfl rfl ti99 rfl rfl ?_
      refine l_nil ?_
      refine q_conv (fun w S => S.perm p9) ?_
      refine q_conv (fun w S => S.perm p9) ?_
      refine q_conv (fun w S => S.perm p9) ?_
      refine q_conv (fun w S => S.perm p3) ?_
      refine q_conv (fun w S => S.perm p9) ?_
      refine q_conv (fun w S => S.perm p9) ?_
      refine q_conv (fun w S => S.perm p9) ?_
      refine q_conv (fun w S => S.perm p9) ?_
      refine q_conv (fun w S => S.perm p9) ?_
      refine q_conv (fun w S => S.perm p9) ?_
      refine h_next ?_
      refine h_done (by kernel_rfl) ?_
      refine q_conv (fun w S => S.perm p5) ?_
      refine q_conv (fun w S => S.perm p5) ?_
      refine q_conv (fun w S => S.perm p5) ?_
      refine q_conv (fun w S => S.perm p5) ?_
      refine q_conv (fun w S => S.perm p5) ?_
      refine q_conv (fun w S => S.perm p5) ?_
      refine q_conv (fun w S => S.perm p9) ?_
      refine q_conv (fun w S => S.perm p9) ?_
      refine q_conv (fun w S => S.perm p9) ?_
      refine q_conv (fun w S => S.perm p9) ?_
      exact q_mid (b39, a31, a37) (by trivial) ⟨(by first | rfl | exact vint (by omega)), (by first | rfl | exact vint (by omega)), (by first | rfl | exact vint (by omega)), (by first | rfl | exact vint (by omega)), (by first | rfl | exact vint (by omega)), (by first | rfl | exact vint (by omega)), (by first | rfl | exact vint (by omega)), (by first | rfl | exact vint (by omega)), (by first | rfl | exact vint (by omega)), (by first | rfl | exact vint (by omega)), (by first | rfl | exact vint (by omega)), (by first | rfl | exact vint (by omega)), (by first | rfl | exact vint (by omega)), (by first | rfl | exact vint (by omega)), (by first | rfl | exact vint (by omega)), (by first | rfl | exact vint (by omega)), (by first | rfl | exact vint (by omega)), (by first | rfl | exact vint (by omega)), (by first | rfl | exact vint (by omega)), (by first | rfl | exact vint (by omega)), (by first | rfl | exact vint (by omega)), (by first | rfl | exact vint (by omega)), (by first | rfl | exact vint (by omega)), (by first | rfl | exact vint (by omega)), (by first | rfl | exact vint (by omega)), (by first | rfl | exact vint (by omega)), (by first | rfl | exact vint (by omega)), (by first | rfl | exact vint (by omega)), (by first | rfl | exact vint (by omega)), (by first | rfl | exact vint (by omega)), (by first | rfl | exact vint (by omega)), (by first | rfl | exact vint (by omega)), (by first | rfl | exact vint (by omega)), (by first | rfl | exact vint (by omega)), trivial⟩ (fun w S => S)
     · -- 10 comes first
      refine o_lit eN99_ok rfl Try.underlying101 rfl rfl rfl (lit_ok rfl) [rb, br] rfl rfl fun a37 => ?_
      refine l_nil ?_
      refine q_conv (fun w S => S.perm p7) ?_
      refine q_conv (fun w S => S.perm p1) ?_
      refine q_conv (fun w S => S.perm p7) ?_
      refine q_conv (fun w S => S.perm p7) ?_
      refine q_conv (fun w S => S.perm p7) ?_
      refine q_conv (fun w S => S.perm p7) ?_
      refine q_conv (fun w S => S.perm p7) ?_
      refine q_conv (fun w S => S.perm p7) ?_
      refine h_next ?_
      refine h_one 4 rfl (by kernel_rfl) ?_
      refine o_lit e_ItA_ok rfl Try.underlying100 rfl rfl rfl (lit_ok rfl) [m] rfl rfl fun a31 => ?_
      refine l_nil ?_
      refine q_conv (fun w S => S.perm p8) ?_
      refine q_conv (fun w S => S.perm p8) ?_
      refine q_conv (fun w S => S.perm p2) ?_
      refine q_conv (fun w S => S.perm p8) ?_
      refine q_conv (fun w S => S.perm p8) ?_
      refine q_conv (fun w S => S.perm p8) ?_
      refine q_conv (fun w S => S.perm p8) ?_
      refine q_conv (fun w S => S.perm p8) ?_
      refine q_conv (fun w S => S.perm p8) ?_
      refine h_next ?_
      refine h_take 11 rfl rfl (by kernel_rfl) (by kernel_rfl) (by kernel_rfl) (fun L0 => v_build rfl sp103 ti103 rfl ((fill_cons (cells' := [.slice a31 ([m]).length 1, .slice none 0 0]) rfl rfl rfl rfl (fill_cons (cells' := [.slice a31 ([m]).length 1, .slice a37 ([rb, br]).length 2]) rfl rfl rfl rfl fill_nil)))) ?_
      refine h_one 12 rfl (by kernel_rfl) ?_
      refine o_box rfl rfl fun b39 => ?_
      refine l_nil ?_
      refine q_conv (fun w S => S.perm p9) ?_
      refine q_conv (fun w S => S.perm p9) ?_
      refine q_conv (fun w S => S.perm p9) ?_
      refine q_conv (fun w S => S.perm p3) ?_
      refine q_conv (fun w S => S.perm p9) ?_
      refine q_conv (fun w S => S.perm p9) ?_
      refine q_conv (fun w S => S.perm p9) ?_
      refine q_conv (fun w S => S.perm p9) ?_
      refine q_conv (fun w S => S.perm p9) ?_
      refine q_conv (fun w S => S.perm p9) ?_
      refine h_next ?_
      refine h_take 13 rfl rfl (by kernel_rfl) (by kernel_rfl) (by kernel_rfl) (fun L0 => v_nil rfl rfl) ?_
      refine h_take 14 rfl rfl (by kernel_rfl) (by kernel_rfl) (by kernel_rfl) (fun L0 => v_fieldAddr (q := ⟨t, 0, none⟩) rfl rfl Try.underlying105 rfl ti99 rfl) ?_
      refine h_one 15 rfl (by kernel_rfl) ?_
      refine l_f9 ?_
      refine o_store1 rfl rfl rfl ti99 rfl rfl ?_
      refine l_nil ?_
      refine q_conv (fun w S => S.perm p9) ?_
      refine q_conv (fun w S => S.perm p9) ?_
      refine q_conv (fun w S => S.perm p9) ?_
      refine q_conv (fun w S => S.perm p3) ?_
      refine q_conv (fun w S => S.perm p9) ?_
      refine q_conv (fun w S => S.perm p9) ?_
      refine q_conv (fun w S => S.perm p9) ?_
      refine q_conv (fun w S => S.perm p9) ?_
      refine q_conv (fun w S => S.perm p9) ?_
      refine q_conv (fun w S => S.perm p9) ?_
      refine h_next ?_
      refine h_done (by kernel_rfl) ?_
      refine q_conv (fun w S => S.perm p5) ?_
      refine q_conv (fun w S => S.perm p5) ?_
      refine q_conv (fun w S => S.perm p5) ?_
      refine q_conv (fun w S => S.perm p5) ?_
      refine q_conv (fun w S => S.perm p5) ?_
      refine q_conv (fun w S => S.perm p5) ?_
      refine q_conv (fun w S => S.perm p8) ?_
      refine q_conv (fun w S => S.perm p9) ?_
      refine q_conv (fun w S => S.perm p9) ?_
      refine q_conv (fun w S => S.perm p9) ?_
      exact q_mid (b39, a31, a37) (by trivial) ⟨(by first | rfl | exact vint (by omega)), (by first | rfl | exact vint (by omega)), (by first | rfl | exact vint (by omega)), (by first | rfl | exact vint (by omega)), (by first | rfl | exact vint (by omega)), (by first | rfl | exact vint (by omega)), (by first | rfl | exact vint (by omega)), (by first | rfl | exact vint (by omega)), (by first | rfl | exact vint (by omega)), (by first | rfl | exact vint (by omega)), (by first | rfl | exact vint (by omega)), (by first | rfl | exact vint (by omega)), (by first | rfl | exact vint (by omega)), (by first | rfl | exact vint (by omega)), (by first | rfl | exact vint (by omega)), (by first | rfl | exact vint (by omega)), (by first | rfl | exact vint (by omega)), (by first | rfl | exact vint (by omega)), (by first | rfl | exact vint (by omega)), (by first | rfl | exact vint (by omega)), (by first | rfl | exact vint (by omega)), (by first | rfl | exact vint (by omega)), (by first | rfl | exact vint (by omega)), (by first | rfl | exact vint (by omega)), (by first | rfl | exact vint (by omega)), (by first | rfl | exact vint (by omega)), (by first | rfl | exact vint (by omega)), (by first | rfl | exact vint (by omega)), (by first | rfl | exact vint (by omega)), (by first | rfl | exact vint (by omega)), (by first | rfl | exact vint (by omega)), (by first | rfl | exact vint (by omega)), (by first | rfl | exact vint (by omega)), (by first | rfl | exact vint (by omega)), trivial⟩ (fun w S => S)
   · -- behind the cut
    rintro ⟨b39, a31, a37⟩ _hp
    try dsimp only at *
    refine c_seq ?_
    refine c_seq ?_
    refine c_region ?_
    refine o_move rfl rfl ?_
    refine o_not rfl rfl ?_
    refine l_nil ?_
    refine q_then ?_
    refine c_cond rfl (fun h2 => ?_) (fun h2 => ?_)
    · -- h2T
     have h2b := h2
     try simp only [decide_eq_true_eq, decide_eq_false_iff_not, Bool.not_eq_eq_eq_not, Bool.not_true, Bool.not_false, Bool.not_eq_true', Bool.not_eq_false', Int.not_lt, Int.not_le, Bool.or_eq_true, Bool.and_eq_true] at h2
     refine c_region ?_
     refine o_move rfl rfl ?_
     refine o_nil rfl rfl ?_
     refine o_fieldAddr (q := ⟨t, 1, none⟩) rfl rfl Try.underlying105 rfl ti3 rfl ?_
     refine o_load1 rfl rfl Try.underlying3 rfl (rd_mem 0 rfl rfl) ?_
     refine o_bin rfl rfl rfl (b_add (wrap_i64 (by omega) (by omega))) ?_
     refine o_nil rfl rfl ?_
     refine o_fieldAddr (q := ⟨t, 1, none⟩) rfl rfl Try.underlying105 rfl ti3 rfl ?_
     refine o_store1 rfl rfl rfl ti3 rfl rfl ?_
     refine l_nil ?_
     refine q_then ?_
     refine c_seq ?_
     refine c_region ?_
     refine o_loadn (vs := [_, _, _, _]) rfl rfl Try.underlying36 rfl ti36 (rdn_lit 6 rfl rfl) ?_
     refine o_move rfl rfl ?_
     refine l_f8 ?_
     refine o_storen rfl rfl ti36 rfl rfl rfl rfl ?_
     refine o_assign rfl rfl ?_
     refine l_nil ?_
     refine q_then ?_
     refine c_ret ?_
     refine f_retq (.inl rfl) (rs_2 rfl (rs_celln (vs := [.bool old20.f_Has, .slice old20.f_Value.a (old20.f_Value.xs).length old20.f_Value.c, .int .i64 old20.f_Home, .int .u64 old20.f_Count]) rfl Try.underlying36 rfl ti36 (rdn_lit 0 rfl rfl)) (rs_tmp rfl)) (fun w S => ?_)
     have hlen : ((ins ItA.f_key strlt (⟨k, v⟩ : ItA) xs).length : Int) = ((xs).length : Int) + 1 := by have h9 := hol20.len strlt_sto srt; rw [show had20 = false from by assumption] at h9; simpa using h9
     replace S := S.tail
     replace S := (S.perm p4).tail
     replace S := (S.perm p5).tail
     replace S := (S.perm p6).tail
     replace S := S.perm p4
     replace S := S.perm p5
     replace S := S.perm p4
     replace S := S.perm p5
     replace S := S.perm p5
     exact ⟨_, ⟨old20, had20, ⟨hol20, srt⟩, rfl, rfl⟩, (fun w S => treeMk (d + 1) b39 (srt_ins strlt_sto srt) (by rw [hlen, his20]; exact (root_new S).perm (List.Perm.swap _ _ _))) w S⟩
    · -- h2F
     have h2b := h2
     try simp only [decide_eq_true_eq, decide_eq_false_iff_not, Bool.not_eq_eq_eq_not, Bool.not_true, Bool.not_false, Bool.not_eq_true', Bool.not_eq_false', Int.not_lt, Int.not_le, Bool.or_eq_true, Bool.and_eq_true] at h2
     refine c_skip ?_
     refine q_then ?_
     refine c_seq ?_
     refine c_region ?_
     refine o_loadn (vs := [_, _, _, _]) rfl rfl Try.underlying36 rfl ti36 (rdn_lit 6 rfl rfl) ?_
     refine o_move rfl rfl ?_
     refine l_f8 ?_
     refine o_storen rfl rfl ti36 rfl rfl rfl rfl ?_
     refine o_assign rfl rfl ?_
     refine l_nil ?_
     refine q_then ?_
     refine c_ret ?_
     refine f_retq (.inl rfl) (rs_2 rfl (rs_celln (vs := [.bool old20.f_Has, .slice old20.f_Value.a (old20.f_Value.xs).length old20.f_Value.c, .int .i64 old20.f_Home, .int .u64 old20.f_Count]) rfl Try.underlying36 rfl ti36 (rdn_lit 0 rfl rfl)) (rs_tmp rfl)) (fun w S => ?_)
     have hlen : ((ins ItA.f_key strlt (⟨k, v⟩ : ItA) xs).length : Int) = ((xs).length : Int) := by have h9 := hol20.len strlt_sto srt; rw [show had20 = true from by assumption] at h9; simpa using h9
     replace S := S.tail
     replace S := (S.perm p4).tail
     replace S := (S.perm p5).tail
     replace S := (S.perm p6).tail
     replace S := S.perm p4
     replace S := S.perm p5
     replace S := S.perm p4
     replace S := S.perm p5
     replace S := S.perm p5
     exact ⟨_, ⟨old20, had20, ⟨hol20, srt⟩, rfl, rfl⟩, (fun w S => treeMk (d + 1) b39 (srt_ins strlt_sto srt) (by rw [hlen, his20]; exact (root_new S).perm (List.Perm.swap _ _ _))) w S⟩
  · -- h1F
   have h1b := h1
   try simp only [decide_eq_true_eq, decide_eq_false_iff_not, Bool.not_eq_eq_eq_not, Bool.not_true, Bool.not_false, Bool.not_eq_true', Bool.not_eq_false', Int.not_lt, Int.not_le, Bool.or_eq_true, Bool.and_eq_true] at h1
   have hs20 : s20 = none := by cases s20 with | none => rfl | some z => simp at h1b
   subst hs20
   refine c_skip ?_
   refine q_then ?_
   refine c_seq ?_
   refine c_seq ?_
   refine c_region ?_
   refine o_move rfl rfl ?_
   refine o_not rfl rfl ?_
   refine l_nil ?_
   refine q_then ?_
   refine c_cond rfl (fun h3 => ?_) (fun h3 => ?_)
   · -- h3T
    have h3b := h3
    try simp only [decide_eq_true_eq, decide_eq_false_iff_not, Bool.not_eq_eq_eq_not, Bool.not_true, Bool.not_false, Bool.not_eq_true', Bool.not_eq_false', Int.not_lt, Int.not_le, Bool.or_eq_true, Bool.and_eq_true] at h3
    refine c_region ?_
    refine o_move rfl rfl ?_
    refine o_nil rfl rfl ?_
    refine o_fieldAddr (q := ⟨t, 1, none⟩) rfl rfl Try.underlying105 rfl ti3 rfl ?_
    refine o_load1 rfl rfl Try.underlying3 rfl (rd_mem 5 rfl rfl) ?_
    refine o_bin rfl rfl rfl (b_add (wrap_i64 (by omega) (by omega))) ?_
    refine o_nil rfl rfl ?_
    refine o_fieldAddr (q := ⟨t, 1, none⟩) rfl rfl Try.underlying105 rfl ti3 rfl ?_
    refine l_f5 ?_
    refine o_store1 rfl rfl rfl ti3 rfl rfl ?_
    refine l_nil ?_
    refine q_then ?_
    refine c_seq ?_
    refine c_region ?_
    refine o_loadn (vs := [_, _, _, _]) rfl rfl Try.underlying36 rfl ti36 (rdn_lit 1 rfl rfl) ?_
    refine o_move rfl rfl ?_
    refine l_f4 ?_
    refine o_storen rfl rfl ti36 rfl rfl rfl rfl ?_
    refine o_assign rfl rfl ?_
    refine l_nil ?_
    refine q_then ?_
    refine c_ret ?_
    refine f_retq (.inl rfl) (rs_2 rfl (rs_celln (vs := [.bool old20.f_Has, .slice old20.f_Value.a (old20.f_Value.xs).length old20.f_Value.c, .int .i64 old20.f_Home, .int .u64 old20.f_Count]) rfl Try.underlying36 rfl ti36 (rdn_lit 0 rfl rfl)) (rs_tmp rfl)) (fun w S => ?_)
    have hlen : ((ins ItA.f_key strlt (⟨k, v⟩ : ItA) xs).length : Int) = ((xs).length : Int) + 1 := by have h9 := hol20.len strlt_sto srt; rw [show had20 = false from by assumption] at h9; simpa using h9
    replace S := S.tail
    replace S := (S.perm p1).tail
    replace S := (S.perm p2).tail
    replace S := (S.perm p2).tail
    exact ⟨_, ⟨old20, had20, ⟨hol20, srt⟩, rfl, rfl⟩, (fun w S => treeMk d rb (srt_ins strlt_sto srt) (by rw [hlen, his20]; exact S)) w S⟩
   · -- h3F
    have h3b := h3
    try simp only [decide_eq_true_eq, decide_eq_false_iff_not, Bool.not_eq_eq_eq_not, Bool.not_true, Bool.not_false, Bool.not_eq_true', Bool.not_eq_false', Int.not_lt, Int.not_le, Bool.or_eq_true, Bool.and_eq_true] at h3
    refine c_skip ?_
    refine q_then ?_
    refine c_seq ?_
    refine c_region ?_
    refine o_loadn (vs := [_, _, _, _]) rfl rfl Try.underlying36 rfl ti36 (rdn_lit 0 rfl rfl) ?_
    refine o_move rfl rfl ?_
    refine l_f3 ?_
    refine o_storen rfl rfl ti36 rfl rfl rfl rfl ?_
    refine o_assign rfl rfl ?_
    refine l_nil ?_
    refine q_then ?_
    refine c_ret ?_
    refine f_retq (.inl rfl) (rs_2 rfl (rs_celln (vs := [.bool old20.f_Has, .slice old20.f_Value.a (old20.f_Value.xs).length old20.f_Value.c, .int .i64 old20.f_Home, .int .u64 old20.f_Count]) rfl Try.underlying36 rfl ti36 (rdn_lit 0 rfl rfl)) (rs_tmp rfl)) (fun w S => ?_)
    have hlen : ((ins ItA.f_key strlt (⟨k, v⟩ : ItA) xs).length : Int) = ((xs).length : Int) := by have h9 := hol20.len strlt_sto srt; rw [show had20 = true from by assumption] at h9; simpa using h9
    replace S := S.tail
    replace S := S.tail
    replace S := (S.perm p1).tail
    replace S := (S.perm p1).tail
    replace S := S.perm p1
    exact ⟨_, ⟨old20, had20, ⟨hol20, srt⟩, rfl, rfl⟩, (fun w S => treeMk d rb (srt_ins strlt_sto srt) (by rw [hlen, his20]; exact S)) w S⟩
end
section
set_option linter.unusedVariables false
set_option linter.unusedSimpArgs false
set_option maxRecDepth 10000
open Go.RowKit Classical
set_option maxHeartbeats 2000000 in
theorem tdel_A {W : World} {F : List Res} {t : Nat} {xs : List ItA} {k : ByteArray} (hb : (xs.length : Int) < 9223372036854775807) : CS Try.prog 54 #[.pointer (some ⟨t, 0, none⟩), .string k] W (treeR e_ItA eN99 103 105 ItA.f_key strlt t xs :: F) (fun r L' => ∃ (v : Rec) (ok : Bool), GetG ItA.f_key ItA.f_value xs k v ok ∧ r = .tuple #[.agg #[.bool v.f_Has, .slice v.f_Value.a (v.f_Value.xs).length v.f_Value.c, .int .i64 v.f_Home, .int .u64 v.f_Count], .bool ok] ∧ L' = treeR e_ItA eN99 103 105 ItA.f_key strlt t (del ItA.f_key k xs) :: F) := by
 refine f_door (l0 := [(0, .pointer (some ⟨t, 0, none⟩)), (1, .string k)]) Try.func54 Try.ntmps54 rfl rfl rfl ?_
 refine c_seq ?_
 refine c_region ?_
 refine o_alloc rfl ti36 fun b4 => ?_
 refine o_assign rfl rfl ?_
 refine l_nil ?_
 refine q_then ?_
 refine c_seq ?_
 refine c_conv (fun w S => S.perm p1) ?_
 refine c_tree ?_
 rintro d rb srt
 refine c_conv (L' := blk t (.cells #[.pointer (some ⟨rb, 0, none⟩), .int .i64 ((xs).length : Int)] 105 (0, 0)) :: nodeR e_ItA eN99 103 d 0 rb xs :: blk b4 (.cells #[.bool false, .slice none 0 0, .int .i64 0, .int .u64 0] 36 (0, 0)) :: F) (fun w S => S) ?_
 refine c_region ?_
 refine o_move rfl rfl ?_
 refine o_nil rfl rfl ?_
 refine o_fieldAddr (q := ⟨t, 0, none⟩) rfl rfl Try.underlying105 rfl ti99 rfl ?_
 refine o_load1 rfl rfl Try.underlying99 rfl (rd_mem 0 rfl rfl) ?_
 refine o_move rfl rfl ?_
 refine l_f1 ?_
 refine o_call rfl cal65 rfl (take_A d srt) ?_
 rintro _ _ ⟨v12, ok12, hg12, rfl, rfl⟩
 refine o_move rfl rfl ?_
 refine o_extract rfl rfl rfl ?_
 refine o_extract rfl rfl rfl ?_
 refine l_f2 ?_
 refine o_storen rfl rfl ti36 rfl rfl rfl rfl ?_
 refine o_assign rfl rfl ?_
 refine l_nil ?_
 refine q_then ?_
 refine c_seq ?_
 refine c_seq ?_
 refine c_conv (fun w S => S.perm p1) ?_
 refine c_nodeO ?_
 rintro q hq
 refine c_conv (L' := blk rb (.cells #[.slice q.a (q.items).length q.c, .slice q.ak ((q.kids.map Prod.fst)).length q.ck] 103 (0, 0)) :: row e_ItA.T e_ItA.sz q.a (q.items).length q.c (flat e_ItA q.items) :: row eN99.T eN99.sz q.ak ((q.kids.map Prod.fst)).length q.ck (flat eN99 (q.kids.map Prod.fst)) :: kidsR e_ItA eN99 103 d q.kids :: blk b4 (.cells #[.bool v12.f_Has, .slice v12.f_Value.a (v12.f_Value.xs).length v12.f_Value.c, .int .i64 v12.f_Home, .int .u64 v12.f_Count] 36 (0, 0)) :: blk t (.cells #[.pointer (some ⟨rb, 0, none⟩), .int .i64 ((xs).length : Int)] 105 (0, 0)) :: F) (fun w S => S) ?_
 refine c_region ?_
 refine o_move rfl rfl ?_
 refine o_nil rfl rfl ?_
 refine o_fieldAddr (q := ⟨t, 0, none⟩) rfl rfl Try.underlying105 rfl ti99 rfl ?_
 refine o_load1 rfl rfl Try.underlying99 rfl (rd_mem 5 rfl rfl) ?_
 refine o_nil rfl rfl ?_
 refine o_fieldAddr (q := ⟨rb, 0, none⟩) rfl rfl Try.underlying103 rfl ti100 rfl ?_
 refine o_load1 rfl rfl Try.underlying100 rfl (rd_mem 0 rfl rfl) ?_
 refine o_len rfl rfl Try.underlying100 ?_
 refine o_bin rfl rfl rfl b_eql ?_
 refine o_move rfl rfl ?_
 refine l_split (t := 24) rfl (fun h1 => ?_) (fun h1 => ?_)
 · -- h1T
  have h1b := h1
  try simp only [decide_eq_true_eq] at h1
  refine o_yes rfl rfl rfl ?_
  refine o_move rfl rfl ?_
  refine o_yes rfl rfl rfl ?_
  refine o_nil rfl rfl ?_
  refine o_yes rfl rfl rfl ?_
  refine o_fieldAddr (q := ⟨t, 0, none⟩) rfl rfl Try.underlying105 rfl ti99 rfl ?_
  refine o_yes rfl rfl rfl ?_
  refine o_load1 rfl rfl Try.underlying99 rfl (rd_mem 5 rfl rfl) ?_
  refine o_yes rfl rfl rfl ?_
  refine o_nil rfl rfl ?_
  refine o_yes rfl rfl rfl ?_
  refine o_fieldAddr (q := ⟨rb, 1, none⟩) rfl rfl Try.underlying103 rfl ti101 rfl ?_
  refine o_yes rfl rfl rfl ?_
  refine o_load1 rfl rfl Try.underlying101 rfl (rd_mem 0 rfl rfl) ?_
  refine o_yes rfl rfl rfl ?_
  refine o_len rfl rfl Try.underlying101 ?_
  refine o_yes rfl rfl rfl ?_
  refine o_bin rfl rfl rfl b_eql ?_
  refine o_pick_true rfl rfl rfl ?_
  refine l_nil ?_
  refine q_then ?_
  refine c_cond rfl (fun h2 => ?_) (fun h2 => ?_)
  · -- h2T
   have h2b := h2
   try simp only [decide_eq_true_eq] at h2
   obtain ⟨d', kb, hd, hk⟩ := root_kid hq (by omega) (by omega)
   refine c_region ?_
   refine o_move rfl rfl ?_
   refine o_move rfl rfl ?_
   refine o_nil rfl rfl ?_
   refine o_fieldAddr (q := ⟨t, 0, none⟩) rfl rfl Try.underlying105 rfl ti99 rfl ?_
   refine o_load1 rfl rfl Try.underlying99 rfl (rd_mem 5 rfl rfl) ?_
   refine o_nil rfl rfl ?_
   refine o_fieldAddr (q := ⟨rb, 1, none⟩) rfl rfl Try.underlying103 rfl ti101 rfl ?_
   refine o_load1 rfl rfl Try.underlying101 rfl (rd_mem 0 rfl rfl) ?_
   refine o_index eN99_ok rfl rfl rfl Try.underlying101 (by omega) (by omega) (rds_own eN99_ok 2 rfl) fun ad43 ead43 => ?_
   obtain ⟨x43, hx43⟩ : ∃ x, ((q.kids.map Prod.fst))[((0 : Int)).toNat]? = some x := ⟨_, List.getElem?_eq_getElem (by omega)⟩
   have hxk : x43 = kb := by have h9 := hx43; rw [hk] at h9; exact (Option.some.inj h9).symm
   refine o_load1 rfl rfl Try.underlying99 rfl (rd_sl0 eN99_ok ead43 (rds_own eN99_ok 2 rfl) hx43 rfl) ?_
   refine l_eq (t := 44) (v' := .pointer (some ⟨kb, 0, none⟩)) rfl (by rw [hxk]) ?_
   refine o_nil rfl rfl ?_
   refine o_fieldAddr (q := ⟨t, 0, none⟩) rfl rfl Try.underlying105 rfl ti99 rfl ?_
   refine l_f5 ?_
   refine o_store1 rfl rfl rfl ti99 rfl rfl ?_
   refine l_nil ?_
   refine q_then ?_
   refine c_seq ?_
   refine c_seq ?_
   refine c_region ?_
   refine o_move rfl rfl ?_
   refine l_nil ?_
   refine q_then ?_
   refine c_cond rfl (fun h3 => ?_) (fun h3 => ?_)
   · -- h3T
    have h3b := h3
    try simp only [decide_eq_true_eq, decide_eq_false_iff_not, Bool.not_eq_eq_eq_not, Bool.not_true, Bool.not_false, Bool.not_eq_true', Bool.not_eq_false', Int.not_lt, Int.not_le, Bool.or_eq_true, Bool.and_eq_true] at h3
    refine c_region ?_
    refine o_move rfl rfl ?_
    refine o_nil rfl rfl ?_
    refine o_fieldAddr (q := ⟨t, 1, none⟩) rfl rfl Try.underlying105 rfl ti3 rfl ?_
    refine o_load1 rfl rfl Try.underlying3 rfl (rd_mem 0 rfl rfl) ?_
    refine o_bin rfl rfl rfl (b_sub (wrap_i64 (by omega) (by omega))) ?_
    refine o_nil rfl rfl ?_
    refine o_fieldAddr (q := ⟨t, 1, none⟩) rfl rfl Try.underlying105 rfl ti3 rfl ?_
    refine o_store1 rfl rfl rfl ti3 rfl rfl ?_
    refine l_nil ?_
    refine q_then ?_
    refine c_seq ?_
    refine c_region ?_
    refine o_loadn (vs := [_, _, _, _]) rfl rfl Try.underlying36 rfl ti36 (rdn_lit 5 rfl rfl) ?_
    refine o_move rfl rfl ?_
    refine l_f5 ?_
    refine o_storen rfl rfl ti36 rfl rfl rfl rfl ?_
    refine o_assign rfl rfl ?_
    refine l_nil ?_
    refine q_then ?_
    refine c_ret ?_
    refine f_retq (.inl rfl) (rs_2 rfl (rs_celln (vs := [.bool v12.f_Has, .slice v12.f_Value.a (v12.f_Value.xs).length v12.f_Value.c, .int .i64 v12.f_Home, .int .u64 v12.f_Count]) rfl Try.underlying36 rfl ti36 (rdn_lit 0 rfl rfl)) (rs_tmp rfl)) (fun w S => ?_)
    have hlen : ((del ItA.f_key k xs).length : Int) = ((xs).length : Int) - 1 := by have h9 := del_len strlt_sto srt hg12; rw [show ok12 = true from by assumption] at h9; simpa using h9
    replace S := S.tail
    replace S := (S.perm p1).tail
    replace S := (S.perm p1).tail
    replace S := (S.perm p1).tail
    replace S := S.perm p1
    exact ⟨_, ⟨v12, ok12, hg12, rfl, rfl⟩, (fun w S => treeMk d' kb (srt_del srt) (by rw [hlen]; exact (root_down hd hk S).perm p1)) w S⟩
   · -- h3F
    have h3b := h3
    try simp only [decide_eq_true_eq, decide_eq_false_iff_not, Bool.not_eq_eq_eq_not, Bool.not_true, Bool.not_false, Bool.not_eq_true', Bool.not_eq_false', Int.not_lt, Int.not_le, Bool.or_eq_true, Bool.and_eq_true] at h3
    refine c_skip ?_
    refine q_then ?_
    refine c_seq ?_
    refine c_region ?_
    refine o_loadn (vs := [_, _, _, _]) rfl rfl Try.underlying36 rfl ti36 (rdn_lit 5 rfl rfl) ?_
    refine o_move rfl rfl ?_
    refine l_f5 ?_
    refine o_storen rfl rfl ti36 rfl rfl rfl rfl ?_
    refine o_assign rfl rfl ?_
    refine l_nil ?_
    refine q_then ?_
    refine c_ret ?_
    refine f_retq (.inl rfl) (rs_2 rfl (rs_celln (vs := [.bool v12.f_Has, .slice v12.f_Value.a (v12.f_Value.xs).length v12.f_Value.c, .int .i64 v12.f_Home, .int .u64 v12.f_Count]) rfl Try.underlying36 rfl ti36 (rdn_lit 0 rfl rfl)) (rs_tmp rfl)) (fun w S => ?_)
    have hlen : ((del ItA.f_key k xs).length : Int) = ((xs).length : Int) := by have h9 := del_len strlt_sto srt hg12; rw [show ok12 = false from by assumption] at h9; simpa using h9
    replace S := S.tail
    replace S := (S.perm p1).tail
    replace S := (S.perm p1).tail
    replace S := (S.perm p1).tail
    replace S := S.perm p1
    exact ⟨_, ⟨v12, ok12, hg12, rfl, rfl⟩, (fun w S => treeMk d' kb (srt_del srt) (by rw [hlen]; exact (root_down hd hk S).perm p1)) w S⟩
  · -- h2F
   have h2b := h2
   try simp only [decide_eq_false_iff_not, Int.not_lt, Int.not_le] at h2
   refine c_skip ?_
   refine q_then ?_
   refine c_seq ?_
   refine c_seq ?_
   refine c_region ?_
   refine o_move rfl rfl ?_
   refine l_nil ?_
   refine q_then ?_
   refine c_cond rfl (fun h4 => ?_) (fun h4 => ?_)
   · -- h4T
    have h4b := h4
    try simp only [decide_eq_true_eq, decide_eq_false_iff_not, Bool.not_eq_eq_eq_not, Bool.not_true, Bool.not_false, Bool.not_eq_true', Bool.not_eq_false', Int.not_lt, Int.not_le, Bool.or_eq_true, Bool.and_eq_true] at h4
    refine c_region ?_
    refine o_move rfl rfl ?_
    refine o_nil rfl rfl ?_
    refine o_fieldAddr (q := ⟨t, 1, none⟩) rfl rfl Try.underlying105 rfl ti3 rfl ?_
    refine o_load1 rfl rfl Try.underlying3 rfl (rd_mem 5 rfl rfl) ?_
    refine o_bin rfl rfl rfl (b_sub (wrap_i64 (by omega) (by omega))) ?_
    refine o_nil rfl rfl ?_
    refine o_fieldAddr (q := ⟨t, 1, none⟩) rfl rfl Try.underlying105 rfl ti3 rfl ?_
    refine l_f5 ?_
    refine o_store1 rfl rfl rfl ti3 rfl rfl ?_
    refine l_nil ?_
    refine q_then ?_
    refine c_seq ?_
    refine c_region ?_
    refine o_loadn (vs := [_, _, _, _]) rfl rfl Try.underlying36 rfl ti36 (rdn_lit 5 rfl rfl) ?_
    refine o_move rfl rfl ?_
    refine l_f5 ?_
    refine o_storen rfl rfl ti36 rfl rfl rfl rfl ?_
    refine o_assign rfl rfl ?_
    refine l_nil ?_
    refine q_then ?_
    refine c_ret ?_
    refine f_retq (.inl rfl) (rs_2 rfl (rs_celln (vs := [.bool v12.f_Has, .slice v12.f_Value.a (v12.f_Value.xs).length v12.f_Value.c, .int .i64 v12.f_Home, .int .u64 v12.f_Count]) rfl Try.underlying36 rfl ti36 (rdn_lit 0 rfl rfl)) (rs_tmp rfl)) (fun w S => ?_)
    have hlen : ((del ItA.f_key k xs).length : Int) = ((xs).length : Int) - 1 := by have h9 := del_len strlt_sto srt hg12; rw [show ok12 = true from by assumption] at h9; simpa using h9
    replace S := S.tail
    replace S := S.perm p4
    replace S := S.perm p4
    replace S := S.perm p4
    replace S := S.perm p4
    exact ⟨_, ⟨v12, ok12, hg12, rfl, rfl⟩, (fun w S => treeMk d rb (srt_del srt) (by rw [hlen]; exact (nodeMk q (root_full hq (by omega)) S).perm p1)) w S⟩
   · -- h4F
    have h4b := h4
    try simp only [decide_eq_true_eq, decide_eq_false_iff_not, Bool.not_eq_eq_eq_not, Bool.not_true, Bool.not_false, Bool.not_eq_true', Bool.not_eq_false', Int.not_lt, Int.not_le, Bool.or_eq_true, Bool.and_eq_true] at h4
    refine c_skip ?_
    refine q_then ?_
    refine c_seq ?_
    refine c_region ?_
    refine o_loadn (vs := [_, _, _, _]) rfl rfl Try.underlying36 rfl ti36 (rdn_lit 4 rfl rfl) ?_
    refine o_move rfl rfl ?_
    refine l_f4 ?_
    refine o_storen rfl rfl ti36 rfl rfl rfl rfl ?_
    refine o_assign rfl rfl ?_
    refine l_nil ?_
    refine q_then ?_
    refine c_ret ?_
    refine f_retq (.inl rfl) (rs_2 rfl (rs_celln (vs := [.bool v12.f_Has, .slice v12.f_Value.a (v12.f_Value.xs).length v12.f_Value.c, .int .i64 v12.f_Home, .int .u64 v12.f_Count]) rfl Try.underlying36 rfl ti36 (rdn_lit 0 rfl rfl)) (rs_tmp rfl)) (fun w S => ?_)
    have hlen : ((del ItA.f_key k xs).length : Int) = ((xs).length : Int) := by have h9 := del_len strlt_sto srt hg12; rw [show ok12 = false from by assumption] at h9; simpa using h9
    replace S := S.tail
    exact ⟨_, ⟨v12, ok12, hg12, rfl, rfl⟩, (fun w S => treeMk d rb (srt_del srt) (by rw [hlen]; exact (nodeMk q (root_full hq (by omega)) S).perm p1)) w S⟩
 · -- h1F
  have h1b := h1
  try simp only [decide_eq_false_iff_not, Int.not_lt, Int.not_le] at h1
  refine o_no rfl rfl rfl rfl ?_
  refine o_no rfl rfl rfl rfl ?_
  refine o_no rfl rfl rfl rfl ?_
  refine o_no rfl rfl rfl rfl ?_
  refine o_no rfl rfl rfl rfl ?_
  refine o_no rfl rfl rfl rfl ?_
  refine o_no rfl rfl rfl rfl ?_
  refine o_no rfl rfl rfl rfl ?_
  refine o_no rfl rfl rfl rfl ?_
  refine o_pick_false rfl rfl rfl ?_
  refine l_nil ?_
  refine q_then ?_
  refine c_false rfl ?_
  refine c_skip ?_
  refine q_then ?_
  refine c_seq ?_
  refine c_seq ?_
  refine c_region ?_
  refine o_move rfl rfl ?_
  refine l_nil ?_
  refine q_then ?_
  refine c_cond rfl (fun h5 => ?_) (fun h5 => ?_)
  · -- h5T
   have h5b := h5
   try simp only [decide_eq_true_eq, decide_eq_false_iff_not, Bool.not_eq_eq_eq_not, Bool.not_true, Bool.not_false, Bool.not_eq_true', Bool.not_eq_false', Int.not_lt, Int.not_le, Bool.or_eq_true, Bool.and_eq_true] at h5
   refine c_region ?_
   refine o_move rfl rfl ?_
   refine o_nil rfl rfl ?_
   refine o_fieldAddr (q := ⟨t, 1, none⟩) rfl rfl Try.underlying105 rfl ti3 rfl ?_
   refine o_load1 rfl rfl Try.underlying3 rfl (rd_mem 5 rfl rfl) ?_
   refine o_bin rfl rfl rfl (b_sub (wrap_i64 (by omega) (by omega))) ?_
   refine o_nil rfl rfl ?_
   refine o_fieldAddr (q := ⟨t, 1, none⟩) rfl rfl Try.underlying105 rfl ti3 rfl ?_
   refine l_f5 ?_
   refine o_store1 rfl rfl rfl ti3 rfl rfl ?_
   refine l_nil ?_
   refine q_then ?_
   refine c_seq ?_
   refine c_region ?_
   refine o_loadn (vs := [_, _, _, _]) rfl rfl Try.underlying36 rfl ti36 (rdn_lit 5 rfl rfl) ?_
   refine o_move rfl rfl ?_
   refine l_f5 ?_
   refine o_storen rfl rfl ti36 rfl rfl rfl rfl ?_
   refine o_assign rfl rfl ?_
   refine l_nil ?_
   refine q_then ?_
   refine c_ret ?_
   refine f_retq (.inl rfl) (rs_2 rfl (rs_celln (vs := [.bool v12.f_Has, .slice v12.f_Value.a (v12.f_Value.xs).length v12.f_Value.c, .int .i64 v12.f_Home, .int .u64 v12.f_Count]) rfl Try.underlying36 rfl ti36 (rdn_lit 0 rfl rfl)) (rs_tmp rfl)) (fun w S => ?_)
   have hlen : ((del ItA.f_key k xs).length : Int) = ((xs).length : Int) - 1 := by have h9 := del_len strlt_sto srt hg12; rw [show ok12 = true from by assumption] at h9; simpa using h9
   replace S := S.tail
   replace S := S.perm p4
   replace S := S.perm p4
   replace S := S.perm p4
   replace S := S.perm p4
   exact ⟨_, ⟨v12, ok12, hg12, rfl, rfl⟩, (fun w S => treeMk d rb (srt_del srt) (by rw [hlen]; exact (nodeMk q (root_full hq (by omega)) S).perm p1)) w S⟩
  · -- h5F
   have h5b := h5
   try simp only [decide_eq_true_eq, decide_eq_false_iff_not, Bool.not_eq_eq_eq_not, Bool.not_true, Bool.not_false, Bool.not_eq_true', Bool.not_eq_false', Int.not_lt, Int.not_le, Bool.or_eq_true, Bool.and_eq_true] at h5
   refine c_skip ?_
   refine q_then ?_
   refine c_seq ?_
   refine c_region ?_
   refine o_loadn (vs := [_, _, _, _]) rfl rfl Try.underlying36 rfl ti36 (rdn_lit 4 rfl rfl) ?_
   refine o_move rfl rfl ?_
   refine l_f4 ?_
   refine o_storen rfl rfl ti36 rfl rfl rfl rfl ?_
   refine o_assign rfl rfl ?_
   refine l_nil ?_
   refine q_then ?_
   refine c_ret ?_
   refine f_retq (.inl rfl) (rs_2 rfl (rs_celln (vs := [.bool v12.f_Has, .slice v12.f_Value.a (v12.f_Value.xs).length v12.f_Value.c, .int .i64 v12.f_Home, .int .u64 v12.f_Count]) rfl Try.underlying36 rfl ti36 (rdn_lit 0 rfl rfl)) (rs_tmp rfl)) (fun w S => ?_)
   have hlen : ((del ItA.f_key k xs).length : Int) = ((xs).length : Int) := by have h9 := del_len strlt_sto srt hg12; rw [show ok12 = false from by assumption] at h9; simpa using h9
   replace S := S.tail
   exact ⟨_, ⟨v12, ok12, hg12, rfl, rfl⟩, (fun w S => treeMk d rb (srt_del srt) (by rw [hlen]; exact (nodeMk q (root_full hq (by omega)) S).perm p1)) w S⟩
end
section
set_option linter.unusedVariables false
set_option linter.unusedSimpArgs false
set_option maxRecDepth 10000
open Go.RowKit Classical
set_option maxHeartbeats 1000000 in
theorem tget_A {W : World} {F : List Res} {t : Nat} {xs : List ItA} {k : ByteArray} : CS Try.prog 32 #[.pointer (some ⟨t, 0, none⟩), .string k] W (treeR e_ItA eN99 103 105 ItA.f_key strlt t xs :: F) (fun r L' => ∃ (v : Rec) (ok : Bool), GetG ItA.f_key ItA.f_value xs k v ok ∧ (ok = false → v = (⟨false, ⟨none, [], 0⟩, 0, 0⟩ : Rec)) ∧ r = .tuple #[.agg #[.bool v.f_Has, .slice v.f_Value.a (v.f_Value.xs).length v.f_Value.c, .int .i64 v.f_Home, .int .u64 v.f_Count], .bool ok] ∧ L' = treeR e_ItA eN99 103 105 ItA.f_key strlt t xs :: F) := by
 refine f_door (l0 := [(0, .pointer (some ⟨t, 0, none⟩)), (1, .string k)]) Try.func32 Try.ntmps32 rfl rfl rfl ?_
 refine c_seq ?_
 refine c_region ?_
 refine o_alloc rfl ti36 fun b4 => ?_
 refine o_assign rfl rfl ?_
 refine l_nil ?_
 refine q_then ?_
 refine c_seq ?_
 refine c_conv (fun w S => S.perm p1) ?_
 refine c_tree ?_
 rintro d rb srt
 refine c_conv (L' := blk t (.cells #[.pointer (some ⟨rb, 0, none⟩), .int .i64 ((xs).length : Int)] 105 (0, 0)) :: nodeR e_ItA eN99 103 d 0 rb xs :: blk b4 (.cells #[.bool false, .slice none 0 0, .int .i64 0, .int .u64 0] 36 (0, 0)) :: F) (fun w S => S) ?_
 have srt0 := srt
 refine c_region ?_
 refine o_move rfl rfl ?_
 refine o_nil rfl rfl ?_
 refine o_fieldAddr (q := ⟨t, 0, none⟩) rfl rfl Try.underlying105 rfl ti99 rfl ?_
 refine o_load1 rfl rfl Try.underlying99 rfl (rd_mem 0 rfl rfl) ?_
 refine o_assign rfl rfl ?_
 refine l_nil ?_
 refine q_then ?_
 refine c_block ?_
 refine c_conv (fun w S => S.perm p2) ?_
 refine c_conv (fun w S => S.perm p2) ?_
 refine c_conv (L' := nodeR e_ItA eN99 103 d 0 rb xs :: blk b4 (.cells #[.bool false, .slice none 0 0, .int .i64 0, .int .u64 0] 36 (0, 0)) :: (blk t (.cells #[.pointer (some ⟨rb, 0, none⟩), .int .i64 ((xs).length : Int)] 105 (0, 0)) :: F)) (fun w S => S) ?_
 refine c_loop (α := Nat × Nat × Nat × (List ItA) × (List Res)) (fun z => [(1, .string k), (4, .pointer (some ⟨b4, 0, none⟩)), (6, .pointer (some ⟨z.2.1, 0, none⟩))]) (fun z => nodeR e_ItA eN99 103 z.1 z.2.2.1 z.2.1 z.2.2.2.1 :: blk b4 (.cells #[.bool false, .slice none 0 0, .int .i64 0, .int .u64 0] 36 (0, 0)) :: z.2.2.2.2) (fun z => Srt ItA.f_key strlt z.2.2.2.1 ∧ (∀ w, Sat W w (nodeR e_ItA eN99 103 z.1 z.2.2.1 z.2.1 z.2.2.2.1 :: z.2.2.2.2) → Sat W w (treeR e_ItA eN99 103 105 ItA.f_key strlt t xs :: F)) ∧ (∀ y ∈ z.2.2.2.1, y ∈ xs) ∧ (∀ y ∈ xs, y.f_key = k → y ∈ z.2.2.2.1)) (fun z => z.1) (d, rb, 0, xs, (blk t (.cells #[.pointer (some ⟨rb, 0, none⟩), .int .i64 ((xs).length : Int)] 105 (0, 0)) :: F)) (by exact ⟨srt, fun w S => treeMk d rb srt (S.perm (List.Perm.swap _ _ _)), fun y hy => hy, fun y hy _ => hy⟩) ⟨(by first | rfl | exact vint (by omega)), (by first | rfl | exact vint (by omega)), (by first | rfl | exact vint (by omega)), trivial⟩ (fun w S => S) ?_
 rintro ⟨d1, b1, mn1, ys1, R⟩ ⟨srt1, hback, hsub, hin⟩
 try dsimp only at *
 refine c_block ?_
 refine c_seq ?_
 refine c_node ?_
 rintro q hq
 have hsi := hq.srt strlt_sto srt1
 have hle := hq.le
 have hsh := hq.sh
 refine c_conv (L' := blk b1 (.cells #[.slice q.a (q.items).length q.c, .slice q.ak ((q.kids.map Prod.fst)).length q.ck] 103 (0, 0)) :: row e_ItA.T e_ItA.sz q.a (q.items).length q.c (flat e_ItA q.items) :: row eN99.T eN99.sz q.ak ((q.kids.map Prod.fst)).length q.ck (flat eN99 (q.kids.map Prod.fst)) :: kidsR e_ItA eN99 103 d1 q.kids :: blk b4 (.cells #[.bool false, .slice none 0 0, .int .i64 0, .int .u64 0] 36 (0, 0)) :: R) (fun w S => S) ?_
 have hor := hsh.or
 refine c_region ?_
 refine o_move rfl rfl ?_
 refine o_move rfl rfl ?_
 refine l_f1 ?_
 refine l_f1 ?_
 refine o_call rfl cal56 rfl (search_A (k := k) (by omega) hsi) ?_
 rintro _ _ ⟨i16, fd16, ⟨hF16, hfd16⟩, rfl, rfl⟩
 refine o_move rfl rfl ?_
 refine o_extract rfl rfl rfl ?_
 refine o_extract rfl rfl rfl ?_
 refine o_assign rfl rfl ?_
 refine o_assign rfl rfl ?_
 refine l_nil ?_
 refine q_then ?_
 refine c_seq ?_
 refine c_seq ?_
 refine c_region ?_
 refine o_move rfl rfl ?_
 refine l_nil ?_
 refine q_then ?_
 refine c_cond rfl (fun h1 => ?_) (fun h1 => ?_)
 · -- h1T
  have h1b := h1
  try simp only [decide_eq_true_eq, decide_eq_false_iff_not, Bool.not_eq_eq_eq_not, Bool.not_true, Bool.not_false, Bool.not_eq_true', Bool.not_eq_false', Int.not_lt, Int.not_le, Bool.or_eq_true, Bool.and_eq_true] at h1
  refine c_seq ?_
  have hfi := hfd16.1 (by simpa using h1b)
  refine c_fact (p := ∃ ad, q.a = some ad) (rds_some (e := e_ItA) (xs := q.items) (rds_own e_ItA_ok 1 rfl) (by obtain ⟨y, hy, _⟩ := hfi; intro h0; rw [h0] at hy; simp at hy)) ?_
  rintro ⟨adx, eadx⟩
  obtain ⟨yf, hyf, hkf⟩ := hfi
  have hil := (List.getElem?_eq_some_iff.1 hyf).1
  refine c_region ?_
  refine o_move rfl rfl ?_
  refine o_nil rfl rfl ?_
  refine o_fieldAddr (q := ⟨b1, 0, none⟩) rfl rfl Try.underlying103 rfl ti100 rfl ?_
  refine o_load1 rfl rfl Try.underlying100 rfl (rd_mem 0 rfl rfl) ?_
  refine o_move rfl rfl ?_
  refine o_indexK e_ItA_ok eadx rfl rfl rfl Try.underlying100 (by omega) (by omega) ?_
  obtain ⟨x25, hx25⟩ : ∃ x, (q.items)[((i16 : Int)).toNat]? = some x := ⟨_, List.getElem?_eq_getElem (by omega)⟩
  have hkx : x25.f_key = k := by rw [show q.items[i16]? = some x25 from hx25] at hyf; cases hyf; exact hkf
  refine o_fieldAddr rfl rfl Try.underlying110 rfl ti36 (Addr.add_add' _ _ _) ?_
  refine o_loadn (vs := [.bool x25.f_value.f_Has, .slice x25.f_value.f_Value.a (x25.f_value.f_Value.xs).length x25.f_value.f_Value.c, .int .i64 x25.f_value.f_Home, .int .u64 x25.f_value.f_Count]) rfl rfl Try.underlying36 rfl ti36 (rdn_slo (n := 4) e_ItA_ok eadx (rds_own e_ItA_ok 1 rfl) hx25 rfl) ?_
  refine l_f4 ?_
  refine o_storen rfl rfl ti36 rfl rfl rfl rfl ?_
  refine o_assign rfl rfl ?_
  refine l_nil ?_
  refine q_then ?_
  refine c_ret ?_
  refine q_pass_ret ?_
  refine q_block_ret ?_
  refine q_pass_ret ?_
  refine q_block_ret ?_
  refine f_retq (.inl rfl) (rs_2 rfl (rs_celln (vs := [.bool x25.f_value.f_Has, .slice x25.f_value.f_Value.a (x25.f_value.f_Value.xs).length x25.f_value.f_Value.c, .int .i64 x25.f_value.f_Home, .int .u64 x25.f_value.f_Count]) rfl Try.underlying36 rfl ti36 (rdn_lit 0 rfl rfl)) (rs_tmp rfl)) (fun w S => ?_)
  replace S := S.tail
  exact ⟨_, ⟨x25.f_value, true, ⟨⟨fun _ => ⟨x25, hsub x25 (hq.is ▸ mem_weave_item hor (show q.items[i16]? = some x25 from hx25)), hkx⟩, fun _ => rfl⟩, fun _ y hy hk => by rw [one_key strlt_sto srt0 hy (hsub x25 (hq.is ▸ mem_weave_item hor (show q.items[i16]? = some x25 from hx25))) (hk.trans hkx.symm)]⟩, (fun h9 => (by cases h9)), rfl, rfl⟩, (fun w S => hback w (nodeMk q hq S)) w S⟩
 · -- h1F
  have h1b := h1
  try simp only [decide_eq_true_eq, decide_eq_false_iff_not, Bool.not_eq_eq_eq_not, Bool.not_true, Bool.not_false, Bool.not_eq_true', Bool.not_eq_false', Int.not_lt, Int.not_le, Bool.or_eq_true, Bool.and_eq_true] at h1
  refine c_skip ?_
  refine q_then ?_
  refine c_seq ?_
  refine c_seq ?_
  have hnf : ¬ ∃ y, q.items[i16]? = some y ∧ y.f_key = k := fun h9 => by rw [hfd16.2 h9] at h1b; cases h1b
  have hkm : (q.kids.map Prod.fst).length = q.kids.length := List.length_map _
  refine c_region ?_
  refine o_move rfl rfl ?_
  refine o_nil rfl rfl ?_
  refine o_fieldAddr (q := ⟨b1, 1, none⟩) rfl rfl Try.underlying103 rfl ti101 rfl ?_
  refine o_load1 rfl rfl Try.underlying101 rfl (rd_mem 0 rfl rfl) ?_
  refine o_len rfl rfl Try.underlying101 ?_
  refine o_bin rfl rfl rfl b_eql ?_
  refine l_nil ?_
  refine q_then ?_
  refine c_cond rfl (fun h2 => ?_) (fun h2 => ?_)
  · -- h2T
   have h2b := h2
   try simp only [decide_eq_true_eq] at h2
   refine c_seq ?_
   have hk0 : q.kids = [] := List.eq_nil_of_length_eq_zero (by omega)
   refine c_region ?_
   refine o_loadn (vs := [.bool false, .slice none 0 0, .int .i64 0, .int .u64 0]) rfl rfl Try.underlying36 rfl ti36 (rdn_lit 4 rfl rfl) ?_
   refine l_f4 ?_
   refine o_storen rfl rfl ti36 rfl rfl rfl rfl ?_
   refine o_assign rfl rfl ?_
   refine l_nil ?_
   refine q_then ?_
   refine c_ret ?_
   refine q_pass_ret ?_
   refine q_block_ret ?_
   refine q_pass_ret ?_
   refine q_block_ret ?_
   refine f_retq (.inl rfl) (rs_2 rfl (rs_celln (vs := [.bool false, .slice none 0 0, .int .i64 0, .int .u64 0]) rfl Try.underlying36 rfl ti36 (rdn_lit 0 rfl rfl)) (rs_tmp rfl)) (fun w S => ?_)
   replace S := S.tail
   exact ⟨_, ⟨(⟨false, ⟨none, [], 0⟩, 0, 0⟩ : Rec), false, ⟨⟨fun h9 => (by cases h9), fun ⟨y, hy, hk⟩ => absurd ⟨y, hin y hy hk, hk⟩ (leaf_none strlt_sto hq srt1 hF16 hnf hk0)⟩, fun h9 => (by cases h9)⟩, (fun _ => rfl), rfl, rfl⟩, (fun w S => hback w (nodeMk q hq S)) w S⟩
  · -- h2F
   have h2b := h2
   try simp only [decide_eq_false_iff_not, Int.not_lt, Int.not_le] at h2
   refine c_skip ?_
   refine q_then ?_
   have hkl : q.kids.length = q.items.length + 1 := by rcases hsh with ⟨_, h9⟩ | ⟨_, h9, _⟩; exact absurd (show ((q.kids.map Prod.fst).length : Int) = 0 by rw [h9]; rfl) (by assumption); exact h9
   have hd0 : d1 ≠ 0 := by rcases hsh with ⟨_, h9⟩ | ⟨h9, _, _⟩; exact absurd (show ((q.kids.map Prod.fst).length : Int) = 0 by rw [h9]; rfl) (by assumption); exact h9
   have hfl := hF16.le
   obtain ⟨⟨kb, ys2⟩, hkid⟩ : ∃ z, q.kids[i16]? = some z := ⟨_, List.getElem?_eq_getElem (by omega)⟩
   obtain ⟨A, B, hxA, _, _, hA, hB, _, _, hsy⟩ := kid_parts (x := (⟨k, (⟨false, ⟨none, [], 0⟩, 0, 0⟩ : Rec)⟩ : ItA)) strlt_sto hq srt1 hkid hF16 hnf
   obtain ⟨d', hd'⟩ : ∃ d', d1 = d' + 1 := ⟨d1 - 1, by omega⟩
   refine c_fact (p := ∃ ad, q.ak = some ad) (rds_some (e := eN99) (xs := (q.kids.map Prod.fst)) (rds_own eN99_ok 2 rfl) (by intro h0; have h00 := congrArg List.length h0; simp only [List.length_nil] at h00; omega)) ?_
   rintro ⟨adk, eadk⟩
   refine c_region ?_
   refine o_move rfl rfl ?_
   refine o_nil rfl rfl ?_
   refine o_fieldAddr (q := ⟨b1, 1, none⟩) rfl rfl Try.underlying103 rfl ti101 rfl ?_
   refine o_load1 rfl rfl Try.underlying101 rfl (rd_mem 0 rfl rfl) ?_
   refine o_move rfl rfl ?_
   refine o_indexK eN99_ok eadk rfl rfl rfl Try.underlying101 (by omega) (by omega) ?_
   obtain ⟨x40, hx40⟩ : ∃ x, ((q.kids.map Prod.fst))[((i16 : Int)).toNat]? = some x := ⟨_, List.getElem?_eq_getElem (by omega)⟩
   have hxk : x40 = kb := by have h9 := hx40; rw [show ((i16 : Int)).toNat = i16 from rfl, List.getElem?_map, hkid] at h9; exact (Option.some.inj h9).symm
   refine o_load1 rfl rfl Try.underlying99 rfl (rd_sl0 eN99_ok eadk (rds_own eN99_ok 2 rfl) hx40 rfl) ?_
   refine l_eq (t := 41) (v' := .pointer (some ⟨kb, 0, none⟩)) rfl (by rw [hxk]) ?_
   refine l_f3 ?_
   refine l_conv (L' := nodeR e_ItA eN99 103 d' 2 kb ys2 :: kidsR e_ItA eN99 103 d1 (q.kids.eraseIdx i16) :: _) (fun w S => by have h9 := Sat.kid_take hkid S; rw [hd'] at h9 ⊢; exact h9) ?_
   refine o_assign rfl rfl ?_
   refine l_nil ?_
   refine q_block ?_
   refine q_conv (fun w S => S.perm p4) ?_
   refine q_conv (fun w S => S.perm p4) ?_
   refine q_conv (fun w S => S.perm p4) ?_
   refine q_conv (fun w S => S.perm p4) ?_
   refine q_conv (fun w S => S.perm p5) ?_
   refine q_conv (fun w S => S.perm p5) ?_
   refine q_conv (L' := nodeR e_ItA eN99 103 d' 2 kb ys2 :: blk b4 (.cells #[.bool false, .slice none 0 0, .int .i64 0, .int .u64 0] 36 (0, 0)) :: (kidsR e_ItA eN99 103 d1 (q.kids.eraseIdx i16) :: blk b1 (.cells #[.slice q.a (q.items).length q.c, .slice q.ak ((q.kids.map Prod.fst)).length q.ck] 103 (0, 0)) :: row e_ItA.T e_ItA.sz q.a (q.items).length q.c (flat e_ItA q.items) :: row eN99.T eN99.sz q.ak ((q.kids.map Prod.fst)).length q.ck (flat eN99 (q.kids.map Prod.fst)) :: R)) (fun w S => S) ?_
   exact q_round (d', kb, 2, ys2, (kidsR e_ItA eN99 103 d1 (q.kids.eraseIdx i16) :: blk b1 (.cells #[.slice q.a (q.items).length q.c, .slice q.ak ((q.kids.map Prod.fst)).length q.ck] 103 (0, 0)) :: row e_ItA.T e_ItA.sz q.a (q.items).length q.c (flat e_ItA q.items) :: row eN99.T eN99.sz q.ak ((q.kids.map Prod.fst)).length q.ck (flat eN99 (q.kids.map Prod.fst)) :: R)) (by exact ⟨hsy, fun w S => hback w (nodeMk q hq (get_back hkid hd' S)), fun y hy => hsub y (by rw [hxA]; simp [hy]), fun y hy hk => get_in strlt_sto (by have h9 := hin y hy hk; rw [hxA] at h9; exact h9) hk hA hB⟩) (by (try dsimp only); omega) ⟨(by first | rfl | exact vint (by omega)), (by first | rfl | exact vint (by omega)), (by first | rfl | exact vint (by omega)), trivial⟩ (fun w S => S)
end
section
set_option linter.unusedVariables false
set_option linter.unusedSimpArgs false
open Go.RowKit Classical
/-- A record's contents. -/
structure RecM where
  has : Bool
  val : List UInt8
  home : Int
  count : Int
def Rec.m (r : Rec) : RecM := ⟨r.f_Has, r.f_Value.xs, r.f_Home, r.f_Count⟩
def proj (x : ItA) : ByteArray × RecM := (x.f_key, x.f_value.m)
abbrev Rows := List (ByteArray × RecM)
def sumB (k : ByteArray) : Nat := (k.data.toList.map UInt8.toNat).sum
def sumI (k : ByteArray) (i : Nat) : Nat := ((k.data.toList.take i).map UInt8.toNat).sum
theorem sumI_on {k : ByteArray} {i : Nat} {b : UInt8} (h : k.data.toList[i]? = some b) : sumI k (i + 1) = sumI k i + b.toNat := by
  unfold sumI
  rw [List.take_add_one, h]
  simp
theorem sumI_le (k : ByteArray) : ∀ i, sumI k i ≤ 255 * i
  | 0 => by simp [sumI]
  | i + 1 => by
    have ih := sumI_le k i
    cases h : k.data.toList[i]? with
    | none => unfold sumI at ih ⊢; rw [List.take_add_one, h, Option.toList_none, List.append_nil]; omega
    | some b => rw [sumI_on h]; have := b.toNat_lt; omega
theorem sumI_all {k : ByteArray} {i : Nat} (h : k.size ≤ i) : sumI k i = sumB k := by
  unfold sumI sumB
  rw [List.take_of_length_le (by rw [Array.length_toList]; exact h)]
theorem dflt_bd {k : ByteArray} {i : Nat} {n : Int} (hn : 1 ≤ n) : 0 ≤ ((sumI k i : Nat) : Int) % n ∧ ((sumI k i : Nat) : Int) % n ≤ 255 * (i : Int) := by
  have h1 := sumI_le k i
  refine ⟨Int.emod_nonneg _ (by omega), ?_⟩
  by_cases h : ((sumI k i : Nat) : Int) < n
  · rw [Int.emod_eq_of_lt (by omega) h]; omega
  · have := Int.emod_lt_of_pos ((sumI k i : Nat) : Int) (show 0 < n by omega)
    omega
theorem dflt_on {k : ByteArray} {i : Nat} {n : Int} {b : UInt8} (hn : 1 ≤ n) (h : k.data.toList[i]? = some b) : (((sumI k i : Nat) : Int) % n + (b.toNat : Int)).tmod n = ((sumI k (i + 1) : Nat) : Int) % n := by
  have h1 := (dflt_bd (k := k) (i := i) hn).1
  rw [Int.tmod_eq_emod_of_nonneg (by omega), sumI_on h, Int.natCast_add, Int.emod_add_emod]
def dflt (k : ByteArray) (n : Int) : Int := if n < 1 then 0 else (sumB k : Int) % n
noncomputable def findM (k : ByteArray) (M : Rows) : Option (ByteArray × RecM) := M.find? fun z => decide (z.1 = k)
def r0 (n : Int) (k : ByteArray) : RecM := ⟨false, [], dflt k n, 0⟩
noncomputable def lookM (n : Int) (k : ByteArray) (M : Rows) : RecM := ((findM k M).map Prod.snd).getD (r0 n k)
noncomputable def delM (k : ByteArray) (M : Rows) : Rows := del Prod.fst k M
noncomputable def insM (k : ByteArray) (r : RecM) (M : Rows) : Rows := ins Prod.fst strlt (k, r) M
noncomputable def setM (k : ByteArray) (r : RecM) (M : Rows) : Rows := if r.has = false ∧ r.count = 0 then delM k M else insM k r M
noncomputable def putM (n : Int) (k : ByteArray) (v : List UInt8) (M : Rows) : Rows := setM k { lookM n k M with has := true, val := v } M
noncomputable def rmM (n : Int) (k : ByteArray) (M : Rows) : Rows := setM k { lookM n k M with has := false, val := [] } M
def maxU : Int := 18446744073709551615
noncomputable def moveM (n : Int) (k : ByteArray) (h : Int) (M : Rows) : Int × Rows :=
  if h < 0 ∨ n ≤ h then (1, M) else if (lookM n k M).count = maxU then (111, M) else (0, setM k { lookM n k M with home := h, count := (lookM n k M).count + 1 } M)
theorem find_ins_eq {k : ByteArray} {r : RecM} : ∀ {M : Rows}, findM k (insM k r M) = some (k, r)
  | [] => by simp [findM, insM, ins]
  | y :: ys => by
    unfold insM ins findM
    split
    · simp
    · rename_i h1
      split
      · rename_i h2
        have hne : ¬ y.1 = k := fun h => strlt_sto.irr k (by have h3 : strlt y.1 k := h2; rw [h] at h3; exact h3)
        rw [List.find?_cons_of_neg (by simpa using hne)]
        exact find_ins_eq
      · simp
theorem find_ins_ne {k k' : ByteArray} {r : RecM} (hk : ¬ k' = k) : ∀ {M : Rows}, findM k (insM k' r M) = findM k M
  | [] => by simp [findM, insM, ins, hk]
  | y :: ys => by
    have hd : ¬ decide (((k', r) : ByteArray × RecM).1 = k) = true := by simpa using hk
    unfold insM ins findM
    split
    · rw [List.find?_cons_of_neg (p := fun z : ByteArray × RecM => decide (z.1 = k)) hd]
    · rename_i h1
      split
      · by_cases hy : y.1 = k
        · rw [List.find?_cons_of_pos (by simpa using hy), List.find?_cons_of_pos (by simpa using hy)]
        · rw [List.find?_cons_of_neg (by simpa using hy), List.find?_cons_of_neg (by simpa using hy)]
          exact find_ins_ne hk
      · rename_i h2
        have he : k' = y.1 := strlt_sto.tri h1 h2
        rw [List.find?_cons_of_neg (p := fun z : ByteArray × RecM => decide (z.1 = k)) hd, List.find?_cons_of_neg (p := fun z : ByteArray × RecM => decide (z.1 = k)) (by rw [← he]; exact hd)]
theorem find_del_ne {k k' : ByteArray} (hk : ¬ k' = k) {M : Rows} : findM k (delM k' M) = findM k M := by
  unfold findM delM del
  rw [List.find?_filter]
  congr 1; funext z
  by_cases h : z.1 = k
  · have : ¬ z.1 = k' := fun h2 => hk (h2.symm.trans h)
    simp [h, this]; exact fun h3 => hk h3.symm
  · simp [h]
theorem find_del_eq {k : ByteArray} {M : Rows} : findM k (delM k M) = none := by
  unfold findM delM del
  rw [List.find?_filter]
  refine List.find?_eq_none.2 fun z _ => ?_
  simp
theorem find_key {k : ByteArray} {M : Rows} {z : ByteArray × RecM} (h : findM k M = some z) : z.1 = k := by
  unfold findM at h
  have h2 := List.find?_some h
  exact of_decide_eq_true h2
theorem look_set_ne {n : Int} {k k' : ByteArray} {r : RecM} (hk : ¬ k' = k) {M : Rows} : lookM n k (setM k' r M) = lookM n k M := by
  unfold lookM setM
  split
  · rw [find_del_ne hk]
  · rw [find_ins_ne hk]
theorem look_set {n : Int} {k : ByteArray} {r : RecM} {M : Rows} (h : r.has = true ∨ ¬ r.count = 0) : lookM n k (setM k r M) = r := by
  unfold lookM setM
  rw [if_neg (by rintro ⟨h1, h2⟩; rcases h with h | h; · rw [h] at h1; cases h1
                 · exact h h2), find_ins_eq]; rfl
theorem look_set0 {n : Int} {k : ByteArray} {r : RecM} {M : Rows} (h1 : r.has = false) (h2 : r.count = 0) : lookM n k (setM k r M) = r0 n k := by
  unfold lookM setM
  rw [if_pos ⟨h1, h2⟩, find_del_eq]; rfl
theorem map_del {k : ByteArray} {xs : List ItA} : (del ItA.f_key k xs).map proj = delM k (xs.map proj) := by
  unfold del delM del
  rw [List.filter_map]; rfl
theorem map_ins {x : ItA} : ∀ {xs : List ItA}, (ins ItA.f_key strlt x xs).map proj = insM x.f_key x.f_value.m (xs.map proj)
  | [] => by simp [ins, insM, proj]
  | y :: ys => by
    have ih := map_ins (x := x) (xs := ys)
    unfold insM at ih ⊢
    rw [List.map_cons, ins, ins]
    by_cases h1 : strlt x.f_key y.f_key
    · rw [if_pos h1, if_pos (show strlt ((x.f_key, x.f_value.m) : ByteArray × RecM).1 (proj y).1 from h1)]; rfl
    · rw [if_neg h1, if_neg (show ¬ strlt ((x.f_key, x.f_value.m) : ByteArray × RecM).1 (proj y).1 from h1)]
      by_cases h2 : strlt y.f_key x.f_key
      · rw [if_pos h2, if_pos (show strlt (proj y).1 ((x.f_key, x.f_value.m) : ByteArray × RecM).1 from h2), List.map_cons, ih]
      · rw [if_neg h2, if_neg (show ¬ strlt (proj y).1 ((x.f_key, x.f_value.m) : ByteArray × RecM).1 from h2)]; rfl
theorem set_len {k : ByteArray} {r : RecM} {M : Rows} : (setM k r M).length ≤ M.length + 1 := by
  unfold setM
  split
  · have : (delM k M).length ≤ M.length := List.length_filter_le _ _
    omega
  · unfold insM
    induction M with
    | nil => simp [ins]
    | cons y ys ih => rw [ins]; split; · simp
                      split <;> simp <;> omega
structure SS where
  n : Int
  xs : List ItA
def SS.M (s : SS) : Rows := s.xs.map proj
structure OkR (n : Int) (r : RecM) : Prop where
  val : r.val.length ≤ 1000000
  h0 : 0 ≤ r.home
  hn : r.home < n
  c0 : 0 ≤ r.count
  cn : r.count ≤ maxU
structure OkS (s : SS) : Prop where
  n1 : 1 ≤ s.n
  n3 : s.n ≤ 3
  ok : ∀ x ∈ s.xs, OkR s.n x.f_value.m
theorem OkS.new {n : Int} (h1 : 1 ≤ n) (h2 : n ≤ 3) : OkS ⟨n, []⟩ := ⟨h1, h2, fun x h => by simp at h⟩
theorem OkS.del {s : SS} {k : ByteArray} (h : OkS s) : OkS ⟨s.n, del ItA.f_key k s.xs⟩ := ⟨h.n1, h.n3, fun x hx => h.ok x (mem_del.1 hx).1⟩
theorem OkS.ins {s : SS} {k : ByteArray} {r : Rec} (h : OkS s) (hr : OkR s.n r.m) : OkS ⟨s.n, ins ItA.f_key strlt (⟨k, r⟩ : ItA) s.xs⟩ := ⟨h.n1, h.n3, fun x hx => by
  rcases mem_ins hx with rfl | hx
  · exact hr
  · exact h.ok x hx⟩
theorem dflt_in {k : ByteArray} {n : Int} (h : 1 ≤ n) : 0 ≤ dflt k n ∧ dflt k n < n := by
  unfold dflt
  rw [if_neg (by omega)]
  exact ⟨Int.emod_nonneg _ (by omega), Int.emod_lt_of_pos _ (by omega)⟩
theorem OkS.look {s : SS} (h : OkS s) (k : ByteArray) : OkR s.n (lookM s.n k s.M) := by
  unfold lookM
  cases hf : findM k s.M with
  | none => exact ⟨by show 0 ≤ 1000000; omega, (dflt_in h.n1).1, (dflt_in h.n1).2, by show (0 : Int) ≤ 0; omega, by show (0 : Int) ≤ maxU; decide⟩
  | some z =>
    obtain ⟨x, hx, rfl⟩ := List.mem_map.1 (List.mem_of_find?_eq_some hf)
    exact h.ok x hx
theorem OkR.put {n : Int} {r : RecM} {b : Bool} {v : List UInt8} (h : OkR n r) (hv : v.length ≤ 1000000) : OkR n { r with has := b, val := v } := ⟨hv, h.h0, h.hn, h.c0, h.cn⟩
theorem OkR.move {n : Int} {r : RecM} {h : Int} (o : OkR n r) (h0 : ¬ (h < 0 ∨ n ≤ h)) (hc : ¬ r.count = maxU) : OkR n { r with home := h, count := r.count + 1 } := ⟨o.val, by show 0 ≤ h; omega, by show h < n; omega, by have := o.c0; show 0 ≤ r.count + 1; omega, by have := o.cn; show r.count + 1 ≤ maxU; omega⟩
theorem look_has {s : SS} {k : ByteArray} {v : Rec} (g : GetG ItA.f_key ItA.f_value s.xs k v true) : lookM s.n k s.M = v.m := by
  obtain ⟨y, hy, he⟩ := g.has.1 rfl
  unfold lookM
  cases hf : findM k s.M with
  | none => exact absurd (decide_eq_true (show (proj y).1 = k from he)) (List.find?_eq_none.1 hf (proj y) (List.mem_map.2 ⟨y, hy, rfl⟩))
  | some z =>
    obtain ⟨x, hx, rfl⟩ := List.mem_map.1 (List.mem_of_find?_eq_some hf)
    have hk : x.f_key = k := find_key hf
    show x.f_value.m = v.m
    rw [g.val rfl x hx hk]
theorem look_none {s : SS} {k : ByteArray} {v : Rec} (g : GetG ItA.f_key ItA.f_value s.xs k v false) : lookM s.n k s.M = r0 s.n k := by
  unfold lookM
  cases hf : findM k s.M with
  | none => rfl
  | some z =>
    obtain ⟨x, hx, rfl⟩ := List.mem_map.1 (List.mem_of_find?_eq_some hf)
    have hk : x.f_key = k := find_key hf
    exact absurd (g.has.2 ⟨x, hx, hk⟩) (by simp)
theorem M_len {s : SS} : s.M.length = s.xs.length := List.length_map _
abbrev vR (x : ItA) : Res := row e8.T e8.sz x.f_value.f_Value.a x.f_value.f_Value.xs.length x.f_value.f_Value.c (flat e8 x.f_value.f_Value.xs)
def vals (xs : List ItA) : Res := stars (xs.map vR)
section
variable {W w : World} {L : List Res}
theorem Sat.vals_perm {xs ys : List ItA} (h : xs.Perm ys) (S : Sat W w (vals xs :: L)) : Sat W w (vals ys :: L) := S.stars_perm (h.map _)
theorem Sat.vals_take {xs : List ItA} {i : Nat} {x : ItA} (hk : xs[i]? = some x) (S : Sat W w (vals xs :: L)) : Sat W w (vR x :: vals (xs.eraseIdx i) :: L) :=
  Sat.stars_cons (Rs := (xs.eraseIdx i).map vR) (Sat.vals_perm (erase_perm hk).symm S)
theorem Sat.vals_back {xs : List ItA} {i : Nat} {x : ItA} (hk : xs[i]? = some x) (S : Sat W w (vR x :: vals (xs.eraseIdx i) :: L)) : Sat W w (vals xs :: L) :=
  Sat.vals_perm (erase_perm hk) (Sat.stars_uncons (Rs := (xs.eraseIdx i).map vR) S)
theorem Sat.vals_part {xs ys R : List ItA} (h : xs.Perm (ys ++ R)) (S : Sat W w (vals xs :: L)) : Sat W w (vals ys :: L) := by
  have S1 := Sat.vals_perm h S
  unfold vals at S1
  rw [List.map_append] at S1
  exact (S1.stars_two.perm (List.Perm.swap _ _ _)).tail
theorem Sat.vals_del {xs : List ItA} {k : ByteArray} (S : Sat W w (vals xs :: L)) : Sat W w (vals (del ItA.f_key k xs) :: L) :=
  let ⟨R, hR⟩ : ∃ R, xs.Perm (del ItA.f_key k xs ++ R) := ⟨_, (List.filter_append_perm _ xs).symm⟩
  Sat.vals_part hR S
theorem ins_perm {x : ItA} : ∀ {xs : List ItA}, ∃ R, (x :: xs).Perm (ins ItA.f_key strlt x xs ++ R)
  | [] => ⟨[], by simp [ins]⟩
  | y :: ys => by
    rw [ins]
    split
    · exact ⟨[], by simp⟩
    · split
      · obtain ⟨R, hR⟩ := ins_perm (x := x) (xs := ys)
        exact ⟨R, (List.Perm.swap _ _ _).trans (hR.cons y)⟩
      · exact ⟨[y], by
          show (x :: y :: ys).Perm (x :: (ys ++ [y]))
          exact (List.perm_append_comm (l₁ := [y]) (l₂ := ys)).cons x⟩
theorem Sat.vals_ins {xs : List ItA} {x : ItA} (S : Sat W w (vR x :: vals xs :: L)) : Sat W w (vals (ins ItA.f_key strlt x xs) :: L) := by
  obtain ⟨R, hR⟩ := ins_perm (x := x) (xs := xs)
  exact Sat.vals_part hR (Sat.stars_uncons (A := vR x) (Rs := xs.map vR) S)
theorem Sat.vals_nil (S : Sat W w L) : Sat W w (vals [] :: L) := Sat.unflat (Ls := []) S
end
end
section
set_option linter.unusedVariables false
set_option linter.unusedSimpArgs false
set_option maxRecDepth 10000
open Go.RowKit Classical
theorem clone8 {W : World} {F : List Res} {xs : List UInt8} {a : Option Addr} {c : Nat} (hs : RdS W F e8 a xs) (hb : xs.length * e8.bytes ≤ 140737488355328) (hn : xs.length ≤ 140737488355328) : CS Try.prog 30 #[.slice a (xs).length c] W (F) (fun r L' => ∃ (a' : Option Addr) (c' : Nat), r = .slice a' xs.length c' ∧ L' = row e8.T e8.sz a' (xs).length c' (flat e8 xs) :: F) := by
 refine f_door (l0 := [(0, .slice a (xs).length c)]) Try.func30 Try.ntmps30 rfl rfl rfl ?_
 refine c_seq ?_
 refine c_fact (rds_nilq hs) ?_
 intro hz
 refine c_region ?_
 refine o_assign rfl rfl ?_
 refine l_nil ?_
 refine q_then ?_
 refine c_seq ?_
 refine c_seq ?_
 refine c_region ?_
 refine o_move rfl rfl ?_
 refine o_bin rfl rfl rfl (b_sleq Try.underlying23 _ _ _) ?_
 refine l_nil ?_
 refine q_then ?_
 refine c_cond rfl (fun h1 => ?_) (fun h1 => ?_)
 · -- h1T
  have h1b := h1
  try simp only [decide_eq_true_eq, decide_eq_false_iff_not, Bool.not_eq_eq_eq_not, Bool.not_true, Bool.not_false, Bool.not_eq_true', Bool.not_eq_false', Int.not_lt, Int.not_le, Bool.or_eq_true, Bool.and_eq_true] at h1
  have hnil : xs = [] := hz (by simpa using h1)
  refine c_seq ?_
  refine c_region ?_
  refine o_assign rfl rfl ?_
  refine l_nil ?_
  refine q_then ?_
  refine c_ret ?_
  refine q_pass_ret ?_
  exact f_ret (r_one rfl rfl) (⟨none, 0, by rw [hnil]; rfl, rfl⟩) (by rw [hnil]; exact fun w S => S.own_nil)
 · -- h1F
  have h1b := h1
  try simp only [decide_eq_true_eq, decide_eq_false_iff_not, Bool.not_eq_eq_eq_not, Bool.not_true, Bool.not_false, Bool.not_eq_true', Bool.not_eq_false', Int.not_lt, Int.not_le, Bool.or_eq_true, Bool.and_eq_true] at h1
  refine c_skip ?_
  refine q_then ?_
  refine c_seq ?_
  refine c_region ?_
  refine o_lit e8_ok rfl Try.underlying23 rfl rfl rfl (lit_ok rfl) ([] : List UInt8) rfl rfl fun a5 => ?_
  refine o_move rfl rfl ?_
  refine o_append e8_ok rfl rfl rfl Try.underlying23 (rds_c hs) (by simpa using hb) (by simpa using hn) fun a7 c7 => ?_
  refine o_assign rfl rfl ?_
  refine l_nil ?_
  refine q_then ?_
  refine c_ret ?_
  exact f_ret (r_one rfl rfl) (⟨_, _, rfl, rfl⟩) (fun w S => by simpa using S)
end
section
set_option linter.unusedVariables false
set_option linter.unusedSimpArgs false
set_option maxRecDepth 10000
open Go.RowKit Classical
def StR (k : Nat) (s : SS) : Res := obj (fun _ : Nat => OkS s) fun x => [blk k (.cells #[.int .i64 s.n, .pointer (some ⟨x, 0, none⟩)] 65 (0, 0)), treeR e_ItA eN99 103 105 ItA.f_key strlt x s.xs, vals s.xs]
theorem StR_ok {W w : World} {L : List Res} {k : Nat} {s : SS} (S : Sat W w (StR k s :: L)) : OkS s := by
  obtain ⟨_, h, _⟩ := S.obj_open
  exact h
theorem default_ {W : World} {F : List Res} {k : ByteArray} {n : Int} (hk : k.size ≤ 1000000) : CS Try.prog 14 #[.string k, .int .i64 n] W (F) (fun r L' => r = .int .i64 (dflt k n) ∧ F = L') := by
 refine f_door (l0 := [(0, .string k), (1, .int .i64 n)]) Try.func14 Try.ntmps14 rfl rfl rfl ?_
 refine c_seq ?_
 refine c_region ?_
 refine o_assign rfl rfl ?_
 refine l_nil ?_
 refine q_then ?_
 refine c_seq ?_
 refine c_seq ?_
 refine c_region ?_
 refine o_move rfl rfl ?_
 refine o_bin rfl rfl rfl b_lss ?_
 refine l_nil ?_
 refine q_then ?_
 refine c_cond rfl (fun h1 => ?_) (fun h1 => ?_)
 · -- h1T
  have h1b := h1
  try simp only [decide_eq_true_eq] at h1
  refine c_seq ?_
  refine c_region ?_
  refine o_assign rfl rfl ?_
  refine l_nil ?_
  refine q_then ?_
  refine c_ret ?_
  refine q_pass_ret ?_
  exact f_ret (r_one rfl rfl) (⟨by unfold dflt; rw [if_pos (by omega)], rfl⟩) (fun w S => S)
 · -- h1F
  have h1b := h1
  try simp only [decide_eq_false_iff_not, Int.not_lt, Int.not_le] at h1
  refine c_skip ?_
  refine q_then ?_
  refine c_seq ?_
  refine c_region ?_
  refine o_assign rfl rfl ?_
  refine l_nil ?_
  refine q_then ?_
  refine c_seq ?_
  refine c_seq ?_
  refine c_region ?_
  refine o_move rfl rfl ?_
  refine o_lenStr rfl rfl Try.underlying9 ?_
  refine o_move rfl rfl ?_
  refine l_nil ?_
  refine q_then ?_
  refine c_block ?_
  refine c_loop (α := Nat) (fun z => [(0, .string k), (1, .int .i64 n), (5, .int .i64 (((sumI k z : Nat) : Int) % n)), (10, .int .i64 ((k).size : Int)), (11, .int .i64 (z : Int))]) (fun z => F) (fun z => z ≤ k.size) (fun z => k.size - z) (0) (by exact Nat.zero_le _) ⟨(by first | rfl | exact vint (by omega)), (by first | rfl | exact vint (by omega)), (by first | rfl | exact vint (by omega)), (by first | rfl | exact vint (by omega)), (by first | rfl | exact vint (by omega)), trivial⟩ (fun w S => S) ?_
  rintro i hi
  try dsimp only at *
  refine c_seq ?_
  refine c_region ?_
  refine o_bin rfl rfl rfl b_lss ?_
  refine l_nil ?_
  refine q_then ?_
  refine c_seq ?_
  refine c_cond rfl (fun h2 => ?_) (fun h2 => ?_)
  · -- h2T
   have h2b := h2
   try simp only [decide_eq_true_eq] at h2
   refine c_skip ?_
   refine q_then ?_
   refine c_seq ?_
   refine c_block ?_
   refine c_seq ?_
   refine c_region ?_
   refine o_move rfl rfl ?_
   refine o_assign rfl rfl ?_
   refine l_nil ?_
   refine q_then ?_
   have hbd := dflt_bd (k := k) (i := i) (n := n) (by omega)
   refine c_region ?_
   refine o_move rfl rfl ?_
   refine o_move rfl rfl ?_
   refine o_move rfl rfl ?_
   obtain ⟨x17, hx17⟩ : ∃ b, (k).data.toList[((i : Int)).toNat]? = some b := ⟨_, List.getElem?_eq_getElem (by (try simp only [Array.length_toList]); first | omega | (show _ < ByteArray.size _; omega))⟩
   refine o_strIndex rfl rfl rfl Try.underlying9 (by omega) hx17 ?_
   have hx17' : k.data.toList[i]? = some x17 := hx17
   have hbb := x17.toNat_lt
   refine o_int rfl rfl Try.underlying5 Try.underlying3 (wrap_i64 (by omega) (by omega)) ?_
   refine o_bin rfl rfl rfl (b_add (wrap_i64 (by omega) (by omega))) ?_
   refine o_move rfl rfl ?_
   refine o_bin rfl rfl rfl (b_rem (by omega) (dflt_on (by omega) hx17')) ?_
   refine o_assign rfl rfl ?_
   refine l_nil ?_
   refine q_block ?_
   refine q_then ?_
   refine c_region ?_
   refine o_bin rfl rfl rfl (b_add (wrap_i64 (by omega) (by omega))) ?_
   refine o_move rfl rfl ?_
   refine l_nil ?_
   exact q_round (i + 1) (by omega) (by (try dsimp only); omega) ⟨(by first | rfl | exact vint (by omega)), (by first | rfl | exact vint (by omega)), (by first | rfl | exact vint (by omega)), (by first | rfl | exact vint (by omega)), (by first | rfl | exact vint (by omega)), trivial⟩ (fun w S => S)
  · -- h2F
   have h2b := h2
   try simp only [decide_eq_false_iff_not, Int.not_lt, Int.not_le] at h2
   refine c_exit ?_
   refine q_pass_exit ?_
   refine q_pass_exit ?_
   refine q_hit ?_
   refine q_then ?_
   refine c_seq ?_
   refine c_region ?_
   refine o_move rfl rfl ?_
   refine o_assign rfl rfl ?_
   refine l_nil ?_
   refine q_then ?_
   refine c_ret ?_
   exact f_ret (r_one rfl rfl) (⟨by rw [show ((sumI k i : Nat) : Int) % n = dflt k n from by unfold dflt; rw [if_neg (by omega), sumI_all (by omega)]], rfl⟩) (fun w S => S)
end
section
set_option linter.unusedVariables false
set_option linter.unusedSimpArgs false
set_option maxRecDepth 10000
open Go.RowKit Classical
theorem new_ {W : World} {F : List Res} {n : Int} (h1n : 1 ≤ n) (hn3 : n ≤ 3) : CS Try.prog 10 #[.int .i64 n] W (F) (fun r L' => ∃ k : Nat, r = .tuple #[.pointer (some ⟨k, 0, none⟩), .int .i64 0] ∧ L' = StR k ⟨n, []⟩ :: F) := by
 refine f_door (l0 := [(0, .int .i64 n)]) Try.func10 Try.ntmps10 rfl rfl rfl ?_
 refine c_seq ?_
 refine c_region ?_
 refine o_assign rfl rfl ?_
 refine o_assign rfl rfl ?_
 refine l_nil ?_
 refine q_then ?_
 refine c_seq ?_
 refine c_seq ?_
 refine c_region ?_
 refine o_move rfl rfl ?_
 refine o_bin rfl rfl rfl b_lss ?_
 refine l_eq (t := 5) (v' := .bool false) rfl (show _ = Value.bool false from by rw [decide_eq_false (by omega)]) ?_
 refine o_move rfl rfl ?_
 refine o_yes rfl rfl rfl ?_
 refine o_move rfl rfl ?_
 refine o_yes rfl rfl rfl ?_
 refine o_bin rfl rfl rfl b_gtr ?_
 refine l_eq (t := 8) (v' := .bool false) rfl (show _ = Value.bool false from by rw [decide_eq_false (by omega)]) ?_
 refine o_pick_false rfl rfl rfl ?_
 refine l_nil ?_
 refine q_then ?_
 refine c_false rfl ?_
 refine c_skip ?_
 refine q_then ?_
 refine c_seq ?_
 refine c_region ?_
 refine o_move rfl rfl ?_
 refine o_call rfl cal29 rfl (new_A) ?_
 rintro _ _ ⟨t11, rfl, rfl⟩
 refine o_build rfl sp65 ti65 rfl ((fill_cons (cells' := [.int .i64 n, .pointer none]) rfl rfl rfl rfl (fill_cons (cells' := [.int .i64 n, .pointer (some ⟨t11, 0, none⟩)]) rfl rfl rfl rfl fill_nil))) ?_
 refine o_box rfl rfl fun b13 => ?_
 refine o_assign rfl rfl ?_
 refine o_assign rfl rfl ?_
 refine l_nil ?_
 refine q_then ?_
 refine c_ret ?_
 exact f_ret (r_two rfl rfl rfl) (⟨b13, rfl, rfl⟩) (fun w S => Sat.obj_mk t11 (OkS.new h1n hn3) (((Sat.vals_nil S).perm p2).perm p2))
theorem get_ {W : World} {F : List Res} {k : Nat} {s : SS} {k' : ByteArray} (hk : k'.size ≤ 1000000) : CS Try.prog 13 #[.pointer (some ⟨k, 0, none⟩), .string k'] W (StR k s :: F) (fun r L' => ∃ v : Rec, v.m = lookM s.n k' s.M ∧ r = .agg #[.bool v.f_Has, .slice v.f_Value.a (v.f_Value.xs).length v.f_Value.c, .int .i64 v.f_Home, .int .u64 v.f_Count] ∧ L' = row e8.T e8.sz v.f_Value.a (v.f_Value.xs).length v.f_Value.c (flat e8 v.f_Value.xs) :: StR k s :: F) := by
 refine f_door (l0 := [(0, .pointer (some ⟨k, 0, none⟩)), (1, .string k')]) Try.func13 Try.ntmps13 rfl rfl rfl ?_
 refine c_seq ?_
 refine c_region ?_
 refine o_alloc rfl ti36 fun b4 => ?_
 refine l_nil ?_
 refine q_then ?_
 refine c_seq ?_
 refine c_conv (fun w S => S.perm p1) ?_
 refine c_obj ?_
 rintro t_1 ok_1
 refine c_conv (L' := blk k (.cells #[.int .i64 s.n, .pointer (some ⟨t_1, 0, none⟩)] 65 (0, 0)) :: treeR e_ItA eN99 103 105 ItA.f_key strlt t_1 s.xs :: vals s.xs :: _) (fun w S => S) ?_
 refine c_region ?_
 refine o_move rfl rfl ?_
 refine o_nil rfl rfl ?_
 refine o_fieldAddr (q := ⟨k, 1, none⟩) rfl rfl Try.underlying65 rfl ti62 rfl ?_
 refine o_load1 rfl rfl Try.underlying62 rfl (rd_mem 0 rfl rfl) ?_
 refine o_move rfl rfl ?_
 refine l_f1 ?_
 refine o_call rfl cal32 rfl (tget_A (k := k')) ?_
 rintro _ _ ⟨v13, ok13, hg13, hz13, rfl, rfl⟩
 refine o_move rfl rfl ?_
 refine o_extract rfl rfl rfl ?_
 refine o_extract rfl rfl rfl ?_
 refine o_alloc rfl ti36 fun b5 => ?_
 refine o_storen rfl rfl ti36 rfl rfl rfl rfl ?_
 refine o_assign rfl rfl ?_
 refine l_nil ?_
 refine q_then ?_
 refine c_seq ?_
 refine c_seq ?_
 refine c_region ?_
 refine o_move rfl rfl ?_
 refine o_not rfl rfl ?_
 refine l_nil ?_
 refine q_then ?_
 refine c_cond rfl (fun h1 => ?_) (fun h1 => ?_)
 · -- h1T
  have h1b := h1
  try simp only [decide_eq_true_eq, decide_eq_false_iff_not, Bool.not_eq_eq_eq_not, Bool.not_true, Bool.not_false, Bool.not_eq_true', Bool.not_eq_false', Int.not_lt, Int.not_le, Bool.or_eq_true, Bool.and_eq_true] at h1
  refine c_region ?_
  refine o_move rfl rfl ?_
  refine o_move rfl rfl ?_
  refine o_nil rfl rfl ?_
  refine o_fieldAddr (q := ⟨k, 0, none⟩) rfl rfl Try.underlying65 rfl ti3 rfl ?_
  refine o_load1 rfl rfl Try.underlying3 rfl (rd_mem 2 rfl rfl) ?_
  refine o_call rfl cal14 rfl (default_ (k := k') (n := s.n) (by omega)) ?_
  rintro _ _ ⟨rfl, rfl⟩
  refine o_fieldAddr (q := ⟨b5, 2, none⟩) rfl rfl Try.underlying36 rfl ti3 rfl ?_
  refine o_store1 rfl rfl rfl ti3 rfl rfl ?_
  refine l_nil ?_
  refine q_then ?_
  refine c_seq ?_
  obtain rfl : ok13 = false := by simpa using h1b
  obtain rfl := hz13 rfl
  have hlk := look_none hg13
  have hvl : ([] : List UInt8).length ≤ 1000000 := by simp
  refine c_nilrow e8 ?_
  refine c_conv (fun w S => S.perm p1) ?_
  refine c_conv (L' := blk b5 (.cells #[.bool ((⟨false, ⟨none, [], 0⟩, 0, 0⟩ : Rec).f_Has), .slice none (([] : List UInt8)).length 0, .int .i64 (dflt k' s.n), .int .u64 ((⟨false, ⟨none, [], 0⟩, 0, 0⟩ : Rec).f_Count)] 36 (0, 0)) :: _) (fun w S => S) ?_
  refine c_region ?_
  refine o_fieldAddr (q := ⟨b5, 1, none⟩) rfl rfl Try.underlying36 rfl ti23 rfl ?_
  refine o_load1 rfl rfl Try.underlying23 rfl (rd_mem 0 rfl rfl) ?_
  refine o_call rfl cal30 rfl (clone8 (xs := ([] : List UInt8)) (a := none) (c := 0) (rds_own e8_ok 1 rfl) (by show _ * 1 ≤ _; omega) (by omega)) ?_
  rintro _ _ ⟨a27, c27, rfl, rfl⟩
  refine o_fieldAddr (q := ⟨b5, 1, none⟩) rfl rfl Try.underlying36 rfl ti23 rfl ?_
  refine l_f1 ?_
  refine o_store1 rfl rfl rfl ti23 rfl rfl ?_
  refine l_nil ?_
  refine q_then ?_
  refine c_seq ?_
  refine c_region ?_
  refine o_loadn (vs := [_, _, _, _]) rfl rfl Try.underlying36 rfl ti36 (rdn_lit 0 rfl rfl) ?_
  refine l_f6 ?_
  refine o_storen rfl rfl ti36 rfl rfl rfl rfl ?_
  refine l_nil ?_
  refine q_then ?_
  refine c_ret ?_
  refine q_conv (fun w S => S.perm p3) ?_
  refine q_conv (fun w S => S.perm p3) ?_
  refine q_conv (fun w S => S.perm p3) ?_
  refine q_conv (fun w S => S.perm p3) ?_
  refine q_conv (fun w S => S.perm p6) ?_
  refine q_conv (fun w S => S.perm p5) ?_
  refine q_conv (fun w S => S.perm p6) ?_
  refine q_conv (L' := StR k s :: _) (fun w S => Sat.obj_mk t_1 ok_1 S) ?_
  refine f_retq (.inl rfl) (rs_1 rfl (rs_celln (vs := [.bool ((⟨false, ⟨none, [], 0⟩, 0, 0⟩ : Rec).f_Has), .slice a27 (([] : List UInt8)).length c27, .int .i64 (dflt k' s.n), .int .u64 ((⟨false, ⟨none, [], 0⟩, 0, 0⟩ : Rec).f_Count)]) rfl Try.underlying36 rfl ti36 (rdn_lit 1 rfl rfl))) (fun w S => ?_)
  replace S := (S.perm p1).tail
  replace S := (S.perm p1).tail
  replace S := (S.perm p2).tail
  replace S := S.perm p1
  exact ⟨_, ⟨(⟨(⟨false, ⟨none, [], 0⟩, 0, 0⟩ : Rec).f_Has, ⟨a27, ([] : List UInt8), c27⟩, dflt k' s.n, (⟨false, ⟨none, [], 0⟩, 0, 0⟩ : Rec).f_Count⟩ : Rec), (by rw [hlk] <;> rfl), rfl, rfl⟩, (fun w S => S) w S⟩
 · -- h1F
  have h1b := h1
  try simp only [decide_eq_true_eq, decide_eq_false_iff_not, Bool.not_eq_eq_eq_not, Bool.not_true, Bool.not_false, Bool.not_eq_true', Bool.not_eq_false', Int.not_lt, Int.not_le, Bool.or_eq_true, Bool.and_eq_true] at h1
  refine c_skip ?_
  refine q_then ?_
  refine c_seq ?_
  obtain rfl : ok13 = true := by simpa using h1b
  obtain ⟨y13, hy13, hky13⟩ := hg13.has.1 rfl
  obtain rfl := hg13.val rfl y13 hy13 hky13
  obtain ⟨i13, hi13⟩ := List.getElem?_of_mem hy13
  have hlk := look_has hg13
  have hvl : y13.f_value.f_Value.xs.length ≤ 1000000 := (ok_1.ok _ hy13).val
  refine c_conv (fun w S => S.perm p3) ?_
  refine c_conv (L' := row e8.T e8.sz y13.f_value.f_Value.a (y13.f_value.f_Value.xs).length y13.f_value.f_Value.c (flat e8 y13.f_value.f_Value.xs) :: vals (s.xs.eraseIdx i13) :: _) (fun w S => Sat.vals_take hi13 S) ?_
  refine c_conv (fun w S => S.perm p2) ?_
  refine c_conv (L' := blk b5 (.cells #[.bool y13.f_value.f_Has, .slice y13.f_value.f_Value.a (y13.f_value.f_Value.xs).length y13.f_value.f_Value.c, .int .i64 y13.f_value.f_Home, .int .u64 y13.f_value.f_Count] 36 (0, 0)) :: _) (fun w S => S) ?_
  refine c_region ?_
  refine o_fieldAddr (q := ⟨b5, 1, none⟩) rfl rfl Try.underlying36 rfl ti23 rfl ?_
  refine o_load1 rfl rfl Try.underlying23 rfl (rd_mem 0 rfl rfl) ?_
  refine o_call rfl cal30 rfl (clone8 (xs := y13.f_value.f_Value.xs) (a := y13.f_value.f_Value.a) (c := y13.f_value.f_Value.c) (rds_own e8_ok 1 rfl) (by show _ * 1 ≤ _; omega) (by omega)) ?_
  rintro _ _ ⟨a27, c27, rfl, rfl⟩
  refine o_fieldAddr (q := ⟨b5, 1, none⟩) rfl rfl Try.underlying36 rfl ti23 rfl ?_
  refine l_f1 ?_
  refine o_store1 rfl rfl rfl ti23 rfl rfl ?_
  refine l_nil ?_
  refine q_then ?_
  refine c_seq ?_
  refine c_region ?_
  refine o_loadn (vs := [_, _, _, _]) rfl rfl Try.underlying36 rfl ti36 (rdn_lit 0 rfl rfl) ?_
  refine l_f6 ?_
  refine o_storen rfl rfl ti36 rfl rfl rfl rfl ?_
  refine l_nil ?_
  refine q_then ?_
  refine c_ret ?_
  refine q_conv (fun w S => S.perm p6) ?_
  refine q_conv (fun w S => S.perm p6) ?_
  refine q_conv (fun w S => S.perm p4) ?_
  refine q_conv (fun w S => S.perm p4) ?_
  refine q_conv (fun w S => S.perm p4) ?_
  refine q_conv (fun w S => S.perm p6) ?_
  refine q_conv (fun w S => S.perm p6) ?_
  refine q_conv (L' := vals s.xs :: _) (fun w S => Sat.vals_back hi13 S) ?_
  refine q_conv (fun w S => S.perm p3) ?_
  refine q_conv (fun w S => S.perm p3) ?_
  refine q_conv (fun w S => S.perm p3) ?_
  refine q_conv (fun w S => S.perm p3) ?_
  refine q_conv (fun w S => S.perm p4) ?_
  refine q_conv (fun w S => S.perm p5) ?_
  refine q_conv (L' := StR k (⟨s.n, s.xs⟩ : SS) :: _) (fun w S => Sat.obj_mk t_1 ok_1 S) ?_
  refine f_retq (.inl rfl) (rs_1 rfl (rs_celln (vs := [.bool y13.f_value.f_Has, .slice a27 (y13.f_value.f_Value.xs).length c27, .int .i64 y13.f_value.f_Home, .int .u64 y13.f_value.f_Count]) rfl Try.underlying36 rfl ti36 (rdn_lit 1 rfl rfl))) (fun w S => ?_)
  replace S := (S.perm p1).tail
  replace S := (S.perm p1).tail
  replace S := S.perm p1
  exact ⟨_, ⟨(⟨y13.f_value.f_Has, ⟨a27, y13.f_value.f_Value.xs, c27⟩, y13.f_value.f_Home, y13.f_value.f_Count⟩ : Rec), (by rw [hlk] <;> rfl), rfl, rfl⟩, (fun w S => S) w S⟩
end
section
set_option linter.unusedVariables false
set_option linter.unusedSimpArgs false
set_option maxRecDepth 10000
open Go.RowKit Classical
theorem set_ {W : World} {F : List Res} {k : Nat} {s : SS} {k' : ByteArray} {r : Rec} (hr : OkR s.n r.m) (hl : s.xs.length ≤ 1000000) : CS Try.prog 31 #[.pointer (some ⟨k, 0, none⟩), .string k', .agg #[.bool r.f_Has, .slice r.f_Value.a (r.f_Value.xs).length r.f_Value.c, .int .i64 r.f_Home, .int .u64 r.f_Count]] W (row e8.T e8.sz r.f_Value.a (r.f_Value.xs).length r.f_Value.c (flat e8 r.f_Value.xs) :: StR k s :: F) (fun _ L' => ∃ s' : SS, s'.n = s.n ∧ s'.M = setM k' r.m s.M ∧ L' = StR k s' :: F) := by
 refine f_door (l0 := [(0, .pointer (some ⟨k, 0, none⟩)), (1, .string k'), (2, .agg #[.bool r.f_Has, .slice r.f_Value.a (r.f_Value.xs).length r.f_Value.c, .int .i64 r.f_Home, .int .u64 r.f_Count])]) Try.func31 Try.ntmps31 rfl rfl rfl ?_
 refine c_seq ?_
 refine c_region ?_
 refine o_box rfl rfl fun b5 => ?_
 refine l_nil ?_
 refine q_then ?_
 refine c_seq ?_
 refine c_seq ?_
 refine c_conv (fun w S => S.perm p2) ?_
 refine c_obj ?_
 rintro t_1 ok_1
 refine c_conv (L' := blk k (.cells #[.int .i64 s.n, .pointer (some ⟨t_1, 0, none⟩)] 65 (0, 0)) :: treeR e_ItA eN99 103 105 ItA.f_key strlt t_1 s.xs :: vals s.xs :: _) (fun w S => S) ?_
 refine c_region ?_
 refine o_fieldAddr (q := ⟨b5, 0, none⟩) rfl rfl Try.underlying36 rfl ti4 rfl ?_
 refine o_load1 rfl rfl Try.underlying4 rfl (rd_mem 3 rfl rfl) ?_
 refine o_not rfl rfl ?_
 refine o_move rfl rfl ?_
 refine l_split (t := 9) rfl (fun h1 => ?_) (fun h1 => ?_)
 · -- h1T
  have h1b := h1
  try simp only [decide_eq_true_eq, decide_eq_false_iff_not, Bool.not_eq_eq_eq_not, Bool.not_true, Bool.not_false, Bool.not_eq_true', Bool.not_eq_false', Int.not_lt, Int.not_le, Bool.or_eq_true, Bool.and_eq_true] at h1
  refine o_yes rfl rfl rfl ?_
  refine o_fieldAddr (q := ⟨b5, 3, none⟩) rfl rfl Try.underlying36 rfl ti34 rfl ?_
  refine o_yes rfl rfl rfl ?_
  refine o_load1 rfl rfl Try.underlying34 rfl (rd_mem 3 rfl rfl) ?_
  refine o_yes rfl rfl rfl ?_
  refine o_bin rfl rfl rfl b_eql ?_
  refine o_pick_true rfl rfl rfl ?_
  refine l_nil ?_
  refine q_then ?_
  refine c_cond rfl (fun h2 => ?_) (fun h2 => ?_)
  · -- h2T
   have h2b := h2
   try simp only [decide_eq_true_eq] at h2
   refine c_seq ?_
   refine c_region ?_
   refine o_move rfl rfl ?_
   refine o_nil rfl rfl ?_
   refine o_fieldAddr (q := ⟨k, 1, none⟩) rfl rfl Try.underlying65 rfl ti62 rfl ?_
   refine o_load1 rfl rfl Try.underlying62 rfl (rd_mem 0 rfl rfl) ?_
   refine o_move rfl rfl ?_
   refine l_f1 ?_
   refine o_call rfl cal54 rfl (tdel_A (k := k') (by omega)) ?_
   rintro _ _ ⟨v19, ok19, hg19, rfl, rfl⟩
   refine l_nil ?_
   refine q_then ?_
   refine c_ret ?_
   refine q_pass_ret ?_
   refine q_conv (fun w S => (S.perm p3).tail) ?_
   refine q_conv (fun w S => (S.perm p3).tail) ?_
   refine q_conv (fun w S => S.perm p2) ?_
   refine q_conv (fun w S => S.perm p1) ?_
   refine q_conv (fun w S => S.perm p2) ?_
   exact f_ret (r_none rfl) (⟨⟨s.n, del ItA.f_key k' s.xs⟩, rfl, by (rw [show setM k' r.m s.M = delM k' s.M from if_pos ⟨(show r.f_Has = false by simpa using h1b), (show r.f_Count = 0 by assumption)⟩]; exact map_del), rfl⟩) (fun w S => Sat.obj_mk t_1 ok_1.del (((Sat.vals_del (S.perm p2)).perm p2).perm p2))
  · -- h2F
   have h2b := h2
   try simp only [decide_eq_false_iff_not, Int.not_lt, Int.not_le] at h2
   refine c_skip ?_
   refine q_then ?_
   have hneg : ¬ (r.m.has = false ∧ r.m.count = 0) := by rintro ⟨h8, h9⟩; simp only [Rec.m] at h8 h9; simp_all
   refine c_conv (fun w S => S.perm p1) ?_
   refine c_conv (fun w S => S.perm p4) ?_
   refine c_conv (fun w S => S.perm p4) ?_
   refine c_conv (fun w S => S.perm p4) ?_
   refine c_conv (fun w S => S.perm p4) ?_
   refine c_held [blk k (.cells #[.int .i64 s.n, .pointer (some ⟨t_1, 0, none⟩)] 65 (0, 0)), vals s.xs, blk b5 (.cells #[.bool r.f_Has, .slice r.f_Value.a (r.f_Value.xs).length r.f_Value.c, .int .i64 r.f_Home, .int .u64 r.f_Count] 36 (0, 0)), row e8.T e8.sz r.f_Value.a (r.f_Value.xs).length r.f_Value.c (flat e8 r.f_Value.xs)] (by kernel_rfl) rfl ?_
   refine h_take 0 rfl rfl (by kernel_rfl) (by kernel_rfl) (by kernel_rfl) (fun L0 => v_move rfl rfl) ?_
   refine h_take 1 rfl rfl (by kernel_rfl) (by kernel_rfl) (by kernel_rfl) (fun L0 => v_nil rfl rfl) ?_
   refine h_take 2 rfl rfl (by kernel_rfl) (by kernel_rfl) (by kernel_rfl) (fun L0 => v_fieldAddr (q := ⟨k, 1, none⟩) rfl rfl Try.underlying65 rfl ti62 rfl) ?_
   refine h_take 3 rfl rfl (by kernel_rfl) (by kernel_rfl) (by kernel_rfl) (fun L0 => v_load1 rfl rfl Try.underlying62 rfl (rd_mem 0 rfl rfl)) ?_
   refine h_take 4 rfl rfl (by kernel_rfl) (by kernel_rfl) (by kernel_rfl) (fun L0 => v_move rfl rfl) ?_
   refine h_take 5 rfl rfl (by kernel_rfl) (by kernel_rfl) (by kernel_rfl) (fun L0 => v_loadn (vs := [_, _, _, _]) rfl rfl Try.underlying36 rfl ti36 (rdn_lit 2 rfl rfl)) ?_
   refine h_one 6 rfl (by kernel_rfl) ?_
   refine l_f4 ?_
   refine o_call rfl cal55 rfl (tput_A (k := k') (v := r) (by omega)) ?_
   rintro _ _ ⟨old26, had26, ⟨hol26, hsr26⟩, rfl, rfl⟩
   refine l_nil ?_
   refine q_conv (fun w S => S.perm p4) ?_
   refine q_conv (fun w S => S.perm p4) ?_
   refine q_conv (fun w S => S.perm p4) ?_
   refine q_conv (fun w S => S.perm p4) ?_
   refine h_next ?_
   refine h_done (by kernel_rfl) ?_
   refine q_conv (fun w S => (S.perm p2).tail) ?_
   refine q_conv (fun w S => S.perm p1) ?_
   refine q_conv (fun w S => S.perm p2) ?_
   refine q_conv (fun w S => S.perm p3) ?_
   refine q_conv (fun w S => S.perm p3) ?_
   exact f_end (r_none rfl) (⟨⟨s.n, ins ItA.f_key strlt (⟨k', r⟩ : ItA) s.xs⟩, rfl, by (rw [show setM k' r.m s.M = insM k' r.m s.M from if_neg hneg]; exact map_ins), rfl⟩) (fun w S => Sat.obj_mk t_1 (ok_1.ins hr) (((Sat.vals_ins (x := (⟨k', r⟩ : ItA)) ((S.perm p3).perm p3)).perm p2).perm p2))
 · -- h1F
  have h1b := h1
  try simp only [decide_eq_true_eq, decide_eq_false_iff_not, Bool.not_eq_eq_eq_not, Bool.not_true, Bool.not_false, Bool.not_eq_true', Bool.not_eq_false', Int.not_lt, Int.not_le, Bool.or_eq_true, Bool.and_eq_true] at h1
  refine o_no rfl rfl rfl rfl ?_
  refine o_no rfl rfl rfl rfl ?_
  refine o_no rfl rfl rfl rfl ?_
  refine o_pick_false rfl rfl rfl ?_
  refine l_nil ?_
  refine q_then ?_
  refine c_false rfl ?_
  refine c_skip ?_
  refine q_then ?_
  have hneg : ¬ (r.m.has = false ∧ r.m.count = 0) := by rintro ⟨h8, h9⟩; simp only [Rec.m] at h8 h9; simp_all
  refine c_conv (fun w S => S.perm p1) ?_
  refine c_conv (fun w S => S.perm p4) ?_
  refine c_conv (fun w S => S.perm p4) ?_
  refine c_conv (fun w S => S.perm p4) ?_
  refine c_conv (fun w S => S.perm p4) ?_
  refine c_held [blk k (.cells #[.int .i64 s.n, .pointer (some ⟨t_1, 0, none⟩)] 65 (0, 0)), vals s.xs, blk b5 (.cells #[.bool r.f_Has, .slice r.f_Value.a (r.f_Value.xs).length r.f_Value.c, .int .i64 r.f_Home, .int .u64 r.f_Count] 36 (0, 0)), row e8.T e8.sz r.f_Value.a (r.f_Value.xs).length r.f_Value.c (flat e8 r.f_Value.xs)] (by kernel_rfl) rfl ?_
  refine h_take 0 rfl rfl (by kernel_rfl) (by kernel_rfl) (by kernel_rfl) (fun L0 => v_move rfl rfl) ?_
  refine h_take 1 rfl rfl (by kernel_rfl) (by kernel_rfl) (by kernel_rfl) (fun L0 => v_nil rfl rfl) ?_
  refine h_take 2 rfl rfl (by kernel_rfl) (by kernel_rfl) (by kernel_rfl) (fun L0 => v_fieldAddr (q := ⟨k, 1, none⟩) rfl rfl Try.underlying65 rfl ti62 rfl) ?_
  refine h_take 3 rfl rfl (by kernel_rfl) (by kernel_rfl) (by kernel_rfl) (fun L0 => v_load1 rfl rfl Try.underlying62 rfl (rd_mem 0 rfl rfl)) ?_
  refine h_take 4 rfl rfl (by kernel_rfl) (by kernel_rfl) (by kernel_rfl) (fun L0 => v_move rfl rfl) ?_
  refine h_take 5 rfl rfl (by kernel_rfl) (by kernel_rfl) (by kernel_rfl) (fun L0 => v_loadn (vs := [_, _, _, _]) rfl rfl Try.underlying36 rfl ti36 (rdn_lit 2 rfl rfl)) ?_
  refine h_one 6 rfl (by kernel_rfl) ?_
  refine l_f4 ?_
  refine o_call rfl cal55 rfl (tput_A (k := k') (v := r) (by omega)) ?_
  rintro _ _ ⟨old26, had26, ⟨hol26, hsr26⟩, rfl, rfl⟩
  refine l_nil ?_
  refine q_conv (fun w S => S.perm p4) ?_
  refine q_conv (fun w S => S.perm p4) ?_
  refine q_conv (fun w S => S.perm p4) ?_
  refine q_conv (fun w S => S.perm p4) ?_
  refine h_next ?_
  refine h_done (by kernel_rfl) ?_
  refine q_conv (fun w S => (S.perm p2).tail) ?_
  refine q_conv (fun w S => S.perm p1) ?_
  refine q_conv (fun w S => S.perm p2) ?_
  refine q_conv (fun w S => S.perm p3) ?_
  refine q_conv (fun w S => S.perm p3) ?_
  exact f_end (r_none rfl) (⟨⟨s.n, ins ItA.f_key strlt (⟨k', r⟩ : ItA) s.xs⟩, rfl, by (rw [show setM k' r.m s.M = insM k' r.m s.M from if_neg hneg]; exact map_ins), rfl⟩) (fun w S => Sat.obj_mk t_1 (ok_1.ins hr) (((Sat.vals_ins (x := (⟨k', r⟩ : ItA)) ((S.perm p3).perm p3)).perm p2).perm p2))
theorem put6_ {W : World} {F : List Res} {k : Nat} {s : SS} {k' : ByteArray} {vs : List UInt8} {av : Option Addr} {cv : Nat} (hs : RdS W F e8 av vs) (hk : k'.size ≤ 1000000) (hv : vs.length ≤ 1000000) (hl : s.xs.length ≤ 1000000) : CS Try.prog 11 #[.pointer (some ⟨k, 0, none⟩), .string k', .slice av (vs).length cv] W (StR k s :: F) (fun _ L' => ∃ s' : SS, s'.n = s.n ∧ s'.M = putM s.n k' vs s.M ∧ L' = StR k s' :: F) := by
 refine f_door (l0 := [(0, .pointer (some ⟨k, 0, none⟩)), (1, .string k'), (2, .slice av (vs).length cv)]) Try.func11 Try.ntmps11 rfl rfl rfl ?_
 refine c_seq ?_
 refine c_fact (p := OkS s) (fun w S => StR_ok S) fun hok => ?_
 refine c_region ?_
 refine o_move rfl rfl ?_
 refine o_move rfl rfl ?_
 refine o_call rfl cal13 rfl (get_ (k' := k') (by omega)) ?_
 rintro _ _ ⟨v9, hv9, rfl, rfl⟩
 refine o_alloc rfl ti36 fun b6 => ?_
 refine o_storen rfl rfl ti36 rfl rfl rfl rfl ?_
 refine l_nil ?_
 refine q_then ?_
 refine c_seq ?_
 have hlo := hok.look k'
 rw [← hv9] at hlo
 refine c_region ?_
 refine o_move rfl rfl ?_
 refine o_call rfl cal30 rfl (clone8 (xs := vs) (a := av) (c := cv) (rds_c (rds_c (rds_c hs))) (by show _ * 1 ≤ _; omega) (by omega)) ?_
 rintro _ _ ⟨a11, c11, rfl, rfl⟩
 refine o_fieldAddr (q := ⟨b6, 0, none⟩) rfl rfl Try.underlying36 rfl ti4 rfl ?_
 refine l_f1 ?_
 refine o_store1 rfl rfl rfl ti4 rfl rfl ?_
 refine o_fieldAddr (q := ⟨b6, 1, none⟩) rfl rfl Try.underlying36 rfl ti23 rfl ?_
 refine o_store1 rfl rfl rfl ti23 rfl rfl ?_
 refine l_nil ?_
 refine q_then ?_
 refine c_region ?_
 refine o_move rfl rfl ?_
 refine o_move rfl rfl ?_
 refine o_loadn (vs := [_, _, _, _]) rfl rfl Try.underlying36 rfl ti36 (rdn_lit 0 rfl rfl) ?_
 refine l_f3 ?_
 refine l_f2 ?_
 refine o_call rfl cal31 rfl (set_ (k' := k') (r := (⟨true, ⟨a11, vs, c11⟩, v9.f_Home, v9.f_Count⟩ : Rec)) (hlo.put hv) hl) ?_
 rintro _ _ ⟨s2, hsn, hsM, rfl⟩
 refine l_nil ?_
 refine q_conv (fun w S => (S.perm p1).tail) ?_
 refine q_conv (fun w S => (S.perm p1).tail) ?_
 exact f_end (r_none rfl) (⟨s2, hsn, (by rw [hsM]; unfold putM; rw [← hv9]; rfl), rfl⟩) (fun w S => S)
theorem rm6_ {W : World} {F : List Res} {k : Nat} {s : SS} {k' : ByteArray} (hk : k'.size ≤ 1000000) (hl : s.xs.length ≤ 1000000) : CS Try.prog 12 #[.pointer (some ⟨k, 0, none⟩), .string k'] W (StR k s :: F) (fun _ L' => ∃ s' : SS, s'.n = s.n ∧ s'.M = rmM s.n k' s.M ∧ L' = StR k s' :: F) := by
 refine f_door (l0 := [(0, .pointer (some ⟨k, 0, none⟩)), (1, .string k')]) Try.func12 Try.ntmps12 rfl rfl rfl ?_
 refine c_seq ?_
 refine c_fact (p := OkS s) (fun w S => StR_ok S) fun hok => ?_
 refine c_region ?_
 refine o_move rfl rfl ?_
 refine o_move rfl rfl ?_
 refine o_call rfl cal13 rfl (get_ (k' := k') (by omega)) ?_
 rintro _ _ ⟨v7, hv7, rfl, rfl⟩
 refine o_alloc rfl ti36 fun b4 => ?_
 refine o_storen rfl rfl ti36 rfl rfl rfl rfl ?_
 refine l_nil ?_
 refine q_then ?_
 refine c_seq ?_
 have hlo := hok.look k'
 rw [← hv7] at hlo
 refine c_region ?_
 refine o_fieldAddr (q := ⟨b4, 0, none⟩) rfl rfl Try.underlying36 rfl ti4 rfl ?_
 refine o_store1 rfl rfl rfl ti4 rfl rfl ?_
 refine o_fieldAddr (q := ⟨b4, 1, none⟩) rfl rfl Try.underlying36 rfl ti23 rfl ?_
 refine o_store1 rfl rfl rfl ti23 rfl rfl ?_
 refine l_nil ?_
 refine q_then ?_
 refine c_nilrow e8 ?_
 refine c_region ?_
 refine o_move rfl rfl ?_
 refine o_move rfl rfl ?_
 refine o_loadn (vs := [_, _, _, _]) rfl rfl Try.underlying36 rfl ti36 (rdn_lit 1 rfl rfl) ?_
 refine l_f3 ?_
 refine l_f1 ?_
 refine o_call rfl cal31 rfl (set_ (k' := k') (r := (⟨false, ⟨none, [], 0⟩, v7.f_Home, v7.f_Count⟩ : Rec)) (hlo.put (by simp)) hl) ?_
 rintro _ _ ⟨s2, hsn, hsM, rfl⟩
 refine l_nil ?_
 refine q_conv (fun w S => (S.perm p1).tail) ?_
 refine q_conv (fun w S => (S.perm p1).tail) ?_
 exact f_end (r_none rfl) (⟨s2, hsn, (by rw [hsM]; unfold rmM; rw [← hv7]; rfl), rfl⟩) (fun w S => S)
end
section
set_option linter.unusedVariables false
set_option linter.unusedSimpArgs false
set_option maxRecDepth 10000
open Go.RowKit Classical
theorem move6_ {W : World} {F : List Res} {k : Nat} {s : SS} {k' : ByteArray} {h : Int} (hk : k'.size ≤ 1000000) (hl : s.xs.length ≤ 1000000) : CS Try.prog 18 #[.pointer (some ⟨k, 0, none⟩), .string k', .int .i64 h] W (StR k s :: F) (fun r L' => ∃ (s' : SS) (e : Int), s'.n = s.n ∧ moveM s.n k' h s.M = (e, s'.M) ∧ r = .int .i64 e ∧ L' = StR k s' :: F) := by
 refine f_door (l0 := [(0, .pointer (some ⟨k, 0, none⟩)), (1, .string k'), (2, .int .i64 h)]) Try.func18 Try.ntmps18 rfl rfl rfl ?_
 refine c_seq ?_
 refine c_fact (p := OkS s) (fun w S => StR_ok S) fun hok => ?_
 refine c_region ?_
 refine o_assign rfl rfl ?_
 refine l_nil ?_
 refine q_then ?_
 refine c_seq ?_
 refine c_region ?_
 refine o_move rfl rfl ?_
 refine o_move rfl rfl ?_
 refine o_call rfl cal13 rfl (get_ (k' := k') (by omega)) ?_
 rintro _ _ ⟨v10, hv10, rfl, rfl⟩
 refine o_alloc rfl ti36 fun b7 => ?_
 refine o_storen rfl rfl ti36 rfl rfl rfl rfl ?_
 refine l_nil ?_
 refine q_then ?_
 refine c_seq ?_
 refine c_block ?_
 refine c_seq ?_
 have hlo := hok.look k'
 rw [← hv10] at hlo
 have hc0 := hlo.c0
 have hcn := hlo.cn
 simp only [maxU, Rec.m] at hc0 hcn
 refine c_conv (fun w S => S.perm p2) ?_
 refine c_obj ?_
 rintro t_1 ok_1
 refine c_conv (L' := blk k (.cells #[.int .i64 s.n, .pointer (some ⟨t_1, 0, none⟩)] 65 (0, 0)) :: treeR e_ItA eN99 103 105 ItA.f_key strlt t_1 s.xs :: vals s.xs :: _) (fun w S => S) ?_
 refine c_region ?_
 refine o_move rfl rfl ?_
 refine o_bin rfl rfl rfl b_lss ?_
 refine o_move rfl rfl ?_
 refine l_split (t := 14) rfl (fun h1 => ?_) (fun h1 => ?_)
 · -- h1T
  have h1b := h1
  try simp only [decide_eq_true_eq] at h1
  refine o_no rfl rfl rfl rfl ?_
  refine o_no rfl rfl rfl rfl ?_
  refine o_no rfl rfl rfl rfl ?_
  refine o_no rfl rfl rfl rfl ?_
  refine o_no rfl rfl rfl rfl ?_
  refine o_no rfl rfl rfl rfl ?_
  refine o_pick_true rfl rfl rfl ?_
  refine o_assign rfl rfl ?_
  refine l_nil ?_
  refine q_then ?_
  refine c_true rfl ?_
  refine c_seq ?_
  refine c_region ?_
  refine o_assign rfl rfl ?_
  refine l_nil ?_
  refine q_then ?_
  refine c_ret ?_
  refine q_block_ret ?_
  refine q_pass_ret ?_
  refine q_conv (L' := StR k s :: _) (fun w S => Sat.obj_mk t_1 ok_1 S) ?_
  refine q_conv (fun w S => (S.perm p1).tail) ?_
  refine q_conv (fun w S => (S.perm p1).tail) ?_
  exact f_ret (r_one rfl rfl) (⟨s, 1, rfl, by (unfold moveM; rw [if_pos (by omega)]), rfl, rfl⟩) (fun w S => S)
 · -- h1F
  have h1b := h1
  try simp only [decide_eq_false_iff_not, Int.not_lt, Int.not_le] at h1
  refine o_yes rfl rfl rfl ?_
  refine o_move rfl rfl ?_
  refine o_yes rfl rfl rfl ?_
  refine o_move rfl rfl ?_
  refine o_yes rfl rfl rfl ?_
  refine o_nil rfl rfl ?_
  refine o_yes rfl rfl rfl ?_
  refine o_fieldAddr (q := ⟨k, 0, none⟩) rfl rfl Try.underlying65 rfl ti3 rfl ?_
  refine o_yes rfl rfl rfl ?_
  refine o_load1 rfl rfl Try.underlying3 rfl (rd_mem 0 rfl rfl) ?_
  refine o_yes rfl rfl rfl ?_
  refine o_bin rfl rfl rfl b_geq ?_
  refine o_pick_false rfl rfl rfl ?_
  refine o_assign rfl rfl ?_
  refine l_nil ?_
  refine q_then ?_
  refine c_cond rfl (fun h2 => ?_) (fun h2 => ?_)
  · -- h2T
   have h2b := h2
   try simp only [decide_eq_true_eq] at h2
   refine c_seq ?_
   refine c_region ?_
   refine o_assign rfl rfl ?_
   refine l_nil ?_
   refine q_then ?_
   refine c_ret ?_
   refine q_block_ret ?_
   refine q_pass_ret ?_
   refine q_conv (L' := StR k s :: _) (fun w S => Sat.obj_mk t_1 ok_1 S) ?_
   refine q_conv (fun w S => (S.perm p1).tail) ?_
   refine q_conv (fun w S => (S.perm p1).tail) ?_
   exact f_ret (r_one rfl rfl) (⟨s, 1, rfl, by (unfold moveM; rw [if_pos (by omega)]), rfl, rfl⟩) (fun w S => S)
  · -- h2F
   have h2b := h2
   try simp only [decide_eq_false_iff_not, Int.not_lt, Int.not_le] at h2
   refine c_seq ?_
   refine c_region ?_
   refine o_fieldAddr (q := ⟨b7, 3, none⟩) rfl rfl Try.underlying36 rfl ti34 rfl ?_
   refine o_load1 rfl rfl Try.underlying34 rfl (rd_mem 3 rfl rfl) ?_
   refine o_bin rfl rfl rfl b_eql ?_
   refine o_assign rfl rfl ?_
   refine l_nil ?_
   refine q_then ?_
   refine c_cond rfl (fun h3 => ?_) (fun h3 => ?_)
   · -- h3T
    have h3b := h3
    try simp only [decide_eq_true_eq] at h3
    refine c_seq ?_
    refine c_region ?_
    refine o_assign rfl rfl ?_
    refine l_nil ?_
    refine q_then ?_
    refine c_ret ?_
    refine q_block_ret ?_
    refine q_pass_ret ?_
    refine q_conv (L' := StR k s :: _) (fun w S => Sat.obj_mk t_1 ok_1 S) ?_
    refine q_conv (fun w S => (S.perm p1).tail) ?_
    refine q_conv (fun w S => (S.perm p1).tail) ?_
    exact f_ret (r_one rfl rfl) (⟨s, 111, rfl, by (unfold moveM; rw [if_neg (by omega), if_pos (by rw [← hv10]; show v10.f_Count = 18446744073709551615; assumption)]), rfl, rfl⟩) (fun w S => S)
   · -- h3F
    have h3b := h3
    try simp only [decide_eq_false_iff_not, Int.not_lt, Int.not_le] at h3
    refine c_skip ?_
    refine q_block ?_
    refine q_then ?_
    refine c_seq ?_
    have hcm : ¬ v10.m.count = maxU := by show ¬ v10.f_Count = 18446744073709551615; assumption
    refine c_region ?_
    refine o_move rfl rfl ?_
    refine o_fieldAddr (q := ⟨b7, 2, none⟩) rfl rfl Try.underlying36 rfl ti3 rfl ?_
    refine l_f3 ?_
    refine o_store1 rfl rfl rfl ti3 rfl rfl ?_
    refine l_nil ?_
    refine q_then ?_
    refine c_seq ?_
    refine c_region ?_
    refine o_fieldAddr (q := ⟨b7, 3, none⟩) rfl rfl Try.underlying36 rfl ti34 rfl ?_
    refine o_load1 rfl rfl Try.underlying34 rfl (rd_mem 0 rfl rfl) ?_
    refine o_bin rfl rfl rfl (b_add (wrap_u64 (by omega) (by omega))) ?_
    refine o_fieldAddr (q := ⟨b7, 3, none⟩) rfl rfl Try.underlying36 rfl ti34 rfl ?_
    refine o_store1 rfl rfl rfl ti34 rfl rfl ?_
    refine l_nil ?_
    refine q_then ?_
    refine c_seq ?_
    refine c_region ?_
    refine o_move rfl rfl ?_
    refine o_move rfl rfl ?_
    refine o_loadn (vs := [_, _, _, _]) rfl rfl Try.underlying36 rfl ti36 (rdn_lit 0 rfl rfl) ?_
    refine l_conv (fun w S => S.perm p4) ?_
    refine l_conv (fun w S => S.perm p1) ?_
    refine l_conv (fun w S => S.perm p4) ?_
    refine l_conv (fun w S => S.perm p4) ?_
    refine l_conv (fun w S => S.perm p4) ?_
    refine l_conv (L' := StR k s :: _) (fun w S => Sat.obj_mk t_1 ok_1 S) ?_
    refine l_f2 ?_
    refine o_call rfl cal31 rfl (set_ (k' := k') (r := (⟨v10.f_Has, ⟨v10.f_Value.a, v10.f_Value.xs, v10.f_Value.c⟩, h, (v10.f_Count + 1)⟩ : Rec)) (hlo.move (h := h) (by omega) hcm) hl) ?_
    rintro _ _ ⟨s2, hsn, hsM, rfl⟩
    refine l_nil ?_
    refine q_then ?_
    refine c_seq ?_
    refine c_region ?_
    refine o_assign rfl rfl ?_
    refine l_nil ?_
    refine q_then ?_
    refine c_ret ?_
    refine q_conv (fun w S => (S.perm p1).tail) ?_
    exact f_ret (r_one rfl rfl) (⟨s2, 0, hsn, by (unfold moveM; rw [if_neg (by omega), ← hv10, if_neg hcm, hsM]; rfl), rfl, rfl⟩) (fun w S => S)
end
section
set_option linter.unusedVariables false
set_option linter.unusedSimpArgs false
open Go.RowKit Classical
def s97 : ByteArray := ⟨#[97]⟩
theorem d97 : dflt s97 3 = 1 := by
  have h : sumB s97 = 97 := by rfl
  unfold dflt; rw [h]; rfl
theorem look_nil {n : Int} {k : ByteArray} : lookM n k [] = r0 n k := rfl
theorem spMove {s : SS} {e : Int} {s1 : SS} (h1 : s1 = ⟨3, []⟩) (h : moveM s1.n s97 2 s1.M = (e, s.M)) : e = 0 ∧ lookM 3 s97 s.M = ⟨false, [], 2, 1⟩ := by
  subst h1
  rw [show (⟨3, []⟩ : SS).n = 3 from rfl, show (⟨3, []⟩ : SS).M = [] from rfl] at h
  unfold moveM at h
  rw [if_neg (by omega), look_nil, if_neg (by show ¬ (0 : Int) = maxU; decide)] at h
  have h2 := congrArg Prod.fst h
  have h3 := congrArg Prod.snd h
  simp only at h2 h3
  refine ⟨h2.symm, ?_⟩
  rw [← h3, look_set (.inr (by show ¬ (0 : Int) + 1 = 0; omega))]
  rfl
/-- The operations are small. -/
structure GoodOps (os : List Op) : Prop where
  len : os.length ≤ 100
  all : ∀ o ∈ os, o.f_Key.size ≤ 500 ∧ o.f_Value.xs.length ≤ 500
/-- What the key that is looked at has got. -/
structure LastOk (k : ByteArray) (vs : List UInt8) (i : Nat) (s : SS) : Prop where
  n : s.n = 3
  len : s.xs.length ≤ i + 1
  look : lookM 3 k s.M = ⟨true, vs, dflt k 3, 0⟩
theorem LastOk.start {k : ByteArray} {vs : List UInt8} {s s1 : SS} (h1 : s1 = ⟨3, []⟩) (hn : s.n = s1.n) (hM : s.M = putM s1.n k vs s1.M) : LastOk k vs 0 s := by
  subst h1
  rw [show (⟨3, []⟩ : SS).n = 3 from rfl] at hn hM
  rw [show (⟨3, []⟩ : SS).M = [] from rfl] at hM
  refine ⟨hn, by rw [← M_len, hM]; exact set_len, ?_⟩
  rw [hM]; unfold putM; rw [look_set (.inl rfl), look_nil]; rfl
theorem LastOk.put {k k' : ByteArray} {vs v : List UInt8} {i : Nat} {s s2 : SS} (h : LastOk k vs i s) (hk : ¬ k' = k) (hn : s2.n = s.n) (hM : s2.M = putM s.n k' v s.M) : LastOk k vs (i + 1) s2 := by
  have h2 := h.len
  refine ⟨hn.trans h.n, by rw [← M_len, hM]; exact Nat.le_trans set_len (by rw [M_len]; omega), ?_⟩
  rw [hM]; unfold putM; rw [look_set_ne hk]; exact h.look
theorem LastOk.rm {k k' : ByteArray} {vs : List UInt8} {i : Nat} {s s2 : SS} (h : LastOk k vs i s) (hk : ¬ k' = k) (hn : s2.n = s.n) (hM : s2.M = rmM s.n k' s.M) : LastOk k vs (i + 1) s2 := by
  have h2 := h.len
  refine ⟨hn.trans h.n, by rw [← M_len, hM]; exact Nat.le_trans set_len (by rw [M_len]; omega), ?_⟩
  rw [hM]; unfold rmM; rw [look_set_ne hk]; exact h.look
theorem LastOk.skip {k : ByteArray} {vs : List UInt8} {i : Nat} {s : SS} (h : LastOk k vs i s) : LastOk k vs (i + 1) s := ⟨h.n, by have := h.len; omega, h.look⟩
theorem LastOk.get {k : ByteArray} {vs : List UInt8} {i : Nat} {s : SS} {v : Rec} (h : LastOk k vs i s) (hv : v.m = lookM s.n k s.M) : v.f_Has = true ∧ v.f_Value.xs = vs ∧ v.f_Home = dflt k 3 ∧ v.f_Count = 0 := by
  rw [h.n, h.look] at hv
  exact ⟨congrArg RecM.has hv, congrArg RecM.val hv, congrArg RecM.home hv, congrArg RecM.count hv⟩
theorem LastOk.gone {k : ByteArray} {vs : List UInt8} {i : Nat} {s s2 : SS} {v : Rec} (h : LastOk k vs i s) (hn : s2.n = s.n) (hM : s2.M = rmM s.n k s.M) (hv : v.m = lookM s2.n k s2.M) : v.f_Has = false := by
  rw [hn, hM, h.n] at hv
  unfold rmM at hv
  rw [h.look, look_set0 rfl rfl] at hv
  exact congrArg RecM.has hv
end
section
set_option linter.unusedVariables false
set_option linter.unusedSimpArgs false
set_option maxRecDepth 10000
open Go.RowKit Classical
theorem speaks_ {W : World} {F : List Res}  : CS Try.prog 8 #[] W (F) (fun r L' => r = .bool true ∧ F = L') := by
 refine f_door (l0 := []) Try.func8 Try.ntmps8 rfl rfl rfl ?_
 refine c_seq ?_
 refine c_region ?_
 refine o_assign rfl rfl ?_
 refine l_nil ?_
 refine q_then ?_
 refine c_seq ?_
 refine c_region ?_
 refine o_call rfl cal10 rfl (new_ (n := 3) (by decide) (by decide)) ?_
 rintro _ _ ⟨k6, rfl, rfl⟩
 refine o_move rfl rfl ?_
 refine o_extract rfl rfl rfl ?_
 refine o_extract rfl rfl rfl ?_
 refine o_assign rfl rfl ?_
 refine o_assign rfl rfl ?_
 refine l_nil ?_
 refine q_then ?_
 refine c_seq ?_
 refine c_seq ?_
 refine c_region ?_
 refine o_move rfl rfl ?_
 refine o_bin rfl rfl rfl (b_peq Try.underlying26 _) ?_
 refine o_move rfl rfl ?_
 refine o_yes rfl rfl rfl ?_
 refine o_move rfl rfl ?_
 refine o_yes rfl rfl rfl ?_
 refine o_bin rfl rfl rfl b_neq ?_
 refine o_pick_false rfl rfl rfl ?_
 refine l_nil ?_
 refine q_then ?_
 refine c_false rfl ?_
 refine c_skip ?_
 refine q_then ?_
 refine c_seq ?_
 refine c_region ?_
 refine o_move rfl rfl ?_
 refine o_call rfl cal18 rfl (move6_ (k' := ⟨#[97]⟩) (h := 2) (show s97.size ≤ 1000000 by decide) (by decide)) ?_
 rintro _ _ ⟨s16, e16, hsn16, hsM16, rfl, rfl⟩
 obtain ⟨he16, hm16⟩ := spMove rfl hsM16
 refine o_assign rfl rfl ?_
 refine l_nil ?_
 refine q_then ?_
 refine c_seq ?_
 refine c_region ?_
 refine o_move rfl rfl ?_
 refine o_call rfl cal13 rfl (get_ (k' := ⟨#[97]⟩) (show s97.size ≤ 1000000 by decide)) ?_
 rintro _ _ ⟨v18, hv18, rfl, rfl⟩
 rw [show s16.n = 3 from hsn16] at hv18
 have hv18b := hv18.trans hm16
 have hq1 : v18.f_Has = false := congrArg RecM.has hv18b
 have hq2 : v18.f_Home = 2 := congrArg RecM.home hv18b
 have hq3 : v18.f_Count = 1 := congrArg RecM.count hv18b
 refine o_alloc rfl ti36 fun b4 => ?_
 refine o_storen rfl rfl ti36 rfl rfl rfl rfl ?_
 refine l_nil ?_
 refine q_then ?_
 refine c_seq ?_
 refine c_region ?_
 refine o_call rfl cal14 rfl (default_ (k := ⟨#[97]⟩) (n := 3) (show s97.size ≤ 1000000 by decide)) ?_
 rintro _ _ ⟨rfl, rfl⟩
 refine o_bin rfl rfl rfl b_eql ?_
 refine l_eq (t := 20) (v' := .bool true) rfl (show _ = Value.bool true from by rw [show dflt ⟨#[97]⟩ 3 = 1 from d97]; first | done | rfl) ?_
 refine o_move rfl rfl ?_
 refine o_yes rfl rfl rfl ?_
 refine o_move rfl rfl ?_
 refine o_yes rfl rfl rfl ?_
 refine o_bin rfl rfl rfl b_eql ?_
 refine l_eq (t := 23) (v' := .bool true) rfl (show _ = Value.bool true from by rw [he16]; first | done | rfl) ?_
 refine o_pick_true rfl rfl rfl ?_
 refine o_move rfl rfl ?_
 refine o_yes rfl rfl rfl ?_
 refine o_fieldAddr (q := ⟨b4, 2, none⟩) rfl rfl Try.underlying36 rfl ti3 rfl ?_
 refine o_yes rfl rfl rfl ?_
 refine o_load1 rfl rfl Try.underlying3 rfl (rd_mem 0 rfl rfl) ?_
 refine o_yes rfl rfl rfl ?_
 refine o_bin rfl rfl rfl b_eql ?_
 refine l_eq (t := 28) (v' := .bool true) rfl (show _ = Value.bool true from by rw [hq2]; first | done | rfl) ?_
 refine o_pick_true rfl rfl rfl ?_
 refine o_move rfl rfl ?_
 refine o_yes rfl rfl rfl ?_
 refine o_fieldAddr (q := ⟨b4, 3, none⟩) rfl rfl Try.underlying36 rfl ti34 rfl ?_
 refine o_yes rfl rfl rfl ?_
 refine o_load1 rfl rfl Try.underlying34 rfl (rd_mem 0 rfl rfl) ?_
 refine o_yes rfl rfl rfl ?_
 refine o_bin rfl rfl rfl b_eql ?_
 refine l_eq (t := 33) (v' := .bool true) rfl (show _ = Value.bool true from by rw [hq3]; first | done | rfl) ?_
 refine o_pick_true rfl rfl rfl ?_
 refine o_move rfl rfl ?_
 refine o_yes rfl rfl rfl ?_
 refine o_fieldAddr (q := ⟨b4, 0, none⟩) rfl rfl Try.underlying36 rfl ti4 rfl ?_
 refine o_yes rfl rfl rfl ?_
 refine o_load1 rfl rfl Try.underlying4 rfl (rd_mem 0 rfl rfl) ?_
 refine o_yes rfl rfl rfl ?_
 refine o_not rfl rfl ?_
 refine l_eq (t := 38) (v' := .bool true) rfl (show _ = Value.bool true from by rw [hq1]; first | done | rfl) ?_
 refine o_pick_true rfl rfl rfl ?_
 refine o_assign rfl rfl ?_
 refine l_nil ?_
 refine q_then ?_
 refine c_ret ?_
 refine q_conv (fun w S => S.tail) ?_
 refine q_conv (fun w S => S.tail) ?_
 refine q_conv (fun w S => S.tail) ?_
 exact f_ret (r_one rfl rfl) (⟨rfl, rfl⟩) (fun w S => S)
theorem great_ {W : World} {F : List Res} {os : List Op} {a : Option Addr} {c : Nat} (hs : SlR W e_Op a os) (hv : ∀ o ∈ os, SlR W e8 o.f_Value.a o.f_Value.xs)  : CS Try.prog 9 #[.slice a (os).length c] W (F) (fun r L' => ∃ b : Bool, (b = false → GoodOps os) ∧ r = .bool b ∧ F = L') := by
 refine f_door (l0 := [(0, .slice a (os).length c)]) Try.func9 Try.ntmps9 rfl rfl rfl ?_
 refine c_seq ?_
 refine c_region ?_
 refine o_assign rfl rfl ?_
 refine l_nil ?_
 refine q_then ?_
 refine c_seq ?_
 refine c_seq ?_
 refine c_region ?_
 refine o_move rfl rfl ?_
 refine o_len rfl rfl Try.underlying22 ?_
 refine o_bin rfl rfl rfl b_gtr ?_
 refine l_nil ?_
 refine q_then ?_
 refine c_cond rfl (fun h1 => ?_) (fun h1 => ?_)
 · -- h1T
  have h1b := h1
  try simp only [decide_eq_true_eq] at h1
  refine c_seq ?_
  refine c_region ?_
  refine o_assign rfl rfl ?_
  refine l_nil ?_
  refine q_then ?_
  refine c_ret ?_
  refine q_pass_ret ?_
  exact f_ret (r_one rfl rfl) (⟨true, (fun h9 => by cases h9), rfl, rfl⟩) (fun w S => S)
 · -- h1F
  have h1b := h1
  try simp only [decide_eq_false_iff_not, Int.not_lt, Int.not_le] at h1
  refine c_skip ?_
  refine q_then ?_
  refine c_seq ?_
  refine c_seq ?_
  refine c_region ?_
  refine o_move rfl rfl ?_
  refine o_len rfl rfl Try.underlying22 ?_
  refine o_move rfl rfl ?_
  refine l_nil ?_
  refine q_then ?_
  refine c_block ?_
  refine c_loop (α := Nat) (fun z => [(8, .slice a (os).length c), (9, .int .i64 ((os).length : Int)), (10, .int .i64 (z : Int))]) (fun z => F) (fun z => z ≤ os.length ∧ ∀ o ∈ os.take z, o.f_Key.size ≤ 500 ∧ o.f_Value.xs.length ≤ 500) (fun z => os.length - z) (0) (by exact ⟨Nat.zero_le _, fun o ho => by simp at ho⟩) ⟨(by first | rfl | exact vint (by omega)), (by first | rfl | exact vint (by omega)), (by first | rfl | exact vint (by omega)), trivial⟩ (fun w S => S) ?_
  rintro i ⟨hi, hal⟩
  try dsimp only at *
  refine c_seq ?_
  refine c_region ?_
  refine o_bin rfl rfl rfl b_lss ?_
  refine l_nil ?_
  refine q_then ?_
  refine c_seq ?_
  refine c_cond rfl (fun h2 => ?_) (fun h2 => ?_)
  · -- h2T
   have h2b := h2
   try simp only [decide_eq_true_eq] at h2
   refine c_skip ?_
   refine q_then ?_
   refine c_seq ?_
   refine c_block ?_
   refine c_seq ?_
   refine c_region ?_
   refine o_index e_Op_ok rfl rfl rfl Try.underlying22 (by omega) (by omega) (rds_old hs) fun ad12 ead12 => ?_
   obtain ⟨x12, hx12⟩ : ∃ x, (os)[((i : Int)).toNat]? = some x := ⟨_, List.getElem?_eq_getElem (by omega)⟩
   refine o_loadn (vs := e_Op.cells x12) rfl rfl Try.underlying32 rfl ti32 (rdn_sl e_Op_ok ead12 (rds_old hs) hx12) ?_
   refine o_alloc rfl ti32 fun b4 => ?_
   refine o_storen rfl rfl ti32 rfl rfl rfl rfl ?_
   refine l_nil ?_
   refine q_then ?_
   refine c_seq ?_
   refine c_region ?_
   refine o_fieldAddr (q := ⟨b4, 2, none⟩) rfl rfl Try.underlying32 rfl ti9 rfl ?_
   refine o_load1 rfl rfl Try.underlying9 rfl (rd_mem 0 rfl rfl) ?_
   refine o_lenStr rfl rfl Try.underlying9 ?_
   refine o_bin rfl rfl rfl b_gtr ?_
   refine o_move rfl rfl ?_
   refine l_split (t := 18) rfl (fun h3 => ?_) (fun h3 => ?_)
   · -- h3T
    have h3b := h3
    try simp only [decide_eq_true_eq] at h3
    refine o_no rfl rfl rfl rfl ?_
    refine o_no rfl rfl rfl rfl ?_
    refine o_no rfl rfl rfl rfl ?_
    refine o_no rfl rfl rfl rfl ?_
    refine o_pick_true rfl rfl rfl ?_
    refine l_nil ?_
    refine q_then ?_
    refine c_true rfl ?_
    refine c_seq ?_
    refine c_region ?_
    refine o_assign rfl rfl ?_
    refine l_nil ?_
    refine q_then ?_
    refine c_ret ?_
    refine q_block_ret ?_
    refine q_pass_ret ?_
    refine q_pass_ret ?_
    refine q_block_ret ?_
    refine q_pass_ret ?_
    refine q_conv (fun w S => S.tail) ?_
    exact f_ret (r_one rfl rfl) (⟨true, (fun h9 => by cases h9), rfl, rfl⟩) (fun w S => S)
   · -- h3F
    have h3b := h3
    try simp only [decide_eq_false_iff_not, Int.not_lt, Int.not_le] at h3
    refine o_yes rfl rfl rfl ?_
    refine o_fieldAddr (q := ⟨b4, 3, none⟩) rfl rfl Try.underlying32 rfl ti23 rfl ?_
    refine o_yes rfl rfl rfl ?_
    refine o_load1 rfl rfl Try.underlying23 rfl (rd_mem 0 rfl rfl) ?_
    refine o_yes rfl rfl rfl ?_
    refine o_len rfl rfl Try.underlying23 ?_
    refine o_yes rfl rfl rfl ?_
    refine o_bin rfl rfl rfl b_gtr ?_
    refine o_pick_false rfl rfl rfl ?_
    refine l_nil ?_
    refine q_then ?_
    refine c_cond rfl (fun h4 => ?_) (fun h4 => ?_)
    · -- h4T
     have h4b := h4
     try simp only [decide_eq_true_eq] at h4
     refine c_seq ?_
     refine c_region ?_
     refine o_assign rfl rfl ?_
     refine l_nil ?_
     refine q_then ?_
     refine c_ret ?_
     refine q_block_ret ?_
     refine q_pass_ret ?_
     refine q_pass_ret ?_
     refine q_block_ret ?_
     refine q_pass_ret ?_
     refine q_conv (fun w S => S.tail) ?_
     exact f_ret (r_one rfl rfl) (⟨true, (fun h9 => by cases h9), rfl, rfl⟩) (fun w S => S)
    · -- h4F
     have h4b := h4
     try simp only [decide_eq_false_iff_not, Int.not_lt, Int.not_le] at h4
     refine c_skip ?_
     refine q_block ?_
     refine q_then ?_
     refine c_region ?_
     refine o_bin rfl rfl rfl (b_add (wrap_i64 (by omega) (by omega))) ?_
     refine o_move rfl rfl ?_
     refine l_nil ?_
     refine q_conv (fun w S => S.tail) ?_
     exact q_round (i + 1) (by exact ⟨by omega, fun o ho => by rw [take_snoc' (show os[i]? = some x12 from hx12)] at ho; rcases List.mem_append.1 ho with ho | ho; exact hal o ho; obtain rfl : o = x12 := (by simpa using ho); exact ⟨by omega, by omega⟩⟩) (by (try dsimp only); omega) ⟨(by first | rfl | exact vint (by omega)), (by first | rfl | exact vint (by omega)), (by first | rfl | exact vint (by omega)), trivial⟩ (fun w S => S)
  · -- h2F
   have h2b := h2
   try simp only [decide_eq_false_iff_not, Int.not_lt, Int.not_le] at h2
   refine c_exit ?_
   refine q_pass_exit ?_
   refine q_pass_exit ?_
   refine q_hit ?_
   refine q_then ?_
   refine c_seq ?_
   refine c_region ?_
   refine o_assign rfl rfl ?_
   refine l_nil ?_
   refine q_then ?_
   refine c_ret ?_
   exact f_ret (r_one rfl rfl) (⟨false, (fun _ => ⟨by omega, fun o ho => hal o (by rw [List.take_of_length_le (by omega)]; exact ho)⟩), rfl, rfl⟩) (fun w S => S)
end
end Go.Proofs.Ytnfbjidpiglabaa
