/- Printed by eng2.py out of 12/spec2.py. -/
import Derived.Test.YtakjmdeckngnlaaSrch
import Derived.Test.YtakjmdeckngnlaaIns1
set_option linter.unusedVariables false
set_option linter.unusedSimpArgs false
set_option maxRecDepth 10000
namespace Go.Proofs.Ytakjmdeckngnlaa
open Go.RowKit Classical
def PutSpec_A (d : Nat) : Prop := ∀ {W : World} {F : List Res} {mn b : Nat} {xs : List ItA} {x : ItA}, mn ≤ 2 → Srt ItA.f_key ilt xs → CS Try.prog 53 #[.pointer (some ⟨b, 0, none⟩), .agg (e_ItA.cells x).toArray] W (nodeR e_ItA eN126 130 d mn b xs :: F) (fun r L' => ∃ (old : (Vt ByteArray)) (had : Bool) (ls : List ItA) (s : Option (Nat × ItA × Nat × List ItA)), (ins ItA.f_key ilt x xs = insS ls s ∧ Old ItA.f_key ItA.f_value (⟨0, 0, ByteArray.empty⟩ : (Vt ByteArray)) x xs old had) ∧ r = .tuple #[.agg #[.int .i64 old.Slot, .int .u64 old.Ballot, .string old.Value], .bool had, .pointer (s.map fun z => (⟨z.1, 0, none⟩ : Addr)), .pointer (s.map fun z => (⟨z.2.2.1, 0, none⟩ : Addr))] ∧ L' = nodeR e_ItA eN126 130 d (mnO mn s) b ls :: midR e_ItA eN126 130 d s :: F)
set_option maxHeartbeats 4000000 in
theorem put_step_A {d : Nat} (ih : ∀ d', d = d' + 1 → PutSpec_A d') : PutSpec_A d := by
 unfold PutSpec_A
 intro W F mn b xs x hmn srt
 refine f_door (l0 := [(0, .pointer (some ⟨b, 0, none⟩)), (1, .agg (e_ItA.cells x).toArray)]) Try.func53 Try.ntmps53 rfl rfl rfl ?_
 refine c_seq ?_
 refine c_region ?_
 refine o_box rfl rfl fun b3 => ?_
 refine o_alloc rfl ti40 fun b4 => ?_
 refine o_assign rfl rfl ?_
 refine o_assign rfl rfl ?_
 refine o_assign rfl rfl ?_
 refine l_nil ?_
 refine q_then ?_
 refine c_seq ?_
 refine c_conv (fun w S => S.perm p2) ?_
 refine c_node ?_
 rintro q hq
 have hsi := hq.srt ilt_sto srt
 have hle := hq.le
 have hsh := hq.sh
 refine c_conv (L' := blk b (.cells #[.slice q.a (q.items).length q.c, .slice q.ak ((q.kids.map Prod.fst)).length q.ck] 130 (0, 0)) :: row e_ItA.T e_ItA.sz q.a (q.items).length q.c (flat e_ItA q.items) :: row eN126.T eN126.sz q.ak ((q.kids.map Prod.fst)).length q.ck (flat eN126 (q.kids.map Prod.fst)) :: kidsR e_ItA eN126 130 d q.kids :: blk b4 (.cells #[.int .i64 0, .int .u64 0, .string ByteArray.empty] 40 (0, 0)) :: blk b3 (.cells #[.int .i64 x.f_key, .int .i64 x.f_value.Slot, .int .u64 x.f_value.Ballot, .string x.f_value.Value] 139 (0, 0)) :: F) (fun w S => S) ?_
 refine c_region ?_
 refine o_move rfl rfl ?_
 refine o_fieldAddr (q := ⟨b3, 0, none⟩) rfl rfl Try.underlying139 rfl ti3 rfl ?_
 refine o_load1 rfl rfl Try.underlying3 rfl (rd_mem 5 rfl rfl) ?_
 refine l_f1 ?_
 refine l_f1 ?_
 refine o_call rfl cal59 rfl (search_A (k := x.f_key) (by omega) hsi) ?_
 rintro _ _ ⟨i17, fd17, ⟨hF17, hfd17⟩, rfl, rfl⟩
 refine o_move rfl rfl ?_
 refine o_extract rfl rfl rfl ?_
 refine o_extract rfl rfl rfl ?_
 refine o_assign rfl rfl ?_
 refine o_assign rfl rfl ?_
 refine l_nil ?_
 refine q_then ?_
 refine c_seq ?_
 refine c_mid (α := (NodeW ItA) × ((Vt ByteArray)) × Bool) (fun z => [(0, .pointer (some ⟨b, 0, none⟩)), (4, .pointer (some ⟨b4, 0, none⟩)), (5, .bool z.2.2)]) (fun z => blk b (.cells #[.slice z.1.a (z.1.items).length z.1.c, .slice z.1.ak ((z.1.kids.map Prod.fst)).length z.1.ck] 130 (0, 0)) :: row e_ItA.T e_ItA.sz z.1.a (z.1.items).length z.1.c (flat e_ItA z.1.items) :: row eN126.T eN126.sz z.1.ak ((z.1.kids.map Prod.fst)).length z.1.ck (flat eN126 (z.1.kids.map Prod.fst)) :: kidsR e_ItA eN126 130 d z.1.kids :: blk b4 (.cells #[.int .i64 z.2.1.Slot, .int .u64 z.2.1.Ballot, .string z.2.1.Value] 40 (0, 0)) :: F) (fun z => PutMid ItA.f_key ilt ItA.f_value (⟨0, 0, ByteArray.empty⟩ : (Vt ByteArray)) d mn x xs z.1.items z.1.kids z.2.1 z.2.2) ?_ ?_
 · -- cut
  refine c_block ?_
  refine c_seq ?_
  refine c_region ?_
  refine o_move rfl rfl ?_
  refine o_assign rfl rfl ?_
  refine l_nil ?_
  refine q_then ?_
  refine c_cond rfl (fun h1 => ?_) (fun h1 => ?_)
  · -- h1T
   have h1b := h1
   try simp only [decide_eq_true_eq, decide_eq_false_iff_not, Bool.not_eq_eq_eq_not, Bool.not_true, Bool.not_false, Bool.not_eq_true', Bool.not_eq_false', Int.not_lt, Int.not_le, Bool.or_eq_true, Bool.and_eq_true] at h1
   obtain ⟨yf, hyf, hkf⟩ := hfd17.1 (by simpa using h1b)
   have hil := (List.getElem?_eq_some_iff.1 hyf).1
   refine c_seq ?_
   refine c_fact (p := ∃ ad, q.a = some ad) (rds_some (e := e_ItA) (xs := q.items) (rds_own e_ItA_ok 1 rfl) (by intro h0; rw [h0] at hyf; simp at hyf)) ?_
   rintro ⟨adx, eadx⟩
   refine c_region ?_
   refine o_move rfl rfl ?_
   refine o_nil rfl rfl ?_
   refine o_fieldAddr (q := ⟨b, 0, none⟩) rfl rfl Try.underlying130 rfl ti127 rfl ?_
   refine o_load1 rfl rfl Try.underlying127 rfl (rd_mem 0 rfl rfl) ?_
   refine o_move rfl rfl ?_
   refine o_indexK e_ItA_ok eadx rfl rfl rfl Try.underlying127 (by omega) (by omega) ?_
   obtain ⟨x68, hx68⟩ : ∃ x, (q.items)[((i17 : Int)).toNat]? = some x := ⟨_, List.getElem?_eq_getElem (by omega)⟩
   have e68 : x68 = yf := by rw [show q.items[i17]? = some x68 from hx68] at hyf; exact Option.some.inj hyf
   refine o_fieldAddr rfl rfl Try.underlying139 rfl ti40 (Addr.add_add' _ _ _) ?_
   refine o_loadn (vs := [.int .i64 x68.f_value.Slot, .int .u64 x68.f_value.Ballot, .string x68.f_value.Value]) rfl rfl Try.underlying40 rfl ti40 (rdn_slo (n := 3) e_ItA_ok eadx (rds_own e_ItA_ok 1 rfl) hx68 rfl) ?_
   refine l_f4 ?_
   refine o_storen rfl rfl ti40 rfl rfl rfl rfl ?_
   refine o_assign rfl rfl ?_
   refine l_nil ?_
   refine q_then ?_
   refine c_seq ?_
   refine c_conv (fun w S => S.perm p2) ?_
   refine c_conv (fun w S => S.perm p2) ?_
   refine c_conv (fun w S => S.perm p5) ?_
   refine c_conv (fun w S => S.perm p5) ?_
   refine c_conv (fun w S => S.perm p5) ?_
   refine c_conv (fun w S => S.perm p5) ?_
   refine c_held [blk b4 (.cells #[.int .i64 x68.f_value.Slot, .int .u64 x68.f_value.Ballot, .string x68.f_value.Value] 40 (0, 0)), row eN126.T eN126.sz q.ak ((q.kids.map Prod.fst)).length q.ck (flat eN126 (q.kids.map Prod.fst)), kidsR e_ItA eN126 130 d q.kids, blk b3 (.cells #[.int .i64 x.f_key, .int .i64 x.f_value.Slot, .int .u64 x.f_value.Ballot, .string x.f_value.Value] 139 (0, 0))] (by kernel_rfl) rfl ?_
   refine h_take 0 rfl rfl (by kernel_rfl) (by kernel_rfl) (by kernel_rfl) (fun L0 => v_move rfl rfl) ?_
   refine h_take 1 rfl rfl (by kernel_rfl) (by kernel_rfl) (by kernel_rfl) (fun L0 => v_nil rfl rfl) ?_
   refine h_take 2 rfl rfl (by kernel_rfl) (by kernel_rfl) (by kernel_rfl) (fun L0 => v_fieldAddr (q := ⟨b, 0, none⟩) rfl rfl Try.underlying130 rfl ti127 rfl) ?_
   refine h_take 4 rfl rfl (by kernel_rfl) (by kernel_rfl) (by kernel_rfl) (fun L0 => v_move rfl rfl) ?_
   refine h_take 5 rfl rfl (by kernel_rfl) (by kernel_rfl) (by kernel_rfl) (fun L0 => v_fieldAddr (q := ⟨b3, 1, none⟩) rfl rfl Try.underlying139 rfl ti40 rfl) ?_
   refine h_take 6 rfl rfl (by kernel_rfl) (by kernel_rfl) (by kernel_rfl) (fun L0 => v_loadn (vs := [_, _, _]) rfl rfl Try.underlying40 rfl ti40 (rdn_lit 3 rfl rfl)) ?_
   refine h_one 3 rfl (by kernel_rfl) ?_
   refine o_load1 rfl rfl Try.underlying127 rfl (rd_mem 4 rfl rfl) ?_
   refine l_nil ?_
   refine h_next ?_
   refine h_take 7 rfl rfl (by kernel_rfl) (by kernel_rfl) (by kernel_rfl) (fun L0 => v_indexK e_ItA_ok eadx rfl rfl rfl Try.underlying127 (by omega) (by omega)) ?_
   obtain ⟨x78, hx78⟩ : ∃ x, (q.items)[((i17 : Int)).toNat]? = some x := ⟨_, List.getElem?_eq_getElem (by omega)⟩
   have e78 : x78 = yf := by rw [show q.items[i17]? = some x78 from hx78] at hyf; exact Option.some.inj hyf
   refine h_take 8 rfl rfl (by kernel_rfl) (by kernel_rfl) (by kernel_rfl) (fun L0 => v_fieldAddr rfl rfl Try.underlying139 rfl ti40 (Addr.add_add' _ _ _)) ?_
   refine h_one 9 rfl (by kernel_rfl) ?_
   refine l_f5 ?_
   refine o_storeRowN (vs := [.int .i64 x.f_value.Slot, .int .u64 x.f_value.Ballot, .string x.f_value.Value]) e_ItA_ok eadx rfl rfl ti40 rfl ⟨x78.f_key, x.f_value⟩ hx78 (show 1 + 3 ≤ 4 by decide) rfl ?_
   refine l_f5 ?_
   refine l_conv (L' := blk b (.cells #[.slice q.a (q.items).length q.c, .slice q.ak ((q.kids.map Prod.fst)).length q.ck] 130 (0, 0)) :: _) (fun w S => S) ?_
   refine l_conv (L' := blk b (.cells #[.slice q.a ((q.items).set ((i17 : Int)).toNat ⟨x78.f_key, x.f_value⟩).length q.c, .slice q.ak ((q.kids.map Prod.fst)).length q.ck] 130 (0, 0)) :: row e_ItA.T e_ItA.sz q.a ((q.items).set ((i17 : Int)).toNat ⟨x78.f_key, x.f_value⟩).length q.c (flat e_ItA ((q.items).set ((i17 : Int)).toNat ⟨x78.f_key, x.f_value⟩)) :: blk b4 (.cells #[.int .i64 x68.f_value.Slot, .int .u64 x68.f_value.Ballot, .string x68.f_value.Value] 40 (0, 0)) :: row eN126.T eN126.sz q.ak ((q.kids.map Prod.fst)).length q.ck (flat eN126 (q.kids.map Prod.fst)) :: kidsR e_ItA eN126 130 d q.kids :: blk b3 (.cells #[.int .i64 x.f_key, .int .i64 x.f_value.Slot, .int .u64 x.f_value.Ballot, .string x.f_value.Value] 139 (0, 0)) :: F) (fun w S => by first | exact S | simpa only [List.length_set] using S | (simp only [List.length_set] at S ⊢; exact S)) ?_
   refine l_nil ?_
   refine q_conv (fun w S => S.perm p1) ?_
   refine q_conv (fun w S => S.perm p1) ?_
   refine q_conv (fun w S => S.perm p5) ?_
   refine q_conv (fun w S => S.perm p5) ?_
   refine q_conv (fun w S => S.perm p5) ?_
   refine q_conv (fun w S => S.perm p5) ?_
   refine h_next ?_
   refine h_done (by kernel_rfl) ?_
   refine q_then ?_
   refine c_seq ?_
   have hput := put_found (val := ItA.f_value) (zero := (⟨0, 0, ByteArray.empty⟩ : (Vt ByteArray))) ilt_sto hq srt hyf hkf (show (⟨x78.f_key, x.f_value⟩ : ItA) = x by rw [e78, show yf.f_key = x.f_key from hkf]) q.a q.c
   refine c_region ?_
   refine o_loadn (vs := [_, _, _]) rfl rfl Try.underlying40 rfl ti40 (rdn_lit 0 rfl rfl) ?_
   refine o_move rfl rfl ?_
   refine o_storen rfl rfl ti40 rfl rfl rfl rfl ?_
   refine o_assign rfl rfl ?_
   refine o_assign rfl rfl ?_
   refine o_assign rfl rfl ?_
   refine l_nil ?_
   refine q_then ?_
   refine c_ret ?_
   refine q_block_ret ?_
   refine q_pass_ret ?_
   refine f_retq (.inl rfl) (rs_4 rfl (rs_celln (vs := [.int .i64 x68.f_value.Slot, .int .u64 x68.f_value.Ballot, .string x68.f_value.Value]) rfl Try.underlying40 rfl ti40 (rdn_lit 0 rfl rfl)) (rs_tmp rfl) (rs_tmp rfl) (rs_tmp rfl)) (fun w S => ?_)
   replace S := S.tail
   replace S := (S.perm p2).tail
   replace S := S.perm p1
   replace S := S.perm p1
   replace S := S.perm p3
   replace S := S.perm p3
   exact ⟨_, ⟨x68.f_value, true, ins ItA.f_key ilt x xs, none, ⟨rfl, by rw [e68]; exact hput.2⟩, rfl, rfl⟩, (fun w S => (Sat.emp_ (nodeMk ⟨q.a, q.c, q.ak, q.ck, _, q.kids⟩ hput.1 S)).perm (List.Perm.swap _ _ _)) w S⟩
  · -- h1F
   have h1b := h1
   try simp only [decide_eq_true_eq, decide_eq_false_iff_not, Bool.not_eq_eq_eq_not, Bool.not_true, Bool.not_false, Bool.not_eq_true', Bool.not_eq_false', Int.not_lt, Int.not_le, Bool.or_eq_true, Bool.and_eq_true] at h1
   have hnf : ¬ ∃ y, q.items[i17]? = some y ∧ y.f_key = x.f_key := fun h9 => by rw [hfd17.2 h9] at h1b; cases h1b
   refine c_seq ?_
   refine c_region ?_
   refine o_move rfl rfl ?_
   refine o_nil rfl rfl ?_
   refine o_fieldAddr (q := ⟨b, 1, none⟩) rfl rfl Try.underlying130 rfl ti128 rfl ?_
   refine o_load1 rfl rfl Try.underlying128 rfl (rd_mem 0 rfl rfl) ?_
   refine o_len rfl rfl Try.underlying128 ?_
   refine o_bin rfl rfl rfl b_eql ?_
   refine o_assign rfl rfl ?_
   refine l_nil ?_
   refine q_then ?_
   refine c_cond rfl (fun h2 => ?_) (fun h2 => ?_)
   · -- h2T
    have h2b := h2
    try simp only [decide_eq_true_eq] at h2
    refine c_conv (fun w S => S.perm p1) ?_
    refine c_conv (fun w S => S.perm p1) ?_
    refine c_conv (fun w S => S.perm p5) ?_
    refine c_conv (fun w S => S.perm p5) ?_
    refine c_conv (fun w S => S.perm p5) ?_
    refine c_conv (fun w S => S.perm p5) ?_
    refine c_held [row eN126.T eN126.sz q.ak ((q.kids.map Prod.fst)).length q.ck (flat eN126 (q.kids.map Prod.fst)), kidsR e_ItA eN126 130 d q.kids, blk b4 (.cells #[.int .i64 0, .int .u64 0, .string ByteArray.empty] 40 (0, 0)), blk b3 (.cells #[.int .i64 x.f_key, .int .i64 x.f_value.Slot, .int .u64 x.f_value.Ballot, .string x.f_value.Value] 139 (0, 0))] (by kernel_rfl) rfl ?_
    refine h_take 0 rfl rfl (by kernel_rfl) (by kernel_rfl) (by kernel_rfl) (fun L0 => v_move rfl rfl) ?_
    refine h_take 1 rfl rfl (by kernel_rfl) (by kernel_rfl) (by kernel_rfl) (fun L0 => v_move rfl rfl) ?_
    refine h_take 2 rfl rfl (by kernel_rfl) (by kernel_rfl) (by kernel_rfl) (fun L0 => v_nil rfl rfl) ?_
    refine h_take 3 rfl rfl (by kernel_rfl) (by kernel_rfl) (by kernel_rfl) (fun L0 => v_fieldAddr (q := ⟨b, 0, none⟩) rfl rfl Try.underlying130 rfl ti127 rfl) ?_
    refine h_take 5 rfl rfl (by kernel_rfl) (by kernel_rfl) (by kernel_rfl) (fun L0 => v_move rfl rfl) ?_
    refine h_take 6 rfl rfl (by kernel_rfl) (by kernel_rfl) (by kernel_rfl) (fun L0 => v_loadn (vs := [_, _, _, _]) rfl rfl Try.underlying139 rfl ti139 (rdn_lit 3 rfl rfl)) ?_
    refine h_many (is := [4, 7]) (by kernel_rfl) (by decide) (forall_cons ⟨_, rfl, ?_⟩ (forall_cons ⟨_, rfl, ?_⟩ forall_nil))
    · -- 4 comes first
     refine o_load1 rfl rfl Try.underlying127 rfl (rd_mem 4 rfl rfl) ?_
     refine l_nil ?_
     refine h_next ?_
     refine h_one 7 rfl (by kernel_rfl) ?_
     refine o_lit e_ItA_ok rfl Try.underlying127 rfl rfl rfl (lit_ok rfl) [x] rfl rfl fun a96 => ?_
     refine l_nil ?_
     refine q_conv (fun w S => S.perm p6) ?_
     refine q_conv (fun w S => S.perm p6) ?_
     refine q_conv (fun w S => S.perm p2) ?_
     refine q_conv (fun w S => S.perm p6) ?_
     refine q_conv (fun w S => S.perm p6) ?_
     refine q_conv (fun w S => S.perm p6) ?_
     refine q_conv (fun w S => S.perm p6) ?_
     refine h_next ?_
     refine h_one 8 rfl (by kernel_rfl) ?_
     refine l_f4 ?_
     refine l_f6 ?_
     refine o_call rfl cal60 rfl (insI_A (xs := q.items) (x := x) (i := i17) hF17.le (by omega)) ?_
     rintro _ _ ⟨a97, c97, rfl, rfl⟩
     refine l_nil ?_
     refine q_conv (fun w S => S.perm p5) ?_
     refine q_conv (fun w S => S.perm p1) ?_
     refine q_conv (fun w S => S.perm p5) ?_
     refine q_conv (fun w S => S.perm p5) ?_
     refine q_conv (fun w S => S.perm p5) ?_
     refine q_conv (fun w S => S.perm p5) ?_
     refine h_next ?_
     refine h_take 9 rfl rfl (by kernel_rfl) (by kernel_rfl) (by kernel_rfl) (fun L0 => v_nil rfl rfl) ?_
     refine h_take 10 rfl rfl (by kernel_rfl) (by kernel_rfl) (by kernel_rfl) (fun L0 => v_fieldAddr (q := ⟨b, 0, none⟩) rfl rfl Try.underlying130 rfl ti127 rfl) ?_
     refine h_one 11 rfl (by kernel_rfl) ?_
     refine l_f5 ?_
     refine o_store1 rfl rfl rfl ti127 rfl rfl ?_
     refine l_nil ?_
     refine q_conv (fun w S => S.perm p5) ?_
     refine q_conv (fun w S => S.perm p1) ?_
     refine q_conv (fun w S => S.perm p5) ?_
     refine q_conv (fun w S => S.perm p5) ?_
     refine q_conv (fun w S => S.perm p5) ?_
     refine q_conv (fun w S => S.perm p5) ?_
     refine h_next ?_
     refine h_done (by kernel_rfl) ?_
     refine q_block ?_
     refine q_conv (fun w S => (S.perm p3).tail) ?_
     refine q_conv (fun w S => S.perm p2) ?_
     refine q_conv (fun w S => S.perm p2) ?_
     refine q_conv (fun w S => S.perm p2) ?_
     refine q_conv (fun w S => S.perm p4) ?_
     refine q_conv (fun w S => S.perm p4) ?_
     exact q_mid (⟨a97, c97, q.ak, q.ck, (q.items.take i17 ++ x :: q.items.drop i17), q.kids⟩, (⟨0, 0, ByteArray.empty⟩ : (Vt ByteArray)), _) (by exact put_leaf ilt_sto hq srt (by omega) hF17 hnf) ⟨(by first | rfl | exact vint (by omega)), (by first | rfl | exact vint (by omega)), (by first | rfl | exact vint (by omega)), trivial⟩ (fun w S => S)
    · -- 7 comes first
     refine o_lit e_ItA_ok rfl Try.underlying127 rfl rfl rfl (lit_ok rfl) [x] rfl rfl fun a96 => ?_
     refine l_nil ?_
     refine q_conv (fun w S => S.perm p6) ?_
     refine q_conv (fun w S => S.perm p6) ?_
     refine q_conv (fun w S => S.perm p2) ?_
     refine q_conv (fun w S => S.perm p6) ?_
     refine q_conv (fun w S => S.perm p6) ?_
     refine q_conv (fun w S => S.perm p6) ?_
     refine q_conv (fun w S => S.perm p6) ?_
     refine h_next ?_
     refine h_one 4 rfl (by kernel_rfl) ?_
     refine o_load1 rfl rfl Try.underlying127 rfl (rd_mem 5 rfl rfl) ?_
     refine l_nil ?_
     refine h_next ?_
     refine h_one 8 rfl (by kernel_rfl) ?_
     refine l_f4 ?_
     refine l_f6 ?_
     refine o_call rfl cal60 rfl (insI_A (xs := q.items) (x := x) (i := i17) hF17.le (by omega)) ?_
     rintro _ _ ⟨a97, c97, rfl, rfl⟩
     refine l_nil ?_
     refine q_conv (fun w S => S.perm p5) ?_
     refine q_conv (fun w S => S.perm p1) ?_
     refine q_conv (fun w S => S.perm p5) ?_
     refine q_conv (fun w S => S.perm p5) ?_
     refine q_conv (fun w S => S.perm p5) ?_
     refine q_conv (fun w S => S.perm p5) ?_
     refine h_next ?_
     refine h_take 9 rfl rfl (by kernel_rfl) (by kernel_rfl) (by kernel_rfl) (fun L0 => v_nil rfl rfl) ?_
     refine h_take 10 rfl rfl (by kernel_rfl) (by kernel_rfl) (by kernel_rfl) (fun L0 => v_fieldAddr (q := ⟨b, 0, none⟩) rfl rfl Try.underlying130 rfl ti127 rfl) ?_
     refine h_one 11 rfl (by kernel_rfl) ?_
     refine l_f5 ?_
     refine o_store1 rfl rfl rfl ti127 rfl rfl ?_
     refine l_nil ?_
     refine q_conv (fun w S => S.perm p5) ?_
     refine q_conv (fun w S => S.perm p1) ?_
     refine q_conv (fun w S => S.perm p5) ?_
     refine q_conv (fun w S => S.perm p5) ?_
     refine q_conv (fun w S => S.perm p5) ?_
     refine q_conv (fun w S => S.perm p5) ?_
     refine h_next ?_
     refine h_done (by kernel_rfl) ?_
     refine q_block ?_
     refine q_conv (fun w S => (S.perm p3).tail) ?_
     refine q_conv (fun w S => S.perm p2) ?_
     refine q_conv (fun w S => S.perm p2) ?_
     refine q_conv (fun w S => S.perm p2) ?_
     refine q_conv (fun w S => S.perm p4) ?_
     refine q_conv (fun w S => S.perm p4) ?_
     exact q_mid (⟨a97, c97, q.ak, q.ck, (q.items.take i17 ++ x :: q.items.drop i17), q.kids⟩, (⟨0, 0, ByteArray.empty⟩ : (Vt ByteArray)), _) (by exact put_leaf ilt_sto hq srt (by omega) hF17 hnf) ⟨(by first | rfl | exact vint (by omega)), (by first | rfl | exact vint (by omega)), (by first | rfl | exact vint (by omega)), trivial⟩ (fun w S => S)
   · -- h2F
    have h2b := h2
    try simp only [decide_eq_false_iff_not, Int.not_lt, Int.not_le] at h2
    refine c_seq ?_
    refine c_region ?_
    refine o_assign rfl rfl ?_
    refine l_nil ?_
    refine q_then ?_
    refine c_seq ?_
    refine c_region ?_
    refine o_assign rfl rfl ?_
    refine l_nil ?_
    refine q_then ?_
    refine c_seq ?_
    have hkl : q.kids.length = q.items.length + 1 := by rcases hsh with ⟨_, h9⟩ | ⟨_, h9, _⟩; exact absurd (show ((q.kids.map Prod.fst).length : Int) = 0 by rw [h9]; rfl) (by assumption); exact h9
    have hd0 : d ≠ 0 := by rcases hsh with ⟨_, h9⟩ | ⟨h9, _, _⟩; exact absurd (show ((q.kids.map Prod.fst).length : Int) = 0 by rw [h9]; rfl) (by assumption); exact h9
    have hkm : (q.kids.map Prod.fst).length = q.items.length + 1 := by rw [List.length_map]; exact hkl
    have hfl := hF17.le
    obtain ⟨⟨kb, ys⟩, hkid⟩ : ∃ z, q.kids[i17]? = some z := ⟨_, List.getElem?_eq_getElem (by omega)⟩
    obtain ⟨A, B, hxA, _, _, hA, hB, _, _, hsy⟩ := kid_parts ilt_sto hq srt hkid hF17 hnf
    obtain ⟨d', hd'⟩ : ∃ d', d = d' + 1 := ⟨d - 1, by omega⟩
    refine c_conv (fun w S => S.perm p3) ?_
    refine c_conv (L' := nodeR e_ItA eN126 130 d' 2 kb ys :: kidsR e_ItA eN126 130 d (q.kids.eraseIdx i17) :: _) (fun w S => by have h9 := Sat.kid_take hkid S; rw [hd'] at h9 ⊢; exact h9) ?_
    refine c_fact (p := ∃ ad, q.ak = some ad) (rds_some (e := eN126) (xs := (q.kids.map Prod.fst)) (rds_own eN126_ok 4 rfl) (by intro h0; have h00 := congrArg List.length h0; simp only [List.length_nil] at h00; omega)) ?_
    rintro ⟨adx, eadx⟩
    refine c_conv (fun w S => S.perm p5) ?_
    refine c_conv (fun w S => S.perm p1) ?_
    refine c_conv (fun w S => S.perm p6) ?_
    refine c_conv (fun w S => S.perm p6) ?_
    refine c_conv (fun w S => S.perm p6) ?_
    refine c_conv (fun w S => S.perm p6) ?_
    refine c_conv (fun w S => S.perm p6) ?_
    refine c_held [kidsR e_ItA eN126 130 d (q.kids.eraseIdx i17), blk b (.cells #[.slice q.a (q.items).length q.c, .slice q.ak ((q.kids.map Prod.fst)).length q.ck] 130 (0, 0)), row e_ItA.T e_ItA.sz q.a (q.items).length q.c (flat e_ItA q.items), row eN126.T eN126.sz q.ak ((q.kids.map Prod.fst)).length q.ck (flat eN126 (q.kids.map Prod.fst)), blk b3 (.cells #[.int .i64 x.f_key, .int .i64 x.f_value.Slot, .int .u64 x.f_value.Ballot, .string x.f_value.Value] 139 (0, 0))] (by kernel_rfl) rfl ?_
    refine h_take 0 rfl rfl (by kernel_rfl) (by kernel_rfl) (by kernel_rfl) (fun L0 => v_move rfl rfl) ?_
    refine h_take 1 rfl rfl (by kernel_rfl) (by kernel_rfl) (by kernel_rfl) (fun L0 => v_nil rfl rfl) ?_
    refine h_take 2 rfl rfl (by kernel_rfl) (by kernel_rfl) (by kernel_rfl) (fun L0 => v_fieldAddr (q := ⟨b, 1, none⟩) rfl rfl Try.underlying130 rfl ti128 rfl) ?_
    refine h_take 3 rfl rfl (by kernel_rfl) (by kernel_rfl) (by kernel_rfl) (fun L0 => v_load1 rfl rfl Try.underlying128 rfl (rd_mem 1 rfl rfl)) ?_
    refine h_take 4 rfl rfl (by kernel_rfl) (by kernel_rfl) (by kernel_rfl) (fun L0 => v_move rfl rfl) ?_
    refine h_take 5 rfl rfl (by kernel_rfl) (by kernel_rfl) (by kernel_rfl) (fun L0 => v_indexK eN126_ok eadx rfl rfl rfl Try.underlying128 (by omega) (by omega)) ?_
    obtain ⟨x26, hx26⟩ : ∃ x, ((q.kids.map Prod.fst))[((i17 : Int)).toNat]? = some x := ⟨_, List.getElem?_eq_getElem (by omega)⟩
    have hxk : x26 = kb := by have h9 := hx26; rw [show ((i17 : Int)).toNat = i17 from rfl, List.getElem?_map, hkid] at h9; exact (Option.some.inj h9).symm
    refine h_take 6 rfl rfl (by kernel_rfl) (by kernel_rfl) (by kernel_rfl) (fun L0 => v_load1 rfl rfl Try.underlying126 rfl (rd_sl0 eN126_ok eadx (rds_own eN126_ok 3 rfl) hx26 rfl)) ?_
    refine h_eq (t := 27) (v' := .pointer (some ⟨kb, 0, none⟩)) rfl (by rw [hxk]) ?_
    refine h_take 7 rfl rfl (by kernel_rfl) (by kernel_rfl) (by kernel_rfl) (fun L0 => v_loadn (vs := [_, _, _, _]) rfl rfl Try.underlying139 rfl ti139 (rdn_lit 4 rfl rfl)) ?_
    refine h_one 8 rfl (by kernel_rfl) ?_
    refine l_f5 ?_
    refine o_call rfl cal53 rfl (ih d' hd' (by omega) hsy) ?_
    rintro _ _ ⟨old29, had29, ls29, s29, ⟨his29, hol29⟩, rfl, rfl⟩
    refine l_nil ?_
    refine q_conv (fun w S => S.perm p7) ?_
    refine q_conv (fun w S => S.perm p2) ?_
    refine q_conv (fun w S => S.perm p2) ?_
    refine q_conv (fun w S => S.perm p7) ?_
    refine q_conv (fun w S => S.perm p7) ?_
    refine q_conv (fun w S => S.perm p7) ?_
    refine q_conv (fun w S => S.perm p7) ?_
    refine q_conv (fun w S => S.perm p7) ?_
    refine h_next ?_
    refine h_take 9 rfl rfl (by kernel_rfl) (by kernel_rfl) (by kernel_rfl) (fun L0 => v_move rfl rfl) ?_
    refine h_take 10 rfl rfl (by kernel_rfl) (by kernel_rfl) (by kernel_rfl) (fun L0 => v_extract rfl rfl rfl) ?_
    refine h_take 11 rfl rfl (by kernel_rfl) (by kernel_rfl) (by kernel_rfl) (fun L0 => v_extract rfl rfl rfl) ?_
    refine h_take 12 rfl rfl (by kernel_rfl) (by kernel_rfl) (by kernel_rfl) (fun L0 => v_extract rfl rfl rfl) ?_
    refine h_take 13 rfl rfl (by kernel_rfl) (by kernel_rfl) (by kernel_rfl) (fun L0 => v_extract rfl rfl rfl) ?_
    refine h_one 14 rfl (by kernel_rfl) ?_
    refine l_f7 ?_
    refine o_storen rfl rfl ti40 rfl rfl rfl rfl ?_
    refine l_nil ?_
    refine q_conv (fun w S => S.perm p7) ?_
    refine q_conv (fun w S => S.perm p7) ?_
    refine q_conv (fun w S => S.perm p2) ?_
    refine q_conv (fun w S => S.perm p7) ?_
    refine q_conv (fun w S => S.perm p7) ?_
    refine q_conv (fun w S => S.perm p7) ?_
    refine q_conv (fun w S => S.perm p7) ?_
    refine q_conv (fun w S => S.perm p7) ?_
    refine h_next ?_
    refine h_take 15 rfl rfl (by kernel_rfl) (by kernel_rfl) (by kernel_rfl) (fun L0 => v_assign rfl rfl) ?_
    refine h_take 16 rfl rfl (by kernel_rfl) (by kernel_rfl) (by kernel_rfl) (fun L0 => v_assign rfl rfl) ?_
    refine h_take 17 rfl rfl (by kernel_rfl) (by kernel_rfl) (by kernel_rfl) (fun L0 => v_assign rfl rfl) ?_
    refine h_done (by kernel_rfl) ?_
    refine q_then ?_
    refine c_seq ?_
    refine c_region ?_
    refine o_move rfl rfl ?_
    refine o_bin rfl rfl rfl (b_pne Try.underlying135 _) ?_
    refine l_nil ?_
    refine q_then ?_
    refine c_cond rfl (fun h3 => ?_) (fun h3 => ?_)
    · -- h3T
     have h3b := h3
     try simp only [decide_eq_true_eq, decide_eq_false_iff_not, Bool.not_eq_eq_eq_not, Bool.not_true, Bool.not_false, Bool.not_eq_true', Bool.not_eq_false', Int.not_lt, Int.not_le, Bool.or_eq_true, Bool.and_eq_true] at h3
     obtain ⟨⟨bm, m, br, rs⟩, hs29⟩ : ∃ z, s29 = some z := by cases s29 with | none => simp at h3b | some z => exact ⟨z, rfl⟩
     subst hs29
     refine c_seq ?_
     refine c_mid (α := (Option Addr) × Nat × (Option Addr)) (fun z => [(0, .pointer (some ⟨b, 0, none⟩)), (1, .agg #[.int .i64 x.f_key, .int .i64 x.f_value.Slot, .int .u64 x.f_value.Ballot, .string x.f_value.Value]), (3, .pointer (some ⟨b3, 0, none⟩)), (4, .pointer (some ⟨b4, 0, none⟩)), (5, .bool had29), (6, .pointer none), (7, .pointer none), (8, .int .i64 (i17 : Int)), (9, .bool fd17), (10, .pointer (some ⟨bm, 0, none⟩)), (11, .pointer (some ⟨br, 0, none⟩)), (13, .tuple #[.int .i64 (i17 : Int), .bool fd17]), (14, .pointer (some ⟨b, 0, none⟩)), (15, .pointer (some ⟨b3, 0, none⟩)), (16, .int .i64 x.f_key), (17, .tuple #[.int .i64 (i17 : Int), .bool fd17]), (18, .int .i64 (i17 : Int)), (19, .bool fd17), (21, .pointer (some ⟨b, 0, none⟩)), (22, .pointer (some ⟨b, 0, none⟩)), (23, .pointer (some ⟨b, 1, none⟩)), (24, .slice q.ak ((q.kids.map Prod.fst)).length q.ck), (25, .int .i64 (i17 : Int)), (27, .pointer (some ⟨kb, 0, none⟩)), (28, .agg #[.int .i64 x.f_key, .int .i64 x.f_value.Slot, .int .u64 x.f_value.Ballot, .string x.f_value.Value]), (30, .agg #[.int .i64 old29.Slot, .int .u64 old29.Ballot, .string old29.Value]), (31, .bool had29), (36, .pointer (some ⟨b, 0, none⟩)), (37, .pointer (some ⟨b, 0, none⟩)), (38, .pointer (some ⟨b, 0, none⟩)), (39, .pointer (some ⟨b, 0, none⟩)), (40, .slice q.a (q.items).length q.c), (41, .int .i64 (i17 : Int)), (42, .pointer (some ⟨bm, 0, none⟩)), (43, .pointer (some ⟨bm, 0, none⟩)), (44, .agg #[.int .i64 m.f_key, .int .i64 m.f_value.Slot, .int .u64 m.f_value.Ballot, .string m.f_value.Value]), (45, .slice z.2.2 ([m]).length 1), (46, .slice z.1 ((q.items.take i17 ++ m :: q.items.drop i17)).length z.2.1), (47, .pointer (some ⟨b, 0, none⟩)), (48, .pointer (some ⟨b, 0, none⟩)), (61, .bool fd17), (62, .bool fd17), (82, .bool (decide ((((q.kids.map Prod.fst)).length : Int) = 0))), (83, .pointer (some ⟨b, 0, none⟩)), (84, .pointer (some ⟨b, 0, none⟩)), (85, .pointer (some ⟨b, 1, none⟩)), (86, .slice q.ak ((q.kids.map Prod.fst)).length q.ck), (87, .int .i64 (((q.kids.map Prod.fst)).length : Int)), (88, .bool (decide ((((q.kids.map Prod.fst)).length : Int) = 0)))]) (fun z => blk b (.cells #[.slice z.1 ((q.items.take i17 ++ m :: q.items.drop i17)).length z.2.1, .slice q.ak ((q.kids.map Prod.fst)).length q.ck] 130 (0, 0)) :: row e_ItA.T e_ItA.sz z.1 ((q.items.take i17 ++ m :: q.items.drop i17)).length z.2.1 (flat e_ItA (q.items.take i17 ++ m :: q.items.drop i17)) :: blk bm (.cells #[.int .i64 m.f_key, .int .i64 m.f_value.Slot, .int .u64 m.f_value.Ballot, .string m.f_value.Value] 139 (0, 0)) :: nodeR e_ItA eN126 130 d' 2 br rs :: kidsR e_ItA eN126 130 d (q.kids.eraseIdx i17) :: row eN126.T eN126.sz q.ak ((q.kids.map Prod.fst)).length q.ck (flat eN126 (q.kids.map Prod.fst)) :: blk b3 (.cells #[.int .i64 x.f_key, .int .i64 x.f_value.Slot, .int .u64 x.f_value.Ballot, .string x.f_value.Value] 139 (0, 0)) :: blk b4 (.cells #[.int .i64 old29.Slot, .int .u64 old29.Ballot, .string old29.Value] 40 (0, 0)) :: nodeR e_ItA eN126 130 d' 2 kb ls29 :: F) (fun z => True) ?_ ?_
     · -- cut
      refine c_conv (fun w S => S.perm p7) ?_
      refine c_conv (L' := blk bm (.cells #[.int .i64 m.f_key, .int .i64 m.f_value.Slot, .int .u64 m.f_value.Ballot, .string m.f_value.Value] 139 (0, 0)) :: nodeR e_ItA eN126 130 d' 2 br rs :: _) (fun w S => Sat.flat (Ls := [_, _]) S) ?_
      refine c_conv (fun w S => S.perm p4) ?_
      refine c_conv (fun w S => S.perm p4) ?_
      refine c_conv (fun w S => S.perm p8) ?_
      refine c_conv (fun w S => S.perm p8) ?_
      refine c_conv (fun w S => S.perm p8) ?_
      refine c_conv (fun w S => S.perm p8) ?_
      refine c_conv (fun w S => S.perm p8) ?_
      refine c_conv (fun w S => S.perm p8) ?_
      refine c_conv (fun w S => S.perm p8) ?_
      refine c_held [blk bm (.cells #[.int .i64 m.f_key, .int .i64 m.f_value.Slot, .int .u64 m.f_value.Ballot, .string m.f_value.Value] 139 (0, 0)), nodeR e_ItA eN126 130 d' 2 br rs, kidsR e_ItA eN126 130 d (q.kids.eraseIdx i17), row eN126.T eN126.sz q.ak ((q.kids.map Prod.fst)).length q.ck (flat eN126 (q.kids.map Prod.fst)), blk b3 (.cells #[.int .i64 x.f_key, .int .i64 x.f_value.Slot, .int .u64 x.f_value.Ballot, .string x.f_value.Value] 139 (0, 0)), blk b4 (.cells #[.int .i64 old29.Slot, .int .u64 old29.Ballot, .string old29.Value] 40 (0, 0)), nodeR e_ItA eN126 130 d' 2 kb ls29] (by kernel_rfl) rfl ?_
      refine h_take 0 rfl rfl (by kernel_rfl) (by kernel_rfl) (by kernel_rfl) (fun L0 => v_move rfl rfl) ?_
      refine h_take 1 rfl rfl (by kernel_rfl) (by kernel_rfl) (by kernel_rfl) (fun L0 => v_move rfl rfl) ?_
      refine h_take 2 rfl rfl (by kernel_rfl) (by kernel_rfl) (by kernel_rfl) (fun L0 => v_nil rfl rfl) ?_
      refine h_take 3 rfl rfl (by kernel_rfl) (by kernel_rfl) (by kernel_rfl) (fun L0 => v_fieldAddr (q := ⟨b, 0, none⟩) rfl rfl Try.underlying130 rfl ti127 rfl) ?_
      refine h_take 5 rfl rfl (by kernel_rfl) (by kernel_rfl) (by kernel_rfl) (fun L0 => v_move rfl rfl) ?_
      refine h_take 6 rfl rfl (by kernel_rfl) (by kernel_rfl) (by kernel_rfl) (fun L0 => v_move rfl rfl) ?_
      refine h_take 7 rfl rfl (by kernel_rfl) (by kernel_rfl) (by kernel_rfl) (fun L0 => v_nil rfl rfl) ?_
      refine h_take 8 rfl rfl (by kernel_rfl) (by kernel_rfl) (by kernel_rfl) (fun L0 => v_loadn (vs := [_, _, _, _]) rfl rfl Try.underlying139 rfl ti139 (rdn_lit 0 rfl rfl)) ?_
      refine h_many (is := [4, 9]) (by kernel_rfl) (by decide) (forall_cons ⟨_, rfl, ?_⟩ (forall_cons ⟨_, rfl, ?_⟩ forall_nil))
      · -- 4 comes first
       refine o_load1 rfl rfl Try.underlying127 rfl (rd_mem 7 rfl rfl) ?_
       refine l_nil ?_
       refine h_next ?_
       refine h_one 9 rfl (by kernel_rfl) ?_
       refine o_lit e_ItA_ok rfl Try.underlying127 rfl rfl rfl (lit_ok rfl) [m] rfl rfl fun a45 => ?_
       refine l_nil ?_
       refine q_conv (fun w S => S.perm p9) ?_
       refine q_conv (fun w S => S.perm p9) ?_
       refine q_conv (fun w S => S.perm p2) ?_
       refine q_conv (fun w S => S.perm p9) ?_
       refine q_conv (fun w S => S.perm p9) ?_
       refine q_conv (fun w S => S.perm p9) ?_
       refine q_conv (fun w S => S.perm p9) ?_
       refine q_conv (fun w S => S.perm p9) ?_
       refine q_conv (fun w S => S.perm p9) ?_
       refine q_conv (fun w S => S.perm p9) ?_
       refine h_next ?_
       refine h_one 10 rfl (by kernel_rfl) ?_
       refine l_f7 ?_
       refine l_f9 ?_
       refine o_call rfl cal60 rfl (insI_A (xs := q.items) (x := m) (i := i17) hF17.le (by omega)) ?_
       rintro _ _ ⟨a46, c46, rfl, rfl⟩
       refine l_nil ?_
       refine q_conv (fun w S => S.perm p8) ?_
       refine q_conv (fun w S => S.perm p1) ?_
       refine q_conv (fun w S => S.perm p8) ?_
       refine q_conv (fun w S => S.perm p8) ?_
       refine q_conv (fun w S => S.perm p8) ?_
       refine q_conv (fun w S => S.perm p8) ?_
       refine q_conv (fun w S => S.perm p8) ?_
       refine q_conv (fun w S => S.perm p8) ?_
       refine q_conv (fun w S => S.perm p8) ?_
       refine h_next ?_
       refine h_take 11 rfl rfl (by kernel_rfl) (by kernel_rfl) (by kernel_rfl) (fun L0 => v_nil rfl rfl) ?_
       refine h_take 12 rfl rfl (by kernel_rfl) (by kernel_rfl) (by kernel_rfl) (fun L0 => v_fieldAddr (q := ⟨b, 0, none⟩) rfl rfl Try.underlying130 rfl ti127 rfl) ?_
       refine h_one 13 rfl (by kernel_rfl) ?_
       refine l_f8 ?_
       refine o_store1 rfl rfl rfl ti127 rfl rfl ?_
       refine l_nil ?_
       refine q_conv (fun w S => S.perm p8) ?_
       refine q_conv (fun w S => S.perm p1) ?_
       refine q_conv (fun w S => S.perm p8) ?_
       refine q_conv (fun w S => S.perm p8) ?_
       refine q_conv (fun w S => S.perm p8) ?_
       refine q_conv (fun w S => S.perm p8) ?_
       refine q_conv (fun w S => S.perm p8) ?_
       refine q_conv (fun w S => S.perm p8) ?_
       refine q_conv (fun w S => S.perm p8) ?_
       refine h_next ?_
       refine h_done (by kernel_rfl) ?_
       refine q_conv (fun w S => S.perm p6) ?_
       refine q_conv (fun w S => S.perm p6) ?_
       refine q_conv (fun w S => S.perm p6) ?_
       refine q_conv (fun w S => S.perm p6) ?_
       refine q_conv (fun w S => S.perm p6) ?_
       refine q_conv (fun w S => S.perm p6) ?_
       refine q_conv (fun w S => S.perm p6) ?_
       refine q_conv (fun w S => S.perm p8) ?_
       refine q_conv (fun w S => S.perm p8) ?_
       exact q_mid (a46, c46, a45) (by trivial) ⟨(by first | rfl | exact vint (by omega)), (by first | rfl | exact vint (by omega)), (by first | rfl | exact vint (by omega)), (by first | rfl | exact vint (by omega)), (by first | rfl | exact vint (by omega)), (by first | rfl | exact vint (by omega)), (by first | rfl | exact vint (by omega)), (by first | rfl | exact vint (by omega)), (by first | rfl | exact vint (by omega)), (by first | rfl | exact vint (by omega)), (by first | rfl | exact vint (by omega)), (by first | rfl | exact vint (by omega)), (by first | rfl | exact vint (by omega)), (by first | rfl | exact vint (by omega)), (by first | rfl | exact vint (by omega)), (by first | rfl | exact vint (by omega)), (by first | rfl | exact vint (by omega)), (by first | rfl | exact vint (by omega)), (by first | rfl | exact vint (by omega)), (by first | rfl | exact vint (by omega)), (by first | rfl | exact vint (by omega)), (by first | rfl | exact vint (by omega)), (by first | rfl | exact vint (by omega)), (by first | rfl | exact vint (by omega)), (by first | rfl | exact vint (by omega)), (by first | rfl | exact vint (by omega)), (by first | rfl | exact vint (by omega)), (by first | rfl | exact vint (by omega)), (by first | rfl | exact vint (by omega)), (by first | rfl | exact vint (by omega)), (by first | rfl | exact vint (by omega)), (by first | rfl | exact vint (by omega)), (by first | rfl | exact vint (by omega)), (by first | rfl | exact vint (by omega)), (by first | rfl | exact vint (by omega)), (by first | rfl | exact vint (by omega)), (by first | rfl | exact vint (by omega)), (by first | rfl | exact vint (by omega)), (by first | rfl | exact vint (by omega)), (by first | rfl | exact vint (by omega)), (by first | rfl | exact vint (by omega)), (by first | rfl | exact vint (by omega)), (by first | rfl | exact vint (by omega)), (by first | rfl | exact vint (by omega)), (by first | rfl | exact vint (by omega)), (by first | rfl | exact vint (by omega)), (by first | rfl | exact vint (by omega)), (by first | rfl | exact vint (by omega)), (by first | rfl | exact vint (by omega)), trivial⟩ (fun w S => S)
      · -- 9 comes first
       refine o_lit e_ItA_ok rfl Try.underlying127 rfl rfl rfl (lit_ok rfl) [m] rfl rfl fun a45 => ?_
       refine l_nil ?_
       refine q_conv (fun w S => S.perm p9) ?_
       refine q_conv (fun w S => S.perm p9) ?_
       refine q_conv (fun w S => S.perm p2) ?_
       refine q_conv (fun w S => S.perm p9) ?_
       refine q_conv (fun w S => S.perm p9) ?_
       refine q_conv (fun w S => S.perm p9) ?_
       refine q_conv (fun w S => S.perm p9) ?_
       refine q_conv (fun w S => S.perm p9) ?_
       refine q_conv (fun w S => S.perm p9) ?_
       refine q_conv (fun w S => S.perm p9) ?_
       refine h_next ?_
       refine h_one 4 rfl (by kernel_rfl) ?_
       refine o_load1 rfl rfl Try.underlying127 rfl (rd_mem 8 rfl rfl) ?_
       refine l_nil ?_
       refine h_next ?_
       refine h_one 10 rfl (by kernel_rfl) ?_
       refine l_f7 ?_
       refine l_f9 ?_
       refine o_call rfl cal60 rfl (insI_A (xs := q.items) (x := m) (i := i17) hF17.le (by omega)) ?_
       rintro _ _ ⟨a46, c46, rfl, rfl⟩
       refine l_nil ?_
       refine q_conv (fun w S => S.perm p8) ?_
       refine q_conv (fun w S => S.perm p1) ?_
       refine q_conv (fun w S => S.perm p8) ?_
       refine q_conv (fun w S => S.perm p8) ?_
       refine q_conv (fun w S => S.perm p8) ?_
       refine q_conv (fun w S => S.perm p8) ?_
       refine q_conv (fun w S => S.perm p8) ?_
       refine q_conv (fun w S => S.perm p8) ?_
       refine q_conv (fun w S => S.perm p8) ?_
       refine h_next ?_
       refine h_take 11 rfl rfl (by kernel_rfl) (by kernel_rfl) (by kernel_rfl) (fun L0 => v_nil rfl rfl) ?_
       refine h_take 12 rfl rfl (by kernel_rfl) (by kernel_rfl) (by kernel_rfl) (fun L0 => v_fieldAddr (q := ⟨b, 0, none⟩) rfl rfl Try.underlying130 rfl ti127 rfl) ?_
       refine h_one 13 rfl (by kernel_rfl) ?_
       refine l_f8 ?_
       refine o_store1 rfl rfl rfl ti127 rfl rfl ?_
       refine l_nil ?_
       refine q_conv (fun w S => S.perm p8) ?_
       refine q_conv (fun w S => S.perm p1) ?_
       refine q_conv (fun w S => S.perm p8) ?_
       refine q_conv (fun w S => S.perm p8) ?_
       refine q_conv (fun w S => S.perm p8) ?_
       refine q_conv (fun w S => S.perm p8) ?_
       refine q_conv (fun w S => S.perm p8) ?_
       refine q_conv (fun w S => S.perm p8) ?_
       refine q_conv (fun w S => S.perm p8) ?_
       refine h_next ?_
       refine h_done (by kernel_rfl) ?_
       refine q_conv (fun w S => S.perm p6) ?_
       refine q_conv (fun w S => S.perm p6) ?_
       refine q_conv (fun w S => S.perm p6) ?_
       refine q_conv (fun w S => S.perm p6) ?_
       refine q_conv (fun w S => S.perm p6) ?_
       refine q_conv (fun w S => S.perm p6) ?_
       refine q_conv (fun w S => S.perm p6) ?_
       refine q_conv (fun w S => S.perm p8) ?_
       refine q_conv (fun w S => S.perm p8) ?_
       exact q_mid (a46, c46, a45) (by trivial) ⟨(by first | rfl | exact vint (by omega)), (by first | rfl | exact vint (by omega)), (by first | rfl | exact vint (by omega)), (by first | rfl | exact vint (by omega)), (by first | rfl | exact vint (by omega)), (by first | rfl | exact vint (by omega)), (by first | rfl | exact vint (by omega)), (by first | rfl | exact vint (by omega)), (by first | rfl | exact vint (by omega)), (by first | rfl | exact vint (by omega)), (by first | rfl | exact vint (by omega)), (by first | rfl | exact vint (by omega)), (by first | rfl | exact vint (by omega)), (by first | rfl | exact vint (by omega)), (by first | rfl | exact vint (by omega)), (by first | rfl | exact vint (by omega)), (by first | rfl | exact vint (by omega)), (by first | rfl | exact vint (by omega)), (by first | rfl | exact vint (by omega)), (by first | rfl | exact vint (by omega)), (by first | rfl | exact vint (by omega)), (by first | rfl | exact vint (by omega)), (by first | rfl | exact vint (by omega)), (by first | rfl | exact vint (by omega)), (by first | rfl | exact vint (by omega)), (by first | rfl | exact vint (by omega)), (by first | rfl | exact vint (by omega)), (by first | rfl | exact vint (by omega)), (by first | rfl | exact vint (by omega)), (by first | rfl | exact vint (by omega)), (by first | rfl | exact vint (by omega)), (by first | rfl | exact vint (by omega)), (by first | rfl | exact vint (by omega)), (by first | rfl | exact vint (by omega)), (by first | rfl | exact vint (by omega)), (by first | rfl | exact vint (by omega)), (by first | rfl | exact vint (by omega)), (by first | rfl | exact vint (by omega)), (by first | rfl | exact vint (by omega)), (by first | rfl | exact vint (by omega)), (by first | rfl | exact vint (by omega)), (by first | rfl | exact vint (by omega)), (by first | rfl | exact vint (by omega)), (by first | rfl | exact vint (by omega)), (by first | rfl | exact vint (by omega)), (by first | rfl | exact vint (by omega)), (by first | rfl | exact vint (by omega)), (by first | rfl | exact vint (by omega)), (by first | rfl | exact vint (by omega)), trivial⟩ (fun w S => S)
     · -- behind the cut
      rintro ⟨a46, c46, a45⟩ _hp
      try dsimp only at *
      refine c_region ?_
      refine o_move rfl rfl ?_
      refine o_move rfl rfl ?_
      refine o_nil rfl rfl ?_
      refine o_fieldAddr (q := ⟨b, 1, none⟩) rfl rfl Try.underlying130 rfl ti128 rfl ?_
      refine o_load1 rfl rfl Try.underlying128 rfl (rd_mem 0 rfl rfl) ?_
      refine o_move rfl rfl ?_
      refine o_bin rfl rfl rfl (b_add (show IntKind.i64.wrap ((i17 : Int) + 1) = ((i17 + 1 : Nat) : Int) from by rw [wrap_i64 (by omega) (by omega)]; omega)) ?_
      refine o_move rfl rfl ?_
      refine o_lit eN126_ok rfl Try.underlying128 rfl rfl rfl (lit_ok rfl) [br] rfl rfl fun a57 => ?_
      refine l_f6 ?_
      refine o_call rfl cal61 rfl (insK_A (xs := (q.kids.map Prod.fst)) (x := br) (i := (i17 + 1 : Nat)) (by omega) (by omega)) ?_
      rintro _ _ ⟨a58, c58, rfl, rfl⟩
      refine o_nil rfl rfl ?_
      refine o_fieldAddr (q := ⟨b, 1, none⟩) rfl rfl Try.underlying130 rfl ti128 rfl ?_
      refine l_f1 ?_
      refine o_store1 rfl rfl rfl ti128 rfl rfl ?_
      refine l_nil ?_
      refine q_block ?_
      refine q_conv (fun w S => S.perm p7) ?_
      refine q_conv (fun w S => S.perm p7) ?_
      refine q_conv (fun w S => S.perm p5) ?_
      refine q_conv (fun w S => S.perm p5) ?_
      refine q_conv (fun w S => S.perm p5) ?_
      refine q_conv (fun w S => S.perm p5) ?_
      refine q_conv (fun w S => S.perm p7) ?_
      refine q_conv (fun w S => S.perm p7) ?_
      refine q_conv (fun w S => S.perm p8) ?_
      refine q_conv (L' := kidsR e_ItA eN126 130 d (q.kids.take i17 ++ (kb, ls29) :: (br, rs) :: q.kids.drop (i17 + 1)) :: _) (fun w S => Sat.kid_two (k := (kb, ls29)) (k2 := (br, rs)) (by omega) (by rw [hd'] at S ⊢; exact S)) ?_
      have hkf : ((q.kids.map Prod.fst).take (i17 + 1 : Nat) ++ br :: (q.kids.map Prod.fst).drop (i17 + 1 : Nat)) = ((q.kids.take i17 ++ (kb, ls29) :: (br, rs) :: q.kids.drop (i17 + 1)).map Prod.fst) := by rw [kids_fst hkid]
      refine q_conv (fun w S => S.perm p6) ?_
      refine q_conv (fun w S => S.perm p6) ?_
      refine q_conv (fun w S => S.perm p6) ?_
      refine q_conv (fun w S => S.perm p6) ?_
      refine q_conv (fun w S => S.perm p4) ?_
      refine q_conv (fun w S => S.perm p5) ?_
      refine q_conv (fun w S => S.perm p6) ?_
      refine q_conv (L' := row eN126.T eN126.sz a58 (((q.kids.take i17 ++ (kb, ls29) :: (br, rs) :: q.kids.drop (i17 + 1)).map Prod.fst)).length c58 (flat eN126 ((q.kids.take i17 ++ (kb, ls29) :: (br, rs) :: q.kids.drop (i17 + 1)).map Prod.fst)) :: blk b (.cells #[.slice a46 ((q.items.take i17 ++ m :: q.items.drop i17)).length c46, .slice a58 (((q.kids.take i17 ++ (kb, ls29) :: (br, rs) :: q.kids.drop (i17 + 1)).map Prod.fst)).length c58] 130 (0, 0)) :: _) (fun w S => by rw [hkf] at S; exact S) ?_
      refine q_conv (fun w S => (S.perm p4).tail) ?_
      refine q_conv (fun w S => (S.perm p4).tail) ?_
      refine q_conv (fun w S => S.perm p4) ?_
      refine q_conv (fun w S => S.perm p3) ?_
      refine q_conv (fun w S => S.perm p2) ?_
      refine q_conv (fun w S => S.perm p4) ?_
      refine q_conv (fun w S => S.perm p4) ?_
      exact q_mid (⟨a46, c46, a58, c58, (q.items.take i17 ++ m :: q.items.drop i17), (q.kids.take i17 ++ (kb, ls29) :: (br, rs) :: q.kids.drop (i17 + 1))⟩, old29, _) (by exact put_part ilt_sto hq srt hkid hF17 hnf his29 hol29) ⟨(by first | rfl | exact vint (by omega)), (by first | rfl | exact vint (by omega)), (by first | rfl | exact vint (by omega)), trivial⟩ (fun w S => S)
    · -- h3F
     have h3b := h3
     try simp only [decide_eq_true_eq, decide_eq_false_iff_not, Bool.not_eq_eq_eq_not, Bool.not_true, Bool.not_false, Bool.not_eq_true', Bool.not_eq_false', Int.not_lt, Int.not_le, Bool.or_eq_true, Bool.and_eq_true] at h3
     have hs29 : s29 = none := by cases s29 with | none => rfl | some z => simp at h3b
     subst hs29
     refine c_skip ?_
     refine q_block ?_
     refine q_conv (fun w S => S.perm p7) ?_
     refine q_conv (fun w S => S.perm p6) ?_
     refine q_conv (fun w S => S.perm p6) ?_
     refine q_conv (fun w S => S.perm p6) ?_
     refine q_conv (fun w S => S.perm p6) ?_
     refine q_conv (fun w S => S.perm p6) ?_
     refine q_conv (fun w S => S.perm p6) ?_
     refine q_conv (fun w S => S.perm p7) ?_
     refine q_conv (L' := kidsR e_ItA eN126 130 d (q.kids.set i17 (kb, ls29)) :: _) (fun w S => Sat.kid_set (k := (kb, ls29)) (by omega) (by rw [hd'] at S ⊢; exact S)) ?_
     have hkf : (q.kids.map Prod.fst) = ((q.kids.set i17 (kb, ls29)).map Prod.fst) := kids_fst_set hkid
     refine q_conv (fun w S => S.perm p6) ?_
     refine q_conv (fun w S => S.perm p6) ?_
     refine q_conv (fun w S => S.perm p6) ?_
     refine q_conv (fun w S => S.perm p5) ?_
     refine q_conv (fun w S => S.perm p4) ?_
     refine q_conv (fun w S => S.perm p5) ?_
     refine q_conv (fun w S => S.perm p6) ?_
     refine q_conv (L' := row eN126.T eN126.sz q.ak (((q.kids.set i17 (kb, ls29)).map Prod.fst)).length q.ck (flat eN126 ((q.kids.set i17 (kb, ls29)).map Prod.fst)) :: blk b (.cells #[.slice q.a (q.items).length q.c, .slice q.ak (((q.kids.set i17 (kb, ls29)).map Prod.fst)).length q.ck] 130 (0, 0)) :: _) (fun w S => by rw [hkf] at S; exact S) ?_
     refine q_conv (fun w S => (S.perm p4).tail) ?_
     refine q_conv (fun w S => (S.perm p5).tail) ?_
     refine q_conv (fun w S => S.perm p4) ?_
     refine q_conv (fun w S => S.perm p3) ?_
     refine q_conv (fun w S => S.perm p2) ?_
     refine q_conv (fun w S => S.perm p4) ?_
     refine q_conv (fun w S => S.perm p4) ?_
     exact q_mid (⟨q.a, q.c, q.ak, q.ck, q.items, (q.kids.set i17 (kb, ls29))⟩, old29, _) (by exact put_kid ilt_sto hq srt hkid hF17 hnf his29 hol29) ⟨(by first | rfl | exact vint (by omega)), (by first | rfl | exact vint (by omega)), (by first | rfl | exact vint (by omega)), trivial⟩ (fun w S => S)
 · -- behind the cut
  rintro ⟨q1, old, had⟩ hmid
  try dsimp only at *
  have hm6 := hmid.le
  refine c_seq ?_
  refine c_seq ?_
  refine c_region ?_
  refine o_move rfl rfl ?_
  refine o_nil rfl rfl ?_
  refine o_fieldAddr (q := ⟨b, 0, none⟩) rfl rfl Try.underlying130 rfl ti127 rfl ?_
  refine o_load1 rfl rfl Try.underlying127 rfl (rd_mem 0 rfl rfl) ?_
  refine o_len rfl rfl Try.underlying127 ?_
  refine o_bin rfl rfl rfl b_leq ?_
  refine l_nil ?_
  refine q_then ?_
  refine c_cond rfl (fun h4 => ?_) (fun h4 => ?_)
  · -- h4T
   have h4b := h4
   try simp only [decide_eq_true_eq] at h4
   refine c_seq ?_
   refine c_region ?_
   refine o_loadn (vs := [_, _, _]) rfl rfl Try.underlying40 rfl ti40 (rdn_lit 4 rfl rfl) ?_
   refine o_move rfl rfl ?_
   refine l_f4 ?_
   refine o_storen rfl rfl ti40 rfl rfl rfl rfl ?_
   refine o_assign rfl rfl ?_
   refine o_assign rfl rfl ?_
   refine o_assign rfl rfl ?_
   refine l_nil ?_
   refine q_then ?_
   refine c_ret ?_
   refine q_pass_ret ?_
   refine f_retq (.inl rfl) (rs_4 rfl (rs_celln (vs := [.int .i64 old.Slot, .int .u64 old.Ballot, .string old.Value]) rfl Try.underlying40 rfl ti40 (rdn_lit 0 rfl rfl)) (rs_tmp rfl) (rs_tmp rfl) (rs_tmp rfl)) (fun w S => ?_)
   replace S := S.tail
   exact ⟨_, ⟨old, had, ins ItA.f_key ilt x xs, none, ⟨rfl, hmid.old⟩, rfl, rfl⟩, (fun w S => (Sat.emp_ (nodeMk q1 (hmid.fits (by omega) q1.a q1.c q1.ak q1.ck) S)).perm (List.Perm.swap _ _ _)) w S⟩
  · -- h4F
   have h4b := h4
   try simp only [decide_eq_false_iff_not, Int.not_lt, Int.not_le] at h4
   refine c_skip ?_
   refine q_then ?_
   refine c_seq ?_
   refine c_fact (p := ∃ ad, q1.a = some ad) (rds_some (e := e_ItA) (xs := q1.items) (rds_own e_ItA_ok 1 rfl) (by intro h0; have h00 := congrArg List.length h0; simp only [List.length_nil] at h00; omega)) ?_
   rintro ⟨adx, eadx⟩
   refine c_region ?_
   refine o_move rfl rfl ?_
   refine o_nil rfl rfl ?_
   refine o_fieldAddr (q := ⟨b, 0, none⟩) rfl rfl Try.underlying130 rfl ti127 rfl ?_
   refine o_load1 rfl rfl Try.underlying127 rfl (rd_mem 0 rfl rfl) ?_
   refine o_indexK e_ItA_ok eadx rfl rfl rfl Try.underlying127 (by omega) (by omega) ?_
   obtain ⟨x112, hx112⟩ : ∃ x, (q1.items)[((2 : Int)).toNat]? = some x := ⟨_, List.getElem?_eq_getElem (by omega)⟩
   have hpar := hmid.parts (by omega) (show q1.items[2]? = some x112 from hx112)
   refine o_loadn (vs := e_ItA.cells x112) rfl rfl Try.underlying139 rfl ti139 (rdn_sl e_ItA_ok eadx (rds_own e_ItA_ok 1 rfl) hx112) ?_
   refine o_alloc rfl ti139 fun b12 => ?_
   refine o_storen rfl rfl ti139 rfl rfl rfl rfl ?_
   refine l_nil ?_
   refine q_then ?_
   refine c_seq ?_
   refine c_conv (fun w S => S.perm p2) ?_
   refine c_rowcap ?_
   intro hcI
   simp only [maxLen] at hcI
   refine c_region ?_
   refine o_move rfl rfl ?_
   refine o_nil rfl rfl ?_
   refine o_fieldAddr (q := ⟨b, 0, none⟩) rfl rfl Try.underlying130 rfl ti127 rfl ?_
   refine o_load1 rfl rfl Try.underlying127 rfl (rd_mem 2 rfl rfl) ?_
   refine o_cut (l' := 3) (h' := ((q1.items).length)) (m := q1.c) rfl rfl Try.underlying127 ti139 (.inl ⟨rfl, rfl⟩) (.inl ⟨rfl, rfl, rfl⟩) (.inr ⟨_, _, rfl, icast rfl (by omega), (by omega)⟩) ?_
   obtain ⟨ys118, ay118, cut118, hys118, hlys118, eay118⟩ : ∃ ys_ ay_, (∀ {L : List Res}, RdS W L e_ItA q1.a q1.items → RdS W L e_ItA ay_ ys_) ∧ ys_ = sub q1.items 3 ((q1.items).length) ∧ ys_.length = ((q1.items).length) - 3 ∧ cutA q1.a q1.c 3 4 = ay_ := ⟨_, _, fun h => rds_cut e_ItA_ok h _ _ _ (by omega), rfl, sub_len (by omega), rfl⟩
   refine l_eq (t := 118) (v' := .slice ay118 ys118.length (q1.c - 3)) rfl (by rw [eay118, hlys118]) ?_
   have hd118 : ys118 = q1.items.drop 3 := by rw [hys118]; unfold sub; rw [List.take_length]
   refine o_call rfl cal62 rfl (cloI_A (cut118 (rds_own e_ItA_ok 0 rfl)) (by omega)) ?_
   rintro _ _ ⟨a119, c119, rfl, rfl⟩
   refine o_build rfl sp130 ti130 rfl ((fill_cons (cells' := [.slice a119 (ys118).length c119, .slice none 0 0]) rfl rfl rfl rfl fill_nil)) ?_
   refine o_box rfl rfl fun b121 => ?_
   refine o_assign rfl rfl ?_
   refine l_nil ?_
   refine q_then ?_
   refine c_seq ?_
   refine c_region ?_
   refine o_move rfl rfl ?_
   refine o_move rfl rfl ?_
   refine o_nil rfl rfl ?_
   refine o_fieldAddr (q := ⟨b, 0, none⟩) rfl rfl Try.underlying130 rfl ti127 rfl ?_
   refine o_load1 rfl rfl Try.underlying127 rfl (rd_mem 4 rfl rfl) ?_
   refine o_cut (l' := 0) (h' := 2) (m := 2) rfl rfl Try.underlying127 ti139 (.inr ⟨_, _, rfl, icast rfl (by omega), (by omega)⟩) (.inr ⟨_, _, rfl, icast rfl (by omega), (by omega)⟩) (.inl ⟨rfl, rfl⟩) ?_
   obtain ⟨ys127, ay127, cut127, hys127, hlys127, eay127⟩ : ∃ ys_ ay_, (∀ {L : List Res}, RdS W L e_ItA q1.a q1.items → RdS W L e_ItA ay_ ys_) ∧ ys_ = sub q1.items 0 2 ∧ ys_.length = 2 - 0 ∧ cutA q1.a 2 0 4 = ay_ := ⟨_, _, fun h => rds_cut e_ItA_ok h _ _ _ (by omega), rfl, sub_len (by omega), rfl⟩
   refine l_eq (t := 127) (v' := .slice ay127 ys127.length (2 - 0)) rfl (by rw [eay127, hlys127]) ?_
   refine o_nil rfl rfl ?_
   refine o_fieldAddr (q := ⟨b, 0, none⟩) rfl rfl Try.underlying130 rfl ti127 rfl ?_
   refine l_f4 ?_
   refine o_store1 rfl rfl rfl ti127 rfl rfl ?_
   refine l_nil ?_
   refine q_then ?_
   refine c_seq ?_
   refine c_seq ?_
   refine c_region ?_
   refine o_move rfl rfl ?_
   refine o_nil rfl rfl ?_
   refine o_fieldAddr (q := ⟨b, 1, none⟩) rfl rfl Try.underlying130 rfl ti128 rfl ?_
   refine o_load1 rfl rfl Try.underlying128 rfl (rd_mem 0 rfl rfl) ?_
   refine o_len rfl rfl Try.underlying128 ?_
   refine o_bin rfl rfl rfl b_gtr ?_
   refine l_nil ?_
   refine q_then ?_
   refine c_cond rfl (fun h5 => ?_) (fun h5 => ?_)
   · -- h5T
    have h5b := h5
    try simp only [decide_eq_true_eq] at h5
    refine c_seq ?_
    have hk6 : 6 ≤ q1.kids.length := by have h9 := hmid.sh; have h8 : (q1.kids.map Prod.fst).length = q1.kids.length := List.length_map _; rcases h9 with ⟨_, h9⟩ | ⟨_, h9, _⟩ <;> first | omega | (have h7 := congrArg List.length h9; simp only [List.length_nil] at h7; omega)
    have hk7 : q1.kids.length ≤ 7 := by have h9 := hmid.sh; rcases h9 with ⟨_, h9⟩ | ⟨_, h9, _⟩ <;> first | omega | (have h7 := congrArg List.length h9; simp only [List.length_nil] at h7; omega)
    have hkm : (q1.kids.map Prod.fst).length = q1.kids.length := List.length_map _
    refine c_conv (fun w S => S.perm p5) ?_
    refine c_rowcap ?_
    intro hcK
    simp only [maxLen] at hcK
    refine c_region ?_
    refine o_move rfl rfl ?_
    refine o_move rfl rfl ?_
    refine o_nil rfl rfl ?_
    refine o_fieldAddr (q := ⟨b, 1, none⟩) rfl rfl Try.underlying130 rfl ti128 rfl ?_
    refine o_load1 rfl rfl Try.underlying128 rfl (rd_mem 1 rfl rfl) ?_
    refine o_cut (l' := 3) (h' := (((q1.kids.map Prod.fst)).length)) (m := q1.ck) rfl rfl Try.underlying128 ti126 (.inl ⟨rfl, rfl⟩) (.inl ⟨rfl, rfl, rfl⟩) (.inr ⟨_, _, rfl, icast rfl (by omega), (by omega)⟩) ?_
    obtain ⟨ys141, ay141, cut141, hys141, hlys141, eay141⟩ : ∃ ys_ ay_, (∀ {L : List Res}, RdS W L eN126 q1.ak (q1.kids.map Prod.fst) → RdS W L eN126 ay_ ys_) ∧ ys_ = sub (q1.kids.map Prod.fst) 3 (((q1.kids.map Prod.fst)).length) ∧ ys_.length = (((q1.kids.map Prod.fst)).length) - 3 ∧ cutA q1.ak q1.ck 3 1 = ay_ := ⟨_, _, fun h => rds_cut eN126_ok h _ _ _ (by omega), rfl, sub_len (by omega), rfl⟩
    refine l_eq (t := 141) (v' := .slice ay141 ys141.length (q1.ck - 3)) rfl (by rw [eay141, hlys141]) ?_
    have hd141 : ys141 = (q1.kids.map Prod.fst).drop 3 := by rw [hys141]; unfold sub; rw [List.take_length]
    refine o_call rfl cal63 rfl (cloK_A (cut141 (rds_own eN126_ok 0 rfl)) (by omega)) ?_
    rintro _ _ ⟨a142, c142, rfl, rfl⟩
    refine o_nil rfl rfl ?_
    refine o_fieldAddr (q := ⟨b121, 1, none⟩) rfl rfl Try.underlying130 rfl ti128 rfl ?_
    refine l_f3 ?_
    refine o_store1 rfl rfl rfl ti128 rfl rfl ?_
    refine l_nil ?_
    refine q_then ?_
    refine c_region ?_
    refine o_move rfl rfl ?_
    refine o_move rfl rfl ?_
    refine o_nil rfl rfl ?_
    refine o_fieldAddr (q := ⟨b, 1, none⟩) rfl rfl Try.underlying130 rfl ti128 rfl ?_
    refine o_load1 rfl rfl Try.underlying128 rfl (rd_mem 3 rfl rfl) ?_
    refine o_cut (l' := 0) (h' := 3) (m := 3) rfl rfl Try.underlying128 ti126 (.inr ⟨_, _, rfl, icast rfl (by omega), (by omega)⟩) (.inr ⟨_, _, rfl, icast rfl (by omega), (by omega)⟩) (.inl ⟨rfl, rfl⟩) ?_
    obtain ⟨ys150, ay150, cut150, hys150, hlys150, eay150⟩ : ∃ ys_ ay_, (∀ {L : List Res}, RdS W L eN126 q1.ak (q1.kids.map Prod.fst) → RdS W L eN126 ay_ ys_) ∧ ys_ = sub (q1.kids.map Prod.fst) 0 3 ∧ ys_.length = 3 - 0 ∧ cutA q1.ak 3 0 1 = ay_ := ⟨_, _, fun h => rds_cut eN126_ok h _ _ _ (by omega), rfl, sub_len (by omega), rfl⟩
    refine l_eq (t := 150) (v' := .slice ay150 ys150.length (3 - 0)) rfl (by rw [eay150, hlys150]) ?_
    refine o_nil rfl rfl ?_
    refine o_fieldAddr (q := ⟨b, 1, none⟩) rfl rfl Try.underlying130 rfl ti128 rfl ?_
    refine l_f3 ?_
    refine o_store1 rfl rfl rfl ti128 rfl rfl ?_
    refine l_nil ?_
    refine q_then ?_
    refine c_seq ?_
    skip
    refine c_region ?_
    refine o_loadn (vs := [_, _, _]) rfl rfl Try.underlying40 rfl ti40 (rdn_lit 8 rfl rfl) ?_
    refine o_move rfl rfl ?_
    refine o_move rfl rfl ?_
    refine l_f8 ?_
    refine o_storen rfl rfl ti40 rfl rfl rfl rfl ?_
    refine o_assign rfl rfl ?_
    refine o_assign rfl rfl ?_
    refine o_assign rfl rfl ?_
    refine l_nil ?_
    refine q_then ?_
    refine c_ret ?_
    refine f_retq (.inl rfl) (rs_4 rfl (rs_celln (vs := [.int .i64 old.Slot, .int .u64 old.Ballot, .string old.Value]) rfl Try.underlying40 rfl ti40 (rdn_lit 0 rfl rfl)) (rs_tmp rfl) (rs_tmp rfl) (rs_tmp rfl)) (fun w S => ?_)
    replace S := S.tail
    replace S := S.perm p2
    replace S := S.perm p4
    replace S := S.perm p3
    replace S := S.perm p6
    replace S := S.perm p7
    replace S := S.perm p6
    replace S := S.perm p7
    replace S := S.perm p7
    exact ⟨_, ⟨old, had, weave ((q1.kids.take 3).map Prod.snd) (q1.items.take 2), some (b12, x112, b121, weave ((q1.kids.drop 3).map Prod.snd) (q1.items.drop 3)), ⟨hpar.2.2, hmid.old⟩, rfl, rfl⟩, (fun w S => put_end e_ItA_ok eN126_ok (by omega) hk6 (hpar.1 _ _ _ _) (hpar.2.1 _ _ _ _) (by rw [hlys127, hlys150, ← eay127, ← eay150, cutA_0, cutA_0, hd118, hd141] at S; exact S)) w S⟩
   · -- h5F
    have h5b := h5
    try simp only [decide_eq_false_iff_not, Int.not_lt, Int.not_le] at h5
    have hk0 : q1.kids = [] := List.eq_nil_of_length_eq_zero (by have h8 : (q1.kids.map Prod.fst).length = q1.kids.length := List.length_map _; omega)
    refine c_skip ?_
    refine q_then ?_
    refine c_seq ?_
    skip
    refine c_region ?_
    refine o_loadn (vs := [_, _, _]) rfl rfl Try.underlying40 rfl ti40 (rdn_lit 7 rfl rfl) ?_
    refine o_move rfl rfl ?_
    refine o_move rfl rfl ?_
    refine l_f7 ?_
    refine o_storen rfl rfl ti40 rfl rfl rfl rfl ?_
    refine o_assign rfl rfl ?_
    refine o_assign rfl rfl ?_
    refine o_assign rfl rfl ?_
    refine l_nil ?_
    refine q_then ?_
    refine c_ret ?_
    refine f_retq (.inl rfl) (rs_4 rfl (rs_celln (vs := [.int .i64 old.Slot, .int .u64 old.Ballot, .string old.Value]) rfl Try.underlying40 rfl ti40 (rdn_lit 0 rfl rfl)) (rs_tmp rfl) (rs_tmp rfl) (rs_tmp rfl)) (fun w S => ?_)
    replace S := S.tail
    replace S := S.perm p2
    replace S := S.perm p2
    replace S := S.perm p4
    replace S := S.perm p6
    replace S := S.perm p6
    replace S := S.perm p6
    replace S := S.perm p6
    exact ⟨_, ⟨old, had, weave ((q1.kids.take 3).map Prod.snd) (q1.items.take 2), some (b12, x112, b121, weave ((q1.kids.drop 3).map Prod.snd) (q1.items.drop 3)), ⟨hpar.2.2, hmid.old⟩, rfl, rfl⟩, (fun w S => put_end0 e_ItA_ok (by omega) hk0 (hpar.1 _ _ _ _) (hpar.2.1 _ _ _ _) (by rw [hlys127, ← eay127, cutA_0, hd118] at S; exact S)) w S⟩

theorem put_A : ∀ d, PutSpec_A d
  | 0 => put_step_A fun d' h => by omega
  | d + 1 => put_step_A fun d' h => by obtain rfl : d = d' := (by omega); exact put_A d
end Go.Proofs.Ytakjmdeckngnlaa
